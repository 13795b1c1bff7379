/- A part of the proof that the named laws of this program answer true, whatever the input. -/
import Derived.Test.YtcpiahjlddmfiaaGreatRows
import Derived.Test.YtcpiahjlddmfiaaGreatPart0
open List renaming getElem?_eq_getElem→aj,drop_zero→cP,take_succ_cons→is,take_zero→pR,drop_succ_cons→fW,cons→qu
namespace Go.Proofs.YtcpiahjlddmfiaaGreat
open Go Go.Lift Go.Proofs Go.ChangeShapes Go.WideShapes Go.ChangeAt Go.RowKit
theorem Tryz.own:ownKnob Tryz.prog.godebug=none:=by kernel_rfl
theorem Tryz.laidOut:laidOutB Tryz.prog=true:=by kernel_rfl
theorem U8:Tryz.prog.underlying HX=some (.int .u8):=by kernel_rfl
theorem Pu:Tryz.prog.underlying CZ=some (.int .u64):=by kernel_rfl
theorem SF:Tryz.prog.underlying GN=some .string:=by kernel_rfl
theorem S4:Tryz.prog.underlying xe=some .bool:=by kernel_rfl
theorem SG:Tryz.prog.underlying cf=some (.slice ag):=by kernel_rfl
theorem U9:∃f0 f1:Field,Tryz.prog.underlying ag=some (.struct #[f0,f1])∧(f0.type=GN∧f0.offset=0)∧f1.type=GN∧f1.offset=1:=
 ⟨_,_,(by kernel_rfl:Tryz.prog.underlying ag=some (.struct #[{name:= "Key",pkgPath:= "",type:=GN,tag:= "",embedded:=false,offset:=0,byteOffset:=0},{name:= "Value",pkgPath:= "",type:=GN,tag:= "",embedded:=false,offset:=1,byteOffset:=16}])),⟨rfl,rfl⟩,rfl,rfl⟩
theorem TZ:∃f0 f1:Field,Tryz.prog.underlying lu=some (.struct #[f0,f1])∧(f0.type=CZ∧f0.offset=0)∧f1.type=CZ∧f1.offset=1:=
 ⟨_,_,(by kernel_rfl:Tryz.prog.underlying lu=some (.struct #[{name:= "K0",pkgPath:= "",type:=CZ,tag:= "",embedded:=false,offset:=0,byteOffset:=0},{name:= "K1",pkgPath:= "",type:=CZ,tag:= "",embedded:=false,offset:=1,byteOffset:=8}])),⟨rfl,rfl⟩,rfl,rfl⟩
theorem Va:∃f0 f1:Field,Tryz.prog.underlying ct=some (.struct #[f0,f1])∧(f0.type=lu∧f0.offset=0)∧f1.type=CZ∧f1.offset=2:=
 ⟨_,_,(by kernel_rfl:Tryz.prog.underlying ct=some (.struct #[{name:= "Key",pkgPath:= "",type:=lu,tag:= "",embedded:=false,offset:=0,byteOffset:=0},{name:= "Mask",pkgPath:= "",type:=CZ,tag:= "",embedded:=false,offset:=2,byteOffset:=16}])),⟨rfl,rfl⟩,rfl,rfl⟩
theorem QG:Tryz.prog.cellsOf CZ=1:=by kernel_rfl
theorem SR:Tryz.prog.cellsOf GN=1:=by kernel_rfl
theorem VC:Tryz.prog.cellsOf ag=2:=by kernel_rfl
theorem UN:Tryz.prog.cellsOf lu=2:=by kernel_rfl
theorem VD:Tryz.prog.cellsOf ct=3:=by kernel_rfl
theorem NS{k:IntKind}{n:Int}(h:(Lit.int k n).wf=true):k.min≤n∧n≤k.max:=by
 simpa only[Lit.wf,Bool.and_eq_true,decide_eq_true_iff]using h
section
variable {H:Type} {enc:TypeId×Value→H} {w:World} {sp:Nat→Bool} {held:Bool}
set_option maxRecDepth 100000 in
theorem RM{b:Nat}{a:List Value}{y:DataW H×List MemPlace}(v:a.length=2)(o:DataW.trod enc Tryz.prog w 0 sp held b ag a=some y):∃p:Pr,a=eJ p:=by
 obtain⟨j,x,u,⟨z,k⟩,t,m⟩:=U9;obtain⟨xs,n,rfl,_,_,c,g⟩:=DataW.trod_struct u o;have c:xs.length=2:=c;match a,v with
 | [v0,v1],_=>
 have d:=g 0 j rfl;have f:=g 1 x rfl;rw[z,k,SR,aj (by omega)]at d;rw[t,m,SR,aj (by omega)]at f;obtain⟨q,e,_⟩:=DataW.trod_string SF d;obtain⟨s,i,_⟩:=DataW.trod_string SF f;simp only[cP,is,pR,fW,qu.injEq,and_true]at e i;subst e i;exact⟨(q,s),rfl⟩
set_option maxRecDepth 100000 in
theorem Cv{q:Nat}{v:Value}{d:DataW H}{p:List MemPlace}(b:Value.okWide Tryz.prog w .any q cf v)(h:DataW.Trod enc Tryz.prog w 0 sp held cf v d p):
  ∃(s:SliceV) (l:List Pr),v=.slice s.a s.len s.cap∧Sl eJ 2 No w.heap s l∧l.length≤9223372036854775807∧s.len≤s.cap:=by
 obtain⟨a,t,c,rfl⟩:=okWide_slice SG b;obtain⟨f,n⟩:=h;obtain⟨s,xs,j,m,hm,i,_⟩:=Rn SG n eJ VC gS (fun _=>True) fun f g y o k=>by
  obtain⟨p,e⟩:=RM o k;exact⟨p,e,trivial⟩
 simp only[Value.cells,qu.injEq,and_true]at j;have:=i.len;simp only[maxLen]at hm;exact⟨s,xs,j,i,by omega,m⟩
set_option maxRecDepth 100000 in
theorem TL{N:Nat}{v:Value}{d:DataW H}{p:List MemPlace}(a:Value.okWide Tryz.prog w .any N ct v)(h:DataW.Trod enc Tryz.prog w 0 sp held ct v d p):
  ∃x:Hs,v=.agg #[.int .u64 x.k0,.int .u64 x.k1,.int .u64 x.mask]:=by
 obtain⟨A,J,s,⟨L,C⟩,G,F⟩:=Va;obtain⟨cs,rfl,b⟩:=okWide_struct s a;rw[VD]at b;obtain⟨u,f⟩:=h;obtain⟨xs,n,rfl,_,_,e,f⟩:=DataW.trod_struct s f;have e:xs.length=2:=e;obtain⟨l,rfl⟩:∃l:List Value,cs=l.toArray:=⟨cs.toList,rfl⟩;match l,b with
 | [v0,v1,v2],_=>
 have g:=f 0 A rfl;have i:=f 1 J rfl;rw[L,C,UN,aj (by omega)]at g;rw[G,F,QG,aj (by omega)]at i;simp only[Value.cells,cP,is,pR,fW]at g i;obtain⟨I,z,j,⟨B,D⟩,y,K⟩:=TZ;obtain⟨ys,t,rfl,_,_,c,k⟩:=DataW.trod_struct j g;have c:ys.length=2:=c;have k0:=k 0 I rfl;have k1:=k 1 z rfl
 rw[B,D,QG,aj (by omega)]at k0;rw[y,K,QG,aj (by omega)]at k1;obtain⟨n0,m,_⟩:=DataW.trod_int Pu k0;obtain⟨E,q,_⟩:=DataW.trod_int Pu k1;obtain⟨t,o,_⟩:=DataW.trod_int Pu i;simp only[cP,is,pR,fW,qu.injEq,and_true]at m q o;subst m q o;exact⟨⟨n0,E,t⟩,rfl⟩
set_option maxRecDepth 100000 in
theorem QO{c:Nat}{v:Value}{d:DataW H}{p:List MemPlace}(a:Value.okWide Tryz.prog w .any c HX v)(h:DataW.Trod enc Tryz.prog w 0 sp held HX v d p):
  ∃n:Int,v=.int .u8 n∧0≤n∧n≤255:=by
 obtain⟨n,e,_,_,b⟩:=open_int U8 a h;exact⟨n,e,NS b⟩
end
end Go.Proofs.YtcpiahjlddmfiaaGreat
