/- A part of the proof that the named laws of this program answer true, whatever the input. -/
import Derived.Test.YtajpljopgikpgaaGreatDoorRows
import Derived.Test.YtajpljopgikpgaaGreatDoorPart1
import Derived.Test.YtajpljopgikpgaaGreatDoorPart0
open List renaming getElem?_eq_getElem→ag,drop_zero→cB,take_succ_cons→fV,take_zero→ph,drop_succ_cons→gX,cons→hP
namespace Go.Proofs.YtajpljopgikpgaaGreatDoor
open Go Go.Lift Go.Proofs Go.ChangeShapes Go.WideShapes Go.ChangeAt Go.RowKit
theorem Tryz.own:ownKnob Tryz.prog.godebug=none:=by kernel_rfl
theorem Tryz.laidOut:laidOutB Tryz.prog=true:=by kernel_rfl
theorem NN:Tryz.prog.underlying dg=some (.int .u8):=by kernel_rfl
theorem JA:Tryz.prog.underlying yk=some (.int .u64):=by kernel_rfl
theorem Mg:Tryz.prog.underlying zP=some .string:=by kernel_rfl
theorem MG:Tryz.prog.underlying oz=some .bool:=by kernel_rfl
theorem Mh:Tryz.prog.underlying cM=some (.slice ar):=by kernel_rfl
theorem Oh:∃f0 f1:Field,Tryz.prog.underlying ar=some (.struct #[f0,f1])∧(f0.type=zP∧f0.offset=0)∧f1.type=zP∧f1.offset=1:=
 ⟨_,_,(by kernel_rfl:Tryz.prog.underlying ar=some (.struct #[{name:= "Key",pkgPath:= "",type:=zP,tag:= "",embedded:=false,offset:=0,byteOffset:=0},{name:= "Value",pkgPath:= "",type:=zP,tag:= "",embedded:=false,offset:=1,byteOffset:=16}])),⟨rfl,rfl⟩,rfl,rfl⟩
theorem NO:∃f0 f1:Field,Tryz.prog.underlying iW=some (.struct #[f0,f1])∧(f0.type=yk∧f0.offset=0)∧f1.type=yk∧f1.offset=1:=
 ⟨_,_,(by kernel_rfl:Tryz.prog.underlying iW=some (.struct #[{name:= "K0",pkgPath:= "",type:=yk,tag:= "",embedded:=false,offset:=0,byteOffset:=0},{name:= "K1",pkgPath:= "",type:=yk,tag:= "",embedded:=false,offset:=1,byteOffset:=8}])),⟨rfl,rfl⟩,rfl,rfl⟩
theorem Oi:∃f0 f1:Field,Tryz.prog.underlying bW=some (.struct #[f0,f1])∧(f0.type=iW∧f0.offset=0)∧f1.type=yk∧f1.offset=2:=
 ⟨_,_,(by kernel_rfl:Tryz.prog.underlying bW=some (.struct #[{name:= "Key",pkgPath:= "",type:=iW,tag:= "",embedded:=false,offset:=0,byteOffset:=0},{name:= "Mask",pkgPath:= "",type:=yk,tag:= "",embedded:=false,offset:=2,byteOffset:=16}])),⟨rfl,rfl⟩,rfl,rfl⟩
theorem OK:Tryz.prog.cellsOf dg=1:=by kernel_rfl
theorem K2:Tryz.prog.cellsOf yk=1:=by kernel_rfl
theorem Mx:Tryz.prog.cellsOf zP=1:=by kernel_rfl
theorem OL:Tryz.prog.cellsOf ar=2:=by kernel_rfl
theorem N7:Tryz.prog.cellsOf iW=2:=by kernel_rfl
theorem OM:Tryz.prog.cellsOf bW=3:=by kernel_rfl
theorem HZ{k:IntKind}{n:Int}(h:(Lit.int k n).wf=true):k.min≤n∧n≤k.max:=by
 simpa only[Lit.wf,Bool.and_eq_true,decide_eq_true_iff]using h
section
variable {H:Type} {enc:TypeId×Value→H} {w:World} {sp:Nat→Bool} {held:Bool}
set_option maxRecDepth 100000 in
theorem LN{fuel:Nat}{a:List Value}{y:DataW H×List MemPlace}(o:a.length=2)(i:DataW.trod enc Tryz.prog w 0 sp held fuel ar a=some y):∃p:Pr,a=iY p:=by
 obtain⟨k,q,j,⟨m,s⟩,g,o1⟩:=Oh;obtain⟨xs,n,rfl,_,_,b,d⟩:=DataW.trod_struct j i;have b:xs.length=2:=b;match a,o with
 | [v0,v1],_=>
 have g0:=d 0 k rfl;have f:=d 1 q rfl;rw[m,s,Mx,ag (by omega)]at g0;rw[g,o1,Mx,ag (by omega)]at f;obtain⟨s0,c,_⟩:=DataW.trod_string Mg g0;obtain⟨s1,e,_⟩:=DataW.trod_string Mg f;simp only[cB,fV,ph,gX,hP.injEq,and_true]at c e;subst c e;exact⟨(s0,s1),rfl⟩
set_option maxRecDepth 100000 in
theorem Ja{k:Nat}{v:Value}{d:DataW H}{p:List MemPlace}(b:Value.okWide Tryz.prog w .any k cM v)(h:DataW.Trod enc Tryz.prog w 0 sp held cM v d p):
  ∃(s:SliceV) (l:List Pr),v=.slice s.a s.len s.cap∧Sl iY 2 No w.heap s l∧l.length≤9223372036854775807∧s.len≤s.cap:=by
 obtain⟨a,q,c,rfl⟩:=okWide_slice Mh b;obtain⟨fuel,m⟩:=h;obtain⟨s,xs,g,n,hm,i,_⟩:=Lx Mh m iY OL jy (fun _=>True) fun fuel f y o j=>by
  obtain⟨p,e⟩:=LN o j;exact⟨p,e,trivial⟩
 simp only[Value.cells,hP.injEq,and_true]at g;have:=i.len;simp only[maxLen]at hm;exact⟨s,xs,g,i,by omega,n⟩
set_option maxRecDepth 100000 in
theorem Ns{E:Nat}{v:Value}{d:DataW H}{p:List MemPlace}(e:Value.okWide Tryz.prog w .any E bW v)(h:DataW.Trod enc Tryz.prog w 0 sp held bW v d p):
  ∃x:Hs,v=.agg #[.int .u64 x.k0,.int .u64 x.k1,.int .u64 x.mask]:=by
 obtain⟨F,G,m,⟨C,I⟩,A,o1⟩:=Oi;obtain⟨cs,rfl,b⟩:=okWide_struct m e;rw[OM]at b;obtain⟨fuel,f⟩:=h;obtain⟨xs,n,rfl,_,_,a,f⟩:=DataW.trod_struct m f;have a:xs.length=2:=a;obtain⟨l,rfl⟩:∃l:List Value,cs=l.toArray:=⟨cs.toList,rfl⟩;match l,b with
 | [v0,v1,v2],_=>
 have g0:=f 0 F rfl;have i:=f 1 G rfl;rw[C,I,N7,ag (by omega)]at g0;rw[A,o1,K2,ag (by omega)]at i;simp only[Value.cells,cB,fV,ph,gX]at g0 i;obtain⟨u,z,g,⟨t,B⟩,J,p1⟩:=NO;obtain⟨ys,k,rfl,_,_,c,j⟩:=DataW.trod_struct g g0;have c:ys.length=2:=c;have k0:=j 0 u rfl;have k1:=j 1 z rfl
 rw[t,B,K2,ag (by omega)]at k0;rw[J,p1,K2,ag (by omega)]at k1;obtain⟨y,o,_⟩:=DataW.trod_int JA k0;obtain⟨D,q,_⟩:=DataW.trod_int JA k1;obtain⟨k,s,_⟩:=DataW.trod_int JA i;simp only[cB,fV,ph,gX,hP.injEq,and_true]at o q s;subst o q s;exact⟨⟨y,D,k⟩,rfl⟩
set_option maxRecDepth 100000 in
theorem K9{b:Nat}{v:Value}{d:DataW H}{p:List MemPlace}(a:Value.okWide Tryz.prog w .any b dg v)(h:DataW.Trod enc Tryz.prog w 0 sp held dg v d p):
  ∃n:Int,v=.int .u8 n∧0≤n∧n≤255:=by
 obtain⟨n,e,_,_,c⟩:=open_int NN a h;exact⟨n,e,HZ c⟩
end
end Go.Proofs.YtajpljopgikpgaaGreatDoor
