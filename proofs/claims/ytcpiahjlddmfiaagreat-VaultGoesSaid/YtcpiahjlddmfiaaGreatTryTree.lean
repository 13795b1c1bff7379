/- A part of the proof that the named laws of this program answer true, whatever the input. -/
import Derived.Test.YtcpiahjlddmfiaaGreatRows
import Derived.Test.YtcpiahjlddmfiaaGreatPart0
open List renaming getElem?_eq_getElem→au,drop_zero→cK,take_succ_cons→eZ,take_zero→nn,drop_succ_cons→gc,cons→gu
namespace Go.Proofs.YtcpiahjlddmfiaaGreat
open Go Go.Lift Go.Proofs Go.ChangeShapes Go.WideShapes Go.ChangeAt Go.RowKit
theorem Tryz.own:ownKnob Tryz.prog.godebug=none:=by kernel_rfl
theorem Tryz.laidOut:laidOutB Tryz.prog=true:=by kernel_rfl
theorem JR:Tryz.prog.underlying cT=some (.int .u8):=by kernel_rfl
theorem Fm:Tryz.prog.underlying vv=some (.int .u64):=by kernel_rfl
theorem HO:Tryz.prog.underlying yP=some .string:=by kernel_rfl
theorem Ia:Tryz.prog.underlying qg=some .bool:=by kernel_rfl
theorem HP:Tryz.prog.underlying dQ=some (.slice ah):=by kernel_rfl
theorem JS:∃f0 f1:Field,Tryz.prog.underlying ah=some (.struct #[f0,f1])∧(f0.type=yP∧f0.offset=0)∧f1.type=yP∧f1.offset=1:=
 ⟨_,_,(by kernel_rfl:Tryz.prog.underlying ah=some (.struct #[{name:= "Key",pkgPath:= "",type:=yP,tag:= "",embedded:=false,offset:=0,byteOffset:=0},{name:= "Value",pkgPath:= "",type:=yP,tag:= "",embedded:=false,offset:=1,byteOffset:=16}])),⟨rfl,rfl⟩,rfl,rfl⟩
theorem I4:∃f0 f1:Field,Tryz.prog.underlying g8=some (.struct #[f0,f1])∧(f0.type=vv∧f0.offset=0)∧f1.type=vv∧f1.offset=1:=
 ⟨_,_,(by kernel_rfl:Tryz.prog.underlying g8=some (.struct #[{name:= "K0",pkgPath:= "",type:=vv,tag:= "",embedded:=false,offset:=0,byteOffset:=0},{name:= "K1",pkgPath:= "",type:=vv,tag:= "",embedded:=false,offset:=1,byteOffset:=8}])),⟨rfl,rfl⟩,rfl,rfl⟩
theorem JT:∃f0 f1:Field,Tryz.prog.underlying bQ=some (.struct #[f0,f1])∧(f0.type=g8∧f0.offset=0)∧f1.type=vv∧f1.offset=2:=
 ⟨_,_,(by kernel_rfl:Tryz.prog.underlying bQ=some (.struct #[{name:= "Key",pkgPath:= "",type:=g8,tag:= "",embedded:=false,offset:=0,byteOffset:=0},{name:= "Mask",pkgPath:= "",type:=vv,tag:= "",embedded:=false,offset:=2,byteOffset:=16}])),⟨rfl,rfl⟩,rfl,rfl⟩
theorem Gj:Tryz.prog.cellsOf vv=1:=by kernel_rfl
theorem H0:Tryz.prog.cellsOf yP=1:=by kernel_rfl
theorem Kr:Tryz.prog.cellsOf ah=2:=by kernel_rfl
theorem JE:Tryz.prog.cellsOf g8=2:=by kernel_rfl
theorem Ks:Tryz.prog.cellsOf bQ=3:=by kernel_rfl
theorem D3{k:IntKind}{n:Int}(h:(Lit.int k n).wf=true):k.min≤n∧n≤k.max:=by
 simpa only[Lit.wf,Bool.and_eq_true,decide_eq_true_iff]using h
section
variable {H:Type} {enc:TypeId×Value→H} {w:World} {sp:Nat→Bool} {held:Bool}
set_option maxRecDepth 100000 in
theorem Hb{c:Nat}{a:List Value}{y:DataW H×List MemPlace}(k:a.length=2)(x:DataW.trod enc Tryz.prog w 0 sp held c ah a=some y):∃p:Pr,a=jq p:=by
 obtain⟨o,q,u,⟨m,v⟩,s,o1⟩:=JS;obtain⟨xs,n,rfl,_,_,d,j⟩:=DataW.trod_struct u x;have d:xs.length=2:=d;match a,k with
 | [v0,v1],_=>
 have i:=j 0 o rfl;have f:=j 1 q rfl;rw[m,v,H0,au (by omega)]at i;rw[s,o1,H0,au (by omega)]at f;obtain⟨t,g,_⟩:=DataW.trod_string HO i;obtain⟨z,e,_⟩:=DataW.trod_string HO f;simp only[cK,eZ,nn,gc,gu.injEq,and_true]at g e;subst g e;exact⟨(t,z),rfl⟩
set_option maxRecDepth 100000 in
theorem EP{n:Nat}{v:Value}{d:DataW H}{p:List MemPlace}(g:Value.okWide Tryz.prog w .any n dQ v)(h:DataW.Trod enc Tryz.prog w 0 sp held dQ v d p):
  ∃(s:SliceV) (l:List Pr),v=.slice s.a s.len s.cap∧Sl jq 2 No w.heap s l∧l.length≤9223372036854775807∧s.len≤s.cap:=by
 obtain⟨a,u,c,rfl⟩:=okWide_slice HP g;obtain⟨f,t⟩:=h;obtain⟨s,xs,k,o,hm,j,_⟩:=GR HP t jq Kr ip (fun _=>True) fun f i y m q=>by
  obtain⟨p,e⟩:=Hb m q;exact⟨p,e,trivial⟩
 simp only[Value.cells,gu.injEq,and_true]at k;have:=j.len;simp only[maxLen]at hm;exact⟨s,xs,k,j,by omega,o⟩
set_option maxRecDepth 100000 in
theorem IK{G:Nat}{v:Value}{d:DataW H}{p:List MemPlace}(a:Value.okWide Tryz.prog w .any G bQ v)(h:DataW.Trod enc Tryz.prog w 0 sp held bQ v d p):
  ∃x:Hs,v=.agg #[.int .u64 x.k0,.int .u64 x.k1,.int .u64 x.mask]:=by
 obtain⟨L,A,y,⟨z,E⟩,N,o1⟩:=JT;obtain⟨cs,rfl,e⟩:=okWide_struct y a;rw[Ks]at e;obtain⟨u,g⟩:=h;obtain⟨xs,n,rfl,_,_,c,g⟩:=DataW.trod_struct y g;have c:xs.length=2:=c;obtain⟨l,rfl⟩:∃l:List Value,cs=l.toArray:=⟨cs.toList,rfl⟩;match l,e with
 | [v0,v1,v2],_=>
 have i:=g 0 L rfl;have k:=g 1 A rfl;rw[z,E,JE,au (by omega)]at i;rw[N,o1,Gj,au (by omega)]at k;simp only[Value.cells,cK,eZ,nn,gc]at i k;obtain⟨F,I,j,⟨D,B⟩,K,C⟩:=I4;obtain⟨ys,m,rfl,_,_,f,t⟩:=DataW.trod_struct j i;have f:ys.length=2:=f;have k0:=t 0 F rfl;have k1:=t 1 I rfl
 rw[D,B,Gj,au (by omega)]at k0;rw[K,C,Gj,au (by omega)]at k1;obtain⟨J,q,_⟩:=DataW.trod_int Fm k0;obtain⟨n1,s,_⟩:=DataW.trod_int Fm k1;obtain⟨m,o,_⟩:=DataW.trod_int Fm k;simp only[cK,eZ,nn,gc,gu.injEq,and_true]at q s o;subst q s o;exact⟨⟨J,n1,m⟩,rfl⟩
set_option maxRecDepth 100000 in
theorem Gq{f:Nat}{v:Value}{d:DataW H}{p:List MemPlace}(a:Value.okWide Tryz.prog w .any f cT v)(h:DataW.Trod enc Tryz.prog w 0 sp held cT v d p):
  ∃n:Int,v=.int .u8 n∧0≤n∧n≤255:=by
 obtain⟨n,e,_,_,c⟩:=open_int JR a h;exact⟨n,e,D3 c⟩
end
end Go.Proofs.YtcpiahjlddmfiaaGreat
