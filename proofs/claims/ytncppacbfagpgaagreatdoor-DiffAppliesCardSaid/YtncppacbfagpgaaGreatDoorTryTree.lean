/- A part of the proof that the named laws of this program answer true, whatever the input. -/
import Derived.Test.YtncppacbfagpgaaGreatDoorRows
import Derived.Test.YtncppacbfagpgaaGreatDoorPart1
import Derived.Test.YtncppacbfagpgaaGreatDoorPart0
open List renaming getElem?_eq_getElem→af,drop_zero→cL,take_succ_cons→dL,take_zero→oD,drop_succ_cons→gt,cons→eT
namespace Go.Proofs.YtncppacbfagpgaaGreatDoor
open Go Go.Lift Go.Proofs Go.ChangeShapes Go.WideShapes Go.ChangeAt Go.RowKit
theorem Tryz.own:ownKnob Tryz.prog.godebug=none:=by kernel_rfl
theorem Tryz.laidOut:laidOutB Tryz.prog=true:=by kernel_rfl
theorem aaL:Tryz.prog.underlying cM=some (.int .u8):=by kernel_rfl
theorem V8:Tryz.prog.underlying qR=some (.int .u64):=by kernel_rfl
theorem Oy:Tryz.prog.underlying xq=some .string:=by kernel_rfl
theorem MN:Tryz.prog.underlying mz=some .bool:=by kernel_rfl
theorem Zj:Tryz.prog.underlying cK=some (.slice aq):=by kernel_rfl
theorem abx:∃f0 f1:Field,Tryz.prog.underlying aq=some (.struct #[f0,f1])∧(f0.type=xq∧f0.offset=0)∧f1.type=xq∧f1.offset=1:=
 ⟨_,_,(by kernel_rfl:Tryz.prog.underlying aq=some (.struct #[{name:= "Key",pkgPath:= "",type:=xq,tag:= "",embedded:=false,offset:=0,byteOffset:=0},{name:= "Value",pkgPath:= "",type:=xq,tag:= "",embedded:=false,offset:=1,byteOffset:=16}])),⟨rfl,rfl⟩,rfl,rfl⟩
theorem aaN:∃f0 f1:Field,Tryz.prog.underlying na=some (.struct #[f0,f1])∧(f0.type=qR∧f0.offset=0)∧f1.type=qR∧f1.offset=1:=
 ⟨_,_,(by kernel_rfl:Tryz.prog.underlying na=some (.struct #[{name:= "K0",pkgPath:= "",type:=qR,tag:= "",embedded:=false,offset:=0,byteOffset:=0},{name:= "K1",pkgPath:= "",type:=qR,tag:= "",embedded:=false,offset:=1,byteOffset:=8}])),⟨rfl,rfl⟩,rfl,rfl⟩
theorem aby:∃f0 f1:Field,Tryz.prog.underlying cC=some (.struct #[f0,f1])∧(f0.type=na∧f0.offset=0)∧f1.type=qR∧f1.offset=2:=
 ⟨_,_,(by kernel_rfl:Tryz.prog.underlying cC=some (.struct #[{name:= "Key",pkgPath:= "",type:=na,tag:= "",embedded:=false,offset:=0,byteOffset:=0},{name:= "Mask",pkgPath:= "",type:=qR,tag:= "",embedded:=false,offset:=2,byteOffset:=16}])),⟨rfl,rfl⟩,rfl,rfl⟩
theorem ab3:Tryz.prog.cellsOf cM=1:=by kernel_rfl
theorem Xq:Tryz.prog.cellsOf qR=1:=by kernel_rfl
theorem PS:Tryz.prog.cellsOf xq=1:=by kernel_rfl
theorem ab4:Tryz.prog.cellsOf aq=2:=by kernel_rfl
theorem abi:Tryz.prog.cellsOf na=2:=by kernel_rfl
theorem ab5:Tryz.prog.cellsOf cC=3:=by kernel_rfl
theorem Li{k:IntKind}{n:Int}(h:(Lit.int k n).wf=true):k.min≤n∧n≤k.max:=by
 simpa only[Lit.wf,Bool.and_eq_true,decide_eq_true_iff]using h
section
variable {H:Type} {enc:TypeId×Value→H} {w:World} {sp:Nat→Bool} {held:Bool}
set_option maxRecDepth 100000 in
theorem YE{fuel:Nat}{a:List Value}{y:DataW H×List MemPlace}(x:a.length=2)(o:DataW.trod enc Tryz.prog w 0 sp held fuel aq a=some y):∃p:Pr,a=eC p:=by
 obtain⟨t,v,u,⟨j,s⟩,q,i⟩:=abx;obtain⟨xs,n,rfl,_,_,b,f⟩:=DataW.trod_struct u o;have b:xs.length=2:=b;match a,x with
 | [v0,v1],_=>
 have c:=f 0 t rfl;have e:=f 1 v rfl;rw[j,s,PS,af (by omega)]at c;rw[q,i,PS,af (by omega)]at e;obtain⟨k,g,_⟩:=DataW.trod_string Oy c;obtain⟨m,d,_⟩:=DataW.trod_string Oy e;simp only[cL,dL,oD,gt,eT.injEq,and_true]at g d;subst g d;exact⟨(k,m),rfl⟩
set_option maxRecDepth 100000 in
theorem Vu{k:Nat}{v:Value}{d:DataW H}{p:List MemPlace}(b:Value.okWide Tryz.prog w .any k cK v)(h:DataW.Trod enc Tryz.prog w 0 sp held cK v d p):
  ∃(s:SliceV) (l:List Pr),v=.slice s.a s.len s.cap∧Sl eC 2 No w.heap s l∧l.length≤9223372036854775807∧s.len≤s.cap:=by
 obtain⟨a,o,c,rfl⟩:=okWide_slice Zj b;obtain⟨fuel,m⟩:=h;obtain⟨s,xs,i,h2,hm,g,_⟩:=Tb Zj m eC ab4 gq (fun _=>True) fun fuel f y n j=>by
  obtain⟨p,e⟩:=YE n j;exact⟨p,e,trivial⟩
 simp only[Value.cells,eT.injEq,and_true]at i;have:=g.len;simp only[maxLen]at hm;exact⟨s,xs,i,g,by omega,h2⟩
set_option maxRecDepth 100000 in
theorem aas{A:Nat}{v:Value}{d:DataW H}{p:List MemPlace}(b:Value.okWide Tryz.prog w .any A cC v)(h:DataW.Trod enc Tryz.prog w 0 sp held cC v d p):
  ∃x:Hs,v=.agg #[.int .u64 x.k0,.int .u64 x.k1,.int .u64 x.mask]:=by
 obtain⟨u,z,k,⟨D,J⟩,G,C⟩:=aby;obtain⟨cs,rfl,a⟩:=okWide_struct k b;rw[ab5]at a;obtain⟨fuel,f⟩:=h;obtain⟨xs,n,rfl,_,_,c,f⟩:=DataW.trod_struct k f;have c:xs.length=2:=c;obtain⟨l,rfl⟩:∃l:List Value,cs=l.toArray:=⟨cs.toList,rfl⟩;match l,a with
 | [v0,v1,v2],_=>
 have i:=f 0 u rfl;have g:=f 1 z rfl;rw[D,J,abi,af (by omega)]at i;rw[G,C,Xq,af (by omega)]at g;simp only[Value.cells,cL,dL,oD,gt]at i g;obtain⟨B,L,j,⟨F,y⟩,E,I⟩:=aaN;obtain⟨ys,s,rfl,_,_,e,q⟩:=DataW.trod_struct j i;have e:ys.length=2:=e;have k0:=q 0 B rfl;have k1:=q 1 L rfl
 rw[F,y,Xq,af (by omega)]at k0;rw[E,I,Xq,af (by omega)]at k1;obtain⟨n0,t,_⟩:=DataW.trod_int V8 k0;obtain⟨K,m,_⟩:=DataW.trod_int V8 k1;obtain⟨s,o,_⟩:=DataW.trod_int V8 g;simp only[cL,dL,oD,gt,eT.injEq,and_true]at t m o;subst t m o;exact⟨⟨n0,K,s⟩,rfl⟩
set_option maxRecDepth 100000 in
theorem Xx{b:Nat}{v:Value}{d:DataW H}{p:List MemPlace}(a:Value.okWide Tryz.prog w .any b cM v)(h:DataW.Trod enc Tryz.prog w 0 sp held cM v d p):
  ∃n:Int,v=.int .u8 n∧0≤n∧n≤255:=by
 obtain⟨n,e,_,_,c⟩:=open_int aaL a h;exact⟨n,e,Li c⟩
set_option maxRecDepth 100000 in
theorem Xy{c:Nat}{v:Value}{d:DataW H}{p:List MemPlace}(a:Value.okWide Tryz.prog w .any c mz v)(_:DataW.Trod enc Tryz.prog w 0 sp held mz v d p):∃b:Bool,v=.bool b:=okWide_bool MN a
end
end Go.Proofs.YtncppacbfagpgaaGreatDoor
