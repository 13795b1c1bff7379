/- A part of the proof that the named laws of this program answer true, whatever the input. -/
import Derived.Test.YtncppacbfagpgaaGreatDoorTryTree
import Derived.Test.YtncppacbfagpgaaGreatDoorPart7
open List renaming getElem?_eq_getElem→af,cons→eT
namespace Go.Proofs.YtncppacbfagpgaaGreatDoor
open Go Go.Lift Go.Proofs Go.ChangeShapes Go.WideShapes Go.ChangeAt Go.RowKit
theorem Zk:Tryz.prog.underlying kR=some (.slice bE):=by kernel_rfl
theorem abz:∃f0 f1 f2 f3 f4:Field,Tryz.prog.underlying bE=some (.struct #[f0,f1,f2,f3,f4])∧(f0.type=xq∧f0.offset=0)∧(f1.type=xq∧f1.offset=1)∧(f2.type=xq∧f2.offset=2)∧(f3.type=mz∧f3.offset=3)∧f4.type=mz∧f4.offset=4:=
 ⟨_,_,_,_,_,(by kernel_rfl:Tryz.prog.underlying bE=some (.struct #[{name:= "Key",pkgPath:= "",type:=xq,tag:= "",embedded:=false,offset:=0,byteOffset:=0},{name:= "Old",pkgPath:= "",type:=xq,tag:= "",embedded:=false,offset:=1,byteOffset:=16},{name:= "New",pkgPath:= "",type:=xq,tag:= "",embedded:=false,offset:=2,byteOffset:=32},{name:= "Was",pkgPath:= "",type:=mz,tag:= "",embedded:=false,offset:=3,byteOffset:=48},{name:= "Is",pkgPath:= "",type:=mz,tag:= "",embedded:=false,offset:=4,byteOffset:=49}])),⟨rfl,rfl⟩,⟨rfl,rfl⟩,⟨rfl,rfl⟩,⟨rfl,rfl⟩,rfl,rfl⟩
theorem Xr:Tryz.prog.cellsOf mz=1:=by kernel_rfl
theorem ab6:Tryz.prog.cellsOf bE=5:=by kernel_rfl
section
variable {H:Type} {enc:TypeId×Value→H} {w:World} {sp:Nat→Bool} {held:Bool}
set_option maxRecDepth 100000 in
theorem YF{fuel:Nat}{a:List Value}{y:DataW H×List MemPlace}(z:a.length=5)(P:DataW.trod enc Tryz.prog w 0 sp held fuel bE a=some y):∃c:Ch,a=pk c:=by
 obtain⟨t,v,G,R,A,u,⟨D,Q⟩,⟨M,B⟩,⟨s,L⟩,⟨N,C⟩,x,J⟩:=abz;obtain⟨xs,n,rfl,_,_,b,d⟩:=DataW.trod_struct u P;have b:xs.length=5:=b;match a,z with
 | [v0,v1,v2,v3,v4],_=>
 have k:=d 0 t rfl;have j:=d 1 v rfl;have i:=d 2 G rfl;have f:=d 3 R rfl;have g:=d 4 A rfl;rw[D,Q,PS,af (by omega)]at k;rw[M,B,PS,af (by omega)]at j;rw[s,L,PS,af (by omega)]at i;rw[N,C,Xr,af (by omega)]at f;rw[x,J,Xr,af (by omega)]at g;obtain⟨E,q,_⟩:=DataW.trod_string Oy k
 obtain⟨F,m,_⟩:=DataW.trod_string Oy j;obtain⟨O,o,_⟩:=DataW.trod_string Oy i;obtain⟨K,p,_⟩:=DataW.trod_bool MN f;obtain⟨I,e,_⟩:=DataW.trod_bool MN g;simp only[List.drop_zero,List.take_succ_cons,List.take_zero,List.drop_succ_cons,eT.injEq,and_true]at q m o p e;subst q m o p e;exact⟨(E,F,O,K,I),rfl⟩
set_option maxRecDepth 100000 in
theorem Zd{k:Nat}{v:Value}{d:DataW H}{p:List MemPlace}(b:Value.okWide Tryz.prog w .any k kR v)(h:DataW.Trod enc Tryz.prog w 0 sp held kR v d p):
  ∃(s:SliceV) (l:List Ch),v=.slice s.a s.len s.cap∧Sl pk 5 No w.heap s l∧l.length≤9223372036854775807:=by
 obtain⟨a,o,c,rfl⟩:=okWide_slice Zk b;obtain⟨fuel,m⟩:=h;obtain⟨s,xs,i,h2,hm,g,_⟩:=Tb Zk m pk ab6 Cs (fun _=>True) fun fuel f y n j=>by
  obtain⟨p,e⟩:=YF n j;exact⟨p,e,trivial⟩
 simp only[Value.cells,eT.injEq,and_true]at i;have:=g.len;simp only[maxLen]at hm;exact⟨s,xs,i,g,by omega⟩
end
end Go.Proofs.YtncppacbfagpgaaGreatDoor
