/- A part of the proof that the named laws of this program answer true, whatever the input. -/
import Derived.Test.YtajpljopgikpgaaGreatRows
import Derived.Test.YtajpljopgikpgaaGreatPart0
open List renaming getElem?_eq_getElem→aq
namespace Go.Proofs.YtajpljopgikpgaaGreat
open Go Go.Lift Go.Proofs Go.ChangeShapes Go.WideShapes Go.ChangeAt Go.RowKit
theorem Tryz.own:ownKnob Tryz.prog.godebug=none:=by kernel_rfl
theorem Tryz.laidOut:laidOutB Tryz.prog=true:=by kernel_rfl
theorem CR:Tryz.prog.underlying sE=some .string:=by kernel_rfl
theorem C9:Tryz.prog.underlying mq=some .bool:=by kernel_rfl
theorem D9:∃f0 f1:Field,Tryz.prog.underlying ah=some (.struct #[f0,f1])∧(f0.type=sE∧f0.offset=0)∧f1.type=sE∧f1.offset=1:=
 ⟨_,_,(by kernel_rfl:Tryz.prog.underlying ah=some (.struct #[{name:= "Key",pkgPath:= "",type:=sE,tag:= "",embedded:=false,offset:=0,byteOffset:=0},{name:= "Value",pkgPath:= "",type:=sE,tag:= "",embedded:=false,offset:=1,byteOffset:=16}])),⟨rfl,rfl⟩,rfl,rfl⟩
theorem C3:Tryz.prog.cellsOf sE=1:=by kernel_rfl
theorem E0:Tryz.prog.cellsOf ah=2:=by kernel_rfl
section
variable {H:Type} {enc:TypeId×Value→H} {w:World} {sp:Nat→Bool} {held:Bool}
set_option maxRecDepth 100000 in
theorem Cs{fuel:Nat}{a:List Value}{y:DataW H×List MemPlace}(k:a.length=2)(i:DataW.trod enc Tryz.prog w 0 sp held fuel ah a=some y):∃p:Pr,a=hH p:=by
 obtain⟨j,o,m,⟨q,s⟩,g,o1⟩:=D9;obtain⟨xs,n,rfl,_,_,b,f⟩:=DataW.trod_struct m i;have b:xs.length=2:=b;match a,k with
 | [v0,v1],_=>
 have g0:=f 0 j rfl;have c:=f 1 o rfl;rw[q,s,C3,aq (by omega)]at g0;rw[g,o1,C3,aq (by omega)]at c;obtain⟨s0,d,_⟩:=DataW.trod_string CR g0;obtain⟨s1,e,_⟩:=DataW.trod_string CR c;simp only[List.drop_zero,List.take_succ_cons,List.take_zero,List.drop_succ_cons,List.cons.injEq,and_true]at d e;subst d e;exact⟨(s0,s1),rfl⟩
set_option maxRecDepth 100000 in
theorem DR{c:Nat}{v:Value}{d:DataW H}{p:List MemPlace}(b:Value.okWide Tryz.prog w .any c ah v)(h:DataW.Trod enc Tryz.prog w 0 sp held ah v d p):
  ∃q:Pr,v=.agg #[.string q.1,.string q.2]:=by
 obtain⟨i,j,f,_⟩:=D9;obtain⟨cs,rfl,a⟩:=okWide_struct f b;rw[E0]at a;obtain⟨fuel,g⟩:=h;obtain⟨q,e⟩:=Cs (by simpa[Value.cells]using a) g;simp only[Value.cells]at e;refine⟨q,?_⟩;congr 1
 exact Array.toList_inj.1 e
end
end Go.Proofs.YtajpljopgikpgaaGreat
