/- A part of the proof that the named laws of this program answer true, whatever the input. -/
import Derived.Test.YtajpljopgikpgaaGreatRows
import Derived.Test.YtajpljopgikpgaaGreatPart0
open List renaming getElem?_eq_getElem→aq
namespace Go.Proofs.YtajpljopgikpgaaGreat
open Go Go.Lift Go.Proofs Go.ChangeShapes Go.WideShapes Go.ChangeAt Go.RowKit
theorem Tryz.own:ownKnob Tryz.prog.godebug=none:=by kernel_rfl
theorem Tryz.laidOut:laidOutB Tryz.prog=true:=by kernel_rfl
theorem CP:Tryz.prog.underlying sD=some .string:=by kernel_rfl
theorem C7:Tryz.prog.underlying mq=some .bool:=by kernel_rfl
theorem D8:∃f0 f1:Field,Tryz.prog.underlying ah=some (.struct #[f0,f1])∧(f0.type=sD∧f0.offset=0)∧f1.type=sD∧f1.offset=1:=
 ⟨_,_,(by kernel_rfl:Tryz.prog.underlying ah=some (.struct #[{name:= "Key",pkgPath:= "",type:=sD,tag:= "",embedded:=false,offset:=0,byteOffset:=0},{name:= "Value",pkgPath:= "",type:=sD,tag:= "",embedded:=false,offset:=1,byteOffset:=16}])),⟨rfl,rfl⟩,rfl,rfl⟩
theorem C1:Tryz.prog.cellsOf sD=1:=by kernel_rfl
theorem EZ:Tryz.prog.cellsOf ah=2:=by kernel_rfl
section
variable {H:Type} {enc:TypeId×Value→H} {w:World} {sp:Nat→Bool} {held:Bool}
set_option maxRecDepth 100000 in
theorem Cr{fuel:Nat}{a:List Value}{y:DataW H×List MemPlace}(s:a.length=2)(g:DataW.trod enc Tryz.prog w 0 sp held fuel ah a=some y):∃p:Pr,a=hH p:=by
 obtain⟨q,i,k,⟨o,j⟩,m,o1⟩:=D8;obtain⟨xs,n,rfl,_,_,b,f⟩:=DataW.trod_struct k g;have b:xs.length=2:=b;match a,s with
 | [v0,v1],_=>
 have g0:=f 0 q rfl;have c:=f 1 i rfl;rw[o,j,C1,aq (by omega)]at g0;rw[m,o1,C1,aq (by omega)]at c;obtain⟨s0,e,_⟩:=DataW.trod_string CP g0;obtain⟨s1,d,_⟩:=DataW.trod_string CP c;simp only[List.drop_zero,List.take_succ_cons,List.take_zero,List.drop_succ_cons,List.cons.injEq,and_true]at e d;subst e d;exact⟨(s0,s1),rfl⟩
set_option maxRecDepth 100000 in
theorem DQ{g:Nat}{v:Value}{d:DataW H}{p:List MemPlace}(b:Value.okWide Tryz.prog w .any g ah v)(h:DataW.Trod enc Tryz.prog w 0 sp held ah v d p):
  ∃q:Pr,v=.agg #[.string q.1,.string q.2]:=by
 obtain⟨j,i,c,_⟩:=D8;obtain⟨cs,rfl,a⟩:=okWide_struct c b;rw[EZ]at a;obtain⟨fuel,f⟩:=h;obtain⟨q,e⟩:=Cr (by simpa[Value.cells]using a) f;simp only[Value.cells]at e;refine⟨q,?_⟩;congr 1
 exact Array.toList_inj.1 e
end
end Go.Proofs.YtajpljopgikpgaaGreat
