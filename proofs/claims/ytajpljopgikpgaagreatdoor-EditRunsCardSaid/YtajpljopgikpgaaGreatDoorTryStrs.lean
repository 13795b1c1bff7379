/- A part of the proof that the named laws of this program answer true, whatever the input. -/
import Derived.Test.YtajpljopgikpgaaGreatDoorTryTree
import Derived.Test.YtajpljopgikpgaaGreatDoorPart8
namespace Go.Proofs.YtajpljopgikpgaaGreatDoor
open Go Go.Lift Go.Proofs Go.ChangeShapes Go.WideShapes Go.ChangeAt Go.RowKit
theorem Od:Tryz.prog.underlying vP=some (.slice ql):=by kernel_rfl
section
variable {H:Type} {enc:TypeId×Value→H} {w:World} {sp:Nat→Bool} {held:Bool}
set_option maxRecDepth 100000 in
theorem PQ{m:Nat}{v:Value}{d:DataW H}{p:List MemPlace}(b:Value.okWide Tryz.prog w .any m vP v)(h:DataW.Trod enc Tryz.prog w 0 sp held vP v d p):
  ∃(s:SliceV) (l:List ByteArray),v=.slice s.a s.len s.cap∧Sl stF 1 No w.heap s l∧l.length≤9223372036854775807:=by
 obtain⟨a,o,c,rfl⟩:=okWide_slice Od b;obtain⟨fuel,i⟩:=h;obtain⟨s,xs,g,q,hm,f,_⟩:=LJ Od i stF PI (fun _=>⟨rfl,by omega⟩) (fun _=>True) fun fuel e y n k=>by
  obtain⟨s0,j,_⟩:=DataW.trod_string Oe k;exact⟨s0,j,trivial⟩
 simp only[Value.cells,List.cons.injEq,and_true]at g;have:=f.len;simp only[maxLen]at hm;exact⟨s,xs,g,f,by omega⟩
end
end Go.Proofs.YtajpljopgikpgaaGreatDoor
