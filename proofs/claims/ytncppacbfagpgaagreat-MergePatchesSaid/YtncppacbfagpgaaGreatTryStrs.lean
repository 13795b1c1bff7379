/- A part of the proof that the named laws of this program answer true, whatever the input. -/
import Derived.Test.YtncppacbfagpgaaGreatTryTree
import Derived.Test.YtncppacbfagpgaaGreatPart9
namespace Go.Proofs.YtncppacbfagpgaaGreat
open Go Go.Lift Go.Proofs Go.ChangeShapes Go.WideShapes Go.ChangeAt Go.RowKit
theorem Qz:Tryz.prog.underlying Aw=some (.slice EM):=by kernel_rfl
section
variable {H:Type} {enc:TypeId×Value→H} {w:World} {sp:Nat→Bool} {held:Bool}
set_option maxRecDepth 100000 in
theorem Lo{b0:Nat}{v:Value}{d:DataW H}{p:List MemPlace}(hval:Value.okWide Tryz.prog w .any b0 Aw v)(h:DataW.Trod enc Tryz.prog w 0 sp held Aw v d p):
  ∃(s:SliceV) (l:List ByteArray),v=.slice s.a s.len s.cap∧Sl Ue 1 No w.heap s l∧l.length≤9223372036854775807:=by
 obtain⟨a,ln,c,rfl⟩:=okWide_slice Qz hval;obtain⟨fuel,hf⟩:=h;obtain⟨s,xs,h1,h2,hm,h3,_⟩:=N5 Qz hf Ue RP (fun _=>⟨rfl,by omega⟩) (fun _=>True) fun fuel cells y hl hy=>by
  obtain⟨s0,e0,_⟩:=DataW.trod_string QA hy;exact⟨s0,e0,trivial⟩
 simp only[Value.cells,List.cons.injEq,and_true]at h1;have:=h3.len;simp only[maxLen]at hm;exact⟨s,xs,h1,h3,by omega⟩
end
end Go.Proofs.YtncppacbfagpgaaGreat
