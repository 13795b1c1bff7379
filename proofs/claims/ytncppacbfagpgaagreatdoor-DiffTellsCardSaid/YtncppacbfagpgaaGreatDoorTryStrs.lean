/- A part of the proof that the named laws of this program answer true, whatever the input. -/
import Derived.Test.YtncppacbfagpgaaGreatDoorTryTree
import Derived.Test.YtncppacbfagpgaaGreatDoorPart11
namespace Go.Proofs.YtncppacbfagpgaaGreatDoor
open Go Go.Lift Go.Proofs Go.ChangeShapes Go.WideShapes Go.ChangeAt Go.RowKit
theorem XR:Tryz.prog.underlying BE=some (.slice IS):=by kernel_rfl
section
variable {H:Type} {enc:TypeId×Value→H} {w:World} {sp:Nat→Bool} {held:Bool}
set_option maxRecDepth 100000 in
theorem Zl{k:Nat}{v:Value}{d:DataW H}{p:List MemPlace}(b:Value.okWide Tryz.prog w .any k BE v)(h:DataW.Trod enc Tryz.prog w 0 sp held BE v d p):
  ∃(s:SliceV) (l:List ByteArray),v=.slice s.a s.len s.cap∧Sl ac8 1 No w.heap s l∧l.length≤9223372036854775807:=by
 obtain⟨a,q,c,rfl⟩:=okWide_slice XR b;obtain⟨fuel,m⟩:=h;obtain⟨s,xs,f,h2,hm,g,_⟩:=UQ XR m ac8 Zf (fun _=>⟨rfl,by omega⟩) (fun _=>True) fun fuel e y o i=>by
  obtain⟨j,n,_⟩:=DataW.trod_string XS i;exact⟨j,n,trivial⟩
 simp only[Value.cells,List.cons.injEq,and_true]at f;have:=g.len;simp only[maxLen]at hm;exact⟨s,xs,f,g,by omega⟩
end
end Go.Proofs.YtncppacbfagpgaaGreatDoor
