/- A part of the proof that the named laws of this program answer true, whatever the input. -/
import Derived.Test.YtncppacbfagpgaaGreatDoorTryTree
import Derived.Test.YtncppacbfagpgaaGreatDoorPart9
namespace Go.Proofs.YtncppacbfagpgaaGreatDoor
open Go Go.Lift Go.Proofs Go.ChangeShapes Go.WideShapes Go.ChangeAt Go.RowKit
theorem Xn:Tryz.prog.underlying vC=some (.slice Iz):=by kernel_rfl
section
variable {H:Type} {enc:TypeId×Value→H} {w:World} {sp:Nat→Bool} {held:Bool}
set_option maxRecDepth 100000 in
theorem QG{k:Nat}{v:Value}{d:DataW H}{p:List MemPlace}(b:Value.okWide Tryz.prog w .any k vC v)(h:DataW.Trod enc Tryz.prog w 0 sp held vC v d p):
  ∃(s:SliceV) (l:List ByteArray),v=.slice s.a s.len s.cap∧Sl abq 1 No w.heap s l∧l.length≤9223372036854775807:=by
 obtain⟨a,o,c,rfl⟩:=okWide_slice Xn b;obtain⟨fuel,i⟩:=h;obtain⟨s,xs,f,h2,hm,g,_⟩:=Uh Xn i abq YN (fun _=>⟨rfl,by omega⟩) (fun _=>True) fun fuel e y q n=>by
  obtain⟨m,j,_⟩:=DataW.trod_string Xo n;exact⟨m,j,trivial⟩
 simp only[Value.cells,List.cons.injEq,and_true]at f;have:=g.len;simp only[maxLen]at hm;exact⟨s,xs,f,g,by omega⟩
end
end Go.Proofs.YtncppacbfagpgaaGreatDoor
