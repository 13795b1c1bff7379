/- A part of the proof that the named laws of this program answer true, whatever the input. -/
import Derived.Test.YtakmnggbneeicaaGreatTryTree
namespace Go.Proofs.YtakmnggbneeicaaGreat
open Go Go.Lift Go.Proofs Go.ChangeShapes Go.WideShapes Go.ChangeAt Go.RowKit
theorem acD:Tryz.prog.underlying 3=some (.int .i64):=a5
section
variable {H:Type} {enc:TypeId×Value->H} {w:World} {sp:Nat->Bool} {held:Bool}
set_option maxRecDepth 100000 in
theorem aaM{b:Nat}{v:Value}{d:DataW H}{p:List MemPlace}(a:Value.okWide Tryz.prog w .any b 3 v)(h:DataW.Trod enc Tryz.prog w 0 sp held 3 v d p):
  ∃n:Int,v=.int .i64 n:=by
 obtain⟨n,e,_⟩:=open_int acD a h;exact⟨n,e⟩
end
end Go.Proofs.YtakmnggbneeicaaGreat
