/- A part of the proof that the named laws of this program answer true, whatever the input. -/
import Derived.Stop.Joined
import Derived.SevenTiedAt
import Derived.Test.YtopdngagmfanlaaGreatDoorRows
import Derived.Test.YtopdngagmfanlaaGreatDoorCards
import Derived.Test.YtopdngagmfanlaaGreatDoorTryTie
import Derived.Test.YtopdngagmfanlaaGreatDoorTryComC
import Derived.Test.YtopdngagmfanlaaGreatDoorTryComD
import Derived.Test.YtopdngagmfanlaaGreatDoorTryDeskTextsA
import Derived.Test.YtopdngagmfanlaaGreatDoorTryDeskTextsC
open Option renaming some→bq
namespace Go.Proofs.YtopdngagmfanlaaGreatDoor
open Go Go.Proofs Go.Lift Go.ChangeShapes Go.WideShapes Go.ChangeAt Go.RowKit
theorem C4:Rows.deskTextsRow.laidByTextAt .later Tryz.pinned [.pinned,.data,.data,.data,.data,.sentinel,.sentinel] true:=
 OpenClaim.laidByTextAt_pinned rfl rfl tie rfl rfl rfl rfl (fun y a b=>by
  simp only[Rows.deskTextsRow,List.zip_cons_cons,List.zip_nil_right,List.mem_cons,List.mem_nil_iff,or_false]at a
  rcases a with rfl|rfl|rfl|rfl|rfl|rfl|rfl
  ·exact⟨pin_laid_unicode_utf8_first,by kernel_rfl⟩
  all_goals cases b) fits1
theorem JA:Rows.DeskTextsSaid:=
 OpenClaim.holds_of_wide 5 Tryz.f5 rfl rfl rfl rfl rfl rfl rfl ⟨rfl,rfl,rfl,rfl,rfl⟩ rfl rfl rfl rfl rfl (by kernel_rfl) Tryz.func5 ET
  (of_decide_eq_true (by kernel_rfl)) (by unfold Func.isWrapper;first|(rw[if_pos (by decide+kernel)];kernel_rfl)|(rw[if_neg (by decide+kernel)];exact⟨rfl,rfl⟩))
  (fun os a H enc _=>DeskTexts_lifted os a H enc)
theorem DeskTexts_named:Tryz.prog.funcNamed "quickset/quicksetlaw24.DeskTexts" =some 5:=by kernel_rfl
theorem DY:([aL].all fun u=> !Tryz.prog.wantsStandIn u)=true:=by kernel_rfl
theorem MF:Rows.deskTextsRow.wfByText (OpenSpec.ofChange Rows.deskTextsSpec)=true:=by kernel_rfl
theorem DeskTexts_holds:Rows.DeskTextsCardSaid:=
 Claim7.holds_tied_plain_at .later [] [.pinned,.data,.data,.data,.data,.sentinel,.sentinel] true (true, "f03f36b53a8ed3afe7ae761f0e64580a1c62a85a6b562d416f1666223d9e739f") true
  JA (fun _ h=>by cases h) MF (fun _ h=>by cases h) C4 rfl ⟨rfl,rfl⟩ com_main rfl
  (fun f fn c a=>by
   obtain rfl:f=5:=bq.inj (DeskTexts_named.symm.trans c)|>.symm
   obtain rfl:fn=Tryz.f5:=(bq.inj (Tryz.func5.symm.trans a)).symm
   exact⟨com_looks,fun j t b=>by
    rw[Tryz.params5]at b
    have hm:t∈[aL]:=by simpa using Array.mem_of_getElem? b
    exact(show Tryz.prog.wantsStandIn t=false by simpa using List.all_eq_true.1 DY t hm)⟩)
  (goesBy_none rfl com_G)
end Go.Proofs.YtopdngagmfanlaaGreatDoor
