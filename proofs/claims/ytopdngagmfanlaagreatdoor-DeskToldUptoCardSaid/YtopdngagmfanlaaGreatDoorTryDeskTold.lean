/- A part of the proof that the named laws of this program answer true, whatever the input. -/
import Derived.Stop.Joined
import Derived.SevenTiedAt
import Derived.Test.YtopdngagmfanlaaGreatDoorRows
import Derived.Test.YtopdngagmfanlaaGreatDoorCards
import Derived.Test.YtopdngagmfanlaaGreatDoorTryTie
import Derived.Test.YtopdngagmfanlaaGreatDoorTryComC
import Derived.Test.YtopdngagmfanlaaGreatDoorTryComD
import Derived.Test.YtopdngagmfanlaaGreatDoorTryDeskToldA
import Derived.Test.YtopdngagmfanlaaGreatDoorTryDeskToldC
open Option renaming some→bh
namespace Go.Proofs.YtopdngagmfanlaaGreatDoor
open Go Go.Proofs Go.Lift Go.ChangeShapes Go.WideShapes Go.ChangeAt Go.RowKit
theorem xZ:Rows.deskToldUptoRow.laidByTextAt .later Tryz.pinned [.pinned,.data,.data,.data,.data,.sentinel,.sentinel] true:=
 OpenClaim.laidByTextAt_pinned rfl rfl tie rfl rfl rfl rfl (fun y a b=>by
  simp only[Rows.deskToldUptoRow,List.zip_cons_cons,List.zip_nil_right,List.mem_cons,List.mem_nil_iff,or_false]at a
  rcases a with rfl|rfl|rfl|rfl|rfl|rfl|rfl
  ·exact⟨pin_laid_unicode_utf8_first,by kernel_rfl⟩
  all_goals cases b) fits1
theorem KO:Rows.DeskToldUptoSaid:=
 OpenClaim.holds_of_cond 3 Tryz.f3 rfl rfl rfl rfl rfl rfl rfl ⟨rfl,rfl,rfl,rfl,rfl⟩ rfl rfl rfl rfl rfl (by kernel_rfl) Tryz.func3 EI
  (of_decide_eq_true (by kernel_rfl)) (by unfold Func.isWrapper;first|(rw[if_pos (by decide+kernel)];kernel_rfl)|(rw[if_neg (by decide+kernel)];exact⟨rfl,rfl⟩))
  (fun os a H enc _ F=>by rw[OpenClaim.pre_eq_preRow];exact DeskTold_lifted os a H enc F)
theorem DeskTold_named:Tryz.prog.funcNamed "quickset/quicksetlaw24.DeskTold" =some 3:=by kernel_rfl
theorem Dw:([tLq,bN].all fun u=> !Tryz.prog.wantsStandIn u)=true:=by kernel_rfl
theorem MG:Rows.deskToldUptoRow.wfByText (Rows.OpenSpec.upto Rows.deskToldSpec)=true:=by kernel_rfl
theorem DeskTold_holds:Rows.DeskToldUptoCardSaid:=
 Claim7.holds_tied_plain_at .later [] [.pinned,.data,.data,.data,.data,.sentinel,.sentinel] true (true, "f03f36b53a8ed3afe7ae761f0e64580a1c62a85a6b562d416f1666223d9e739f") true
  KO (fun _ h=>by cases h) MG (fun _ h=>by cases h) xZ rfl ⟨rfl,rfl⟩ com_main rfl
  (fun f fn c a=>by
   obtain rfl:f=3:=bh.inj (DeskTold_named.symm.trans c)|>.symm
   obtain rfl:fn=Tryz.f3:=(bh.inj (Tryz.func3.symm.trans a)).symm
   exact⟨com_looks,fun j t b=>by
    rw[Tryz.params3]at b
    have hm:t∈[tLq,bN]:=by simpa using Array.mem_of_getElem? b
    exact(show Tryz.prog.wantsStandIn t=false by simpa using List.all_eq_true.1 Dw t hm)⟩)
  (goesBy_none rfl com_G)
end Go.Proofs.YtopdngagmfanlaaGreatDoor
