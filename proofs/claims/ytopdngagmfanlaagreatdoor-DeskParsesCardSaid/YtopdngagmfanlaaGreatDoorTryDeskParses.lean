/- A part of the proof that the named laws of this program answer true, whatever the input. -/
import Derived.Stop.Joined
import Derived.SevenTiedAt
import Derived.Test.YtopdngagmfanlaaGreatDoorRows
import Derived.Test.YtopdngagmfanlaaGreatDoorCards
import Derived.Test.YtopdngagmfanlaaGreatDoorTryTie
import Derived.Test.YtopdngagmfanlaaGreatDoorTryComC
import Derived.Test.YtopdngagmfanlaaGreatDoorTryComD
import Derived.Test.YtopdngagmfanlaaGreatDoorTryDeskParsesA
import Derived.Test.YtopdngagmfanlaaGreatDoorTryDeskParsesC
open Option renaming some→bp
namespace Go.Proofs.YtopdngagmfanlaaGreatDoor
open Go Go.Proofs Go.Lift Go.ChangeShapes Go.WideShapes Go.ChangeAt Go.RowKit
theorem Bp:Rows.deskParsesRow.laidByTextAt .later Tryz.pinned [.pinned,.data,.data,.data,.data,.sentinel,.sentinel] true:=
 OpenClaim.laidByTextAt_pinned rfl rfl tie rfl rfl rfl rfl (fun y a b=>by
  simp only[Rows.deskParsesRow,List.zip_cons_cons,List.zip_nil_right,List.mem_cons,List.mem_nil_iff,or_false]at a
  rcases a with rfl|rfl|rfl|rfl|rfl|rfl|rfl
  ·exact⟨pin_laid_unicode_utf8_first,by kernel_rfl⟩
  all_goals cases b) fits1
theorem H6:Rows.DeskParsesSaid:=
 OpenClaim.holds_of_wide 6 Tryz.f6 rfl rfl rfl rfl rfl rfl rfl ⟨rfl,rfl,rfl,rfl,rfl⟩ rfl rfl rfl rfl rfl (by kernel_rfl) Tryz.func6 Dr
  (of_decide_eq_true (by kernel_rfl)) (by unfold Func.isWrapper;first|(rw[if_pos (by decide+kernel)];kernel_rfl)|(rw[if_neg (by decide+kernel)];exact⟨rfl,rfl⟩))
  (fun os a H enc _=>DeskParses_lifted os a H enc)
theorem DeskParses_named:Tryz.prog.funcNamed "quickset/quicksetlaw24.DeskParses" =some 6:=by kernel_rfl
theorem BM:([cn].all fun u=> !Tryz.prog.wantsStandIn u)=true:=by kernel_rfl
theorem IV:Rows.deskParsesRow.wfByText (OpenSpec.ofChange Rows.deskParsesSpec)=true:=by kernel_rfl
theorem DeskParses_holds:Rows.DeskParsesCardSaid:=
 Claim7.holds_tied_plain_at .later [] [.pinned,.data,.data,.data,.data,.sentinel,.sentinel] true (true, "f03f36b53a8ed3afe7ae761f0e64580a1c62a85a6b562d416f1666223d9e739f") true
  H6 (fun _ h=>by cases h) IV (fun _ h=>by cases h) Bp rfl ⟨rfl,rfl⟩ com_main rfl
  (fun f fn c a=>by
   obtain rfl:f=6:=bp.inj (DeskParses_named.symm.trans c)|>.symm
   obtain rfl:fn=Tryz.f6:=(bp.inj (Tryz.func6.symm.trans a)).symm
   exact⟨com_looks,fun j t b=>by
    rw[Tryz.params6]at b
    have hm:t∈[cn]:=by simpa using Array.mem_of_getElem? b
    exact(show Tryz.prog.wantsStandIn t=false by simpa using List.all_eq_true.1 BM t hm)⟩)
  (goesBy_none rfl com_G)
end Go.Proofs.YtopdngagmfanlaaGreatDoor
