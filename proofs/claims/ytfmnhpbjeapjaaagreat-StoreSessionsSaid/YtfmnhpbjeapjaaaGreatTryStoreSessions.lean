/- A part of the proof that the named laws of this program answer true, whatever the input. -/
import Derived.Test.YtfmnhpbjeapjaaaGreatTryTree
import Derived.Test.YtfmnhpbjeapjaaaGreatTryBys
import Derived.Test.YtfmnhpbjeapjaaaGreatPart9
namespace Go.Proofs.YtfmnhpbjeapjaaaGreat
open Go Go.Lift Go.Proofs Go.ChangeShapes Go.WideShapes Go.ChangeAt Go.RowKit
set_option maxRecDepth 100000 in
theorem StoreSessions_lifted(os:Os)(c:os.Started)(H:Type)(enc:TypeId×Value→H):
  ReturnsInHanded {} Tryz.checked os 4 .any (Rows.storeSessionsSpec.pre6 enc Tryz.prog Tryz.f4 Rows.storeSessionsRow.domain false) (Rows.storeSessionsSpec.post enc Tryz.prog Tryz.f4 false true false false):=
 law_lifted (C:=Tryz.checked) (ts:= [Em,cc,FF]) (tb:=vO) (by kernel_rfl) (by kernel_rfl) PI rfl (fun ds hd=>by
   match ds,hd with
   | [u,v,m],_=>exact⟨rfl,rfl,rfl⟩) Tryz.own Tryz.laidOut (fun t d=>by
   simp only[List.mem_cons,List.not_mem_nil,or_false]at d
   rcases d with rfl|rfl|rfl<;>exact⟨by kernel_rfl,of_decide_eq_true (by kernel_rfl)⟩) c (by kernel_rfl) Tryz.func4
  (ChangeSpec.witness6 (enc:=enc) (C:=Tryz.checked) false ⟨#[],#[.int .u8 0,.agg #[.int .u64 0,.int .u64 0,.int .u64 0],.slice none 0 0],[]⟩ 8 (by kernel_rfl) (by kernel_rfl) (by kernel_rfl) (by kernel_rfl)) Tryz.call4 (by
  intro W A args ds p b o
  obtain⟨w,_,u,_,_,_,rfl,_,f,z⟩:=AO o
  obtain⟨g,_,v,_,_,_,rfl,_,n,j⟩:=AO z
  obtain⟨y,_,m,_,_,_,rfl,_,i,s⟩:=AO j
  obtain rfl:=L9 s
  obtain⟨k,rfl,e⟩:=Qv (b 0 _ w rfl rfl) f
  obtain⟨x,rfl⟩:=Qw (b 1 _ g rfl rfl) n
  obtain⟨B,os,rfl,q⟩:=Pa (b 2 _ y rfl rfl) i
  exact AP q e.1 e.2)
theorem gX{a b:Bool}(h:a=true)(c:b=true):(a&&b)=true:=by rw[h,c];rfl
theorem Aa:(laidOutB Tryz.pinned.checked.prog)=true:=by kernel_rfl
theorem z8:(mapsRowed Tryz.pinned.checked.prog)=true:=by kernel_rfl
theorem Bt:((Rows.storeSessionsRow.inPlace==Program.inPlace Tryz.pinned.checked.prog 4))=true:=by kernel_rfl
theorem z6:((Rows.storeSessionsRow.unfollowed==Program.unfollowed Tryz.pinned.checked.prog 4))=true:=by kernel_rfl
theorem zZ:((Rows.storeSessionsRow.recurses==Program.recurses Tryz.pinned.checked.prog 4))=true:=by kernel_rfl
theorem Bo:((Rows.storeSessionsRow.named==Program.varsNamed Tryz.pinned.checked.prog 4))=true:=by kernel_rfl
theorem Bs:((Rows.storeSessionsRow.plainKeys==Program.plainKeys Tryz.pinned.checked.prog))=true:=by kernel_rfl
theorem Bm:(Program.stopsHeard Tryz.pinned.checked.prog)=true:=by kernel_rfl
theorem Bp:(Program.mayEnter Tryz.pinned.checked.prog)=true:=by kernel_rfl
theorem Bq:((Rows.storeSessionsRow.lifted==Program.liftsFinal Tryz.pinned.checked.prog))=true:=by kernel_rfl
theorem wL:joinedFacts Tryz.pinned.checked.prog 4 Tryz.f4 Rows.storeSessionsSpec Rows.storeSessionsRow=true:=gX (gX (gX (gX (gX (gX (gX (gX (gX (gX (gX (gX (gX (gX (gX (gX (gX (gX (gX (gX (gX (gX (gX (gX (gX (gX (gX (gX (gX (gX (gX (by kernel_rfl) Aa) z8) (by kernel_rfl)) (by kernel_rfl)) (by kernel_rfl)) (by kernel_rfl)) (by kernel_rfl)) (by kernel_rfl)) Bt) z6) zZ) Bo) (by kernel_rfl)) (by kernel_rfl)) (by kernel_rfl)) (by kernel_rfl)) (by kernel_rfl)) (by kernel_rfl)) (by kernel_rfl)) (by kernel_rfl)) (by kernel_rfl)) Bs) (by kernel_rfl)) Bm) Bp) Bq) (by kernel_rfl)) (by kernel_rfl)) (by kernel_rfl)) (by kernel_rfl)) (by kernel_rfl)
theorem StoreSessions_holds:Rows.StoreSessionsSaid:=
 OpenClaim.holds_of_wide 4 Tryz.f4 rfl rfl rfl rfl rfl rfl rfl ⟨rfl,rfl,rfl,rfl,rfl⟩ rfl rfl rfl rfl rfl (by kernel_rfl) Tryz.func4 wL
  (of_decide_eq_true (by kernel_rfl)) (by unfold Func.isWrapper;first|(rw[if_pos (by decide+kernel)];kernel_rfl)|(rw[if_neg (by decide+kernel)];exact⟨rfl,rfl⟩))
  (fun os b H enc _=>StoreSessions_lifted os b H enc)
end Go.Proofs.YtfmnhpbjeapjaaaGreat
