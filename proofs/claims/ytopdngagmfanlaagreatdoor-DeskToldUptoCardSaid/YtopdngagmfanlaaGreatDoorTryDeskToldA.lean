/- A part of the proof that the named laws of this program answer true, whatever the input. -/
import Derived.Test.YtopdngagmfanlaaGreatDoorPart9
import Derived.Test.YtopdngagmfanlaaGreatDoorTryAN
import Derived.Test.YtopdngagmfanlaaGreatDoorTryCond
import Derived.Test.YtopdngagmfanlaaGreatDoorTryLaid
import Derived.Test.YtopdngagmfanlaaGreatDoorTryDA
namespace Go.Proofs.YtopdngagmfanlaaGreatDoor
open Go Go.Proofs Go.Lift Go.ChangeShapes Go.WideShapes Go.ChangeAt Go.RowKit
set_option maxRecDepth 100000 in
theorem G5(os:Os){H:Type}(enc:TypeId×Value→H):∃places,DataW.whole enc Tryz.prog ((PB os).forCall (fun _ _=>0) ⟨#[],#[.int .i64 0,.agg #[.int .i64 0,.int .u32 0,.int .i64 0,.string ⟨#[]⟩,.bool false,.int .i64 0,.slice none 0 0,.slice none 0 0,.slice none 0 0,.slice none 0 0,.slice none 0 0]],[]⟩).memory Tryz.f3.params.toList (Rows.OpenSpec.upto Rows.deskToldSpec).vars false (#[.int .i64 0,.agg #[.int .i64 0,.int .u32 0,.int .i64 0,.string ⟨#[]⟩,.bool false,.int .i64 0,.slice none 0 0,.slice none 0 0,.slice none 0 0,.slice none 0 0,.slice none 0 0]]:Array Value).toList 8=some ([.lit (.int .i64 0),.agg [.lit (.int .i64 0),.lit (.int .u32 0),.lit (.int .i64 0),.lit (.string []),.lit (.bool false),.lit (.int .i64 0),.nil,.nil,.nil,.nil,.nil]],[],places):=⟨[],by kernel_rfl⟩
set_option maxRecDepth 100000 in
theorem KM(os:Os)(H:Type)(enc:TypeId×Value→H):∃(w:World) (tape:Tape) (i:Input),w.os=os∧(w.forCall tape i).Shaped Tryz.prog∧i.vars= []∧Input.okWide Tryz.prog (w.forCall tape i) .any w.heap.size 3 i∧
  (Rows.OpenSpec.upto Rows.deskToldSpec).preRow enc Tryz.prog Tryz.f3 [] false listed (w.forCall tape i).memory i.args∧({}:Assume).holds Tryz.prog (lone (Frame.enter Tryz.prog 3 i.args .normal) [] (w.forCall tape i)):=by
 obtain⟨a,hx⟩:=G5 os enc;exact witness_row_atRef (enc:=enc) (C:=Tryz.checked) (fn:=Tryz.f3) (s:=(Rows.OpenSpec.upto Rows.deskToldSpec)) (conds:= []) (apart:=false) (laid:=listed) false (PB os) #[.int .i64 0,.agg #[.int .i64 0,.int .u32 0,.int .i64 0,.string ⟨#[]⟩,.bool false,.int .i64 0,.slice none 0 0,.slice none 0 0,.slice none 0 0,.slice none 0 0,.slice none 0 0]] rfl (by kernel_rfl) (by kernel_rfl) (by kernel_rfl) (OpenSpec.preRow_of_cond 8 hx (by kernel_rfl) (fun k b=>by cases b;kernel_rfl) (by kernel_rfl) (SZ os _))
set_option maxRecDepth 100000 in
theorem DeskTold_lifted(os:Os)(a:os.Started)(H:Type)(enc:TypeId×Value→H)(F:Stop.Interp):
  ReturnsInHanded {} Tryz.checked os 3 .any ((Rows.OpenSpec.upto Rows.deskToldSpec).preRow enc Tryz.prog Tryz.f3 [] false listed) (((Rows.OpenSpec.upto Rows.deskToldSpec).at F).post enc Tryz.prog Tryz.f3 false true false false):=
 Sy (C:=Tryz.checked) (s:=Rows.deskToldSpec) (us:=(Rows.OpenSpec.upto Rows.deskToldSpec)) (k:=Rows.uptoSmall) (ts:= [tLq,bN]) (tb:=lF) rfl (by kernel_rfl) (by kernel_rfl) Fi rfl (fun ds hd=>by
   match ds,hd with
   | [d0,q],_=>exact⟨rfl,rfl,rfl⟩) Tryz.own Tryz.laidOut (fun t o=>by
   simp only[List.mem_cons,List.not_mem_nil,or_false]at o
   rcases o with rfl|rfl<;>exact⟨by kernel_rfl,of_decide_eq_true (by kernel_rfl)⟩) a (by kernel_rfl) Tryz.func3
  (KM os H enc) Tryz.call3 (by
  intro W L args ds p b G j I
  have tb:=VD G
  obtain⟨A,_,d0,_,_,_,rfl,rfl,x,B⟩:=Ia I
  obtain⟨y,_,q,_,_,_,rfl,rfl,z,u⟩:=Ia B
  obtain rfl:=Ro u
  obtain⟨kd,rfl,_⟩:=open_int M3 (b 0 _ A rfl rfl) x
  obtain⟨D,N,J,K,O,P,rfl,m,g,n,e,d,f,c,i,E,w,v⟩:=We (b 1 _ y rfl rfl) z (by have j:Rows.uptoBulkAll (d0::q::_)≤1048576:=of_decide_eq_true j;simp only[Rows.uptoBulkAll]at j;omega)
  exact Ma m g n e d f c i E w v tb.1 tb.2 fun h' k=>⟨rfl,k⟩) F
end Go.Proofs.YtopdngagmfanlaaGreatDoor
