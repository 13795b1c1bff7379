/- A part of the proof that the named laws of this program answer true, whatever the input. -/
import Derived.Test.YtajpljopgikpgaaGreatDoorCards
import Derived.Test.YtajpljopgikpgaaGreatDoorTie
import Derived.Test.YtajpljopgikpgaaGreatDoorLaw0
import Derived.Test.YtajpljopgikpgaaGreatDoorPart9
import Derived.Test.YtajpljopgikpgaaGreatDoorTryTree
import Derived.Stop.Joined
open List renaming getElem?_eq_getElem→af
open Option renaming map_some→gD
namespace Go.Proofs.YtajpljopgikpgaaGreatDoor
open Go Go.Lift Go.Proofs Go.ChangeShapes Go.WideShapes Go.ChangeAt Go.RowKit
abbrev listed:List (String×DataW Unit):= [("math/bits.deBruijn32tab",Rows.laid_math_bits_deBruijn32tab)]
theorem gTab:Tryz.prog.globalNamed "math/bits.deBruijn32tab" =some 0:=by kernel_rfl
theorem WN:((Tryz.prog.globals[0]?).map (·.type)).bind Tryz.prog.underlying=some (.array 32 cr):=by kernel_rfl
theorem RV(os:Os)(args:Array Value):laidMetH Tryz.prog listed ((World.doorLaid Tryz.prog 14 os).forCall (fun _ _=>0) ⟨#[],args,[]⟩).memory:=
 laidMetH_of_parts3 (fuel:=8) (laidMet_of_run' 8 (by kernel_rfl) (by kernel_rfl)) (by kernel_rfl) (by kernel_rfl)
set_option maxRecDepth 100000 in
theorem UK{W:World}(h:laidMetH Tryz.prog listed W):Tab W.heap:=by
 rw[MakeChecks.laidMetH_plain _ _ _ (by kernel_rfl)]at h;obtain⟨ps,⟨B,v,c,E,D,C,e,m,p,g,_,_⟩,_,_⟩:=h;obtain rfl:=Option.some.inj (gTab.symm.trans e);have f:=WN;rw[m]at f;have f:Tryz.prog.underlying v=some (.array 32 cr):=f;obtain⟨xs,A,rfl,d,t,z,s⟩:=DataW.trod_array f g;intro i hi;have u:=s i hi;rw[Vu,af (by omega)]at u;obtain⟨k,x,w,_⟩:=DataW.trod_int SZ u
 simp only[Prod.mk.injEq]at d;have q:=d.1;have a:(xs.map (·.1))[i]? =some (.lit (.int .u8 k)):=by
  rw[List.getElem?_map,af (by omega),gD,w]
 have hd:Rows.laid_math_bits_deBruijn32tab=(DataW.agg (tzL.map fun n=>DataW.lit (.int .u8 ((n:Nat):Int))):DataW Unit):=rfl
 have j:xs.map (·.1)=tzL.map fun n=>(DataW.lit (.int .u8 ((n:Nat):Int)):DataW Unit):=by
  have:=q.symm.trans hd;injection this
 rw[j,List.getElem?_map]at a;have b:i<tzL.length:=hi;rw[af b,gD]at a;injection a with a;injection a with a;injection a with _ a;have hc:=World.var?_cell e p i;have o:c[i]? =some (.int .u8 k):=by
  have:(c.toList.drop (i*1)).take 1= [.int .u8 k]:=x;rw[Nat.mul_one]at this;have y:=congrArg (fun l=>l[0]?) this
  simpa using y
 rw[o,←a]at hc;have:tzL.getD i 0=tzL[i]:=by rw[List.getD_eq_getElem?_getD,af b];rfl
 rw[this];exact hc
end Go.Proofs.YtajpljopgikpgaaGreatDoor
