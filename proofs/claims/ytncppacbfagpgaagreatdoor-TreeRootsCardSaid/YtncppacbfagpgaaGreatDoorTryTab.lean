/- A part of the proof that the named laws of this program answer true, whatever the input. -/
import Derived.Test.YtncppacbfagpgaaGreatDoorCards
import Derived.Test.YtncppacbfagpgaaGreatDoorTie
import Derived.Test.YtncppacbfagpgaaGreatDoorLaw0
import Derived.Test.YtncppacbfagpgaaGreatDoorPart6
import Derived.Test.YtncppacbfagpgaaGreatDoorTryTree
import Derived.Stop.Joined
open List renaming getElem?_eq_getElem→af
open Option renaming map_some→f8
namespace Go.Proofs.YtncppacbfagpgaaGreatDoor
open Go Go.Lift Go.Proofs Go.ChangeShapes Go.WideShapes Go.ChangeAt Go.RowKit
abbrev listed:List (String×DataW Unit):= [("math/bits.deBruijn32tab",Rows.laid_math_bits_deBruijn32tab)]
theorem gTab:Tryz.prog.globalNamed "math/bits.deBruijn32tab" =some 0:=by kernel_rfl
theorem Ry:((Tryz.prog.globals[0]?).map (·.type)).bind Tryz.prog.underlying=some (.array 32 cD):=by kernel_rfl
theorem NK(os:Os)(args:Array Value):laidMetH Tryz.prog listed ((World.doorLaid Tryz.prog 14 os).forCall (fun _ _=>0) ⟨#[],args,[]⟩).memory:=
 laidMetH_of_parts3 (fuel:=8) (laidMet_of_run' 8 (by kernel_rfl) (by kernel_rfl)) (by kernel_rfl) (by kernel_rfl)
set_option maxRecDepth 100000 in
theorem P1{W:World}(h:laidMetH Tryz.prog listed W):Tab W.heap:=by
 rw[MakeChecks.laidMetH_plain _ _ _ (by kernel_rfl)]at h;obtain⟨ps,⟨g0,t0,cs0,f0,p0,q0,hg0,ht0,hv0,hd0,_,_⟩,_,_⟩:=h;obtain rfl:=Option.some.inj (gTab.symm.trans hg0);have hu:=Ry;rw[ht0]at hu;have hu:Tryz.prog.underlying t0=some (.array 32 cD):=hu;obtain⟨xs,m1,rfl,hx1,hlen,hn3,hel⟩:=DataW.trod_array hu hd0;intro i hi;have h0:=hel i hi;rw[RL,af (by omega)]at h0;obtain⟨k,e1,e2,_⟩:=DataW.trod_int Ru h0
 simp only[Prod.mk.injEq]at hx1;have hx2:=hx1.1;have hk:(xs.map (·.1))[i]? =some (.lit (.int .u8 k)):=by
  rw[List.getElem?_map,af (by omega),f8,e2]
 have hd:Rows.laid_math_bits_deBruijn32tab=(DataW.agg (tzL.map fun n=>DataW.lit (.int .u8 ((n:Nat):Int))):DataW Unit):=rfl
 have hxx:xs.map (·.1)=tzL.map fun n=>(DataW.lit (.int .u8 ((n:Nat):Int)):DataW Unit):=by
  have:=hx2.symm.trans hd;injection this
 rw[hxx,List.getElem?_map]at hk;have hi':i<tzL.length:=hi;rw[af hi',f8]at hk;injection hk with hk;injection hk with hk;injection hk with _ hk;have hc:=World.var?_cell hg0 hv0 i;have hcs:cs0[i]? =some (.int .u8 k):=by
  have:(cs0.toList.drop (i*1)).take 1= [.int .u8 k]:=e1;rw[Nat.mul_one]at this;have h2:=congrArg (fun l=>l[0]?) this
  simpa using h2
 rw[hcs,←hk]at hc;have:tzL.getD i 0=tzL[i]:=by rw[List.getD_eq_getElem?_getD,af hi'];rfl
 rw[this];exact hc
end Go.Proofs.YtncppacbfagpgaaGreatDoor
