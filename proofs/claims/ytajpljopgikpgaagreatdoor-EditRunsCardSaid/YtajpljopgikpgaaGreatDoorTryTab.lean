/- A part of the proof that the named laws of this program answer true, whatever the input. -/
import Derived.Test.YtajpljopgikpgaaGreatDoorCards
import Derived.Test.YtajpljopgikpgaaGreatDoorTie
import Derived.Test.YtajpljopgikpgaaGreatDoorLaw0
import Derived.Test.YtajpljopgikpgaaGreatDoorPart7
import Derived.Test.YtajpljopgikpgaaGreatDoorTryTree
import Derived.Stop.Joined
open List renaming getElem?_eq_getElem→af
open Option renaming map_some→f7
namespace Go.Proofs.YtajpljopgikpgaaGreatDoor
open Go Go.Lift Go.Proofs Go.ChangeShapes Go.WideShapes Go.ChangeAt Go.RowKit
abbrev listed:List (String×DataW Unit):= [("math/bits.deBruijn32tab",Rows.laid_math_bits_deBruijn32tab)]
theorem gTab:Tryz.prog.globalNamed "math/bits.deBruijn32tab" =some 0:=by kernel_rfl
theorem Ue:((Tryz.prog.globals[0]?).map (·.type)).bind Tryz.prog.underlying=some (.array 32 cp):=by kernel_rfl
theorem Px(os:Os)(args:Array Value):laidMetH Tryz.prog listed ((World.doorLaid Tryz.prog 14 os).forCall (fun _ _=>0) ⟨#[],args,[]⟩).memory:=
 laidMetH_of_parts3 (fuel:=8) (laidMet_of_run' 8 (by kernel_rfl) (by kernel_rfl)) (by kernel_rfl) (by kernel_rfl)
set_option maxRecDepth 100000 in
theorem RZ{W:World}(h:laidMetH Tryz.prog listed W):Tab W.heap:=by
 rw[MakeChecks.laidMetH_plain _ _ _ (by kernel_rfl)]at h;obtain⟨ps,⟨g0,z,e,A,B,D,b,m,g,p,_,_⟩,_,_⟩:=h;obtain rfl:=Option.some.inj (gTab.symm.trans b);have f:=Ue;rw[m]at f;have f:Tryz.prog.underlying z=some (.array 32 cp):=f;obtain⟨xs,C,rfl,c,u,x,j⟩:=DataW.trod_array f p;intro i hi;have t:=j i hi;rw[UD,af (by omega)]at t;obtain⟨k,y,w,_⟩:=DataW.trod_int Tv t
 simp only[Prod.mk.injEq]at c;have s:=c.1;have a:(xs.map (·.1))[i]? =some (.lit (.int .u8 k)):=by
  rw[List.getElem?_map,af (by omega),f7,w]
 have hd:Rows.laid_math_bits_deBruijn32tab=(DataW.agg (tzL.map fun n=>DataW.lit (.int .u8 ((n:Nat):Int))):DataW Unit):=rfl
 have q:xs.map (·.1)=tzL.map fun n=>(DataW.lit (.int .u8 ((n:Nat):Int)):DataW Unit):=by
  have:=s.symm.trans hd;injection this
 rw[q,List.getElem?_map]at a;have d:i<tzL.length:=hi;rw[af d,f7]at a;injection a with a;injection a with a;injection a with _ a;have hc:=World.var?_cell b g i;have o:e[i]? =some (.int .u8 k):=by
  have:(e.toList.drop (i*1)).take 1= [.int .u8 k]:=y;rw[Nat.mul_one]at this;have v:=congrArg (fun l=>l[0]?) this
  simpa using v
 rw[o,←a]at hc;have:tzL.getD i 0=tzL[i]:=by rw[List.getD_eq_getElem?_getD,af d];rfl
 rw[this];exact hc
end Go.Proofs.YtajpljopgikpgaaGreatDoor
