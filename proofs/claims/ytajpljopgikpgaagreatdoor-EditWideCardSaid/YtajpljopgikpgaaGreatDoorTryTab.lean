/- A part of the proof that the named laws of this program answer true, whatever the input. -/
import Derived.Test.YtajpljopgikpgaaGreatDoorCards
import Derived.Test.YtajpljopgikpgaaGreatDoorTie
import Derived.Test.YtajpljopgikpgaaGreatDoorLaw0
import Derived.Test.YtajpljopgikpgaaGreatDoorPart7
import Derived.Test.YtajpljopgikpgaaGreatDoorTryTree
import Derived.Stop.Joined
open List renaming getElem?_eq_getElem→ag
open Option renaming map_some→fL
namespace Go.Proofs.YtajpljopgikpgaaGreatDoor
open Go Go.Lift Go.Proofs Go.ChangeShapes Go.WideShapes Go.ChangeAt Go.RowKit
abbrev listed:List (String×DataW Unit):= [("math/bits.deBruijn32tab",Rows.laid_math_bits_deBruijn32tab)]
theorem gTab:Tryz.prog.globalNamed "math/bits.deBruijn32tab" =some 0:=by kernel_rfl
theorem Sq:((Tryz.prog.globals[0]?).map (·.type)).bind Tryz.prog.underlying=some (.array 32 bX):=by kernel_rfl
theorem N5(os:Os)(args:Array Value):laidMetH Tryz.prog listed ((World.doorLaid Tryz.prog 14 os).forCall (fun _ _=>0) ⟨#[],args,[]⟩).memory:=
 laidMetH_of_parts3 (fuel:=8) (laidMet_of_run' 8 (by kernel_rfl) (by kernel_rfl)) (by kernel_rfl) (by kernel_rfl)
set_option maxRecDepth 100000 in
theorem Qq{W:World}(h:laidMetH Tryz.prog listed W):Tab W.heap:=by
 rw[MakeChecks.laidMetH_plain _ _ _ (by kernel_rfl)]at h;obtain⟨ps,⟨E,w,b,D,A,C,d,g,o,s,_,_⟩,_,_⟩:=h;obtain rfl:=Option.some.inj (gTab.symm.trans d);have f:=Sq;rw[g]at f;have f:Tryz.prog.underlying w=some (.array 32 bX):=f;obtain⟨xs,B,rfl,e,t,z,q⟩:=DataW.trod_array f s;intro i hi;have u:=q i hi;rw[SO,ag (by omega)]at u;obtain⟨k,v,x,_⟩:=DataW.trod_int RA u
 simp only[Prod.mk.injEq]at e;have m:=e.1;have a:(xs.map (·.1))[i]? =some (.lit (.int .u8 k)):=by
  rw[List.getElem?_map,ag (by omega),fL,x]
 have hd:Rows.laid_math_bits_deBruijn32tab=(DataW.agg (tzL.map fun n=>DataW.lit (.int .u8 ((n:Nat):Int))):DataW Unit):=rfl
 have p:xs.map (·.1)=tzL.map fun n=>(DataW.lit (.int .u8 ((n:Nat):Int)):DataW Unit):=by
  have:=m.symm.trans hd;injection this
 rw[p,List.getElem?_map]at a;have c:i<tzL.length:=hi;rw[ag c,fL]at a;injection a with a;injection a with a;injection a with _ a;have hc:=World.var?_cell d o i;have j:b[i]? =some (.int .u8 k):=by
  have:(b.toList.drop (i*1)).take 1= [.int .u8 k]:=v;rw[Nat.mul_one]at this;have y:=congrArg (fun l=>l[0]?) this
  simpa using y
 rw[j,←a]at hc;have:tzL.getD i 0=tzL[i]:=by rw[List.getD_eq_getElem?_getD,ag c];rfl
 rw[this];exact hc
end Go.Proofs.YtajpljopgikpgaaGreatDoor
