/- A part of the proof that the named laws of this program answer true, whatever the input. -/
import Derived.Test.YtajpljopgikpgaaGreatDoorCards
import Derived.Test.YtajpljopgikpgaaGreatDoorTie
import Derived.Test.YtajpljopgikpgaaGreatDoorLaw0
import Derived.Test.YtajpljopgikpgaaGreatDoorPart7
import Derived.Test.YtajpljopgikpgaaGreatDoorTryTree
import Derived.Stop.Joined
open List renaming getElem?_eq_getElem→ag,getElem?_map→eu
open Option renaming map_some→gw
namespace Go.Proofs.YtajpljopgikpgaaGreatDoor
open Go Go.Lift Go.Proofs Go.ChangeShapes Go.WideShapes Go.ChangeAt Go.RowKit
abbrev listed:List (String×DataW Unit):= [("math/bits.deBruijn32tab",Rows.laid_math_bits_deBruijn32tab)]
theorem gTab:Tryz.prog.globalNamed "math/bits.deBruijn32tab" =some 0:=by kernel_rfl
theorem WA:((Tryz.prog.globals[0]?).map (·.type)).bind Tryz.prog.underlying=some (.array 32 cz):=by kernel_rfl
theorem RB(os:Os)(args:Array Value):laidMetH Tryz.prog listed ((World.doorLaid Tryz.prog 14 os).forCall (fun _ _=>0) ⟨#[],args,[]⟩).memory:=
 laidMetH_of_parts3 (fuel:=8) (laidMet_of_run' 8 (by kernel_rfl) (by kernel_rfl)) (by kernel_rfl) (by kernel_rfl)
set_option maxRecDepth 100000 in
theorem Uz{W:World}(h:laidMetH Tryz.prog listed W):Tab W.heap:=by
 rw[MakeChecks.laidMetH_plain _ _ _ (by kernel_rfl)]at h;obtain⟨ps,⟨g0,C,d,E,G,D,b,q,p,j,_,_⟩,_,_⟩:=h;obtain rfl:=Option.some.inj (gTab.symm.trans b);have g:=WA;rw[q]at g;have g:Tryz.prog.underlying C=some (.array 32 cz):=g;obtain⟨xs,F,rfl,c,w,y,o⟩:=DataW.trod_array g j;intro i hi;have v:=o i hi;rw[TL,ag (by omega)]at v;obtain⟨k,B,z,_⟩:=DataW.trod_int Qi v
 simp only[Prod.mk.injEq]at c;have m:=c.1;have a:(xs.map (·.1))[i]? =some (.lit (.int .u8 k)):=by
  rw[eu,ag (by omega),gw,z]
 have hd:Rows.laid_math_bits_deBruijn32tab=(DataW.agg (tzL.map fun n=>DataW.lit (.int .u8 ((n:Nat):Int))):DataW Unit):=rfl
 have s:xs.map (·.1)=tzL.map fun n=>(DataW.lit (.int .u8 ((n:Nat):Int)):DataW Unit):=by
  have:=m.symm.trans hd;injection this
 rw[s,eu]at a;have f:i<tzL.length:=hi;rw[ag f,gw]at a;injection a with a;injection a with a;injection a with _ a;have hc:=World.var?_cell b p i;have u:d[i]? =some (.int .u8 k):=by
  have:(d.toList.drop (i*1)).take 1= [.int .u8 k]:=B;rw[Nat.mul_one]at this;have A:=congrArg (fun l=>l[0]?) this
  simpa using A
 rw[u,←a]at hc;have:tzL.getD i 0=tzL[i]:=by rw[List.getD_eq_getElem?_getD,ag f];rfl
 rw[this];exact hc
end Go.Proofs.YtajpljopgikpgaaGreatDoor
