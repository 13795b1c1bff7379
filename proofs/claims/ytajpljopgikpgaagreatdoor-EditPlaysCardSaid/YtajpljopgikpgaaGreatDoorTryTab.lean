/- A part of the proof that the named laws of this program answer true, whatever the input. -/
import Derived.Test.YtajpljopgikpgaaGreatDoorCards
import Derived.Test.YtajpljopgikpgaaGreatDoorTie
import Derived.Test.YtajpljopgikpgaaGreatDoorLaw0
import Derived.Test.YtajpljopgikpgaaGreatDoorPart9
import Derived.Test.YtajpljopgikpgaaGreatDoorTryTree
import Derived.Stop.Joined
open List renaming getElem?_eq_getElem→ag,getElem?_map→eZ
open Option renaming map_some→hO
namespace Go.Proofs.YtajpljopgikpgaaGreatDoor
open Go Go.Lift Go.Proofs Go.ChangeShapes Go.WideShapes Go.ChangeAt Go.RowKit
abbrev listed:List (String×DataW Unit):= [("math/bits.deBruijn32tab",Rows.laid_math_bits_deBruijn32tab)]
theorem gTab:Tryz.prog.globalNamed "math/bits.deBruijn32tab" =some 0:=by kernel_rfl
theorem abt:((Tryz.prog.globals[0]?).map (·.type)).bind Tryz.prog.underlying=some (.array 32 cK):=by kernel_rfl
theorem WB(os:Os)(args:Array Value):laidMetH Tryz.prog listed ((World.doorLaid Tryz.prog 14 os).forCall (fun _ _=>0) ⟨#[],args,[]⟩).memory:=
 laidMetH_of_parts3 (fuel:=8) (laidMet_of_run' 8 (by kernel_rfl) (by kernel_rfl)) (by kernel_rfl) (by kernel_rfl)
set_option maxRecDepth 100000 in
theorem Zn{W:World}(h:laidMetH Tryz.prog listed W):Tab W.heap:=by
 rw[MakeChecks.laidMetH_plain _ _ _ (by kernel_rfl)]at h;obtain⟨ps,⟨g0,y,f,F,D,E,d,m,j,o,_,_⟩,_,_⟩:=h;obtain rfl:=Option.some.inj (gTab.symm.trans d);have g:=abt;rw[m]at g;have g:Tryz.prog.underlying y=some (.array 32 cK):=g;obtain⟨xs,G,rfl,b,v,B,q⟩:=DataW.trod_array g o;intro i hi;have w:=q i hi;rw[YC,ag (by omega)]at w;obtain⟨k,C,A,_⟩:=DataW.trod_int U3 w
 simp only[Prod.mk.injEq]at b;have u:=b.1;have a:(xs.map (·.1))[i]? =some (.lit (.int .u8 k)):=by
  rw[eZ,ag (by omega),hO,A]
 have hd:Rows.laid_math_bits_deBruijn32tab=(DataW.agg (tzL.map fun n=>DataW.lit (.int .u8 ((n:Nat):Int))):DataW Unit):=rfl
 have s:xs.map (·.1)=tzL.map fun n=>(DataW.lit (.int .u8 ((n:Nat):Int)):DataW Unit):=by
  have:=u.symm.trans hd;injection this
 rw[s,eZ]at a;have c:i<tzL.length:=hi;rw[ag c,hO]at a;injection a with a;injection a with a;injection a with _ a;have hc:=World.var?_cell d j i;have p:f[i]? =some (.int .u8 k):=by
  have:(f.toList.drop (i*1)).take 1= [.int .u8 k]:=C;rw[Nat.mul_one]at this;have z:=congrArg (fun l=>l[0]?) this
  simpa using z
 rw[p,←a]at hc;have:tzL.getD i 0=tzL[i]:=by rw[List.getD_eq_getElem?_getD,ag c];rfl
 rw[this];exact hc
end Go.Proofs.YtajpljopgikpgaaGreatDoor
