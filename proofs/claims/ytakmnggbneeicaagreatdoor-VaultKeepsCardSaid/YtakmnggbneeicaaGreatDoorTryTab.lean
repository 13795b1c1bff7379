/- A part of the proof that the named laws of this program answer true, whatever the input. -/
import Derived.Test.YtakmnggbneeicaaGreatDoorCards
import Derived.Test.YtakmnggbneeicaaGreatDoorTie
import Derived.Test.YtakmnggbneeicaaGreatDoorLaw0
import Derived.Test.YtakmnggbneeicaaGreatDoorPart5
import Derived.Test.YtakmnggbneeicaaGreatDoorTryTree
import Derived.Stop.Joined
open List renaming getElem?_eq_getElem->af
open Option renaming map_some->iy
namespace Go.Proofs.YtakmnggbneeicaaGreatDoor
open Go Go.Lift Go.Proofs Go.ChangeShapes Go.WideShapes Go.ChangeAt Go.RowKit
abbrev listed:List (String×DataW Unit):= [("math/bits.deBruijn32tab",Rows.laid_math_bits_deBruijn32tab)]
theorem gTab:Tryz.prog.globalNamed "math/bits.deBruijn32tab" =some 0:=a5
theorem abE:((Tryz.prog.globals[0]?).map (·.type)).bind Tryz.prog.underlying=some (.array 32 5):=a5
theorem WC(os:Os)(args:Array Value):laidMetH Tryz.prog listed ((World.doorLaid Tryz.prog 14 os).forCall (λ_ _=>0) ⟨#[],args,[]⟩).memory:=
 laidMetH_of_parts3 (fuel:=8) (laidMet_of_run' 8 a5 a5) a5 a5
set_option maxRecDepth 100000 in
theorem Zs{W:World}(h:laidMetH Tryz.prog listed W):Tab W.heap:=by
 rw[MakeChecks.laidMetH_plain _ _ _ a5]at h;obtain⟨ps,⟨E,x,c,C,D,A,e,q,g,p,_,_⟩,_,_⟩:=h;obtain rfl:=Option.some.inj (gTab.symm.trans e);have f:=abE;rw[q]at f;have f:Tryz.prog.underlying x=some (.array 32 5):=f;obtain⟨xs,B,rfl,b,t,w,s⟩:=DataW.trod_array f p;intro i hi;have u:=s i hi;rw[YD,af a4]at u;obtain⟨k,z,y,_⟩:=DataW.trod_int Vb u
 simp only[Prod.mk.injEq]at b;have j:=b.1;have a:(xs.map (·.1))[i]? =some (.lit (.int .u8 k)):=by
  rw[List.getElem?_map,af a4,iy,y]
 have hd:Rows.laid_math_bits_deBruijn32tab=(DataW.agg (tzL.map λn=>DataW.lit (.int .u8 ((n:Nat):Int))):DataW Unit):=rfl
 have m:xs.map (·.1)=tzL.map λn=>(DataW.lit (.int .u8 ((n:Nat):Int)):DataW Unit):=by
  have:=j.symm.trans hd;injection this
 rw[m,List.getElem?_map]at a;have d:i<tzL.length:=hi;rw[af d,iy]at a;injection a with a;injection a with a;injection a with _ a;have hc:=World.var?_cell e g i;have o:c[i]? =some (.int .u8 k):=by
  have:(c.toList.drop (i*1)).take 1= [.int .u8 k]:=z;rw[Nat.mul_one]at this;have v:=congrArg (λl=>l[0]?) this
  simpa using v
 rw[o,<-a]at hc;have:tzL.getD i 0=tzL[i]:=by rw[List.getD_eq_getElem?_getD,af d];rfl
 rw[this];exact hc
end Go.Proofs.YtakmnggbneeicaaGreatDoor
