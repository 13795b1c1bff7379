/- A part of the proof that the named laws of this program answer true, whatever the input. -/
import Derived.Test.YtncppacbfagpgaaGreatDoorCards
import Derived.Test.YtncppacbfagpgaaGreatDoorTie
import Derived.Test.YtncppacbfagpgaaGreatDoorLaw0
import Derived.Test.YtncppacbfagpgaaGreatDoorPart12
import Derived.Test.YtncppacbfagpgaaGreatDoorTryTree
import Derived.Stop.Joined
open List renaming getElem?_eq_getElem→af,getElem?_map→rT
open Option renaming map_some→iG
namespace Go.Proofs.YtncppacbfagpgaaGreatDoor
open Go Go.Lift Go.Proofs Go.ChangeShapes Go.WideShapes Go.ChangeAt Go.RowKit
abbrev listed:List (String×DataW Unit):= [("math/bits.deBruijn32tab",Rows.laid_math_bits_deBruijn32tab)]
theorem gTab:Tryz.prog.globalNamed "math/bits.deBruijn32tab" =some 0:=by kernel_rfl
theorem abD:((Tryz.prog.globals[0]?).map (·.type)).bind Tryz.prog.underlying=some (.array 32 cM):=by kernel_rfl
theorem Xh(os:Os)(args:Array Value):laidMetH Tryz.prog listed ((World.doorLaid Tryz.prog 14 os).forCall (fun _ _=>0) ⟨#[],args,[]⟩).memory:=
 laidMetH_of_parts3 (fuel:=8) (laidMet_of_run' 8 (by kernel_rfl) (by kernel_rfl)) (by kernel_rfl) (by kernel_rfl)
set_option maxRecDepth 100000 in
theorem ZS{W:World}(h:laidMetH Tryz.prog listed W):Tab W.heap:=by
 rw[MakeChecks.laidMetH_plain _ _ _ (by kernel_rfl)]at h;obtain⟨ps,⟨D,v,c,z,A,B,b,q,m,o,_,_⟩,_,_⟩:=h;obtain rfl:=Option.some.inj (gTab.symm.trans b);have f:=abD;rw[q]at f;have f:Tryz.prog.underlying v=some (.array 32 cM):=f;obtain⟨xs,C,rfl,e,t,y,s⟩:=DataW.trod_array f o;intro i hi;have u:=s i hi;rw[ab3,af (by omega)]at u;obtain⟨k,w,x,_⟩:=DataW.trod_int aaL u
 simp only[Prod.mk.injEq]at e;have p:=e.1;have a:(xs.map (·.1))[i]? =some (.lit (.int .u8 k)):=by
  rw[rT,af (by omega),iG,x]
 have hd:Rows.laid_math_bits_deBruijn32tab=(DataW.agg (tzL.map fun n=>DataW.lit (.int .u8 ((n:Nat):Int))):DataW Unit):=rfl
 have g:xs.map (·.1)=tzL.map fun n=>(DataW.lit (.int .u8 ((n:Nat):Int)):DataW Unit):=by
  have:=p.symm.trans hd;injection this
 rw[g,rT]at a;have d:i<tzL.length:=hi;rw[af d,iG]at a;injection a with a;injection a with a;injection a with _ a;have hc:=World.var?_cell b m i;have j:c[i]? =some (.int .u8 k):=by
  have:(c.toList.drop (i*1)).take 1= [.int .u8 k]:=w;rw[Nat.mul_one]at this;have h2:=congrArg (fun l=>l[0]?) this
  simpa using h2
 rw[j,←a]at hc;have:tzL.getD i 0=tzL[i]:=by rw[List.getD_eq_getElem?_getD,af d];rfl
 rw[this];exact hc
end Go.Proofs.YtncppacbfagpgaaGreatDoor
