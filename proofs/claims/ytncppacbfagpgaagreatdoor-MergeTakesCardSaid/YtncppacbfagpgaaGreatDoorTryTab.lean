/- A part of the proof that the named laws of this program answer true, whatever the input. -/
import Derived.Test.YtncppacbfagpgaaGreatDoorCards
import Derived.Test.YtncppacbfagpgaaGreatDoorTie
import Derived.Test.YtncppacbfagpgaaGreatDoorLaw0
import Derived.Test.YtncppacbfagpgaaGreatDoorPart11
import Derived.Test.YtncppacbfagpgaaGreatDoorTryTree
import Derived.Stop.Joined
open List renaming getElem?_eq_getElem→af,getElem?_map→mf
open Option renaming map_some→ja
namespace Go.Proofs.YtncppacbfagpgaaGreatDoor
open Go Go.Lift Go.Proofs Go.ChangeShapes Go.WideShapes Go.ChangeAt Go.RowKit
abbrev listed:List (String×DataW Unit):= [("math/bits.deBruijn32tab",Rows.laid_math_bits_deBruijn32tab)]
theorem gTab:Tryz.prog.globalNamed "math/bits.deBruijn32tab" =some 0:=by kernel_rfl
theorem adq:((Tryz.prog.globals[0]?).map (·.type)).bind Tryz.prog.underlying=some (.array 32 cQ):=by kernel_rfl
theorem Yz(os:Os)(args:Array Value):laidMetH Tryz.prog listed ((World.doorLaid Tryz.prog 14 os).forCall (fun _ _=>0) ⟨#[],args,[]⟩).memory:=
 laidMetH_of_parts3 (fuel:=8) (laidMet_of_run' 8 (by kernel_rfl) (by kernel_rfl)) (by kernel_rfl) (by kernel_rfl)
set_option maxRecDepth 100000 in
theorem abn{W:World}(h:laidMetH Tryz.prog listed W):Tab W.heap:=by
 rw[MakeChecks.laidMetH_plain _ _ _ (by kernel_rfl)]at h;obtain⟨ps,⟨z,t0,b,A,y,C,d,m,q,g,_,_⟩,_,_⟩:=h;obtain rfl:=Option.some.inj (gTab.symm.trans d);have f:=adq;rw[m]at f;have f:Tryz.prog.underlying t0=some (.array 32 cQ):=f;obtain⟨xs,B,rfl,e,u,w,j⟩:=DataW.trod_array f g;intro i hi;have t:=j i hi;rw[adS,af (by omega)]at t;obtain⟨k,v,x,_⟩:=DataW.trod_int ack t
 simp only[Prod.mk.injEq]at e;have o:=e.1;have a:(xs.map (·.1))[i]? =some (.lit (.int .u8 k)):=by
  rw[mf,af (by omega),ja,x]
 have hd:Rows.laid_math_bits_deBruijn32tab=(DataW.agg (tzL.map fun n=>DataW.lit (.int .u8 ((n:Nat):Int))):DataW Unit):=rfl
 have s:xs.map (·.1)=tzL.map fun n=>(DataW.lit (.int .u8 ((n:Nat):Int)):DataW Unit):=by
  have:=o.symm.trans hd;injection this
 rw[s,mf]at a;have c:i<tzL.length:=hi;rw[af c,ja]at a;injection a with a;injection a with a;injection a with _ a;have hc:=World.var?_cell d q i;have p:b[i]? =some (.int .u8 k):=by
  have:(b.toList.drop (i*1)).take 1= [.int .u8 k]:=v;rw[Nat.mul_one]at this;have h2:=congrArg (fun l=>l[0]?) this
  simpa using h2
 rw[p,←a]at hc;have:tzL.getD i 0=tzL[i]:=by rw[List.getD_eq_getElem?_getD,af c];rfl
 rw[this];exact hc
end Go.Proofs.YtncppacbfagpgaaGreatDoor
