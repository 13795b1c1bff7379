/- A part of the proof that the named laws of this program answer true, whatever the input. -/
import Derived.Test.YtajpljopgikpgaaGreatPart5
open Nat renaming le_refl→av
namespace Go.Proofs
open Go Go.Lift
section
variable {h:ac}
theorem oV{K:Int→ac→Prop}(a:K 4 h):HC PG d5 [.pointer none] [.c (.int .i64)] K h:=by
 refine l2 _ ?_;unfold jn;exact ao.2 a
theorem pH{K:Bool→ac→Prop}(a:K false h):HC PG dz [.pointer none] [.c .bool] K h:=by
 refine kC _ ?_;unfold ie cL;exact al.2 a
theorem pI{K:Tr×Int→ac→Prop}(b:∀h',Upd No h h'→K (nI,4) h'):HC PG bR [.pointer none] AK K h:=by
 refine kD _ ?_;unfold el gn m3 bJ aj az cT uV jA cL qf;refine bD fun e b1 k1=>oV (ao.2 ?_)
 refine fV (c:=lS nI) (vs:=lS nI) b1 rfl fun a b3 d=>?_
 exact⟨_,vc b3 0,_,vc b3 1,_,vc b3 2,_,vc b3 3,_,vc b3 4,_,vc b3 5,b a (k1.own d (av _))⟩
theorem yo{K:Tr×Int→ac→Prop}(i:∀h',Upd No h h'→K (nI,4) h'):HC PG jk [.pointer none] AK K h:=by
 refine qU _ ?_;unfold me gn nv m3 qi bJ aj az c5 uV cL;refine bD fun k b1 k1=>pI fun m d=>oK (t:=nI) fun j b e=>Join.plain (al.2 ?_)
 refine⟨_,vc b 0,_,vc b 1,_,vc b 2,_,vc b 3,_,vc b 4,_,vc b 5,?_⟩;refine fV (c:=lS nI) (vs:=lS nI) ((d.tr e).get0 b1) rfl fun g a f=>?_
 exact⟨_,vc a 0,_,vc a 1,_,vc a 2,_,vc a 3,_,vc a 4,_,vc a 5,i g ((k1.tr (d.tr e)).own f (av _))⟩
theorem Ah{k:ByteArray}{K:ByteArray×Bool→ac→Prop}(a:K (⟨#[]⟩,false) h):HC PG jP [.pointer none,.string k] [.c .str,.c .bool] K h:=by
 refine rQ _ k ?_;unfold mV yT cT jA cL;exact ao.2 a
theorem Ag{K:Int→ac→Prop}(a:K 0 h):HC PG jO [.pointer none] [.c (.int .i64)] K h:=by
 refine rP _ ?_;unfold mU yT cT jA cL;exact ao.2 a
theorem BI{K:Int→ac→Prop}(a:K 0 h):HC PG iM [.pointer none] [.c (.int .i64)] K h:=by
 refine nB _ ?_;unfold kN cL;exact ao.2 a
theorem wS{K:SliceV→ac→Prop}(a:K ⟨none,0,0⟩ h):HC PG iL [.pointer none] [.c .slice] K h:=by
 refine p5 _ ?_;unfold lG yT cT jA cL;exact ao.2 a
theorem vB{K:Tr×Bool→ac→Prop}(b:∀h',Upd No h h'→K (nI,false) h'):HC PG ia [.pointer none] [.agg [.int .i64,.int .u64,.int .u64,.int .u64,.ptr,.ptr],.c .bool] K h:=by
 refine pe _ ?_;unfold kM gn m3 bJ aj az cT uV jA cL;refine bD fun e b1 k1=>pH (ao.2 ?_)
 refine fV (c:=lS nI) (vs:=lS nI) b1 rfl fun a b3 d=>?_
 exact⟨_,vc b3 0,_,vc b3 1,_,vc b3 2,_,vc b3 3,_,vc b3 4,_,vc b3 5,b a (k1.own d (av _))⟩
theorem Ad(p:Pr){K:Int→ac→Prop}(c:∀h',Upd No h h'→K 4 h'):HC PG dg [.pointer none,.agg #[.string p.1,.string p.2]] [.c (.int .i64)] K h:=by
 refine jS _ p ?_;unfold g7 qj;refine bD fun d b1 k1=>bD fun b b2 a=>?_
 exact⟨_,vc (a.get0 b1) 0,oV (ao.2 (c b (k1.tr a)))⟩
theorem yr(k:ByteArray){K:Int→ac→Prop}(c:∀h',Upd No h h'→K 4 h'):HC PG gv [.pointer none,.string k] [.c (.int .i64)] K h:=by
 refine qV _ k ?_;unfold mf;refine bD fun d b1 k1=>bD fun b b2 a=>?_
 exact⟨_,vc (a.get0 b1) 0,oV (ao.2 (c b (k1.tr a)))⟩
theorem wW(t:Tr){K:Option Addr×Int→ac→Prop}(b:∀h',Upd No h h'→K (none,4) h'):HC PG dV [.pointer none,C7 t] [.c .ptr,.c (.int .i64)] K h:=by
 refine mJ _ t ?_;unfold ka qi bJ aj az Es;exact bD fun a b1 k1=>vg (ao.2 (b a k1))
theorem yp{pb cb cap:Nat}(p:PoolAt h pb cb cap [])(t:Tr)(s u:SliceV){K:Tr×Int→ac→Prop}(j:∀h',Upd No h h'→K (nI,6) h'):HC PG oQ [.pointer (some ⟨pb,0,none⟩),C7 t,.slice s.a s.len s.cap,.slice u.a u.len u.cap] AK K h:=by
 refine yG _ t s u ?_;unfold tP dT gg aw gn nv m3 qi su m4 bJ aj az yT cT uW uV jA cL dZ r9;refine bD fun k b1 k1=>bD fun m b2 g=>?_
 have b:=g.get0 b1;refine⟨_,vc b 0,_,vc b 1,_,vc b 2,_,vc b 3,_,vc b 4,_,vc b 5,?_⟩;refine pJ (p.upd0 (k1.tr g)) t fun i d=>ao.2 ?_
 refine fV (c:=lS nI) (vs:=lS nI) (d.get0 b2) rfl fun e a f=>?_
 exact⟨_,vc a 0,_,vc a 1,_,vc a 2,_,vc a 3,_,vc a 4,_,vc a 5,j e (((k1.tr g).tr d).own f k1.size)⟩
end
set_option maxRecDepth 100000 in
set_option maxHeartbeats 1000000 in
theorem yn{h:ac}(p:Pr):HC PG ol [.agg #[.string p.1,.string p.2]] [.c .bool] (fun b V=>b=true∧Upd No h V) h:=by
 refine ul p ?_;unfold oy aw nv qj m3 qi su D0 m4;refine bD fun h1 b1 k1=>yy fun h3 x=>al.2 ?_
 refine yo fun h5 B=>oK (t:=nI) fun h7 b7 z=>pI fun h9 E=>oK (t:=nI) fun W b11 i=>?_
 have u:=k1.tr (x.tr (B.tr (z.tr (E.tr i))));have o:=(x.tr (B.tr (z.tr (E.tr i)))).get0 b1;refine⟨_,vc o 0,Ah (vB fun O I=>oK (t:=nI) fun X b18 H=>wW nI fun f A=>?_)⟩
 have a:=I.tr (H.tr A);refine sS (n:=1) (av _) (by omega) fun w L g=>?_
 have g:PoolAt w (f.size+1) f.size 1 [1]:=g;have z22:=aW g.2.1;have Q:=a.size;refine tp g nI fun S eb tb J s D C Y Z=>?_
 refine pJ s nI fun h26 m=>?_
 refine yp (s.upd0 m) nI ⟨none,0,0⟩ ⟨none,0,0⟩ fun P G=>oK (t:=nI) fun M T F=>?_
 have z1:=aW b1;have d:=m.tr (G.tr F);have s1:=(x.tr (B.tr (z.tr (E.tr i)))).size;have c:Upd No f M:=(L.trans J fun y N=>.inr (by have N:y=f.size:=N;omega)).tr d
 have k:=c.get0 (a.get0 o);have v:=u.tr (a.tr c);refine⟨_,vc k 0,_,vc k 1,Ad p fun R j=>ao.2 ?_⟩
 have K:=j.get0 k;refine⟨_,vc K 0,yr p.1 fun U q=>ao.2 (ao.2 (ao.2 (ao.2 (ao.2 ?_))))⟩
 refine pH (ao.2 (Ag (BI (wS (ao.2 (ao.2 (ao.2 ?_)))))));have e:=d.tr (j.tr q);refine nB _ ?_;unfold kN cL;refine al.2 ⟨_,rfl,_,vc (e.get0 C) 1,qN _ ?_⟩;unfold l5 jA;refine al.2 ⟨_,rfl,_,vc (e.get0 D) 1,ao.2 (ao.2 (ao.2 ⟨rfl,v.tr (j.tr q)⟩))⟩
end Go.Proofs
