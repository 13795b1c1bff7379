/- A part of the proof that the named laws of this program answer true, whatever the input. -/
import Derived.Test.YtajpljopgikpgaaGreatPart5
open Nat renaming le_refl→av
namespace Go.Proofs
open Go Go.Lift
section
variable {h:ac}
theorem oV{K:Int→ac→Prop}(a:K 4 h):HC PG d5 [.pointer none] [.c (.int .i64)] K h:=by
 refine l2 _ ?_;unfold jn;exact ao.2 a
theorem pH{K:Bool→ac→Prop}(a:K false h):HC PG dz [.pointer none] [.c .bool] K h:=by
 refine kC _ ?_;unfold ie cL;exact al.2 a
theorem pI{K:Tr×Int→ac→Prop}(a:∀h',Upd No h h'→K (nI,4) h'):HC PG bR [.pointer none] AL K h:=by
 refine kD _ ?_;unfold el gn m3 bJ aj az cT uV jA cL qf;refine bD fun e b1 k1=>oV (ao.2 ?_)
 refine fV (c:=lS nI) (vs:=lS nI) b1 rfl fun d b3 b=>?_
 exact⟨_,vc b3 0,_,vc b3 1,_,vc b3 2,_,vc b3 3,_,vc b3 4,_,vc b3 5,a d (k1.own b (av _))⟩
theorem yp{K:Tr×Int→ac→Prop}(i:∀h',Upd No h h'→K (nI,4) h'):HC PG jk [.pointer none] AL K h:=by
 refine qU _ ?_;unfold me gn nv m3 qi bJ aj az c5 uV cL;refine bD fun m b1 k1=>pI fun k d=>oK (t:=nI) fun j b e=>Join.plain (al.2 ?_)
 refine⟨_,vc b 0,_,vc b 1,_,vc b 2,_,vc b 3,_,vc b 4,_,vc b 5,?_⟩;refine fV (c:=lS nI) (vs:=lS nI) ((d.tr e).get0 b1) rfl fun g a f=>?_
 exact⟨_,vc a 0,_,vc a 1,_,vc a 2,_,vc a 3,_,vc a 4,_,vc a 5,i g ((k1.tr (d.tr e)).own f (av _))⟩
theorem Ai{k:ByteArray}{K:ByteArray×Bool→ac→Prop}(a:K (⟨#[]⟩,false) h):HC PG jP [.pointer none,.string k] [.c .str,.c .bool] K h:=by
 refine rQ _ k ?_;unfold mV yU cT jA cL;exact ao.2 a
theorem Ah{K:Int→ac→Prop}(a:K 0 h):HC PG jO [.pointer none] [.c (.int .i64)] K h:=by
 refine rP _ ?_;unfold mU yU cT jA cL;exact ao.2 a
theorem BJ{K:Int→ac→Prop}(a:K 0 h):HC PG iM [.pointer none] [.c (.int .i64)] K h:=by
 refine nB _ ?_;unfold kN cL;exact ao.2 a
theorem wS{K:SliceV→ac→Prop}(a:K ⟨none,0,0⟩ h):HC PG iL [.pointer none] [.c .slice] K h:=by
 refine p5 _ ?_;unfold lG yU cT jA cL;exact ao.2 a
theorem vB{K:Tr×Bool→ac→Prop}(a:∀h',Upd No h h'→K (nI,false) h'):HC PG ia [.pointer none] [.agg [.int .i64,.int .u64,.int .u64,.int .u64,.ptr,.ptr],.c .bool] K h:=by
 refine pe _ ?_;unfold kM gn m3 bJ aj az cT uV jA cL;refine bD fun e b1 k1=>pH (ao.2 ?_)
 refine fV (c:=lS nI) (vs:=lS nI) b1 rfl fun d b3 b=>?_
 exact⟨_,vc b3 0,_,vc b3 1,_,vc b3 2,_,vc b3 3,_,vc b3 4,_,vc b3 5,a d (k1.own b (av _))⟩
theorem Ae(p:Pr){K:Int→ac→Prop}(b:∀h',Upd No h h'→K 4 h'):HC PG dg [.pointer none,.agg #[.string p.1,.string p.2]] [.c (.int .i64)] K h:=by
 refine jS _ p ?_;unfold g7 qj;refine bD fun d b1 k1=>bD fun c b2 a=>?_
 exact⟨_,vc (a.get0 b1) 0,oV (ao.2 (b c (k1.tr a)))⟩
theorem yu(k:ByteArray){K:Int→ac→Prop}(b:∀h',Upd No h h'→K 4 h'):HC PG gv [.pointer none,.string k] [.c (.int .i64)] K h:=by
 refine qV _ k ?_;unfold mf;refine bD fun d b1 k1=>bD fun c b2 a=>?_
 exact⟨_,vc (a.get0 b1) 0,oV (ao.2 (b c (k1.tr a)))⟩
theorem wW(t:Tr){K:Option Addr×Int→ac→Prop}(a:∀h',Upd No h h'→K (none,4) h'):HC PG dV [.pointer none,C8 t] [.c .ptr,.c (.int .i64)] K h:=by
 refine mJ _ t ?_;unfold ka qi bJ aj az Et;exact bD fun b b1 k1=>vg (ao.2 (a b k1))
theorem yq{pb cb cap:Nat}(p:PoolAt h pb cb cap [])(t:Tr)(s u:SliceV){K:Tr×Int→ac→Prop}(j:∀h',Upd No h h'→K (nI,6) h'):HC PG oQ [.pointer (some ⟨pb,0,none⟩),C8 t,.slice s.a s.len s.cap,.slice u.a u.len u.cap] AL K h:=by
 refine yH _ t s u ?_;unfold tP dT gg aw gn nv m3 qi su m4 bJ aj az yU cT uW uV jA cL dZ r9;refine bD fun m b1 k1=>bD fun k b2 e=>?_
 have b:=e.get0 b1;refine⟨_,vc b 0,_,vc b 1,_,vc b 2,_,vc b 3,_,vc b 4,_,vc b 5,?_⟩;refine pJ (p.upd0 (k1.tr e)) t fun i d=>ao.2 ?_
 refine fV (c:=lS nI) (vs:=lS nI) (d.get0 b2) rfl fun g a f=>?_
 exact⟨_,vc a 0,_,vc a 1,_,vc a 2,_,vc a 3,_,vc a 4,_,vc a 5,j g (((k1.tr e).tr d).own f k1.size)⟩
end
set_option maxRecDepth 100000 in
set_option maxHeartbeats 1000000 in
theorem yo{h:ac}(p:Pr):HC PG ol [.agg #[.string p.1,.string p.2]] [.c .bool] (fun b h'=>b=true∧Upd No h h') h:=by
 refine ul p ?_;unfold oy aw nv qj m3 qi su D1 m4;refine bD fun h1 b1 k1=>yz fun h3 D=>al.2 ?_
 refine yp fun h5 L=>oK (t:=nI) fun h7 b7 I=>pI fun h9 x=>oK (t:=nI) fun R T k=>?_
 have w:=k1.tr (D.tr (L.tr (I.tr (x.tr k))));have m:=(D.tr (L.tr (I.tr (x.tr k)))).get0 b1;refine⟨_,vc m 0,Ai (vB fun S C=>oK (t:=nI) fun W Y A=>wW nI fun f J=>?_)⟩
 have a:=C.tr (A.tr J);refine sS (n:=1) (av _) (by omega) fun K F g=>?_
 have g:PoolAt K (f.size+1) f.size 1 [1]:=g;have U:=aW g.2.1;have Q:=a.size;refine tp g nI fun h24 eb tb B s M H Z V=>?_
 refine pJ s nI fun O o=>?_
 refine yq (s.upd0 o) nI ⟨none,0,0⟩ ⟨none,0,0⟩ fun h28 u=>oK (t:=nI) fun E b30 G=>?_
 have z1:=aW b1;have d:=o.tr (u.tr G);have s1:=(D.tr (L.tr (I.tr (x.tr k)))).size;have c:Upd No f E:=(F.trans B fun y N=>.inr (by have N:y=f.size:=N;omega)).tr d
 have i:=c.get0 (a.get0 m);have v:=w.tr (a.tr c);refine⟨_,vc i 0,_,vc i 1,Ae p fun P j=>ao.2 ?_⟩
 have z:=j.get0 i;refine⟨_,vc z 0,yu p.1 fun X q=>ao.2 (ao.2 (ao.2 (ao.2 (ao.2 ?_))))⟩
 refine pH (ao.2 (Ah (BJ (wS (ao.2 (ao.2 (ao.2 ?_)))))));have e:=d.tr (j.tr q);refine nB _ ?_;unfold kN cL;refine al.2 ⟨_,rfl,_,vc (e.get0 H) 1,qN _ ?_⟩;unfold l5 jA;refine al.2 ⟨_,rfl,_,vc (e.get0 M) 1,ao.2 (ao.2 (ao.2 ⟨rfl,v.tr (j.tr q)⟩))⟩
end Go.Proofs
