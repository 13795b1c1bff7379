/- A part of the proof that the named laws of this program answer true, whatever the input. -/
import Derived.Test.YtajpljopgikpgaaGreatPart5
open Nat renaming le_refl→av
namespace Go.Proofs
open Go Go.Lift
section
variable {h:ac}
theorem oW{K:Int→ac→Prop}(a:K 4 h):HC PG d5 [.pointer none] [.c (.int .i64)] K h:=by
 refine l2 _ ?_;unfold jn;exact ao.2 a
theorem pI{K:Bool→ac→Prop}(a:K false h):HC PG dz [.pointer none] [.c .bool] K h:=by
 refine kC _ ?_;unfold ie cL;exact al.2 a
theorem pJ{K:Tr×Int→ac→Prop}(a:∀h',Upd No h h'→K (nI,4) h'):HC PG bR [.pointer none] AM K h:=by
 refine kD _ ?_;unfold el gn m3 bJ aj az cT uX jA cL qg;refine bD fun e b1 k1=>oW (ao.2 ?_)
 refine fV (c:=lS nI) (vs:=lS nI) b1 rfl fun d b3 b=>?_
 exact⟨_,vc b3 0,_,vc b3 1,_,vc b3 2,_,vc b3 3,_,vc b3 4,_,vc b3 5,a d (k1.own b (av _))⟩
theorem yq{K:Tr×Int→ac→Prop}(f:∀h',Upd No h h'→K (nI,4) h'):HC PG jk [.pointer none] AM K h:=by
 refine qV _ ?_;unfold me gn nv m3 qj bJ aj az c5 uX cL;refine bD fun m b1 k1=>pJ fun j e=>oL (t:=nI) fun k a d=>Join.plain (al.2 ?_)
 refine⟨_,vc a 0,_,vc a 1,_,vc a 2,_,vc a 3,_,vc a 4,_,vc a 5,?_⟩;refine fV (c:=lS nI) (vs:=lS nI) ((e.tr d).get0 b1) rfl fun g b i=>?_
 exact⟨_,vc b 0,_,vc b 1,_,vc b 2,_,vc b 3,_,vc b 4,_,vc b 5,f g ((k1.tr (e.tr d)).own i (av _))⟩
theorem Aj{k:ByteArray}{K:ByteArray×Bool→ac→Prop}(a:K (⟨#[]⟩,false) h):HC PG jP [.pointer none,.string k] [.c .str,.c .bool] K h:=by
 refine rR _ k ?_;unfold mV yV cT jA cL;exact ao.2 a
theorem Ai{K:Int→ac→Prop}(a:K 0 h):HC PG jO [.pointer none] [.c (.int .i64)] K h:=by
 refine rQ _ ?_;unfold mU yV cT jA cL;exact ao.2 a
theorem BK{K:Int→ac→Prop}(a:K 0 h):HC PG iM [.pointer none] [.c (.int .i64)] K h:=by
 refine nB _ ?_;unfold kN cL;exact ao.2 a
theorem wT{K:SliceV→ac→Prop}(a:K ⟨none,0,0⟩ h):HC PG iL [.pointer none] [.c .slice] K h:=by
 refine p6 _ ?_;unfold lG yV cT jA cL;exact ao.2 a
theorem vD{K:Tr×Bool→ac→Prop}(a:∀h',Upd No h h'→K (nI,false) h'):HC PG ia [.pointer none] [.agg [.int .i64,.int .u64,.int .u64,.int .u64,.ptr,.ptr],.c .bool] K h:=by
 refine pf _ ?_;unfold kM gn m3 bJ aj az cT uX jA cL;refine bD fun e b1 k1=>pI (ao.2 ?_)
 refine fV (c:=lS nI) (vs:=lS nI) b1 rfl fun d b3 b=>?_
 exact⟨_,vc b3 0,_,vc b3 1,_,vc b3 2,_,vc b3 3,_,vc b3 4,_,vc b3 5,a d (k1.own b (av _))⟩
theorem Ag(p:Pr){K:Int→ac→Prop}(b:∀h',Upd No h h'→K 4 h'):HC PG dg [.pointer none,.agg #[.string p.1,.string p.2]] [.c (.int .i64)] K h:=by
 refine jS _ p ?_;unfold g7 qk;refine bD fun d b1 k1=>bD fun c b2 a=>?_
 exact⟨_,vc (a.get0 b1) 0,oW (ao.2 (b c (k1.tr a)))⟩
theorem yv(k:ByteArray){K:Int→ac→Prop}(b:∀h',Upd No h h'→K 4 h'):HC PG gv [.pointer none,.string k] [.c (.int .i64)] K h:=by
 refine qW _ k ?_;unfold mf;refine bD fun d b1 k1=>bD fun c b2 a=>?_
 exact⟨_,vc (a.get0 b1) 0,oW (ao.2 (b c (k1.tr a)))⟩
theorem wX(t:Tr){K:Option Addr×Int→ac→Prop}(a:∀h',Upd No h h'→K (none,4) h'):HC PG dV [.pointer none,Da t] [.c .ptr,.c (.int .i64)] K h:=by
 refine mJ _ t ?_;unfold ka qj bJ aj az Eu;exact bD fun b b1 k1=>vi (ao.2 (a b k1))
theorem yr{pb cb cap:Nat}(p:PoolAt h pb cb cap [])(t:Tr)(s u:SliceV){K:Tr×Int→ac→Prop}(i:∀h',Upd No h h'→K (nI,6) h'):HC PG oT [.pointer (some ⟨pb,0,none⟩),Da t,.slice s.a s.len s.cap,.slice u.a u.len u.cap] AM K h:=by
 refine yI _ t s u ?_;unfold tQ dT gg aw gn nv m3 qj sw m4 bJ aj az yV cT uY uX jA cL dZ sd;refine bD fun m b1 k1=>bD fun k b2 e=>?_
 have b:=e.get0 b1;refine⟨_,vc b 0,_,vc b 1,_,vc b 2,_,vc b 3,_,vc b 4,_,vc b 5,?_⟩;refine pK (p.upd0 (k1.tr e)) t fun j d=>ao.2 ?_
 refine fV (c:=lS nI) (vs:=lS nI) (d.get0 b2) rfl fun g a f=>?_
 exact⟨_,vc a 0,_,vc a 1,_,vc a 2,_,vc a 3,_,vc a 4,_,vc a 5,i g (((k1.tr e).tr d).own f k1.size)⟩
end
set_option maxRecDepth 100000 in
set_option maxHeartbeats 1000000 in
theorem yp{h:ac}(p:Pr):HC PG om [.agg #[.string p.1,.string p.2]] [.c .bool] (fun b h'=>b=true∧Upd No h h') h:=by
 refine um p ?_;unfold oz aw nv qk m3 qj sw D2 m4;refine bD fun h1 b1 k1=>yA fun h3 K=>al.2 ?_
 refine yq fun h5 I=>oL (t:=nI) fun h7 b7 x=>pJ fun h9 B=>oL (t:=nI) fun h11 V i=>?_
 have E:=k1.tr (K.tr (I.tr (x.tr (B.tr i))));have s:=(K.tr (I.tr (x.tr (B.tr i)))).get0 b1;refine⟨_,vc s 0,Aj (vD fun Y J=>oL (t:=nI) fun S U C=>wX nI fun g A=>?_)⟩
 have a:=J.tr (C.tr A);refine sU (n:=1) (av _) (by omega) fun G M f=>?_
 have f:PoolAt G (g.size+1) g.size 1 [1]:=f;have O:=aW f.2.1;have W:=a.size;refine tq f nI fun X eb tb w o u H P T=>?_
 refine pK o nI fun h26 q=>?_
 refine yr (o.upd0 q) nI ⟨none,0,0⟩ ⟨none,0,0⟩ fun Z z=>oL (t:=nI) fun D Q L=>?_
 have z1:=aW b1;have d:=q.tr (z.tr L);have s1:=(K.tr (I.tr (x.tr (B.tr i)))).size;have c:Upd No g D:=(M.trans w fun y N=>.inr (by have N:y=g.size:=N;omega)).tr d
 have k:=c.get0 (a.get0 s);have v:=E.tr (a.tr c);refine⟨_,vc k 0,_,vc k 1,Ag p fun h34 j=>ao.2 ?_⟩
 have F:=j.get0 k;refine⟨_,vc F 0,yv p.1 fun R m=>ao.2 (ao.2 (ao.2 (ao.2 (ao.2 ?_))))⟩
 refine pI (ao.2 (Ai (BK (wT (ao.2 (ao.2 (ao.2 ?_)))))));have e:=d.tr (j.tr m);refine nB _ ?_;unfold kN cL;refine al.2 ⟨_,rfl,_,vc (e.get0 H) 1,qO _ ?_⟩;unfold l5 jA;refine al.2 ⟨_,rfl,_,vc (e.get0 u) 1,ao.2 (ao.2 (ao.2 ⟨rfl,v.tr (j.tr m)⟩))⟩
end Go.Proofs
