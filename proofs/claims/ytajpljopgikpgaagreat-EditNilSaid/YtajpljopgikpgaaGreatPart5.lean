/- A part of the proof that the named laws of this program answer true, whatever the input. -/
import Derived.Test.YtajpljopgikpgaaGreatPart4
import Derived.Test.YtajpljopgikpgaaGreatPart1
import Derived.Test.YtajpljopgikpgaaGreatLift3
import Derived.Test.YtajpljopgikpgaaGreatPart2
import Derived.Test.YtajpljopgikpgaaGreatPart0
open Array renaming getElem?_push→eX,size_setIfInBounds→gY,getElem?_setIfInBounds→bq
open List renaming range→cp,map_cons→fU,length_append→ae,mem_filter→fP,pairwise_append→bQ,pairwise_singleton→cW,cons_append→jr,take_append_drop→bc,length→iq,length_nil→dQ,mem_append_left→dG,mem_append_right→eD,mem_append→cn,mem_singleton→ag,mem_cons→ai,size_toArray→bG,append_nil→cR,flatMap_append→bh,flatMap_cons→ba,map_append→fQ,sum_append→jW,take_succ_eq_append_getElem→eT,getElem_mem→bO,take_length→cG,flatten_append→dS,flatten_cons→eV
open List.Pairwise renaming nil→eW
open Nat renaming lt_of_lt_of_le→cg,le_refl→av,zero_add→ar,add_zero→dE,zero_le→d4,le_trans→fB
namespace Go.Proofs
open Go Go.Lift
theorem zF{h:ac}{b:Nat}{K:Option Addr→ac→Prop}(a:K (some ⟨b,0,none⟩) h):HC PG iQ [.pointer (some ⟨b,0,none⟩)] [.c .ptr] K h:=by
 refine vO _ ?_;unfold qd;exact al.2 a
theorem wc{h:ac}{b:Nat}{K:Option Addr→ac→Prop}(a:K (some ⟨b,0,none⟩) h):HC PG mC [.pointer (some ⟨b,0,none⟩)] [.c .ptr] K h:=by
 refine vK _ ?_;unfold p9;exact al.2 a
structure Can(o w:Option Addr)(W S:Nat→Prop)(h:ac):Prop where
 by_:By h w o
 lt:∀y,W y→y<h.size
 sub:∀y,S y→W y
 tok:∀a,o=some a→W a.block
 off:∀a,w=some a→¬S a.block
theorem Can.upd0{o w:Option Addr}{W S:Nat→Prop}{h a:ac}(c:Can o w W S h)(k:Upd No h a):Can o w W S a:=⟨c.by_.upd0 k,fun y b=>cg (c.lt y b) k.size,c.sub,c.tok,c.off⟩
theorem vD{o w:Option Addr}{W S:Nat→Prop}{x:Hs}{h:ac}{b:Nat}{l:List Pr}(t:TrieO o W x h 13 b l S)(c:Can o w W S h)(Z:eO l)(hn:l.length≤1000000)(p:Pr){K:Option Addr×Bool→ac→Prop}
  (Y:∀h' b' S',Upd S h h'→TrieO o (fun y=>W y∨S' y) x h' 13 b' (f9 p l) S'→(∀y,S' y→(S y∨h.size≤y)∧y<h'.size)→K (some ⟨b',0,none⟩, !cK l p.1) h'):
  HC PG ny [.agg #[.int .u64 x.k0,.int .u64 x.k1,.int .u64 x.mask],.pointer w,.pointer (some ⟨b,0,none⟩),.agg #[.string p.1,.string p.2]] [.c .ptr,.c .bool] K h:=by
 refine xe (x.k0,x.k1,x.mask) w (some ⟨b,0,none⟩) p ?_;unfold rC aw gn qj m4 aj az B6 CW ED EE B5;refine bD fun D b1 k1=>bD fun B b2 Q=>?_
 have d:∀{h':ac},Upd No B h'→∀i,aP h' (adr ⟨h.size,0,none⟩ i)=(#[.int .u64 x.k0,.int .u64 x.k1,.int .u64 x.mask]:Array Value)[i]?:=fun k i=>vc (k.get0 (Q.get0 b1)) i
 have s:∀{h':ac},Upd No B h'→∀i,aP h' (adr ⟨D.size,0,none⟩ i)=(#[.string p.1,.string p.2]:Array Value)[i]?:=fun k i=>vc (k.get0 b2) i
 have z:=Upd.refl No B;have L:=k1.tr Q;let G:List Value:= [.int .u64 x.k0,.int .u64 x.k1,.int .u64 x.mask,.pointer w,.string p.1,.int .u64 (jY x p.1)]
 have fin:∀{f:ac} {j:Nat},Upd No B f→f[j]? =some (.cells G.toArray iw (0,0))→
   ∃v15:Int,aP f (adr ⟨j,0,none⟩ 0)=some (.int .u64 v15)∧
    ∃v16:Int,aP f (adr ⟨j,0,none⟩ 1)=some (.int .u64 v16)∧
    ∃v17:Int,aP f (adr ⟨j,0,none⟩ 2)=some (.int .u64 v17)∧
    ∃v18:Option Addr,aP f (adr ⟨j,0,none⟩ 3)=some (.pointer v18)∧
    ∃v19:ByteArray,aP f (adr ⟨j,0,none⟩ 4)=some (.string v19)∧
    ∃v20:Int,aP f (adr ⟨j,0,none⟩ 5)=some (.int .u64 v20)∧
    ∃v21:ByteArray,aP f (adr ⟨D.size,0,none⟩ 0)=some (.string v21)∧
    ∃v22:ByteArray,aP f (adr ⟨D.size,0,none⟩ 1)=some (.string v22)∧
    HC PG iQ [.pointer (some ⟨b,0,none⟩)] [.c .ptr] (fun(I:Option Addr) e=>
     ((aP e (adr ⟨D.size,0,none⟩ 0)=some (.string v21)∧aP e (adr ⟨D.size,0,none⟩ 1)=some (.string v22))∧
      ((aP e (adr ⟨j,0,none⟩ 0)=some (.int .u64 v15)∧aP e (adr ⟨j,0,none⟩ 1)=some (.int .u64 v16)∧aP e (adr ⟨j,0,none⟩ 2)=some (.int .u64 v17)∧aP e (adr ⟨j,0,none⟩ 3)=some (.pointer v18)∧aP e (adr ⟨j,0,none⟩ 4)=some (.string v19)∧aP e (adr ⟨j,0,none⟩ 5)=some (.int .u64 v20))∧
       HC PG d8 [.agg #[.int .u64 v15,.int .u64 v16,.int .u64 v17,.pointer v18,.string v19,.int .u64 v20],.pointer I,.agg #[.string v21,.string v22],.int .i64 0] [.c .ptr,.c .bool,.c .bool] (fun(C:(Option Addr)×Bool×Bool) J=>
        K (C.1,C.2.1) J) e))) f:=fun{f j} a M=>by
  have n:∀i,aP f (adr ⟨j,0,none⟩ i)=G.toArray[i]?:=fun i=>vc M i
  refine⟨_,n 0,_,n 1,_,n 2,_,n 3,_,n 4,_,n 5,p.1,s a 0,p.2,s a 1,zF ?_⟩;refine⟨⟨s a 0,s a 1⟩,⟨n 0,n 1,n 2,n 3,n 4,n 5⟩,?_⟩;have v:=L.tr a;have E:=c.upd0 v;have z4:=v.size;exact Co 13 (av _) p (TrieO.upd0 v t) E.by_ E.lt E.sub E.tok E.off Z hn fun R N ch U A t6 F _ _=>Y R N U (v.wide.tr A) t6 fun y H=>⟨(F y H).1.imp id fun h=>by omega,(F y H).2⟩
 have own:∀{P f:ac} {b:Nat},B.size≤b→Upd (· =b) P f→Upd No B P→Upd No B f:=fun hb T k=>k.trans T fun y H=>.inr (H▸hb)
 refine⟨_,d z 0,_,d z 1,_,d z 2,_,s z 0,_,d z 0,_,d z 1,_,d z 2,_,s z 0,?_,?_⟩
 ·refine vx fun P m=>⟨s m 0,⟨d m 0,d m 1,d m 2⟩,?_⟩
  refine bD fun f O q=>?_
  have a:=m.tr q;refine⟨s a 0,⟨d a 0,d a 1,d a 2⟩,?_⟩;refine fV (vs:=G) O rfl fun V X u=>fin (own m.size u a) X
 ·refine bD fun f O q=>?_
  refine⟨s q 0,⟨d q 0,d q 1,d q 2⟩,s q 0,⟨d q 0,d q 1,d q 2⟩,?_⟩;refine vx fun V u=>?_
  have g:=q.tr u;refine⟨s g 0,⟨d g 0,d g 1,d g 2⟩,?_⟩;exact fV (vs:=G) (u.get0 O) rfl fun R N A=>fin (own (av _) A g) N
def RadO(o:Option Addr)(W:Nat→Prop)(h:ac)(b:Nat)(l:List Pr)(S:Nat→Prop):Prop:=∃w F,RxO o W h b ⟨#[]⟩ w F S∧fK F∧∀k v,(k,v)∈kS w F↔∃p∈l,p.1.data.toList=k∧p.2=v
theorem u0{o w:Option Addr}{W S:Nat→Prop}{h:ac}{b:Nat}{l:List Pr}(t:RadO o W h b l S)(c:Can o w W S h)(u:eO l)(p:Pr)(G:p.1.size≤1000000){K:Option Addr×Bool→ac→Prop}
  (B:∀h' b' S' a,Upd S h h'→RadO o (fun y=>W y∨S' y) h' b' (f9 p l) S'→(∀y,S' y→(S y∨h.size≤y)∧y<h'.size)→K (some ⟨b',0,none⟩,a) h'):
  HC PG nu [.pointer w,.pointer (some ⟨b,0,none⟩),.agg #[.string p.1,.string p.2]] [.c .ptr,.c .bool] K h:=by
 refine w9 w (some ⟨b,0,none⟩) p ?_;unfold ry aw qj D4;refine bD fun N b1 k1=>?_
 refine⟨p.1,vc b1 0,p.2,vc b1 1,wc ⟨vc b1 1,vc b1 0,?_⟩⟩;obtain⟨O,F,H,C,z⟩:=t;have f:=c.upd0 k1;have M:=k1.size;refine zJ (p.1.size+1) p.1 p.2 (by omega) G (H.upd0 k1) f.by_ f.lt f.sub f.tok f.off C fun J b3 w' E D a L n s g j m I A=>?_
 refine B J b3 D a (k1.wide.tr n) ⟨w',E,s,j,fun k v=>?_⟩ fun y x=>⟨(g y x).1.imp id fun h=>by omega,(g y x).2⟩
 rw[wE,m k v,←wE,z k v];constructor
 ·rintro(⟨rfl,rfl⟩|⟨d,q,i,rfl,rfl⟩)
  ·exact⟨p,(kZ u).2 (.inl rfl),rfl,rfl⟩
  ·exact⟨q,(kZ u).2 (.inr ⟨i,fun e=>d (by rw[e])⟩),rfl,rfl⟩
 ·rintro⟨q,i,rfl,rfl⟩
  rcases(kZ u).1 i with rfl|⟨i,d⟩
  ·exact .inl ⟨rfl,rfl⟩
  ·exact .inr ⟨fun e=>d (yy.1 e),q,i,rfl,rfl⟩
end Go.Proofs
namespace Go.Proofs
open Go Go.Lift
def zO(p:Pr):Int:=if 256<p.1.size then 2 else if 4096<p.2.size then 3 else 0
theorem zN{p:Pr}(h:zO p=0):p.1.size≤256∧p.2.size≤4096:=by
 unfold zO at h;split at h
 ·cases h
 ·split at h
  ·cases h
  ·omega
theorem Cq{p:Pr}{h:ac}{K:Int→ac→Prop}(a:K (zO p) h):HC PG mD [.string p.1,.string p.2] [.c (.int .i64)] K h:=by
 refine vM p.1 p.2 ?_;unfold qb;unfold zO at a;refine bi (fun e=>?_) fun e=>bi (fun b=>?_) fun b=>?_
 ·rw[if_pos (by omega)]at a;exact a
 ·rw[if_neg (by omega),if_pos (by omega)]at a;exact a
 ·rw[if_neg (by omega),if_neg (by omega)]at a;exact a
end Go.Proofs
namespace Go.Proofs
open Go Go.Lift
def si(l:List Pr)(p:Pr):List Pr:=if zO p=0 then f9 p l else l
theorem RadO.upd{o:Option Addr}{W M S:Nat→Prop}{h a:ac}{b:Nat}{l:List Pr}(k:Upd M h a)(t:RadO o W h b l S)(d:∀y,S y→y<h.size)(hm:∀y,M y→(W y∧¬S y)∨h.size≤y):RadO o W a b l S:=let⟨w,F,r,c,e⟩:=t;⟨w,F,r.upd k d hm,c,e⟩
theorem RadO.less{o:Option Addr}{W W' S:Nat→Prop}{h:ac}{b:Nat}{l:List Pr}(hm:∀y,W' y→W y∨h.size≤y)(t:RadO o W h b l S):RadO o W' h b l S:=let⟨w,F,r,c,e⟩:=t;⟨w,F,r.less hm,c,e⟩
def TreeO(o:Option Addr)(W:Nat→Prop)(h:ac)(a:Int)(x:Hs)(t:Tr)(l:List Pr)(S:Nat→Prop):Prop:=(a=0∧∃b,t=(0,x.k0,x.k1,x.mask,some ⟨b,0,none⟩,none)∧TrieO o W x h 13 b l S)∨(a=1∧∃b,t=(1,0,0,0,none,some ⟨b,0,none⟩)∧RadO o W h b l S)
theorem AK{o:Option Addr}{W:Nat→Prop}{h:ac}{a:Int}{x:Hs}{t:Tr}{l:List Pr}(i:TreeIs W h a x t l):TreeO o W h a x t l No:=
 i.imp (fun⟨e,b,c,t⟩=>⟨e,b,c,vV t⟩) fun⟨e,b,c,t⟩=>⟨e,b,c,let⟨w,F,d,f,g⟩:=t.ex;⟨w,F,.inl ⟨d,fun _ h=>h⟩,f,g⟩⟩
theorem TreeO.upd{o:Option Addr}{W M S:Nat→Prop}{h f:ac}{a:Int}{x:Hs}{t:Tr}{l:List Pr}(k:Upd M h f)(i:TreeO o W h a x t l S)(d:∀y,S y→y<h.size)(hm:∀y,M y→(W y∧¬S y)∨h.size≤y):TreeO o W f a x t l S:=
 i.imp (fun⟨e,b,c,t⟩=>⟨e,b,c,TrieO.upd k t d hm⟩) fun⟨e,b,c,t⟩=>⟨e,b,c,t.upd k d hm⟩
theorem TreeO.upd0{o:Option Addr}{W S:Nat→Prop}{h f:ac}{a:Int}{x:Hs}{t:Tr}{l:List Pr}(k:Upd No h f)(i:TreeO o W h a x t l S):TreeO o W f a x t l S:=
 i.imp (fun⟨e,b,d,t⟩=>⟨e,b,d,TrieO.upd0 k t⟩) fun⟨e,b,d,w,F,r,c⟩=>⟨e,b,d,w,F,r.upd0 k,c⟩
theorem TreeO.less{o:Option Addr}{W W' S:Nat→Prop}{h:ac}(hm:∀b,W' b→W b∨h.size≤b){a:Int}{x:Hs}{t:Tr}{l:List Pr}(i:TreeO o W h a x t l S):TreeO o W' h a x t l S:=
 i.imp (fun⟨e,b,c,t⟩=>⟨e,b,c,TrieO.less hm t⟩) fun⟨e,b,c,t⟩=>⟨e,b,c,t.less hm⟩
theorem TreeO.freeze{o:Option Addr}{W W' S:Nat→Prop}{h:ac}(d:∀y,W' y→W y)(g:OwOk W' h o){a:Int}{x:Hs}{t:Tr}{l:List Pr}(i:TreeO o W h a x t l S)(f:∀y,S y→¬W' y):TreeIs W' h a x t l:=
 i.imp (fun⟨e,b,c,t⟩=>⟨e,b,c,TrieO.freeze d g t f⟩) fun⟨e,b,c,w,F,r,k,j⟩=>⟨e,b,c,⟨w,F,r.freeze d g f,k,j⟩⟩
theorem TreeO.read{o w:Option Addr}{W S:Nat→Prop}{h:ac}{b:Int}{x:Hs}{t:Tr}{l:List Pr}(i:TreeO o W h b x t l S)(by_:By h w o):TreeIs No h b x t l:=
 i.freeze (fun _ h=>h.elim) (fun a e=>⟨id,by_.plain a (by_.tok e)⟩) fun _ _ h=>h
theorem Can.pro{o w:Option Addr}{W S:Nat→Prop}{h b:ac}(c:Can o w W S h)(k:Upd No h b):Can o w (Pro W h b) S b:=⟨c.by_.upd0 k,Pro.lt c.lt k,fun y d=>.inl (c.sub y d),fun a e=>.inl (c.tok a e),c.off⟩
theorem TreeO.pro{o:Option Addr}{W S:Nat→Prop}{h b:ac}(k:Upd No h b){a:Int}{x:Hs}{t:Tr}{l:List Pr}(i:TreeO o W h a x t l S):TreeO o (Pro W h b) b a x t l S:=(i.less Pro.hm).upd0 k
theorem TreeO.loc{o:Option Addr}{W S d:Nat→Prop}{h f g j:ac}{b:Nat}{a:Int}{x:Hs}{t:Tr}{l:List Pr}(i:TreeO o (fun y=>Pro W h f y∨d y) g a x t l d)(k:Upd (· =b) g j)(q:h.size≤b)(m:b<f.size)(p:∀y,S y→y<h.size)(e:∀y,d y→(S y∨f.size≤y)∧y<g.size):TreeO o (fun y=>Pro W h f y∨d y) j a x t l d:=
 i.upd k (fun y c=>(e y c).2) fun y c=>by
  have c:y=b:=c;subst c;refine .inl ⟨.inl (.inr ⟨q,m⟩),fun n=>?_⟩
  rcases(e y n).1 with h|h
  ·have:=p y h;omega
  ·omega
theorem zE{o w:Option Addr}{W S:Nat→Prop}{x:Hs}{h:ac}{u:Int}{t:Tr}{l:List Pr}(i:TreeO o W h u x t l S)(c:Can o w W S h)(V:eO l)(hn:l.length≤1000000)(p:Pr){K:Tr×Int→ac→Prop}
  (G:∀h' v A,Upd S h h'→TreeO o (fun y=>W y∨A y) h' u x v (si l p) A→(∀y,A y→(S y∨h.size≤y)∧y<h'.size)→(zO p≠0→v=t)→K (v,zO p) h'):HC PG jf [C8 t,.pointer w,.agg #[.string p.1,.string p.2]] [.agg [.int .i64,.int .u64,.int .u64,.int .u64,.ptr,.ptr],.c (.int .i64)] K h:=by
 unfold si at G;have s:∀y,S y→y<h.size:=fun y a=>c.lt y (c.sub y a)
 refine qM t w p ?_;unfold l4 aw gn qj m3 qi m4 bJ aj az cT c5 uW uV B6;refine bD fun X b1 k1=>bD fun L b2 P=>bD fun T b3 M=>?_
 have z1:=aW b1;have z2:=aW b2;have z3:=aW b3;have s1:h.size≤X.size:=k1.size;have s2:X.size≤L.size:=P.size;have s3:=M.size;have B:=(k1.tr P).tr M;have n:=M.get0 (P.get0 b1);have F:=M.get0 b2;refine⟨_,vc F 0,_,vc F 1,Cq (p:=p) ?_⟩;by_cases e:zO p=0
 ·rw[if_pos e]at G
  have N:=zN e;rw[e]at G⊢;refine al.2 ?_;have Z:=i.pro B;have U:=c.pro B;have fin:∀{z C:ac} {v:Tr} {A:Nat→Prop},Upd S T z→TreeO o (fun y=>Pro W h T y∨A y) z u x v (f9 p l) A→(∀y,A y→(S y∨T.size≤y)∧y<z.size)→C[h.size]? =some (.cells (lS v).toArray bd (0,0))→Upd (· =h.size) z C→C[L.size]? =some (.cells (lS nI).toArray bd (0,0))→∀{D:ac},D[L.size]? =some (.cells (lS v).toArray bd (0,0))→Upd (· =L.size) C D→K (v,0) D:=fun{z C v A} J i4 d k f H {D} j m=>by
   have z4:=J.size;have z5:=f.size;have z6:=m.size;have i5:=i4.loc f (av _) (by omega) s d;have Y:=i5.loc m (by omega) (by omega) s fun y a=>⟨(d y a).1,by have:=(d y a).2;omega⟩
   refine G D v A (((B.wide.tr J).trans f fun y a=>.inr (by have a:y=h.size:=a;omega)).trans m fun y a=>.inr (by have a:y=L.size:=a;omega)) (Y.less fun y a=>.inl (a.imp .inl id)) (fun y a=>⟨(d y a).1.imp id fun h=>by omega,by have:=(d y a).2;omega⟩) fun h=>absurd rfl h
  rcases Z with⟨rfl,b,rfl,O⟩|⟨rfl,b,rfl,O⟩
  ·refine⟨_,vc n 0,al.2 ⟨_,xo n 1 0,_,xo n 1 1,_,xo n 1 2,_,vc n 4,p.1,vc F 0,p.2,vc F 1,?_⟩⟩
   refine vD O U V hn p fun z q S4 g Q d=>?_
   have I:∀{y},h.size≤y→¬S y:=fun a N=>by have:=s _ N;omega
   refine D3 (i:=4) (c':=(lS (0,x.k0,x.k1,x.mask,some ⟨q,0,none⟩,none)).toArray) (g.get n (I (av _))) (show 4<6 by decide) rfl fun C k f=>?_
   refine⟨_,vc k 0,_,vc k 1,_,vc k 2,_,vc k 3,_,vc k 4,_,vc k 5,?_⟩;have H:=f.oth (g.get b3 (I (by omega))) (by omega);refine fV (c:=lS nI) (vs:=lS (0,x.k0,x.k1,x.mask,some ⟨q,0,none⟩,none)) H rfl fun D j m=>?_
   exact⟨_,vc j 0,_,vc j 1,_,vc j 2,_,vc j 3,_,vc j 4,_,vc j 5,fin g (.inl ⟨rfl,q,rfl,Q⟩) d k f H j m⟩
  ·refine⟨_,vc n 0,ao.2 ⟨_,vc n 5,p.1,vc F 0,p.2,vc F 1,?_⟩⟩
   refine u0 O U V p (by omega) fun z q S4 R g Q d=>?_
   have I:∀{y},h.size≤y→¬S y:=fun a N=>by have:=s _ N;omega
   refine D3 (i:=5) (c':=(lS (1,0,0,0,none,some ⟨q,0,none⟩)).toArray) (g.get n (I (av _))) (show 5<6 by decide) rfl fun C k f=>?_
   refine⟨_,vc k 0,_,vc k 1,_,vc k 2,_,vc k 3,_,vc k 4,_,vc k 5,?_⟩;have H:=f.oth (g.get b3 (I (by omega))) (by omega);refine fV (c:=lS nI) (vs:=lS (1,0,0,0,none,some ⟨q,0,none⟩)) H rfl fun D j m=>?_
   exact⟨_,vc j 0,_,vc j 1,_,vc j 2,_,vc j 3,_,vc j 4,_,vc j 5,fin g (.inr ⟨rfl,q,rfl,Q⟩) d k f H j m⟩
 ·rw[if_neg e]at G
  rw[show(zO p !=0)=true by simpa using e]
  refine ao.2 ⟨_,vc n 0,_,vc n 1,_,vc n 2,_,vc n 3,_,vc n 4,_,vc n 5,?_⟩;refine fV (c:=lS nI) (vs:=lS t) b3 rfl fun z q g=>?_
  have E:=B.own g (by omega);exact⟨_,vc q 0,_,vc q 1,_,vc q 2,_,vc q 3,_,vc q 4,_,vc q 5,G z t S E.wide ((i.upd0 E).less fun y a=>.inl (a.elim id (c.sub y))) (fun y a=>⟨.inl a,by have:=s y a;have:=E.size;omega⟩) fun _=>rfl⟩
end Go.Proofs
namespace Go.Proofs
open Go Go.Lift
theorem Can.nil{W:Nat→Prop}{h:ac}(a:∀y,W y→y<h.size):Can none none W No h:=⟨.inl ⟨rfl,rfl⟩,a,fun _ h=>h.elim,fun _ h=>(by cases h),fun _ _ h=>h⟩
theorem TreeO.nil{W S:Nat→Prop}{h:ac}{a:Int}{x:Hs}{t:Tr}{l:List Pr}(i:TreeO none (fun y=>W y∨S y) h a x t l S):TreeIs W h a x t l:=by
 rcases i with⟨e,b,d,t⟩|⟨e,b,d,w,F,r,g,f⟩
 ·exact .inl ⟨e,b,d,TrieAt.less (fun y c=>.inl (.inl c)) t.off.1⟩
 ·exact .inr ⟨e,b,d,⟨w,F,RxN.less (fun y c=>.inl (.inl c)) r.off.1,g,f⟩⟩
end Go.Proofs
namespace Go.Proofs
open Go Go.Lift Go.Conc
def PoolAt(h:ac)(pb cb cap:Nat)(ids:List Int):Prop:=pb≠cb∧h[pb]? =some (.cells #[.chan (some cb)] 99 (0,0))∧∃s r,h[cb]? =some (.chan cap (ids.map fun i=>Value.int .i64 i).toArray false s r false)
theorem PoolAt.upd{M:Nat→Prop}{h c:ac}{pb cb cap:Nat}{ids:List Int}(p:PoolAt h pb cb cap ids)(k:Upd M h c)(e:¬M pb)(d:¬M cb):PoolAt c pb cb cap ids:=let⟨n,a,s,r,b⟩:=p;⟨n,k.get a e,s,r,k.get b d⟩
theorem PoolAt.upd0{h a:ac}{pb cb cap:Nat}{ids:List Int}(p:PoolAt h pb cb cap ids)(k:Upd No h a):PoolAt a pb cb cap ids:=p.upd k id id
def TokAt(h:ac)(tb pb:Nat)(id:Int)(a:Bool):Prop:=h[tb]? =some (.cells #[.pointer (some ⟨pb,0,none⟩),.int .i64 id,.bool a] jt (0,0))
theorem TokAt.by_{h:ac}{tb pb:Nat}{id:Int}{a:Bool}(t:TokAt h tb pb id a):By h (some ⟨tb,0,none⟩) (if a then some ⟨tb,0,none⟩else none):=.inr ⟨tb,_,id,a,rfl,t,rfl⟩
theorem sS{n:Nat}(o:1≤n)(q:n≤4096){h:ac}{K:Option Addr×Int→ac→Prop}(f:∀h',Upd No h h'→PoolAt h' (h.size+1) h.size n ((cp n).map fun j=>((j:Nat):Int)+1)→K (some ⟨h.size+1,0,none⟩,0) h'):HC PG nt [.int .i64 n] [.c .ptr,.c (.int .i64)] K h:=by
 refine⟨fun w k=>.inl ⟨Tryz.call18 _ w,(A8 o q (w:=w)).mono ?_⟩⟩
 subst k;rintro e w' ⟨rfl,ids,s,r,m,g,p⟩;have k1:Upd No w.heap ((w.heap.push (.chan n #[] false 0 0 false)).push (.cells #[.chan (some w.heap.size)] 99 (0,0))):=(Upd.push No w.heap _).tr (Upd.push No _ _);have a:ids=(((cp n).map fun j=>((j:Nat):Int)+1).map fun i=>Value.int .i64 i):=by rw[m];simp[Function.comp_def]
 have b:((w.heap.push (.chan n #[] false 0 0 false)).push (.cells #[.chan (some w.heap.size)] 99 (0,0)))[w.heap.size+1]? =some (.cells #[.chan (some w.heap.size)] 99 (0,0)):=by
  rw[eX,Array.size_push,if_pos rfl]
 rcases p with rfl|rfl
 ·refine⟨⟨rfl,rfl,rfl⟩,((some ⟨w.heap.size+1,0,none⟩,0):Option Addr×Int),rfl,f _ k1 ⟨by omega,b,s,r,?_⟩⟩
  rw[←a];exact g
 ·have d:=Upd.set (M:=(· =w.heap.size)) ((w.heap.push (.chan n #[] false 0 0 false)).push (.cells #[.chan (some w.heap.size)] 99 (0,0))) (.chan n ids.toArray false s r false) rfl
  refine⟨⟨rfl,rfl,rfl⟩,((some ⟨w.heap.size+1,0,none⟩,0):Option Addr×Int),rfl,f _ (k1.trans d fun y c=>.inr (by have c:y=w.heap.size:=c;omega)) ⟨by omega,d.get b (fun e=>by have e:w.heap.size+1=w.heap.size:=e;omega),s,r,?_⟩⟩
  rw[←a];exact g
theorem wx{h:ac}{pb cb cap:Nat}{i:Int}{ids:List Int}(p:PoolAt h pb cb cap (i::ids)){K:Option Addr×Int→ac→Prop}(f:∀h',Upd (· =cb) h h'→PoolAt h' pb cb cap ids→TokAt h' h.size pb i true→K (some ⟨h.size,0,none⟩,0) h'):HC PG eK [.pointer (some ⟨pb,0,none⟩)] [.c .ptr,.c (.int .i64)] K h:=by
 obtain⟨n,a,s,r,hc⟩:=p;refine⟨fun w c=>.inl ⟨Tryz.call32 _ w,?_⟩⟩
 subst c;rw[fU]at hc;refine(zD a hc).mono ?_;rintro e w' ⟨rfl,rfl⟩;have d:cb<w.heap.size:=(Array.getElem?_eq_some_iff.1 hc).1;have k1:=Upd.set (M:=(· =cb)) w.heap (.chan cap (ids.map fun i=>Value.int .i64 i).toArray false s (r+1) false) rfl
 have b:=k1.tr (Upd.push (· =cb) _ (.cells #[.pointer (some ⟨pb,0,none⟩),.int .i64 i,.bool true] jt (0,0)))
 refine⟨⟨rfl,rfl,rfl⟩,((some ⟨w.heap.size,0,none⟩,0):Option Addr×Int),rfl,f _ b ⟨n,b.get a n,s,r+1,?_⟩ ?_⟩
 ·show((w.heap.setIfInBounds cb _).push _)[cb]? =_
  rw[eX,gY,if_neg (by omega),bq,if_pos rfl,if_pos d]
 ·show((w.heap.setIfInBounds cb _).push _)[w.heap.size]? =_
  rw[eX,gY,if_pos rfl]
theorem ua{h:ac}{pb cb cap:Nat}(p:PoolAt h pb cb cap []){K:Option Addr×Int→ac→Prop}(c:K (none,6) h):HC PG eK [.pointer (some ⟨pb,0,none⟩)] [.c .ptr,.c (.int .i64)] K h:=by
 obtain⟨n,a,s,r,hc⟩:=p;refine⟨fun w b=>.inl ⟨Tryz.call32 _ w,?_⟩⟩
 subst b;refine(xr a hc).mono ?_;rintro e w' ⟨rfl,rfl⟩;exact⟨⟨rfl,rfl,rfl⟩,((none,6):Option Addr×Int),rfl,c⟩
theorem vg{h:ac}{K:Option Addr×Int→ac→Prop}(b:K (none,4) h):HC PG eK [.pointer none] [.c .ptr,.c (.int .i64)] K h:=by
 refine⟨fun w a=>.inl ⟨Tryz.call32 _ w,?_⟩⟩
 subst a;refine take_walkN.mono ?_;rintro e w' ⟨rfl,rfl⟩;exact⟨⟨rfl,rfl,rfl⟩,((none,4):Option Addr×Int),rfl,b⟩
theorem xS{h:ac}{pb cb cap tb:Nat}{id:Int}{ids:List Int}(p:PoolAt h pb cb cap ids)(t:TokAt h tb pb id true)(u:ids.length<cap){K:Int→ac→Prop}(q:∀h',Upd (fun y=>y=cb∨y=tb) h h'→PoolAt h' pb cb cap (ids++ [id])→TokAt h' tb pb id false→K 0 h'):HC PG lY [.pointer (some ⟨pb,0,none⟩),.pointer (some ⟨tb,0,none⟩)] [.c (.int .i64)] K h:=by
 obtain⟨n,d,s,r,hc⟩:=p;have c:pb≠tb:=fun e=>by
  subst e;have:=d.symm.trans t;simp at this
 have b:cb≠tb:=fun e=>by
  subst e;have:=hc.symm.trans t;simp at this
 refine⟨fun w k=>.inl ⟨Tryz.call39 _ w,?_⟩⟩
 subst k;refine(Bp d t hc (by simpa using u) c b).mono ?_;rintro e w' ⟨rfl,m,rfl⟩;have k1:=Upd.hset (M:=(· =tb)) w.heap (a:=⟨tb,2,none⟩) (.bool false) rfl
 have g:=Upd.set (M:=(· =cb)) (hset w.heap ⟨tb,2,none⟩ (.bool false)) (.chan cap ((ids.map fun i=>Value.int .i64 i).toArray.push (.int .i64 id)) false (s+1) r false) rfl
 have o:cb<(hset w.heap ⟨tb,2,none⟩ (.bool false)).size:=aW (k1.get hc fun e=>b e)
 refine⟨⟨rfl,rfl,rfl⟩,(0:Int),rfl,q _ ((k1.mono fun y f=>.inl (.inr f)).trans g fun y f=>.inl (.inl f)) ⟨n,g.get (k1.get d fun e=>c e) (fun e=>n e),s+1,r,?_⟩ (g.get ?_ (fun e=>b e.symm))⟩
 ·show((hset w.heap ⟨tb,2,none⟩ (.bool false)).setIfInBounds cb _)[cb]? =_
  rw[bq,if_pos rfl,if_pos o];simp
 ·have j:w.heap[tb]? =some (.cells #[.pointer (some ⟨pb,0,none⟩),.int .i64 id,.bool true] jt (0,0)):=t
  rw[tc j,gp j];rfl
end Go.Proofs
namespace Go.Proofs
open Go Go.Lift
end Go.Proofs
namespace Go.Proofs
structure WO{α:Type}(lt:α→α→Bool):Prop where
 irr:∀a,lt a a=false
 asy:∀a b,lt a b=true→lt b a=false
 ntr:∀a b c,lt a b=false→lt b c=false→lt a c=false
section
variable {α:Type} {lt:α→α→Bool}
def DZ(lt:α→α→Bool)(x a:α):Bool:= !lt a x&& !lt x a
def Srt(lt:α→α→Bool)(l:List α):Prop:=l.Pairwise fun a b=>lt b a=false
structure Eqf(lt:α→α→Bool)(l l':List α):Prop where
 len:l'.length=l.length
 flt:∀x,l'.filter (DZ lt x)=l.filter (DZ lt x)
structure St(lt:α→α→Bool)(l l':List α):Prop where
 eqf:Eqf lt l l'
 srt:Srt lt l'
theorem Eqf.rfl(l:List α):Eqf lt l l:=⟨_root_.rfl,fun _=>_root_.rfl⟩
theorem Eqf.tr{a b c:List α}(h:Eqf lt a b)(k:Eqf lt b c):Eqf lt a c:=⟨k.len.trans h.len,fun x=>(k.flt x).trans (h.flt x)⟩
theorem Eqf.app{a b a' c:List α}(h:Eqf lt a a')(k:Eqf lt b c):Eqf lt (a++b) (a'++c):=
 ⟨by rw[ae,ae,h.len,k.len],fun x=>by rw[List.filter_append,List.filter_append,h.flt,k.flt]⟩
theorem w6(w:WO lt)(a:α):DZ lt a a=true:=by unfold DZ;rw[w.irr];rfl
theorem Eqf.mem(w:WO lt){l b:List α}(h:Eqf lt l b){a:α}:a∈b↔a∈l:=by
 have e:=h.flt a;constructor
 ·intro hm
  have:a∈b.filter (DZ lt a):=fP.2 ⟨hm,w6 w a⟩;rw[e]at this;exact(fP.1 this).1
 ·intro hm
  have:a∈l.filter (DZ lt a):=fP.2 ⟨hm,w6 w a⟩;rw[←e]at this;exact(fP.1 this).1
theorem Srt.app{a b:List α}(h:Srt lt a)(k:Srt lt b)(c:∀x∈a,∀y∈b,lt y x=false):Srt lt (a++b):=bQ.2 ⟨h,k,c⟩
theorem Srt.left{a b:List α}(h:Srt lt (a++b)):Srt lt a:=(bQ.1 h).1
theorem Srt.right{a b:List α}(h:Srt lt (a++b)):Srt lt b:=(bQ.1 h).2.1
theorem Srt.nil:Srt lt ([]:List α):=eW
theorem Srt.one(a:α):Srt lt [a]:=cW ..
end
end Go.Proofs
namespace Go.Proofs
open Go Go.Lift
theorem TreeIs.plain{W:Nat→Prop}{h:ac}{e:Int}{x:Hs}{t:Tr}{l:List Pr}(i:TreeIs W h e x t l):(∀a,t.2.2.2.2.1=some a→cq h a)∧(∀a,t.2.2.2.2.2=some a→cq h a):=by
 rcases i with⟨rfl,b,rfl,t⟩|⟨rfl,b,rfl,t⟩
 ·obtain⟨s,g,_⟩:=t
  obtain⟨d,n,sp,sk,ow,f,_⟩:=g.ex;refine⟨fun a c=>?_,fun a c=>(by cases c)⟩
  cases c;exact⟨_,_,f,show 0<6 by decide⟩
 ·obtain⟨w,F,⟨val,s,ow,ks,f,_⟩,_⟩:=t.ex
  refine⟨fun a c=>(by cases c),fun a c=>?_⟩
  cases c;exact⟨_,_,f,show 0<5 by decide⟩
end Go.Proofs
namespace Go.Proofs
open Go Go.Lift
end Go.Proofs
namespace Go.Proofs
open Go Go.Lift
end Go.Proofs
namespace Go.Proofs
open Go Go.Lift
section
variable {α:Type} {f:α→List Value} {sz:Nat} {t:TypeId} {M:Nat→Prop} {h:ac} {s:SliceV} {P Q:List α} {x:α}
end
end Go.Proofs
namespace Go.Proofs
open Go Go.Lift
variable {z0:Hs}
end Go.Proofs
namespace Go.Proofs
open Go Go.Lift
end Go.Proofs
namespace Go.Proofs
open Go Go.Lift
end Go.Proofs
namespace Go.Proofs
open Go Go.Lift
end Go.Proofs
namespace Go.Proofs
open Go Go.Lift
end Go.Proofs
namespace Go.Proofs
open Go Go.Lift
end Go.Proofs
namespace Go.Proofs
open Go Go.Lift
end Go.Proofs
namespace Go.Proofs
open Go Go.Lift
theorem Cz{a b:ByteArray}:kl a b↔Op.bytesLess a.data.toList b.data.toList=true:=by unfold kl;rw[ByteArray.toList_eq,ByteArray.toList_eq]
theorem zx{a b:UInt8}{x y:List UInt8}:Op.bytesLess (a::x) (b::y)=true↔a.toNat<b.toNat∨(a=b∧Op.bytesLess x y=true):=by
 simp only[Op.bytesLess,Bool.or_eq_true,decide_eq_true_iff,Bool.and_eq_true,beq_iff_eq,UInt8.lt_iff_toNat_lt]
theorem BS{x y:List UInt8}:∀pre:List UInt8,Op.bytesLess (pre++x) (pre++y)=true↔Op.bytesLess x y=true
 | []=>Iff.rfl
 |a::pre=>by rw[jr,jr,zx,BS pre];simp
theorem Er{x y:List UInt8}(h:Op.bytesLess x y=true)(hx:x≠[])(c:y≠[]):hd x≤hd y:=by
 match x,y,hx,c with
 |a::x,b::y,_,_=>
  show a.toNat≤b.toNat
  rcases zx.1 h with h|⟨rfl,_⟩<;>omega
abbrev ky(p:Pr):List UInt8:=p.1.data.toList
def E2(l:List Pr)(a k:List UInt8)(v:ByteArray):Prop:=∃p∈l,ky p=a++k∧p.2=v
structure Beg(l:List Pr)(pre:List UInt8):Prop where
 up:eO l
 at_:∀p∈l,(ky p).take pre.length=pre∧pre.length<(ky p).length
theorem Beg.sub{l c:List Pr}{a:List UInt8}(b:Beg l a)(h:c.Sublist l):Beg c a:=⟨b.up.sublist h,fun p d=>b.at_ p (h.subset d)⟩
theorem Beg.split{l:List Pr}{a:List UInt8}(b:Beg l a){p:Pr}(c:p∈l):ky p=a++(ky p).drop a.length∧(ky p).drop a.length≠[]:=by
 obtain⟨d,f⟩:=b.at_ p c;refine⟨?_,fun e=>?_⟩
 ·conv=>lhs;rw[←bc a.length (ky p),d]
 ·have:=congrArg iq e
  rw[List.length_drop,dQ]at this;omega
def bt(n:Nat)(p:Pr):Nat:=hd ((ky p).drop n)
theorem Beg.mono{A B:List Pr}{a:List UInt8}(b:Beg (A++B) a){x y:Pr}(hx:x∈A)(c:y∈B):bt a.length x≤bt a.length y:=by
 have h:=(bQ.1 b.up).2.2 x hx y c;rw[Cz]at h;obtain⟨f,g⟩:=b.split (dG B hx);obtain⟨d,e⟩:=b.split (eD A c);change Op.bytesLess (ky x) (ky y)=true at h;rw[f,d,BS]at h;exact Er h g e
structure Row(L:List Bn)(D T:List Pr)(pre:List UInt8):Prop where
 can:∀n∈L,CM n
 up:L.Pairwise fun m n=>hd m.1<hd n.1
 lo:∀n∈L,∀p∈T,hd n.1<bt pre.length p
 got:∀k v,(∃n∈L,tV n k v)↔E2 D pre k v
theorem Row.nil(T:List Pr)(a:List UInt8):Row [] [] T a:=⟨fun n h=>(by cases h),eW,fun n h=>(by cases h),fun k v=>⟨fun⟨n,h,_⟩=>(by cases h),fun⟨p,h,_⟩=>(by cases h)⟩⟩
theorem Row.more{L:List Bn}{D A B:List Pr}{c:List UInt8}{n:Bn}{p:Pr}(r:Row L D (A++B) c)(u:Beg (A++B) c)(o:p∈A)(C:∀a∈A,bt c.length a=bt c.length p)(x:∀b f,B=b::f→bt c.length b≠bt c.length p)(hc:CM n)(s:hd n.1=bt c.length p)(t:∀k v,tV n k v↔E2 A c k v):Row (L++ [n]) (D++A) B c:=by
 refine⟨fun m hm=>?_,bQ.2 ⟨r.up,cW ..,fun a y b w=>?_⟩,fun m hm q d=>?_,fun k v=>?_⟩
 ·rcases cn.1 hm with hm|hm
  ·exact r.can m hm
  ·rw[ag.1 hm];exact hc
 ·rw[ag.1 w,s]
  exact r.lo a y p (dG _ o)
 ·rcases cn.1 hm with hm|hm
  ·exact r.lo m hm q (eD _ d)
  ·rw[ag.1 hm,s]
   rcases B with _|⟨i,f⟩
   ·cases d
   have E:=x i f rfl;have z:=u.mono o (List.mem_cons_self (a:=i) (l:=f));rcases ai.1 d with rfl|d
   ·omega
   ·have j:Beg ([i]++f) c:=u.sub (List.sublist_append_right A _)
    have:=j.mono (ag.2 rfl) d;omega
 ·constructor
  ·rintro⟨m,hm,g⟩
   rcases cn.1 hm with hm|hm
   ·obtain⟨q,d,e⟩:=(r.got k v).1 ⟨m,hm,g⟩
    exact⟨q,dG _ d,e⟩
   ·rw[ag.1 hm]at g
    obtain⟨q,d,e⟩:=(t k v).1 g;exact⟨q,eD _ d,e⟩
  ·rintro⟨q,d,e⟩
   rcases cn.1 d with d|d
   ·obtain⟨m,hm,g⟩:=(r.got k v).2 ⟨q,d,e⟩
    exact⟨m,dG _ hm,g⟩
   ·exact⟨n,eD _ (ag.2 rfl),(t k v).2 ⟨q,d,e⟩⟩
theorem Row.done{L:List Bn}{D:List Pr}{a:List UInt8}(r:Row L D [] a):fK (.ofL L)∧∀k v,rv (.ofL L) k v↔E2 D a k v:=by
 refine⟨eh.2 ?_,fun k v=>?_⟩
 ·rw[Fo.to_of];exact⟨r.up,r.can⟩
 ·rw[g4,Fo.to_of];exact r.got k v
end Go.Proofs
namespace Go.Proofs
open Go Go.Lift
theorem Kid.less{W W':Nat→Prop}{h:ac}(hm:∀b,W' b→W b∨h.size≤b){a:Option Addr}{n:Bn}:Kid W h a n→Kid W' h a n
 |⟨b,sl,e1,e2,e3⟩=>⟨b,sl,e1,e2,e3.less hm⟩
theorem Kid.updM{W M:Nat→Prop}{h c:ac}(k:Upd M h c)(hm:∀b,M b→W b∨h.size≤b){a:Option Addr}{n:Bn}:Kid W h a n→Kid W c a n
 |⟨b,sl,e1,e2,e3⟩=>⟨b,sl,e1,e2,e3.updM k hm⟩
theorem RxL.less{W W':Nat→Prop}{h:ac}(hm:∀b,W' b→W b∨h.size≤b){ks:List (Option Addr)}{L:List Bn}(r:RxL W h ks L):RxL W' h ks L:=⟨r.1,fun p a=>(r.2 p a).less hm⟩
theorem RxL.updM{W M:Nat→Prop}{h a:ac}(k:Upd M h a)(hm:∀b,M b→W b∨h.size≤b){ks:List (Option Addr)}{L:List Bn}(r:RxL W h ks L):RxL W a ks L:=⟨r.1,fun p c=>(r.2 p c).updM k hm⟩
end Go.Proofs
namespace Go.Proofs
open Go Go.Lift
theorem oK{h:ac}{t:Tr}{k:ac→Prop}(d:∀h',h'[h.size]? =some (.cells (lS t).toArray bd (0,0))→Upd No h h'→k h'):
  At (hnew h (lS nI) bd) (fun b=>nO b (some (bN h)) 0 (lS t)∧At (fX b (bN h) 0 (lS t)) k):=
 bD fun b b1 k1=>fV (c:=lS nI) (vs:=lS t) b1 rfl fun e b2 a=>d e b2 (k1.own a (av _))
end Go.Proofs
namespace Go.Proofs
open Go Go.Lift
theorem Cl{h:ac}{b n:Nat}{t:TypeId}{c d vs:List Value}(a:h[b]? =some (.cells (c++d).toArray t (0,0))) (g:c.length=n) (m:vs.length=d.length) {k:ac→Prop}
  (f:∀h',h'[b]? =some (.cells (c++vs).toArray t (0,0))→Upd (· =b) h h'→k h'):nO h (some (adr ⟨b,0,none⟩ n)) 0 vs∧At (fX h (adr ⟨b,0,none⟩ n) 0 vs) k:=by
 rw[aX,ar];have e:=eG vs h 0 n (c++d) a (by rw[ae];omega);refine⟨.inr ⟨_,rfl,fun j i=>by rw[aX];exact fq a (by rw[bG,ae];omega)⟩,bK ?_⟩
 rw[e];refine f _ ?_ (Upd.set h _ rfl);rw[gp a];congr 3
 subst g;rw[dE,List.take_left,List.drop_eq_nil_of_le (by rw[ae];omega),cR]
abbrev edL(pb tb:Nat)(t:Tr):List Value:= [.pointer (some ⟨pb,0,none⟩),.pointer (some ⟨tb,0,none⟩)]++lS t
def EdAt(h:ac)(eb pb tb:Nat)(t:Tr):Prop:=h[eb]? =some (.cells (edL pb tb t).toArray rc (0,0))
theorem Bc{h:ac}{tb pb:Nat}{ti:Int}{a:Bool}(k:TokAt h tb pb ti a){K:Bool→ac→Prop}(b:K a h):HC PG cA [.pointer (some ⟨tb,0,none⟩)] [.c .bool] K h:=by
 refine pA k.by_ ?_;cases a<;>exact b
theorem wT{h:ac}{eb pb tb:Nat}{t:Tr}{ti:Int}{a:Bool}(e:EdAt h eb pb tb t)(k:TokAt h tb pb ti a){K:Bool→ac→Prop}(b:K (!a) h):HC PG dz [.pointer (some ⟨eb,0,none⟩)] [.c .bool] K h:=by
 refine kC _ ?_;unfold ie cL;exact ao.2 ⟨_,rfl,_,vc e 1,Bc k b⟩
theorem qD{h:ac}{eb pb tb:Nat}{t:Tr}{ti:Int}{a:Bool}(e:EdAt h eb pb tb t)(k:TokAt h tb pb ti a){K:Int→ac→Prop}(b:K (if a then 0 else 5) h):HC PG d5 [.pointer (some ⟨eb,0,none⟩)] [.c (.int .i64)] K h:=by
 refine l2 _ ?_;unfold jn;refine al.2 (wT e k ?_);cases a
 ·exact ao.2 b
 ·exact al.2 b
theorem EdAt.upd{M:Nat→Prop}{h a:ac}{eb pb tb:Nat}{t:Tr}(e:EdAt h eb pb tb t)(k:Upd M h a)(hm:¬M eb):EdAt a eb pb tb t:=k.get e hm
theorem TokAt.upd{M:Nat→Prop}{h b:ac}{tb pb:Nat}{ti:Int}{a:Bool}(e:TokAt h tb pb ti a)(k:Upd M h b)(hm:¬M tb):TokAt b tb pb ti a:=k.get e hm
theorem HV.mono{P:Program}{V:Value}{args:List Value}{ks:List Kind}{K a:mo ks→ac→Prop}{h:ac}{f:FuncId}{cap:Array Value}(e:V=.func (.func f) #[] cap)(hc:HC P f (args++cap.toList) ks K h)(b:∀t h',K t h'→a t h'):HV P V args ks a h:=by
 subst e;exact HV.mk' (by simpa using hc.mono b)
abbrev AL:List Kind:= [.agg [.int .i64,.int .u64,.int .u64,.int .u64,.ptr,.ptr],.c (.int .i64)]
theorem wV{h:ac}{eb pb tb:Nat}{tu:Tr}{f:FuncId}{cap:Array Value}(e:EdAt h eb pb tb tu){K:Int→ac→Prop}
  (hc:HC PG f ([.pointer (some ⟨tb,0,none⟩)]++cap.toList) AL (fun(z:Tr×Int) o=>EdAt o eb pb tb tu∧∀i,Upd No o i→((z.2=0→∀h',EdAt h' eb pb tb z.1→Upd (· =eb) i h'→K 0 h')∧(z.2≠0→K z.2 i))) h):HC PG fx [.pointer (some ⟨eb,0,none⟩),.func (.func f) #[] cap] [.c (.int .i64)] K h:=by
 refine pd _ _ ?_;unfold kL nv m3 qi Dq bJ aj az uV cL Cb;refine⟨_,rfl,_,vc e 1,HV.mono rfl hc fun(z:Tr×Int) o hz=>?_⟩
 obtain⟨u,hz⟩:=hz;refine bD fun i t s=>fV (c:=lS nI) (vs:=lS z.1) t rfl fun v a n=>?_
 have g:=s.own n (av _);obtain⟨j,m⟩:=hz v g;refine CondP.intro (fun b=>?_) fun b=>?_
 ·have b:z.2=0:=by simpa using b
  refine⟨_,vc a 0,_,vc a 1,_,vc a 2,_,vc a 3,_,vc a 4,_,vc a 5,_,rfl,?_⟩;refine Cl (c:= [.pointer (some ⟨pb,0,none⟩),.pointer (some ⟨tb,0,none⟩)]) (d:=lS tu) (vs:=lS z.1) (u.upd g id) rfl rfl fun p q k=>?_
  rw[b];exact j b p q k
 ·exact m (by simpa using b)
structure EdO(W S:Nat→Prop)(h:ac)(eb pb tb:Nat)(ti:Int)(kind:Int)(x:Hs)(tu:Tr)(lu:List Pr):Prop where
 ed:EdAt h eb pb tb tu
 tk:TokAt h tb pb ti true
 iu:TreeO (some ⟨tb,0,none⟩) (fun y=>W y∨S y) h kind x tu lu S
 lt:∀y,(W y∨S y)→y<h.size
 we:W eb
 wt:W tb
 ap:∀y,S y→¬W y
 up:eO lu
 fit:Fit lu
theorem EdO.can{W S:Nat→Prop}{h:ac}{eb pb tb:Nat}{ti:Int}{b:Int}{x:Hs}{tu:Tr}{lu:List Pr}(e:EdO W S h eb pb tb ti b x tu lu):Can (some ⟨tb,0,none⟩) (some ⟨tb,0,none⟩) (fun y=>W y∨S y) S h:=
 ⟨e.tk.by_,e.lt,fun y c=>.inr c,fun a h=>by cases h;exact .inl e.wt,fun a h d=>by cases h;exact e.ap _ d e.wt⟩
theorem EdO.fin{W S j:Nat→Prop}{h m o w C i:ac}{eb pb tb b:Nat}{ti:Int}{d:Int}{x:Hs}{tu g:Tr}{lu f:List Pr}(e:EdO W S h eb pb tb ti d x tu lu)(A:Upd No h m)(u:Upd S m o)(I:TreeO (some ⟨tb,0,none⟩) (fun y=>Pro (fun y=>W y∨S y) h m y∨j y) o d x g f j)(k:∀y,j y→(S y∨m.size≤y)∧y<o.size)
  (t:Upd (· =b) o w)(J:h.size≤b)(F:b<m.size)(p:Upd No w C)(D:EdAt i eb pb tb g)(s:Upd (· =eb) C i)(up:eO f)(fit:Fit f):EdO W j i eb pb tb ti d x g f∧Upd (fun y=>S y∨y=eb) h i∧∀y,j y→(S y∨h.size≤y)∧y<i.size:=by
 have s3:=A.size;have O:=u.size;have N:=t.size;have M:=p.size;have L:=s.size;have q:∀y,S y→y<h.size:=fun y c=>e.lt y (.inr c)
 have K:=e.lt _ (.inl e.we);have G:=e.lt _ (.inl e.wt);have v:∀{z},W z→¬j z:=fun n h=>by
  rcases(k _ h).1 with h|h
  ·exact e.ap _ h n
  ·have:=e.lt _ (.inl n);omega
 have B:Upd (fun y=>S y∨y=eb) h i:=(((A.wide.tr (u.mono fun y c=>.inl (.inl c))).trans t fun y c=>.inr (by have c:y=b:=c;omega)).tr p.wide).trans s fun y c=>.inl (.inr c)
 have H:=I.loc t J F q k;have E:=(H.upd0 p).upd s (fun y c=>by have:=(k y c).2;omega) fun y c=>by
  have c:y=eb:=c;subst c;exact .inl ⟨.inl (.inl (.inl e.we)),v e.we⟩
 refine⟨⟨D,e.tk.upd B fun h=>?_,E.less fun y c=>.inl (c.imp (fun h=>.inl (.inl h)) id),fun y c=>c.elim (fun h=>?_) fun h=>?_,e.we,e.wt,fun y c n=>v n c,up,fit⟩,B,fun y c=>⟨(k y c).1.imp id fun h=>by omega,by have:=(k y c).2;omega⟩⟩
 ·rcases h with h|h
  ·exact e.ap _ h e.wt
  ·have a:=e.tk
   rw[h]at a;have a:=a.symm.trans e.ed;simp at a
 ·have:=e.lt y (.inl h);omega
 ·have:=(k y h).2;omega
set_option maxHeartbeats 1000000 in
theorem BH{W S:Nat→Prop}{h:ac}{eb pb tb:Nat}{ti:Int}{g:Int}{x:Hs}{tu:Tr}{lu:List Pr}(e:EdO W S h eb pb tb ti g x tu lu)(T:lu.length≤1000000)(p:Pr){K:Int→ac→Prop}
  (C:∀n b q,EdO W q n eb pb tb ti g x b (si lu p)→Upd (fun y=>S y∨y=eb) h n→(∀y,q y→(S y∨h.size≤y)∧y<n.size)→K (zO p) n)(f:Fit (si lu p)):HC PG dg [.pointer (some ⟨eb,0,none⟩),.agg #[.string p.1,.string p.2]] [.c (.int .i64)] K h:=by
 refine jS _ p ?_;unfold g7 qj;refine bD fun Z b1 k1=>bD fun V b2 B=>?_
 have U:=aW b1;have Y:=aW b2;have s1:=k1.size;have s2:=B.size;have F:=B.get0 b1;have d:=k1.tr B;refine⟨_,vc F 0,qD (e.ed.upd d id) (e.tk.upd d id) (al.2 ⟨_,vc F 0,?_⟩)⟩;refine wV (e.ed.upd d id) (p4 _ _ _ ?_);unfold lF gn m3 qi m4 bJ aj az yU cT jA cL dZ;refine bD fun h3 b3 z=>?_
 have H:=aW b3;have a:=d.tr z;have i:=e.ed.upd a id;have L:=z.get0 b2;have G:=z.get0 F;refine⟨_,vc G 0,_,rfl,_,xo i 2 0,_,xo i 2 1,_,xo i 2 2,_,xo i 2 3,_,xo i 2 4,_,xo i 2 5,p.1,vc L 0,p.2,vc L 1,?_⟩;have u:∀y,S y→y<h.size:=fun y Q=>e.lt y (.inr Q)
 refine zE (e.iu.pro a) (e.can.pro a) e.up T p fun h4 b q k J t R=>?_
 have X:=k.size;refine⟨vc (k.get G fun o=>by have:=u _ o;omega) 0,?_⟩
 refine fV (c:=lS nI) (vs:=lS b) (k.get b3 fun o=>by have:=u _ o;omega) rfl fun O m j=>?_
 refine⟨_,vc m 0,_,vc m 1,_,vc m 2,_,vc m 3,_,vc m 4,_,vc m 5,?_⟩;have I:EdAt O eb pb tb tu:=(i.upd k fun o=>e.ap _ o e.we).upd j (by have:=e.lt _ (.inl e.we);omega)
 have s:eO (si lu p):=by
  unfold si;split
  ·exact uy p e.up
  ·exact e.up
 refine⟨I,fun P v=>⟨fun hz n M w=>?_,fun hz=>?_⟩⟩
 ·obtain⟨E,A,D⟩:=e.fin a k J t j (by omega) H v M w s f
  have hz:zO p=0:=hz;rw[hz]at C;exact C n b q E A D
 ·have hz:zO p≠0:=hz
  have N:=R hz;subst N;obtain⟨E,A,D⟩:=e.fin a k J t j (by omega) H v (I.upd v id) (Upd.refl _ _) s f;exact C P b q E A D
end Go.Proofs
namespace Go.Proofs
open Go Go.Lift
theorem xB{W:Nat→Prop}{h:ac}{b:Nat}{sl:ByteArray}{w:Option ByteArray}{F:Fo}(r:RxN W h b sl w F){K:ByteArray×Bool→ac→Prop}(c:∀v,(∀u,w=some u→v=u)→K (v,w.isSome) h):HC PG hO [.pointer (some ⟨b,0,none⟩)] [.c .str,.c .bool] K h:=by
 refine o9 _ ?_;unfold kI dZ iW;obtain⟨val,s,ow,ks,a,hv,_⟩:=r;exact al.2 ⟨_,rfl,val,fa (i:=2) a,_,rfl,w.isSome,fa (i:=1) a,c val (vw hv)⟩
theorem zK{W:Nat→Prop}{h:ac}{b:Nat}{sl:ByteArray}{w:Option ByteArray}{F:Fo}(r:RxN W h b sl w F)(m:F.toL.length≤256){K:SliceV→ac→Prop}(j:∀s' a ks,OwnS kR 1 ax (fun y=>h.size≤y) a s' ks→RxL W a ks F.toL→Upd No h a→K s' a):HC PG iH [.pointer (some ⟨b,0,none⟩)] [.c .slice] K h:=by
 refine pV _ ?_;unfold ly ci;obtain⟨val,s,ow,ks,f,hv,g,_,e⟩:=r;have c:=nJ.1 e;refine al.2 ⟨_,rfl,s,fa (i:=3) f,?_⟩;refine uP g (by rw[c.1];omega) fun s' a k d=>j s' a ks k (c.upd0 d) d
theorem zV(lab:List UInt8)(w:Option ByteArray)(b a:Fo):qu (.cons lab w b a)=((w.map fun v=>(([]:List UInt8),v)).toList++qu b).map (fun p=>(lab++p.1,p.2))++qu a:=rfl
end Go.Proofs
namespace Go.Proofs
open Go Go.Lift
end Go.Proofs
namespace Go.Proofs
open Go Go.Lift
end Go.Proofs
namespace Go.Proofs
open Go Go.Lift
end Go.Proofs
namespace Go.Proofs
end Go.Proofs
namespace Go.Proofs
open Go Go.Lift
def wl(x:Hs):Nat→List Pr→List Pr
 |0,l=>l
 |m+1,l=>uu x (12-m) l++(py x (12-m) l).flatMap (wl x m)
def cw(x:Hs):Nat→List Pr→Nat
 |0,_=>2
 |m+1,l=>2+((py x (12-m) l).map (cw x m)).sum
structure Fr where
 sp:SliceV
 sk:SliceV
 n:Nat
 ps:List Pr
 ks:List (Nat×List Pr)
def Fr.raw(f:Fr):SliceV×SliceV:=(f.sp,f.sk)
def Fr.rem(x:Hs)(f:Fr):List Pr:=f.ps++f.ks.flatMap fun k=>wl x (f.n-1) k.2
theorem setCell{α:Type}{f:α→List Value}{c:Nat}{t:TypeId}{M:Nat→Prop}{h:ac}{s:SliceV}{P Q:List α}{x y:α}{j:Nat}{v:Value}(n:OwnS f c t M h s (P++x::Q))(K:j<c)(E:f y=(f x).set j v){a:Addr}(A:s.a=some a){i:Nat}(B:i=P.length){G:ac→Prop}(C:∀m,OwnS f c t M m s (P++y::Q)→Upd M h m→G m):
  Wr h (adr (adr a (i*c)) j)∧At (hset h (adr (adr a (i*c)) j) v) G:=by
 subst B;have o:=n.ne;have e:=n.len;have k:=n.cap;rcases n.blk with J|⟨b,d,g,w,hc,D⟩
 ·rw[ae,List.length_cons]at e;omega
 rw[A]at g;cases g;have I:(P.flatMap f).length=P.length*c:=gw o P;rw[bh,ba]at hc;have H:=(o x).1;have F:adr (adr ⟨b,0,none⟩ (P.length*c)) j=⟨b,P.length*c+j,none⟩:=by rw[aX,aX,ar]
 rw[F];have u:P.length*c+j<(P.flatMap f++(f x++Q.flatMap f)++d).toArray.size:=by
  simp only[bG,ae];omega
 refine⟨fq hc u,qJ hc fun m q p=>C m ⟨by rw[e];simp,o,k,.inr ⟨b,d,A,w,?_,D⟩⟩ (p.mono fun z hz=>.inl (by have hz:z=b:=hz;rw[hz];exact w))⟩
 rw[q];congr 3
 rw[bh,ba,E];apply Array.toList_inj.1;rw[Array.toList_setIfInBounds];simp only[List.append_assoc];rw[List.set_append_right _ _ (by omega),show P.length*c+j-(P.flatMap f).length=j by omega,List.set_append_left _ _ (by omega)]
end Go.Proofs
namespace Go.Proofs
open Go Go.Lift
end Go.Proofs
namespace Go.Proofs
open Go Go.Lift
def Below(W:Nat→Prop)(x:Hs)(h:ac)(m:Nat)(r:Option Addr)(l:List Pr):Prop:=(r=none∧l= [])∨∃b,r=some ⟨b,0,none⟩∧TrieAt W x h m b l
theorem Below.upd0{W:Nat→Prop}{x:Hs}{h a:ac}{m:Nat}{r:Option Addr}{l:List Pr}(k:Upd No h a)(t:Below W x h m r l):Below W x a m r l:=t.imp id fun⟨b,e,t⟩=>⟨b,e,TrieAt.upd0 k t⟩
theorem Below.less{W W':Nat→Prop}{x:Hs}{h:ac}{m:Nat}{r:Option Addr}{l:List Pr}(hm:∀b,W' b→W b∨h.size≤b)(t:Below W x h m r l):Below W' x h m r l:=t.imp id fun⟨b,e,t⟩=>⟨b,e,TrieAt.less hm t⟩
theorem Below.updM{W M:Nat→Prop}{x:Hs}{h a:ac}{m:Nat}{r:Option Addr}{l:List Pr}(k:Upd M h a)(hm:∀b,M b→W b∨h.size≤b)(t:Below W x h m r l):Below W x a m r l:=t.imp id fun⟨b,e,t⟩=>⟨b,e,TrieAt.updM k hm t⟩
end Go.Proofs
namespace Go.Proofs
open Go Go.Lift
end Go.Proofs
namespace Go.Proofs
open Go Go.Lift
end Go.Proofs
namespace Go.Proofs
open Go Go.Lift
end Go.Proofs
namespace Go.Proofs
open Go Go.Lift
end Go.Proofs
namespace Go.Proofs
open Go Go.Lift
end Go.Proofs
namespace Go.Proofs
open Go Go.Lift
theorem ww:∀F:Fo,(qu F).length=(F.toL.map fun n=>(kS n.2.1 n.2.2).length).sum
 | .nil=>rfl
 | .cons lab w kids rest=>by
  rw[zV,Fo.toL_cons,fU,List.sum_cons,←ww rest,ae,List.length_map];rfl
def DT(n:Bn):Prop:=∀{W:Nat→Prop} {h:ac} {b:Nat} {sl:ByteArray},RxN W h b sl n.2.1 n.2.2→(kS n.2.1 n.2.2).length≤1000000000→∀{K:Int→ac→Prop},(∀h',Upd No h h'→K (((kS n.2.1 n.2.2).length:Nat):Int) h')→HC PG ld [.pointer (some ⟨b,0,none⟩)] [.c (.int .i64)] K h
theorem zg{lab:List UInt8}{w:Option ByteArray}{F:Fo}(Q:F.toL.length≤256)(H:∀n∈F.toL,DT n):DT (lab,w,F):=by
 intro W h b sl r N K C;simp only at r N C;refine xa (some ⟨b,0,none⟩) ?_;unfold rz dT gg;have g:(kS w F).length=(w.map fun v=>(([]:List UInt8),v)).toList.length+(F.toL.map fun n=>(kS n.2.1 n.2.2).length).sum:=by
  rw[←ww,←ae];rfl
 refine Join.intro (fun t G=>t=(((w.map fun v=>(([]:List UInt8),v)).toList.length:Nat):Int)∧G=h) (fun R B=>?_) ?_
 ·refine xB r fun v _=>?_
  cases w with
  |none=>exact al.2 (B _ _ ⟨rfl,rfl⟩)
  |some u=>exact ao.2 (B _ _ ⟨rfl,rfl⟩)
 ·rintro t G ⟨rfl,rfl⟩
  generalize (w.map fun v=>(([]:List UInt8),v)).toList.length=c0 at g
  refine zK r Q fun s1 y ks z f k1=>?_
  have j:Sl kR 1 No y s1 ks:=z.sl fun _ _ _ h=>h
  have d:=j.len;rw[f.1]at d;refine LoopP.ghost (fun(i:Nat) (t:Int×Int) s=>t.1=((c0+((F.toL.take i).map fun n=>(kS n.2.1 n.2.2).length).sum:Nat):Int)∧t.2=(i:Int)∧i≤F.toL.length∧Upd No y s) (fun i=>F.toL.length-i) 0 ⟨by simp,rfl,d4 _,Upd.refl _ _⟩ ?_
  rintro I i ⟨T,ti⟩ s ⟨D,E,S,k⟩ J;simp only at D E;subst D E;have x:∀i,((F.toL.take i).map fun n=>(kS n.2.1 n.2.2).length).sum≤(F.toL.map fun n=>(kS n.2.1 n.2.2).length).sum:=fun i=>by
   conv=>rhs;rw[←bc i F.toL,fQ,jW]
   omega
  refine bi (fun c=>?_) fun q=>?_
  ·have c:i<F.toL.length:=by have:(i:Int)<(s1.len:Int):=c;omega
   obtain⟨L,O,m,_,A⟩:=(f.upd0 k).at c;obtain⟨a,P,_,hv⟩:=(j.upd k fun _ h=>h.elim).at0 m
   refine⟨⟨by simp only;omega,by simp only;omega⟩,a,P,some ⟨L,0,none⟩,hv,?_⟩
   have M:((F.toL.take (i+1)).map fun n=>(kS n.2.1 n.2.2).length).sum=((F.toL.take i).map fun n=>(kS n.2.1 n.2.2).length).sum+(kS F.toL[i].2.1 F.toL[i].2.2).length:=by
    rw[eT c,fQ,jW];simp
   have y:=x (i+1);refine H _ (bO c) A (by omega) fun U p=>?_
   rw[ke c (by omega)];have e:IntKind.wrap .i64 (((c0+((F.toL.take i).map fun n=>(kS n.2.1 n.2.2).length).sum:Nat):Int)+((kS F.toL[i].2.1 F.toL[i].2.2).length:Int))=((c0+((F.toL.take (i+1)).map fun n=>(kS n.2.1 n.2.2).length).sum:Nat):Int):=by
    rw[nR (by omega)];omega
   rw[e];exact J (i+1) _ _ ⟨rfl,rfl,c,k.tr p⟩ (by omega)
  ·have o:i=F.toL.length:=by have:¬(i:Int)<(s1.len:Int):=q;omega
   subst o;rw[cG,←g];exact C s (k1.tr k)
theorem sW:∀{F:Fo},fK F→∀n∈F.toL,DT n
 | .nil,_,n,a=>by simp[Fo.toL]at a
 | .cons lab w kids rest,h,n,a=>by
  rcases ai.1 a with rfl|a
  ·exact zg (pO h.2.2.1) (sW h.2.2.1)
  ·exact sW h.2.2.2.2 n a
theorem AO{W:Nat→Prop}{x:Hs}{h:ac}{t:Tr}{l:List Pr}(i:TreeIs W h 1 x t l)(g:eO l)(o:l.length≤60000){K:Int→ac→Prop}(k:∀h',Upd No h h'→K (l.length:Int) h'):HC PG eH [C8 t] [.c (.int .i64)] K h:=by
 refine mP t ?_;unfold jT qi bJ az;rcases i with⟨e,_⟩|⟨_,b,rfl,t⟩
 ·cases e
 refine bD fun p b1 k1=>⟨_,vc b1 0,ao.2 ⟨_,vc b1 5,?_⟩⟩
 obtain⟨w,F,m,c,n⟩:=(t.upd0 k1).ex;have d:=Cn c g n;have a:=congrArg iq d;unfold D9 at a;rw[List.length_map]at a;refine zg (lab:= []) (pO c) (sW c) m (by simp only;omega) fun f j=>?_
 simp only;rw[a];exact k f (k1.tr j)
end Go.Proofs
namespace Go.Proofs
open Go Go.Lift
end Go.Proofs
namespace Go.Proofs
open Go Go.Lift
abbrev Rt:=Int×Int×Int×Int×SliceV
def hx(a v:Int):Int:=if a=0 then v else 0
end Go.Proofs
namespace Go.Proofs
open Go Go.Lift
end Go.Proofs
namespace Go.Proofs
open Go Go.Lift
end Go.Proofs
namespace Go.Proofs
open Go.Lift
abbrev Ch:=ByteArray×ByteArray×ByteArray×Bool×Bool
end Go.Proofs
namespace Go.Proofs
open Go Go.Lift
end Go.Proofs
namespace Go.Proofs
open Go Go.Lift
theorem xT{h:ac}{b:Nat}{c:Array Value}{t:TypeId}(a:h[b]? =some (.cells c t (0,0))) (hc:0<c.size):cq h ⟨b,0,none⟩:=⟨c,t,a,hc⟩
theorem TrieAt.plain{W:Nat→Prop}{x:Hs}{h:ac}:∀{m b:Nat} {l:List Pr},TrieAt W x h m b l→cq h ⟨b,0,none⟩
 |0,_,_,t=>by obtain⟨_,_,_,a,_⟩:=BuckAt.ex t;exact xT a (by simp[dw])
 |m+1,_,_,⟨s,nd,_⟩=>by obtain⟨_,_,_,_,_,a,_⟩:=nd.ex;exact xT a (by simp[dw])
end Go.Proofs
namespace Go.Proofs
open Go Go.Lift
end Go.Proofs
namespace Go.Proofs
open Go Go.Lift
theorem RxN.plain{W:Nat→Prop}{h:ac}{b:Nat}{sl:ByteArray}{w:Option ByteArray}{F:Fo}(r:RxN W h b sl w F):cq h ⟨b,0,none⟩:=by
 obtain⟨val,s,ow,ks,a,_⟩:=r;exact xT a (by simp[qg])
end Go.Proofs
namespace Go.Proofs
open Go Go.Lift
end Go.Proofs
namespace Go.Proofs
open Go Go.Lift
end Go.Proofs
namespace Go.Proofs
open Go Go.Lift
end Go.Proofs
namespace Go.Proofs
open Go Go.Lift
end Go.Proofs
namespace Go.Proofs
open Go Go.Lift
end Go.Proofs
namespace Go.Proofs
open Go Go.Lift
end Go.Proofs
namespace Go.Proofs
open Go Go.Lift
abbrev b1:ByteArray:=⟨#[49]⟩
abbrev b2:ByteArray:=⟨#[50]⟩
abbrev b3:ByteArray:=⟨#[51]⟩
end Go.Proofs
namespace Go.Proofs
open Go Go.Lift
def look(l:List Pr)(k:ByteArray):Option ByteArray:=(l.find? fun p=>decide (p.1=k)).map (·.2)
end Go.Proofs
namespace Go.Proofs
open Go Go.Lift
end Go.Proofs
namespace Go.Proofs
open Go Go.Lift
def Df(c:Ch):Bool:=(!((!c.2.2.2.1&& !c.2.2.2.2)||(c.2.2.2.1&&(c.2.2.2.2&&decide (c.2.1=c.2.2.1)))))&&((c.2.2.2.1||decide (c.2.1=⟨#[]⟩))&&(c.2.2.2.2||decide (c.2.2.1=⟨#[]⟩)))
def one(c:Ch):Option Ch:=if Df c then some c else none
end Go.Proofs
namespace Go.Proofs
open Go Go.Lift
end Go.Proofs
namespace Go.Proofs
open Go Go.Lift
end Go.Proofs
namespace Go.Proofs
open Go Go.Lift
end Go.Proofs
namespace Go.Proofs
open Go Go.Lift
end Go.Proofs
namespace Go.Proofs
open Go Go.Lift
theorem AP(x:Hs)(lev:Nat)(l:List Pr):(uu x lev l).length+(py x lev l).flatten.length=l.length:=by
 have h:=qv x lev l 32;have d:(l.filter fun p=>decide (ck x lev p.1<32))=l:=List.filter_eq_self.2 fun p _=>decide_eq_true (zs ..)
 rw[d]at h;have:∀n,(fm (fun c=>xx (part x lev c l)) n).length+(fm (fun c=>rF (part x lev c l)) n).flatten.length=((cp n).map fun c=>(part x lev c l).length).sum:=by
  intro n;induction n with
  |zero=>simp[fm]
  |succ n ih=>
   rw[r6,r6,List.range_succ,fQ,jW];simp only[ae,dS,fU,List.map_nil,List.sum_cons,List.sum_nil,dE];generalize part x lev n l=q;have:(xx q).toList.length+(rF q).toList.flatten.length=q.length:=by
    match q with
    | []=>simp[xx,rF]
    | [a]=>simp[xx,rF]
    |a::b::q=>simp[xx,rF]
   omega
 have:=this 32;unfold uu py;omega
theorem yb{W:Nat→Prop}{x:Hs}{h:ac}{m:Nat}{ks:List (Option Addr)}:∀{ls:List (List Pr)},KidsAt W x h m ks ls→ks.length=ls.length∧∀i (c:i<ls.length),∃b,ks[i]? =some (some ⟨b,0,none⟩)∧TrieAt W x h m b ls[i]:=by
 induction ks with
 |nil=>intro ls;cases ls with
  |nil=>intro _;exact⟨rfl,fun i c=>absurd c (Nat.not_lt_zero _)⟩
  |cons a ls=>intro h;exact h.elim
 |cons k ks ihk=>intro ls;cases ls with
  |nil=>intro h;exact h.elim
  |cons a ls=>
   rintro⟨⟨b,rfl,tk⟩,h⟩;obtain⟨e,d⟩:=ihk h;refine⟨by simp[e],fun i c=>?_⟩
   cases i with
   |zero=>exact⟨b,rfl,tk⟩
   |succ i=>simp only[List.getElem?_cons_succ,List.getElem_cons_succ];exact d i (by simpa using c)
theorem Cx{x:Hs}{W:Nat→Prop}:∀(m:Nat),m≤13→∀{b:Nat} {l:List Pr} {h:ac},TrieAt W x h m b l→l.length≤60000→∀{K:Int→ac→Prop},(∀j,Upd No h j→K (l.length:Int) j)→HC PG lh [.pointer (some ⟨b,0,none⟩)] [.c (.int .i64)] K h:=by
 intro m;induction m with
 |zero=>
  intro _ b l h t hn K J;refine rx _ ?_;unfold nG dT gg;have S:∀{j},Upd No h j→BuckAt W j b l:=fun k=>BuckAt.upd t k fun _ h=>h.elim
  obtain⟨sp,sk,ow,y,p,hsk,_⟩:=(S (Upd.refl No h)).ex;refine sQ y p (by omega) fun s1 h1 u k1=>?_
  obtain⟨O,R,Q,s,Y,o,_⟩:=(S k1).ex;refine zi s o (by simp) fun s2 w q B=>?_
  have C:=q.len;rw[dQ]at C;refine LoopP.ghost (fun(_:Unit) (t:Int×Int) j=>t=((s1.len:Int),0)∧j=w) (fun _=>0) () ⟨rfl,rfl⟩ ?_
  rintro I _ t D ⟨rfl,e⟩ V;rw[e];refine bi (fun f=>absurd f (by simp only;omega)) fun _=>?_
  simp only;rw[u.len];exact J w (k1.tr B)
 |succ m ih=>
  intro hm b l h t hn K J;refine rx _ ?_;unfold nG dT gg;obtain⟨sl,nd,E⟩:=t;have X:∀c,c<32→SlotIs W x h m sl c (part x (12-m) c l):=E;have hd:∀{j},Upd No h j→∃d n sp sk ow,j[b]? =some (.cells (dw d n sp sk false ow) aM (0,0))∧Sl hH 2 W j sp (uu x (12-m) l)∧Sl j4 1 W j sk (fm sl.k 32):=fun{j} k=>by
   obtain⟨d,n,sp,sk,ow,y,bits,D,Z,_⟩:=(nd.upd k fun _ h=>h.elim).ex
   refine⟨d,n,sp,sk,ow,y,?_,Z⟩;rw[←Ck X];exact D
  have M:KidsAt W x h m (fm sl.k 32) (py x (12-m) l):=Be 32 X;have z:∀L∈py x (12-m) l,L.length≤60000:=fun L hL=>by
   obtain⟨_,c,rfl⟩:=zY hL;exact fB wy hn
  have P:=AP x (12-m) l;obtain⟨N,v⟩:=yb M;generalize uu x (12-m) l=So at hd P;generalize py x (12-m) l=Ma at z P N v;obtain⟨d,n,sp,sk,ow,y,p,_⟩:=hd (Upd.refl No h);refine sQ y p (by omega) fun s1 h1 u k1=>?_
  obtain⟨d1,n1,O,R,Q,s,_,o⟩:=hd k1;have T:=tf (g:=sl.k);refine zi s o (by omega) fun s2 w q B=>?_
  have S2:Sl j4 1 No w s2 (fm sl.k 32):=q.sl fun _ _ _ h=>h
  have hlk:=S2.len;refine LoopP.ghost (fun(i:Nat) (t:Int×Int) j=>t.1=((So.length+(Ma.take i).flatten.length:Nat):Int)∧t.2=(i:Int)∧i≤Ma.length∧Upd No w j) (fun i=>Ma.length-i) 0 ⟨by rw[u.len];simp,rfl,d4 _,Upd.refl _ _⟩ ?_
  rintro I i ⟨tn,ti⟩ D ⟨U,C,hi,A⟩ V;simp only at U C;subst U C;refine bi (fun f=>?_) fun H=>?_
  ·have f:i<Ma.length:=by simp only at f;omega
   obtain⟨kb,F,tk⟩:=v i f;obtain⟨a,ha,_,hv⟩:=(S2.upd A fun _ h=>h.elim).at0 F
   refine⟨⟨by simp only;omega,by simp only;omega⟩,a,ha,some ⟨kb,0,none⟩,hv,?_⟩
   have p:(Ma.take i).flatten.length+Ma[i].length≤Ma.flatten.length:=by
    have e:Ma=Ma.take i++Ma[i]::Ma.drop (i+1):=by rw[List.getElem_cons_drop,bc]
    have:=congrArg (fun L=>(List.flatten L).length) e
    simp only[dS,eV,ae]at this;omega
   refine ih (by omega) (TrieAt.upd0 ((k1.tr B).tr A) tk) (z _ (bO f)) fun Z k4=>?_
   simp only;rw[ke f (by omega),nR (by omega)];refine V (i+1) _ _ ⟨?_,rfl,f,A.tr k4⟩ (by omega);rw[eT f,dS];simp only[eV,List.flatten_nil,cR,ae];omega
  ·have G:i=Ma.length:=by simp only at H;omega
   subst G;simp only;rw[cG,P];exact J D ((k1.tr B).tr A)
theorem yY{W:Nat→Prop}{x:Hs}{h:ac}{a:Int}{t:Tr}{l:List Pr}(i:TreeIs W h a x t l)(g:eO l)(e:l.length≤60000){K:Int→ac→Prop}(d:∀h',Upd No h h'→K (l.length:Int) h'):HC PG eH [C8 t] [.c (.int .i64)] K h:=by
 rcases i with⟨rfl,b,rfl,c⟩|⟨rfl,b,rfl,c⟩
 ·refine mP _ ?_
  unfold jT qi bJ az;refine bD fun k b1 k1=>⟨_,vc b1 0,al.2 ⟨_,vc b1 4,?_⟩⟩
  exact Cx 13 (av _) (TrieAt.upd0 k1 c) e fun f j=>d f (k1.tr j)
 ·exact AO (x:=x) (.inr ⟨rfl,b,rfl,c⟩) g e d
end Go.Proofs
namespace Go.Proofs
open Go Go.Lift
end Go.Proofs
namespace Go.Proofs
open Go Go.Lift
def byN(s:ByteArray)(i:Nat):Nat:=if h:i<s.size then(s[i]'h).toNat else 0
def hv(s:ByteArray):Nat→Nat→Nat
 |_,0=>0
 |p,c+1=>hv s (p+1) c*256+byN s p
end Go.Proofs
namespace Go.Proofs
open Go Go.Lift
end Go.Proofs
namespace Go.Proofs
open Go Go.Lift
section
variable {bu:Bool} {s:SliceV} {q q':Nat→List Pr} {kk kk':Nat→Option Addr} {i:Nat}
end
end Go.Proofs
namespace Go.Proofs
open Go Go.Lift
end Go.Proofs
namespace Go.Proofs
open Go Go.Lift
end Go.Proofs
namespace Go.Proofs
open Go Go.Lift
end Go.Proofs
namespace Go.Proofs
open Go Go.Lift
end Go.Proofs
namespace Go.Proofs
open Go Go.Lift
end Go.Proofs
namespace Go.Proofs
open Go Go.Lift
end Go.Proofs
namespace Go.Proofs
open Go Go.Lift
end Go.Proofs
namespace Go.Proofs
open Go Go.Lift
theorem Eo{h:ac}{eb pb tb cb cap:Nat}{ids:List Int}{tu:Tr}{ti:Int}{a:Bool}(e:EdAt h eb pb tb tu)(k:TokAt h tb pb ti a)(p:PoolAt h pb cb cap ids):eb≠cb∧eb≠tb∧tb≠cb:=by
 obtain⟨n,b,s,r,hc⟩:=p;refine⟨fun h=>?_,fun h=>?_,fun h=>?_⟩
 ·subst h;have:=e.symm.trans hc;simp at this
 ·subst h;have:=e.symm.trans k;simp at this
 ·subst h;have:=k.symm.trans hc;simp at this
theorem tp{h:ac}{pb cb cap:Nat}{i:Int}{ids:List Int}(p:PoolAt h pb cb cap (i::ids))(t:Tr){K:Option Addr×Int→ac→Prop}(g:∀h' eb tb,Upd (· =cb) h h'→PoolAt h' pb cb cap ids→TokAt h' tb pb i true→EdAt h' eb pb tb t→h.size≤eb→h.size≤tb→K (some ⟨eb,0,none⟩,0) h'):HC PG dV [.pointer (some ⟨pb,0,none⟩),C8 t] [.c .ptr,.c (.int .i64)] K h:=by
 refine mJ _ t ?_;unfold ka qi bJ aj az Et;refine bD fun m b1 k1=>?_
 have n:=aW b1;have o:cb<h.size:=by obtain⟨_,_,_,_,hc⟩:=p;exact aW hc
 have s1:=k1.size;refine wx (p.upd0 k1) fun k b e d=>al.2 ?_
 have a:=b.get b1 (show ¬h.size=cb by omega)
 have s3:=b.size;refine⟨_,vc a 0,_,vc a 1,_,vc a 2,_,vc a 3,_,vc a 4,_,vc a 5,bD fun j f c=>?_⟩
 exact g j k.size m.size ((k1.wide.tr b).tr c.wide) (e.upd0 c) (d.upd c fun h=>h) f (by omega) s1
theorem pJ{h:ac}{pb cb cap:Nat}(p:PoolAt h pb cb cap [])(t:Tr){K:Option Addr×Int→ac→Prop}(a:∀h',Upd No h h'→K (none,6) h'):HC PG dV [.pointer (some ⟨pb,0,none⟩),C8 t] [.c .ptr,.c (.int .i64)] K h:=by
 refine mJ _ t ?_;unfold ka qi bJ aj az Et;exact bD fun b b1 k1=>ua (p.upd0 k1) (ao.2 (a b k1))
theorem yr{h:ac}{eb pb tb cb cap:Nat}{ids:List Int}{tu:Tr}{ti:Int}(e:EdAt h eb pb tb tu)(k:TokAt h tb pb ti true)(p:PoolAt h pb cb cap ids)(o:ids.length<cap){K:Tr×Int→ac→Prop}(m:∀h',Upd (fun y=>y=cb∨y=tb) h h'→PoolAt h' pb cb cap (ids++ [ti])→TokAt h' tb pb ti false→EdAt h' eb pb tb tu→K (tu,0) h'):el (some ⟨eb,0,none⟩) K h:=by
 obtain⟨u,z,x⟩:=Eo e k p;unfold el gn m3 bJ aj az cT uV jA cL qf;refine bD fun w b1 k1=>?_
 have B:cb<h.size:=by obtain⟨_,_,_,_,hc⟩:=p;exact aW hc
 have A:=aW k;have s1:=k1.size;have f:=e.upd k1 fun h=>h
 refine qD f (k.upd k1 fun h=>h) (al.2 ⟨_,rfl,_,vc f 0,_,rfl,_,vc f 1,?_⟩)
 refine xS (p.upd0 k1) (k.upd k1 fun h=>h) o fun v d j n=>?_
 have b:=f.upd d (by omega);refine⟨_,rfl,_,xo b 2 0,_,xo b 2 1,_,xo b 2 2,_,xo b 2 3,_,xo b 2 4,_,xo b 2 5,?_⟩;refine fV (c:=lS nI) (vs:=lS tu) (d.get b1 (by omega)) rfl fun q b3 a=>?_
 refine⟨_,vc b3 0,_,vc b3 1,_,vc b3 2,_,vc b3 3,_,vc b3 4,_,vc b3 5,?_⟩;have s2:=d.size;have t:=aW e;obtain⟨_,g,_⟩:=id p;have s:=aW g;exact m q ((k1.wide.tr d).trans a fun y i=>.inr (by have i:y=h.size:=i;omega)) (j.upd a (by omega) (by omega)) (n.upd a (by omega)) (b.upd a (by omega))
theorem wU{h:ac}{eb pb tb cb cap:Nat}{ids:List Int}{tu:Tr}{ti:Int}(e:EdAt h eb pb tb tu)(k:TokAt h tb pb ti true)(p:PoolAt h pb cb cap ids)(a:ids.length<cap){K:Tr×Int→ac→Prop}(b:∀h',Upd (fun y=>y=cb∨y=tb) h h'→PoolAt h' pb cb cap (ids++ [ti])→TokAt h' tb pb ti false→EdAt h' eb pb tb tu→K (tu,0) h'):HC PG bR [.pointer (some ⟨eb,0,none⟩)] AL K h:=
 kD _ (yr e k p a b)
theorem BI{h:ac}{eb pb tb:Nat}{tu:Tr}{ti:Int}(e:EdAt h eb pb tb tu)(k:TokAt h tb pb ti false)(p:Pr){K:Int→ac→Prop}(d:∀h',Upd No h h'→K 5 h'):HC PG dg [.pointer (some ⟨eb,0,none⟩),.agg #[.string p.1,.string p.2]] [.c (.int .i64)] K h:=by
 refine jS _ p ?_;unfold g7 qj;refine bD fun f b1 k1=>bD fun c b2 b=>?_
 have a:=k1.tr b;exact⟨_,vc (b.get0 b1) 0,qD (e.upd a fun h=>h) (k.upd a fun h=>h) (ao.2 (d c a))⟩
end Go.Proofs
namespace Go.Proofs
open Go Go.Lift
theorem EdO.end_{W S:Nat→Prop}{h f:ac}{eb pb tb cb:Nat}{ti:Int}{b:Int}{x:Hs}{tu:Tr}{lu:List Pr}(e:EdO W S h eb pb tb ti b x tu lu)(c:W cb)(k:Upd (fun y=>y=cb∨y=tb) h f)(t:TokAt f tb pb ti false):TreeIs No f b x tu lu:=
 (e.iu.upd k (fun y d=>e.lt y (.inr d)) fun y d=>by
  rcases d with rfl|rfl
  ·exact .inl ⟨.inl c,fun h=>e.ap _ h c⟩
  ·exact .inl ⟨.inl e.wt,fun h=>e.ap _ h e.wt⟩).freeze (W':=No) (fun _ h=>h.elim) (fun a h=>by cases h;exact⟨id,_,_,t,by simp⟩) fun _ _ h=>h
theorem EdO.upd0{W S:Nat→Prop}{h b:ac}{eb pb tb:Nat}{ti:Int}{a:Int}{x:Hs}{tu:Tr}{lu:List Pr}(e:EdO W S h eb pb tb ti a x tu lu)(k:Upd No h b):EdO W S b eb pb tb ti a x tu lu:=
 ⟨e.ed.upd k fun h=>h,e.tk.upd k fun h=>h,e.iu.upd0 k,fun y c=>cg (e.lt y c) k.size,e.we,e.wt,e.ap,e.up,e.fit⟩
theorem Ag{W:Nat→Prop}{h:ac}{eb pb tb:Nat}{ti:Int}{a:Int}{x:Hs}{t:Tr}{l:List Pr}(e:EdAt h eb pb tb t)(k:TokAt h tb pb ti true)(i:TreeIs W h a x t l)(lt:∀y,W y→y<h.size)(we:W eb)(wt:W tb)(up:eO l)(fit:Fit l):EdO W No h eb pb tb ti a x t l:=
 ⟨e,k,AK (i.less fun y b=>.inl (b.elim id fun h=>h.elim)),fun y b=>b.elim (lt y) fun h=>h.elim,we,wt,fun _ h=>h.elim,up,fit⟩
set_option maxRecDepth 100000 in
theorem yz{h:ac}{K:Bool→ac→Prop}(hk:∀s,Upd No h s→K true s):HC PG nx [] [.c .bool] K h:=by
 refine xd ?_;unfold rB nv m3 qi m4 bJ aj az zg3 yU;refine sS (n:=1) (av _) (by omega) fun C k2 F=>?_
 have F:PoolAt C (h.size+1) h.size 1 [1]:=F;have z2:=aW F.2.1;refine Ci (W:=fun y=>y<C.size) (x:=⟨0,0,0⟩) (fun _ h=>h) (.inl rfl) fun I t i4 L=>oK (t:=t) fun h6 o G=>?_
 have z6:=aW o;have s4:=L.size;refine⟨_,vc o 0,_,vc o 1,_,vc o 2,_,vc o 3,_,vc o 4,_,vc o 5,?_⟩;refine tp (F.upd0 (L.tr G)) t fun j eb tb m J A w he ht=>?_
 have s14:=m.size;have ze:=aW w;have zt:=aW A;let W:Nat→Prop:=fun y=>y<C.size∨h6.size≤y∧y<j.size
 have u:TreeIs W j 0 ⟨0,0,0⟩ t []:=((((i4.less (W':=fun y=>y<C.size∨I.size≤y) fun _ h=>h).upd0 G).updM m fun y a=>.inl (.inl (by have a:y=h.size:=a;omega))).less fun y a=>.inl (a.imp id fun h=>by omega))
 have i6:TreeIs (fun y=>y=h.size) h6 0 ⟨0,0,0⟩ t []:=(i4.less (W':=fun y=>y=h.size) fun y a=>.inl (by have a:y=h.size:=a;show y<C.size;omega)).upd0 G
 have e:=Ag (W:=W) w A u (fun y a=>by rcases a with h|h<;>omega) (.inr ⟨he,ze⟩) (.inr ⟨ht,zt⟩) eW (fun p H=>by cases H)
 refine Join.intro (fun b s=>b=false∧∃tu S,EdO W S s eb (h.size+1) tb 1 0 ⟨0,0,0⟩ tu [(⟨#[97]⟩,⟨#[]⟩)]∧Upd (fun y=>S y∨y=eb) j s∧∀y,S y→j.size≤y∧y<s.size) (fun R hR=>?_) ?_
 ·refine al.2 (al.2 ?_)
  refine BH e (by simp) (⟨#[97]⟩,⟨#[]⟩) (fun s Y S' e' k' D=>?_) (fun p H=>?_)
  ·have er:zO (⟨#[97]⟩,⟨#[]⟩)=0:=rfl
   rw[er];refine hR _ _ ⟨rfl,Y,S',e',k'.mono fun y a=>a.elim (fun h=>h.elim) fun h=>.inl (.inr h),fun y a=>⟨(D y a).1.elim (fun h=>h.elim) id,(D y a).2⟩⟩
  ·have:p=(⟨#[97]⟩,⟨#[]⟩):=by
    have hw:si [] ((⟨#[97]⟩,⟨#[]⟩):Pr)= [(⟨#[97]⟩,⟨#[]⟩)]:=rfl;rw[hw]at H;exact ag.1 H
   rw[this];exact⟨by decide,by decide⟩
 ·rintro _ h17 ⟨rfl,tu,S,q,i,M⟩
  refine al.2 ?_;have T:∀{z},z<j.size→¬S z:=fun hz h=>by have:=(M _ h).1;omega
  have hne:h.size+1≠eb∧h.size≠eb:=by omega
  have Q:=J.upd i (fun h=>h.elim (T (by omega)) fun h=>by omega) (fun h=>h.elim (T (by omega)) fun h=>by omega)
  refine wU q.ed q.tk Q (by simp) fun P k p21 B Z=>?_
  have X:=q.end_ (cb:=h.size) (.inl (by omega)) k B;have z17:=i.size;have z21:=k.size;have b14:=m.get o (show ¬I.size=h.size by omega)
  have b21:=k.get (i.get b14 (fun h=>h.elim (T (by omega)) fun h=>by omega)) (show ¬(I.size=h.size∨I.size=tb) by omega)
  have v:Upd No h P:=(((k2.tr (L.tr G)).trans m fun y a=>.inr (by have a:y=h.size:=a;omega)).trans i fun y a=>.inr (a.elim (fun h=>by have:=(M _ h).1;omega) fun h=>by omega)).trans k fun y a=>.inr (by rcases a with h|h<;>omega)
  refine oK (t:=tu) fun h23 g E=>ao.2 ⟨_,vc g 0,_,vc g 1,_,vc g 2,_,vc g 3,_,vc g 4,_,vc g 5,?_⟩
  refine yY (X.upd0 E) (cW _ _) (by simp) fun h31 k31=>ao.2 ?_
  have c:=E.tr k31;refine BI (Z.upd c fun h=>h) (B.upd c fun h=>h) (⟨#[98]⟩,⟨#[]⟩) fun U O=>ao.2 ?_
  have d:=c.tr O;have f:=d.get0 b21;refine⟨_,vc f 0,_,vc f 1,_,vc f 2,_,vc f 3,_,vc f 4,_,vc f 5,?_⟩;have V:TreeIs No U 0 ⟨0,0,0⟩ t []:=((((u.updM i fun y a=>a.elim (fun h=>.inr (M y h).1) fun h=>.inl (.inr ⟨by omega,by omega⟩)).less (W':=W) fun y a=>.inl a).updM k fun y a=>.inl (a.elim (fun h=>.inl (by omega)) fun h=>.inr ⟨by omega,by omega⟩)).less fun _ h=>h.elim).upd0 d
  refine yY V eW (by simp) fun h41 N=>hk h41 (v.tr (d.tr N))
end Go.Proofs
namespace Go.Proofs
open Go Go.Lift
def Mv(U:Nat→Prop)(h:ac)(a:Nat→Prop)(b:ac):Prop:=Upd U h b∧∀y,a y→U y∨h.size≤y
section
variable {U U' U1 U2 M:Nat→Prop} {h h' h1 h2:ac}
theorem Mv.refl(U:Nat→Prop)(h:ac):Mv U h U h:=⟨Upd.refl _ _,fun _ h=>.inl h⟩
theorem Mv.tr(a:Mv U h U1 h1)(b:Mv U1 h1 U2 h2):Mv U h U2 h2:=⟨a.1.trans b.1 a.2,fun y c=>(b.2 y c).elim (a.2 y) fun h=>.inr (fB a.1.size h)⟩
theorem Mv.new(a:∀y,U' y→U y∨h.size≤y):Mv U h U' h:=⟨Upd.refl _ _,a⟩
theorem Mv.upM(k:Upd M h h')(hm:∀y,M y→U y∨h.size≤y):Mv U h U h':=⟨k.mono hm,fun _ h=>.inl h⟩
theorem Mv.get(a:Mv U h U' h'){b:Nat}{o:Obj}(c:h[b]? =some o) (d:¬U b):h'[b]? =some o:=a.1.get c d
theorem Mv.not(a:Mv U h U' h'){b:Nat}{o:Obj}(c:h[b]? =some o) (e:¬U b):¬U' b:=fun d=>(a.2 b d).elim e fun h=>by have:=aW c;omega
theorem TreeIs.mv{a:Int}{x:Hs}{t:Tr}{l:List Pr}(i:TreeIs U h a x t l)(m:Mv U h U' h'):TreeIs U' h' a x t l:=
 ((i.less (W':=fun y=>U y∨h.size≤y) fun _ h=>h).updM m.1 fun _ b=>.inl (.inl b)).less fun y b=>.inl (m.2 y b)
end
structure Ed where
 eb:Nat
 tb:Nat
 ti:Int
 lv:Bool
 tu:Tr
 lu:List Pr
 S:Nat→Prop
def tok(e:Ed):Option Addr:=if e.lv then some ⟨e.tb,0,none⟩else none
section
variable {A A' M:Nat→Prop} {h h':ac} {pb cb cap n m:Nat} {ids ids':List Int} {kind:Int} {x:Hs} {es:List Ed}
end
end Go.Proofs
namespace Go.Proofs
open Go Go.Lift
end Go.Proofs
namespace Go.Proofs
open Go Go.Lift
end Go.Proofs
namespace Go.Proofs
open Go Go.Lift
end Go.Proofs
namespace Go.Proofs
open Go Go.Lift
end Go.Proofs
namespace Go.Proofs
open Go Go.Lift
end Go.Proofs
namespace Go.Proofs
open Go Go.Lift
end Go.Proofs
namespace Go.Proofs
open Go Go.Lift
end Go.Proofs
namespace Go.Proofs
open Go Go.Lift
section
variable {A:Nat→Prop} {h:ac} {pb cb cap n:Nat} {ids:List Int} {kind:Int} {x:Hs} {es:List Ed} {i:Nat} {e:Ed}
end
end Go.Proofs
namespace Go.Proofs
open Go Go.Lift
def sb(s:SliceV)(y:Nat):Prop:=s.cap≠0∧∃a,s.a=some a∧y=a.block
section
variable {α:Type} {f:α→List Value} {sz:Nat} {ty:TypeId} {M:Nat→Prop} {h:ac} {s so:SliceV} {xs out:List α}
theorem _root_.Go.Lift.OwnS.sub(o:OwnS f sz ty M h s xs):∀y,sb s y→M y∧y<h.size:=fun y ⟨hc,a,i,c⟩=>by
 rcases o.blk with j|⟨b,e,d,hm,g,_⟩
 ·exact absurd j hc
 ·rw[i]at d
  cases d;exact⟨c▸hm,c▸aW g⟩
theorem _root_.Go.Lift.OwnS.one{x:α}{b:Nat}(a:∀x,(f x).length=sz∧0<sz)(c:h[b]? =some (.cells (f x).toArray ty (0,0))):OwnS f sz ty (sb ⟨some ⟨b,0,none⟩,1,1⟩) h ⟨some ⟨b,0,none⟩,1,1⟩ [x]:=
 ⟨rfl,a,av _,.inr ⟨b,[],rfl,⟨by simp,_,rfl,rfl⟩,by simpa using c,by simp⟩⟩
end
abbrev i1(n:Int):List Value:= [.int .i64 n]
abbrev b1V(b:Bool):List Value:= [.bool b]
abbrev r4L(n:Int)(s1 s2 s3:SliceV):List Value:= [.int .i64 n,.slice s1.a s1.len s1.cap,.slice s2.a s2.len s2.cap,.slice s3.a s3.len s3.cap]
structure R4(h:ac)(rb:Nat)(s1 s2 s3:SliceV)(ids:List Int)(lv:List Bool)(is:List Int):Prop where
 bl:∃n,h[rb]? =some (.cells (r4L n s1 s2 s3).toArray xt (0,0))
 o1:OwnS i1 1 CQ (sb s1) h s1 ids
 o2:OwnS b1V 1 mq (sb s2) h s2 lv
 o3:OwnS i1 1 CQ (sb s3) h s3 is
end Go.Proofs
namespace Go.Proofs
open Go Go.Lift
abbrev s0:SliceV:=⟨none,0,0⟩
abbrev s1A(b:Nat):SliceV:=⟨some ⟨b,0,none⟩,1,1⟩
def EI(c:Nat):List Int:=(cp c).map fun j=>((j:Nat):Int)+1
end Go.Proofs
namespace Go.Proofs
open Go Go.Lift
end Go.Proofs
namespace Go.Proofs
open Go Go.Lift
structure Sp where
 T:Nat→Prop
 Q:ac→Prop
 loc:∀{M:Nat→Prop} {h h':ac},Q h→Upd M h h'→(∀y,T y→¬M y)→Q h'
section
variable {Ss:List Sp} {h h':ac} {M:Nat→Prop} {s s':Sp} {i:Nat}
end
section
variable {Ss:List Sp} {h h':ac} {pb cb cap n m:Nat} {ids ids':List Int} {kind:Int} {x:Hs} {es es':List Ed} {s s':Sp} {i:Nat} {M:Nat→Prop}
end
end Go.Proofs
namespace Go.Proofs
open Go Go.Lift
abbrev p1(a:Option Addr):List Value:= [.pointer a]
structure Xd where
 b:Nat
 k:Nat
 ru:Rt
 fz:Bool
structure WG where
 sl:SliceV
 sm:SliceV
 se:SliceV
 sx:SliceV
 s1:SliceV
 s2:SliceV
 s3:SliceV
 lt:List Tr
 lr:List Rt
 le:List (Option Addr)
 lx:List (Option Addr)
 ids:List Int
 lv:List Bool
 is:List Int
 xs:List Xd
def g0(b1 b2:Nat)(s1:SliceV)(t:Tr)(r:Rt)(n:Nat):WG:=⟨s1A b1,s1A b2,s0,s0,s1,s0,s0,[t],[r],[],[],EI n,[],[],[]⟩
end Go.Proofs
