/- A part of the proof that the named laws of this program answer true, whatever the input. -/
import Derived.Test.YtajpljopgikpgaaGreatPart4
import Derived.Test.YtajpljopgikpgaaGreatPart1
import Derived.Test.YtajpljopgikpgaaGreatLift3
import Derived.Test.YtajpljopgikpgaaGreatPart2
import Derived.Test.YtajpljopgikpgaaGreatPart0
open Array renaming getElem?_push→eX,size_setIfInBounds→gY,getElem?_setIfInBounds→bq
open List renaming range→cp,map_cons→fU,length_append→ae,mem_filter→fP,pairwise_append→bQ,pairwise_singleton→cW,cons_append→jr,take_append_drop→bc,length→iq,length_nil→dQ,mem_append_left→dG,mem_append_right→eD,mem_append→cn,mem_singleton→ag,mem_cons→ai,size_toArray→bG,append_nil→cR,flatMap_append→bh,flatMap_cons→ba,map_append→fQ,sum_append→jW,take_succ_eq_append_getElem→eT,getElem_mem→bO,take_length→cG,flatten_append→dS,flatten_cons→eV
open List.Pairwise renaming nil→eW
open Nat renaming lt_of_lt_of_le→cg,le_refl→av,zero_add→ar,add_zero→dE,zero_le→d4,le_trans→fB
namespace Go.Proofs
open Go Go.Lift
theorem zG{h:ac}{b:Nat}{K:Option Addr→ac→Prop}(a:K (some ⟨b,0,none⟩) h):HC PG iQ [.pointer (some ⟨b,0,none⟩)] [.c .ptr] K h:=by
 refine vQ _ ?_;unfold qe;exact al.2 a
theorem wd{h:ac}{b:Nat}{K:Option Addr→ac→Prop}(a:K (some ⟨b,0,none⟩) h):HC PG mC [.pointer (some ⟨b,0,none⟩)] [.c .ptr] K h:=by
 refine vM _ ?_;unfold qa;exact al.2 a
structure Can(o w:Option Addr)(W S:Nat→Prop)(h:ac):Prop where
 by_:By h w o
 lt:∀y,W y→y<h.size
 sub:∀y,S y→W y
 tok:∀a,o=some a→W a.block
 off:∀a,w=some a→¬S a.block
theorem Can.upd0{o w:Option Addr}{W S:Nat→Prop}{h a:ac}(c:Can o w W S h)(k:Upd No h a):Can o w W S a:=⟨c.by_.upd0 k,fun y b=>cg (c.lt y b) k.size,c.sub,c.tok,c.off⟩
theorem vF{o w:Option Addr}{W S:Nat→Prop}{x:Hs}{h:ac}{b:Nat}{l:List Pr}(t:TrieO o W x h 13 b l S)(c:Can o w W S h)(Y:eO l)(hn:l.length≤1000000)(p:Pr){K:Option Addr×Bool→ac→Prop}
  (U:∀h' b' S',Upd S h h'→TrieO o (fun y=>W y∨S' y) x h' 13 b' (f9 p l) S'→(∀y,S' y→(S y∨h.size≤y)∧y<h'.size)→K (some ⟨b',0,none⟩, !cK l p.1) h'):
  HC PG ny [.agg #[.int .u64 x.k0,.int .u64 x.k1,.int .u64 x.mask],.pointer w,.pointer (some ⟨b,0,none⟩),.agg #[.string p.1,.string p.2]] [.c .ptr,.c .bool] K h:=by
 refine xf (x.k0,x.k1,x.mask) w (some ⟨b,0,none⟩) p ?_;unfold rD aw gn qk m4 aj az B7 CY EE EF B6;refine bD fun F b1 k1=>bD fun A b2 R=>?_
 have d:∀{h':ac},Upd No A h'→∀i,aP h' (adr ⟨h.size,0,none⟩ i)=(#[.int .u64 x.k0,.int .u64 x.k1,.int .u64 x.mask]:Array Value)[i]?:=fun k i=>vc (k.get0 (R.get0 b1)) i
 have q:∀{h':ac},Upd No A h'→∀i,aP h' (adr ⟨F.size,0,none⟩ i)=(#[.string p.1,.string p.2]:Array Value)[i]?:=fun k i=>vc (k.get0 b2) i
 have z:=Upd.refl No A;have J:=k1.tr R;let H:List Value:= [.int .u64 x.k0,.int .u64 x.k1,.int .u64 x.mask,.pointer w,.string p.1,.int .u64 (jY x p.1)]
 have fin:∀{f:ac} {j:Nat},Upd No A f→f[j]? =some (.cells H.toArray iw (0,0))→
   ∃v15:Int,aP f (adr ⟨j,0,none⟩ 0)=some (.int .u64 v15)∧
    ∃v16:Int,aP f (adr ⟨j,0,none⟩ 1)=some (.int .u64 v16)∧
    ∃v17:Int,aP f (adr ⟨j,0,none⟩ 2)=some (.int .u64 v17)∧
    ∃v18:Option Addr,aP f (adr ⟨j,0,none⟩ 3)=some (.pointer v18)∧
    ∃v19:ByteArray,aP f (adr ⟨j,0,none⟩ 4)=some (.string v19)∧
    ∃v20:Int,aP f (adr ⟨j,0,none⟩ 5)=some (.int .u64 v20)∧
    ∃v21:ByteArray,aP f (adr ⟨F.size,0,none⟩ 0)=some (.string v21)∧
    ∃v22:ByteArray,aP f (adr ⟨F.size,0,none⟩ 1)=some (.string v22)∧
    HC PG iQ [.pointer (some ⟨b,0,none⟩)] [.c .ptr] (fun(M:Option Addr) e=>
     ((aP e (adr ⟨F.size,0,none⟩ 0)=some (.string v21)∧aP e (adr ⟨F.size,0,none⟩ 1)=some (.string v22))∧
      ((aP e (adr ⟨j,0,none⟩ 0)=some (.int .u64 v15)∧aP e (adr ⟨j,0,none⟩ 1)=some (.int .u64 v16)∧aP e (adr ⟨j,0,none⟩ 2)=some (.int .u64 v17)∧aP e (adr ⟨j,0,none⟩ 3)=some (.pointer v18)∧aP e (adr ⟨j,0,none⟩ 4)=some (.string v19)∧aP e (adr ⟨j,0,none⟩ 5)=some (.int .u64 v20))∧
       HC PG d8 [.agg #[.int .u64 v15,.int .u64 v16,.int .u64 v17,.pointer v18,.string v19,.int .u64 v20],.pointer M,.agg #[.string v21,.string v22],.int .i64 0] [.c .ptr,.c .bool,.c .bool] (fun(E:(Option Addr)×Bool×Bool) P=>
        K (E.1,E.2.1) P) e))) f:=fun{f j} a O=>by
  have n:∀i,aP f (adr ⟨j,0,none⟩ i)=H.toArray[i]?:=fun i=>vc O i
  refine⟨_,n 0,_,n 1,_,n 2,_,n 3,_,n 4,_,n 5,p.1,q a 0,p.2,q a 1,zG ?_⟩;refine⟨⟨q a 0,q a 1⟩,⟨n 0,n 1,n 2,n 3,n 4,n 5⟩,?_⟩;have v:=J.tr a;have C:=c.upd0 v;have z4:=v.size;exact Cp 13 (av _) p (TrieO.upd0 v t) C.by_ C.lt C.sub C.tok C.off Y hn fun Q N ch S6 B t6 D _ _=>U Q N S6 (v.wide.tr B) t6 fun y G=>⟨(D y G).1.imp id fun h=>by omega,(D y G).2⟩
 have own:∀{I f:ac} {b:Nat},A.size≤b→Upd (· =b) I f→Upd No A I→Upd No A f:=fun V Z k=>k.trans Z fun y G=>.inr (G▸V)
 refine⟨_,d z 0,_,d z 1,_,d z 2,_,q z 0,_,d z 0,_,d z 1,_,d z 2,_,q z 0,?_,?_⟩
 ·refine vz fun I m=>⟨q m 0,⟨d m 0,d m 1,d m 2⟩,?_⟩
  refine bD fun f L s=>?_
  have a:=m.tr s;refine⟨q a 0,⟨d a 0,d a 1,d a 2⟩,?_⟩;refine fV (vs:=H) L rfl fun X T u=>fin (own m.size u a) T
 ·refine bD fun f L s=>?_
  refine⟨q s 0,⟨d s 0,d s 1,d s 2⟩,q s 0,⟨d s 0,d s 1,d s 2⟩,?_⟩;refine vz fun X u=>?_
  have g:=s.tr u;refine⟨q g 0,⟨d g 0,d g 1,d g 2⟩,?_⟩;exact fV (vs:=H) (u.get0 L) rfl fun Q N B=>fin (own (av _) B g) N
def RadO(o:Option Addr)(W:Nat→Prop)(h:ac)(b:Nat)(l:List Pr)(S:Nat→Prop):Prop:=∃w F,RxO o W h b ⟨#[]⟩ w F S∧fK F∧∀k v,(k,v)∈kS w F↔∃p∈l,p.1.data.toList=k∧p.2=v
theorem vd{o w:Option Addr}{W S:Nat→Prop}{h:ac}{b:Nat}{l:List Pr}(t:RadO o W h b l S)(c:Can o w W S h)(m:eO l)(p:Pr)(H:p.1.size≤1000000){K:Option Addr×Bool→ac→Prop}
  (z:∀h' b' S' a,Upd S h h'→RadO o (fun y=>W y∨S' y) h' b' (f9 p l) S'→(∀y,S' y→(S y∨h.size≤y)∧y<h'.size)→K (some ⟨b',0,none⟩,a) h'):
  HC PG nu [.pointer w,.pointer (some ⟨b,0,none⟩),.agg #[.string p.1,.string p.2]] [.c .ptr,.c .bool] K h:=by
 refine xa w (some ⟨b,0,none⟩) p ?_;unfold rz aw qk D5;refine bD fun O b1 k1=>?_
 refine⟨p.1,vc b1 0,p.2,vc b1 1,wd ⟨vc b1 1,vc b1 0,?_⟩⟩;obtain⟨L,F,J,I,B⟩:=t;have i:=c.upd0 k1;have N:=k1.size;refine zK (p.1.size+1) p.1 p.2 (by omega) H (J.upd0 k1) i.by_ i.lt i.sub i.tok i.off I fun E b3 w' C G a M u j g s n D A=>?_
 refine z E b3 G a (k1.wide.tr u) ⟨w',C,j,s,fun k v=>?_⟩ fun y x=>⟨(g y x).1.imp id fun h=>by omega,(g y x).2⟩
 rw[wF,n k v,←wF,B k v];constructor
 ·rintro(⟨rfl,rfl⟩|⟨d,q,f,rfl,rfl⟩)
  ·exact⟨p,(kZ m).2 (.inl rfl),rfl,rfl⟩
  ·exact⟨q,(kZ m).2 (.inr ⟨f,fun e=>d (by rw[e])⟩),rfl,rfl⟩
 ·rintro⟨q,f,rfl,rfl⟩
  rcases(kZ m).1 f with rfl|⟨f,d⟩
  ·exact .inl ⟨rfl,rfl⟩
  ·exact .inr ⟨fun e=>d (yz.1 e),q,f,rfl,rfl⟩
end Go.Proofs
namespace Go.Proofs
open Go Go.Lift
def zP(p:Pr):Int:=if 256<p.1.size then 2 else if 4096<p.2.size then 3 else 0
theorem zO{p:Pr}(h:zP p=0):p.1.size≤256∧p.2.size≤4096:=by
 unfold zP at h;split at h
 ·cases h
 ·split at h
  ·cases h
  ·omega
theorem Cr{p:Pr}{h:ac}{K:Int→ac→Prop}(a:K (zP p) h):HC PG mD [.string p.1,.string p.2] [.c (.int .i64)] K h:=by
 refine vO p.1 p.2 ?_;unfold qc;unfold zP at a;refine bi (fun e=>?_) fun e=>bi (fun b=>?_) fun b=>?_
 ·rw[if_pos (by omega)]at a;exact a
 ·rw[if_neg (by omega),if_pos (by omega)]at a;exact a
 ·rw[if_neg (by omega),if_neg (by omega)]at a;exact a
end Go.Proofs
namespace Go.Proofs
open Go Go.Lift
def sn(l:List Pr)(p:Pr):List Pr:=if zP p=0 then f9 p l else l
theorem RadO.upd{o:Option Addr}{W M S:Nat→Prop}{h a:ac}{b:Nat}{l:List Pr}(k:Upd M h a)(t:RadO o W h b l S)(d:∀y,S y→y<h.size)(hm:∀y,M y→(W y∧¬S y)∨h.size≤y):RadO o W a b l S:=let⟨w,F,r,c,e⟩:=t;⟨w,F,r.upd k d hm,c,e⟩
theorem RadO.less{o:Option Addr}{W W' S:Nat→Prop}{h:ac}{b:Nat}{l:List Pr}(hm:∀y,W' y→W y∨h.size≤y)(t:RadO o W h b l S):RadO o W' h b l S:=let⟨w,F,r,c,e⟩:=t;⟨w,F,r.less hm,c,e⟩
def TreeO(o:Option Addr)(W:Nat→Prop)(h:ac)(a:Int)(x:Hs)(t:Tr)(l:List Pr)(S:Nat→Prop):Prop:=(a=0∧∃b,t=(0,x.k0,x.k1,x.mask,some ⟨b,0,none⟩,none)∧TrieO o W x h 13 b l S)∨(a=1∧∃b,t=(1,0,0,0,none,some ⟨b,0,none⟩)∧RadO o W h b l S)
theorem AL{o:Option Addr}{W:Nat→Prop}{h:ac}{a:Int}{x:Hs}{t:Tr}{l:List Pr}(i:TreeIs W h a x t l):TreeO o W h a x t l No:=
 i.imp (fun⟨e,b,c,t⟩=>⟨e,b,c,vX t⟩) fun⟨e,b,c,t⟩=>⟨e,b,c,let⟨w,F,g,d,f⟩:=t.ex;⟨w,F,.inl ⟨g,fun _ h=>h⟩,d,f⟩⟩
theorem TreeO.upd{o:Option Addr}{W M S:Nat→Prop}{h d:ac}{a:Int}{x:Hs}{t:Tr}{l:List Pr}(k:Upd M h d)(i:TreeO o W h a x t l S)(f:∀y,S y→y<h.size)(hm:∀y,M y→(W y∧¬S y)∨h.size≤y):TreeO o W d a x t l S:=
 i.imp (fun⟨e,b,c,t⟩=>⟨e,b,c,TrieO.upd k t f hm⟩) fun⟨e,b,c,t⟩=>⟨e,b,c,t.upd k f hm⟩
theorem TreeO.upd0{o:Option Addr}{W S:Nat→Prop}{h f:ac}{a:Int}{x:Hs}{t:Tr}{l:List Pr}(k:Upd No h f)(i:TreeO o W h a x t l S):TreeO o W f a x t l S:=
 i.imp (fun⟨e,b,d,t⟩=>⟨e,b,d,TrieO.upd0 k t⟩) fun⟨e,b,d,w,F,r,c⟩=>⟨e,b,d,w,F,r.upd0 k,c⟩
theorem TreeO.less{o:Option Addr}{W W' S:Nat→Prop}{h:ac}(hm:∀b,W' b→W b∨h.size≤b){a:Int}{x:Hs}{t:Tr}{l:List Pr}(i:TreeO o W h a x t l S):TreeO o W' h a x t l S:=
 i.imp (fun⟨e,b,c,t⟩=>⟨e,b,c,TrieO.less hm t⟩) fun⟨e,b,c,t⟩=>⟨e,b,c,t.less hm⟩
theorem TreeO.freeze{o:Option Addr}{W W' S:Nat→Prop}{h:ac}(f:∀y,W' y→W y)(d:OwOk W' h o){a:Int}{x:Hs}{t:Tr}{l:List Pr}(i:TreeO o W h a x t l S)(g:∀y,S y→¬W' y):TreeIs W' h a x t l:=
 i.imp (fun⟨e,b,c,t⟩=>⟨e,b,c,TrieO.freeze f d t g⟩) fun⟨e,b,c,w,F,r,j,k⟩=>⟨e,b,c,⟨w,F,r.freeze f d g,j,k⟩⟩
theorem TreeO.read{o w:Option Addr}{W S:Nat→Prop}{h:ac}{b:Int}{x:Hs}{t:Tr}{l:List Pr}(i:TreeO o W h b x t l S)(by_:By h w o):TreeIs No h b x t l:=
 i.freeze (fun _ h=>h.elim) (fun a e=>⟨id,by_.plain a (by_.tok e)⟩) fun _ _ h=>h
theorem Can.pro{o w:Option Addr}{W S:Nat→Prop}{h b:ac}(c:Can o w W S h)(k:Upd No h b):Can o w (Pro W h b) S b:=⟨c.by_.upd0 k,Pro.lt c.lt k,fun y d=>.inl (c.sub y d),fun a e=>.inl (c.tok a e),c.off⟩
theorem TreeO.pro{o:Option Addr}{W S:Nat→Prop}{h b:ac}(k:Upd No h b){a:Int}{x:Hs}{t:Tr}{l:List Pr}(i:TreeO o W h a x t l S):TreeO o (Pro W h b) b a x t l S:=(i.less Pro.hm).upd0 k
theorem TreeO.loc{o:Option Addr}{W S e:Nat→Prop}{h f g j:ac}{b:Nat}{a:Int}{x:Hs}{t:Tr}{l:List Pr}(i:TreeO o (fun y=>Pro W h f y∨e y) g a x t l e)(k:Upd (· =b) g j)(p:h.size≤b)(m:b<f.size)(q:∀y,S y→y<h.size)(d:∀y,e y→(S y∨f.size≤y)∧y<g.size):TreeO o (fun y=>Pro W h f y∨e y) j a x t l e:=
 i.upd k (fun y c=>(d y c).2) fun y c=>by
  have c:y=b:=c;subst c;refine .inl ⟨.inl (.inr ⟨p,m⟩),fun n=>?_⟩
  rcases(d y n).1 with h|h
  ·have:=q y h;omega
  ·omega
theorem zF{o w:Option Addr}{W S:Nat→Prop}{x:Hs}{h:ac}{s:Int}{t:Tr}{l:List Pr}(i:TreeO o W h s x t l S)(c:Can o w W S h)(U:eO l)(Y:l.length≤1000000)(p:Pr){K:Tr×Int→ac→Prop}
  (F:∀h' v A,Upd S h h'→TreeO o (fun y=>W y∨A y) h' s x v (sn l p) A→(∀y,A y→(S y∨h.size≤y)∧y<h'.size)→(zP p≠0→v=t)→K (v,zP p) h'):HC PG jf [Da t,.pointer w,.agg #[.string p.1,.string p.2]] [.agg [.int .i64,.int .u64,.int .u64,.int .u64,.ptr,.ptr],.c (.int .i64)] K h:=by
 unfold sn at F;have u:∀y,S y→y<h.size:=fun y a=>c.lt y (c.sub y a)
 refine qN t w p ?_;unfold l4 aw gn qk m3 qj m4 bJ aj az cT c5 uY uX B7;refine bD fun X b1 k1=>bD fun I b2 R=>bD fun P b3 N=>?_
 have z1:=aW b1;have z2:=aW b2;have z3:=aW b3;have s1:h.size≤X.size:=k1.size;have s2:X.size≤I.size:=R.size;have s3:=N.size;have B:=(k1.tr R).tr N;have n:=N.get0 (R.get0 b1);have H:=N.get0 b2;refine⟨_,vc H 0,_,vc H 1,Cr (p:=p) ?_⟩;by_cases e:zP p=0
 ·rw[if_pos e]at F
  have M:=zO e;rw[e]at F⊢;refine al.2 ?_;have Z:=i.pro B;have V:=c.pro B;have fin:∀{z C:ac} {v:Tr} {A:Nat→Prop},Upd S P z→TreeO o (fun y=>Pro W h P y∨A y) z s x v (f9 p l) A→(∀y,A y→(S y∨P.size≤y)∧y<z.size)→C[h.size]? =some (.cells (lS v).toArray bd (0,0))→Upd (· =h.size) z C→C[I.size]? =some (.cells (lS nI).toArray bd (0,0))→∀{D:ac},D[I.size]? =some (.cells (lS v).toArray bd (0,0))→Upd (· =I.size) C D→K (v,0) D:=fun{z C v A} L i4 g j f G {D} k m=>by
   have z4:=L.size;have z5:=f.size;have z6:=m.size;have i5:=i4.loc f (av _) (by omega) u g;have i6:=i5.loc m (by omega) (by omega) u fun y a=>⟨(g y a).1,by have:=(g y a).2;omega⟩
   refine F D v A (((B.wide.tr L).trans f fun y a=>.inr (by have a:y=h.size:=a;omega)).trans m fun y a=>.inr (by have a:y=I.size:=a;omega)) (i6.less fun y a=>.inl (a.imp .inl id)) (fun y a=>⟨(g y a).1.imp id fun h=>by omega,by have:=(g y a).2;omega⟩) fun h=>absurd rfl h
  rcases Z with⟨rfl,b,rfl,Q⟩|⟨rfl,b,rfl,Q⟩
  ·refine⟨_,vc n 0,al.2 ⟨_,xp n 1 0,_,xp n 1 1,_,xp n 1 2,_,vc n 4,p.1,vc H 0,p.2,vc H 1,?_⟩⟩
   refine vF Q V U Y p fun z q S4 d O g=>?_
   have J:∀{y},h.size≤y→¬S y:=fun a M=>by have:=u _ M;omega
   refine D4 (i:=4) (c':=(lS (0,x.k0,x.k1,x.mask,some ⟨q,0,none⟩,none)).toArray) (d.get n (J (av _))) (show 4<6 by decide) rfl fun C j f=>?_
   refine⟨_,vc j 0,_,vc j 1,_,vc j 2,_,vc j 3,_,vc j 4,_,vc j 5,?_⟩;have G:=f.oth (d.get b3 (J (by omega))) (by omega);refine fV (c:=lS nI) (vs:=lS (0,x.k0,x.k1,x.mask,some ⟨q,0,none⟩,none)) G rfl fun D k m=>?_
   exact⟨_,vc k 0,_,vc k 1,_,vc k 2,_,vc k 3,_,vc k 4,_,vc k 5,fin d (.inl ⟨rfl,q,rfl,O⟩) g j f G k m⟩
  ·refine⟨_,vc n 0,ao.2 ⟨_,vc n 5,p.1,vc H 0,p.2,vc H 1,?_⟩⟩
   refine vd Q V U p (by omega) fun z q S4 T d O g=>?_
   have J:∀{y},h.size≤y→¬S y:=fun a M=>by have:=u _ M;omega
   refine D4 (i:=5) (c':=(lS (1,0,0,0,none,some ⟨q,0,none⟩)).toArray) (d.get n (J (av _))) (show 5<6 by decide) rfl fun C j f=>?_
   refine⟨_,vc j 0,_,vc j 1,_,vc j 2,_,vc j 3,_,vc j 4,_,vc j 5,?_⟩;have G:=f.oth (d.get b3 (J (by omega))) (by omega);refine fV (c:=lS nI) (vs:=lS (1,0,0,0,none,some ⟨q,0,none⟩)) G rfl fun D k m=>?_
   exact⟨_,vc k 0,_,vc k 1,_,vc k 2,_,vc k 3,_,vc k 4,_,vc k 5,fin d (.inr ⟨rfl,q,rfl,O⟩) g j f G k m⟩
 ·rw[if_neg e]at F
  rw[show(zP p !=0)=true by simpa using e]
  refine ao.2 ⟨_,vc n 0,_,vc n 1,_,vc n 2,_,vc n 3,_,vc n 4,_,vc n 5,?_⟩;refine fV (c:=lS nI) (vs:=lS t) b3 rfl fun z q d=>?_
  have E:=B.own d (by omega);exact⟨_,vc q 0,_,vc q 1,_,vc q 2,_,vc q 3,_,vc q 4,_,vc q 5,F z t S E.wide ((i.upd0 E).less fun y a=>.inl (a.elim id (c.sub y))) (fun y a=>⟨.inl a,by have:=u y a;have:=E.size;omega⟩) fun _=>rfl⟩
end Go.Proofs
namespace Go.Proofs
open Go Go.Lift
theorem Can.nil{W:Nat→Prop}{h:ac}(a:∀y,W y→y<h.size):Can none none W No h:=⟨.inl ⟨rfl,rfl⟩,a,fun _ h=>h.elim,fun _ h=>(by cases h),fun _ _ h=>h⟩
theorem TreeO.nil{W S:Nat→Prop}{h:ac}{a:Int}{x:Hs}{t:Tr}{l:List Pr}(i:TreeO none (fun y=>W y∨S y) h a x t l S):TreeIs W h a x t l:=by
 rcases i with⟨e,b,d,t⟩|⟨e,b,d,w,F,r,f,g⟩
 ·exact .inl ⟨e,b,d,TrieAt.less (fun y c=>.inl (.inl c)) t.off.1⟩
 ·exact .inr ⟨e,b,d,⟨w,F,RxN.less (fun y c=>.inl (.inl c)) r.off.1,f,g⟩⟩
end Go.Proofs
namespace Go.Proofs
open Go Go.Lift Go.Conc
def PoolAt(h:ac)(pb cb cap:Nat)(ids:List Int):Prop:=pb≠cb∧h[pb]? =some (.cells #[.chan (some cb)] 99 (0,0))∧∃s r,h[cb]? =some (.chan cap (ids.map fun i=>Value.int .i64 i).toArray false s r false)
theorem PoolAt.upd{M:Nat→Prop}{h c:ac}{pb cb cap:Nat}{ids:List Int}(p:PoolAt h pb cb cap ids)(k:Upd M h c)(d:¬M pb)(e:¬M cb):PoolAt c pb cb cap ids:=let⟨n,a,s,r,b⟩:=p;⟨n,k.get a d,s,r,k.get b e⟩
theorem PoolAt.upd0{h a:ac}{pb cb cap:Nat}{ids:List Int}(p:PoolAt h pb cb cap ids)(k:Upd No h a):PoolAt a pb cb cap ids:=p.upd k id id
def TokAt(h:ac)(tb pb:Nat)(id:Int)(a:Bool):Prop:=h[tb]? =some (.cells #[.pointer (some ⟨pb,0,none⟩),.int .i64 id,.bool a] jt (0,0))
theorem TokAt.by_{h:ac}{tb pb:Nat}{id:Int}{a:Bool}(t:TokAt h tb pb id a):By h (some ⟨tb,0,none⟩) (if a then some ⟨tb,0,none⟩else none):=.inr ⟨tb,_,id,a,rfl,t,rfl⟩
theorem sU{n:Nat}(k:1≤n)(o:n≤4096){h:ac}{K:Option Addr×Int→ac→Prop}(d:∀h',Upd No h h'→PoolAt h' (h.size+1) h.size n ((cp n).map fun j=>((j:Nat):Int)+1)→K (some ⟨h.size+1,0,none⟩,0) h'):HC PG nt [.int .i64 n] [.c .ptr,.c (.int .i64)] K h:=by
 refine⟨fun w m=>.inl ⟨Tryz.call18 _ w,(A9 k o (w:=w)).mono ?_⟩⟩
 subst m;rintro e w' ⟨rfl,ids,s,r,p,g,q⟩;have k1:Upd No w.heap ((w.heap.push (.chan n #[] false 0 0 false)).push (.cells #[.chan (some w.heap.size)] 99 (0,0))):=(Upd.push No w.heap _).tr (Upd.push No _ _);have a:ids=(((cp n).map fun j=>((j:Nat):Int)+1).map fun i=>Value.int .i64 i):=by rw[p];simp[Function.comp_def]
 have f:((w.heap.push (.chan n #[] false 0 0 false)).push (.cells #[.chan (some w.heap.size)] 99 (0,0)))[w.heap.size+1]? =some (.cells #[.chan (some w.heap.size)] 99 (0,0)):=by
  rw[eX,Array.size_push,if_pos rfl]
 rcases q with rfl|rfl
 ·refine⟨⟨rfl,rfl,rfl⟩,((some ⟨w.heap.size+1,0,none⟩,0):Option Addr×Int),rfl,d _ k1 ⟨by omega,f,s,r,?_⟩⟩
  rw[←a];exact g
 ·have c:=Upd.set (M:=(· =w.heap.size)) ((w.heap.push (.chan n #[] false 0 0 false)).push (.cells #[.chan (some w.heap.size)] 99 (0,0))) (.chan n ids.toArray false s r false) rfl
  refine⟨⟨rfl,rfl,rfl⟩,((some ⟨w.heap.size+1,0,none⟩,0):Option Addr×Int),rfl,d _ (k1.trans c fun y b=>.inr (by have b:y=w.heap.size:=b;omega)) ⟨by omega,c.get f (fun e=>by have e:w.heap.size+1=w.heap.size:=e;omega),s,r,?_⟩⟩
  rw[←a];exact g
theorem wy{h:ac}{pb cb cap:Nat}{i:Int}{ids:List Int}(p:PoolAt h pb cb cap (i::ids)){K:Option Addr×Int→ac→Prop}(c:∀h',Upd (· =cb) h h'→PoolAt h' pb cb cap ids→TokAt h' h.size pb i true→K (some ⟨h.size,0,none⟩,0) h'):HC PG eK [.pointer (some ⟨pb,0,none⟩)] [.c .ptr,.c (.int .i64)] K h:=by
 obtain⟨n,b,s,r,hc⟩:=p;refine⟨fun w f=>.inl ⟨Tryz.call32 _ w,?_⟩⟩
 subst f;rw[fU]at hc;refine(zE b hc).mono ?_;rintro e w' ⟨rfl,rfl⟩;have d:cb<w.heap.size:=(Array.getElem?_eq_some_iff.1 hc).1;have k1:=Upd.set (M:=(· =cb)) w.heap (.chan cap (ids.map fun i=>Value.int .i64 i).toArray false s (r+1) false) rfl
 have a:=k1.tr (Upd.push (· =cb) _ (.cells #[.pointer (some ⟨pb,0,none⟩),.int .i64 i,.bool true] jt (0,0)))
 refine⟨⟨rfl,rfl,rfl⟩,((some ⟨w.heap.size,0,none⟩,0):Option Addr×Int),rfl,c _ a ⟨n,a.get b n,s,r+1,?_⟩ ?_⟩
 ·show((w.heap.setIfInBounds cb _).push _)[cb]? =_
  rw[eX,gY,if_neg (by omega),bq,if_pos rfl,if_pos d]
 ·show((w.heap.setIfInBounds cb _).push _)[w.heap.size]? =_
  rw[eX,gY,if_pos rfl]
theorem uc{h:ac}{pb cb cap:Nat}(p:PoolAt h pb cb cap []){K:Option Addr×Int→ac→Prop}(a:K (none,6) h):HC PG eK [.pointer (some ⟨pb,0,none⟩)] [.c .ptr,.c (.int .i64)] K h:=by
 obtain⟨n,c,s,r,hc⟩:=p;refine⟨fun w b=>.inl ⟨Tryz.call32 _ w,?_⟩⟩
 subst b;refine(xt c hc).mono ?_;rintro e w' ⟨rfl,rfl⟩;exact⟨⟨rfl,rfl,rfl⟩,((none,6):Option Addr×Int),rfl,a⟩
theorem vi{h:ac}{K:Option Addr×Int→ac→Prop}(a:K (none,4) h):HC PG eK [.pointer none] [.c .ptr,.c (.int .i64)] K h:=by
 refine⟨fun w b=>.inl ⟨Tryz.call32 _ w,?_⟩⟩
 subst b;refine take_walkN.mono ?_;rintro e w' ⟨rfl,rfl⟩;exact⟨⟨rfl,rfl,rfl⟩,((none,4):Option Addr×Int),rfl,a⟩
theorem xT{h:ac}{pb cb cap tb:Nat}{id:Int}{ids:List Int}(p:PoolAt h pb cb cap ids)(t:TokAt h tb pb id true)(u:ids.length<cap){K:Int→ac→Prop}(k:∀h',Upd (fun y=>y=cb∨y=tb) h h'→PoolAt h' pb cb cap (ids++ [id])→TokAt h' tb pb id false→K 0 h'):HC PG lY [.pointer (some ⟨pb,0,none⟩),.pointer (some ⟨tb,0,none⟩)] [.c (.int .i64)] K h:=by
 obtain⟨n,g,s,r,hc⟩:=p;have c:pb≠tb:=fun e=>by
  subst e;have:=g.symm.trans t;simp at this
 have b:cb≠tb:=fun e=>by
  subst e;have:=hc.symm.trans t;simp at this
 refine⟨fun w q=>.inl ⟨Tryz.call39 _ w,?_⟩⟩
 subst q;refine(Bq g t hc (by simpa using u) c b).mono ?_;rintro e w' ⟨rfl,m,rfl⟩;have k1:=Upd.hset (M:=(· =tb)) w.heap (a:=⟨tb,2,none⟩) (.bool false) rfl
 have f:=Upd.set (M:=(· =cb)) (hset w.heap ⟨tb,2,none⟩ (.bool false)) (.chan cap ((ids.map fun i=>Value.int .i64 i).toArray.push (.int .i64 id)) false (s+1) r false) rfl
 have o:cb<(hset w.heap ⟨tb,2,none⟩ (.bool false)).size:=aW (k1.get hc fun e=>b e)
 refine⟨⟨rfl,rfl,rfl⟩,(0:Int),rfl,k _ ((k1.mono fun y d=>.inl (.inr d)).trans f fun y d=>.inl (.inl d)) ⟨n,f.get (k1.get g fun e=>c e) (fun e=>n e),s+1,r,?_⟩ (f.get ?_ (fun e=>b e.symm))⟩
 ·show((hset w.heap ⟨tb,2,none⟩ (.bool false)).setIfInBounds cb _)[cb]? =_
  rw[bq,if_pos rfl,if_pos o];simp
 ·have j:w.heap[tb]? =some (.cells #[.pointer (some ⟨pb,0,none⟩),.int .i64 id,.bool true] jt (0,0)):=t
  rw[td j,gp j];rfl
end Go.Proofs
namespace Go.Proofs
open Go Go.Lift
end Go.Proofs
namespace Go.Proofs
structure WO{α:Type}(lt:α→α→Bool):Prop where
 irr:∀a,lt a a=false
 asy:∀a b,lt a b=true→lt b a=false
 ntr:∀a b c,lt a b=false→lt b c=false→lt a c=false
section
variable {α:Type} {lt:α→α→Bool}
def D0(lt:α→α→Bool)(x a:α):Bool:= !lt a x&& !lt x a
def Srt(lt:α→α→Bool)(l:List α):Prop:=l.Pairwise fun a b=>lt b a=false
structure Eqf(lt:α→α→Bool)(l l':List α):Prop where
 len:l'.length=l.length
 flt:∀x,l'.filter (D0 lt x)=l.filter (D0 lt x)
structure St(lt:α→α→Bool)(l l':List α):Prop where
 eqf:Eqf lt l l'
 srt:Srt lt l'
theorem Eqf.rfl(l:List α):Eqf lt l l:=⟨_root_.rfl,fun _=>_root_.rfl⟩
theorem Eqf.tr{a b c:List α}(h:Eqf lt a b)(k:Eqf lt b c):Eqf lt a c:=⟨k.len.trans h.len,fun x=>(k.flt x).trans (h.flt x)⟩
theorem Eqf.app{a b a' c:List α}(h:Eqf lt a a')(k:Eqf lt b c):Eqf lt (a++b) (a'++c):=
 ⟨by rw[ae,ae,h.len,k.len],fun x=>by rw[List.filter_append,List.filter_append,h.flt,k.flt]⟩
theorem w7(w:WO lt)(a:α):D0 lt a a=true:=by unfold D0;rw[w.irr];rfl
theorem Eqf.mem(w:WO lt){l b:List α}(h:Eqf lt l b){a:α}:a∈b↔a∈l:=by
 have e:=h.flt a;constructor
 ·intro hm
  have:a∈b.filter (D0 lt a):=fP.2 ⟨hm,w7 w a⟩;rw[e]at this;exact(fP.1 this).1
 ·intro hm
  have:a∈l.filter (D0 lt a):=fP.2 ⟨hm,w7 w a⟩;rw[←e]at this;exact(fP.1 this).1
theorem Srt.app{a b:List α}(h:Srt lt a)(k:Srt lt b)(c:∀x∈a,∀y∈b,lt y x=false):Srt lt (a++b):=bQ.2 ⟨h,k,c⟩
theorem Srt.left{a b:List α}(h:Srt lt (a++b)):Srt lt a:=(bQ.1 h).1
theorem Srt.right{a b:List α}(h:Srt lt (a++b)):Srt lt b:=(bQ.1 h).2.1
theorem Srt.nil:Srt lt ([]:List α):=eW
theorem Srt.one(a:α):Srt lt [a]:=cW ..
end
end Go.Proofs
namespace Go.Proofs
open Go Go.Lift
theorem TreeIs.plain{W:Nat→Prop}{h:ac}{e:Int}{x:Hs}{t:Tr}{l:List Pr}(i:TreeIs W h e x t l):(∀a,t.2.2.2.2.1=some a→cq h a)∧(∀a,t.2.2.2.2.2=some a→cq h a):=by
 rcases i with⟨rfl,b,rfl,t⟩|⟨rfl,b,rfl,t⟩
 ·obtain⟨s,g,_⟩:=t
  obtain⟨d,n,sp,sk,ow,f,_⟩:=g.ex;refine⟨fun a c=>?_,fun a c=>(by cases c)⟩
  cases c;exact⟨_,_,f,show 0<6 by decide⟩
 ·obtain⟨w,F,⟨val,s,ow,ks,f,_⟩,_⟩:=t.ex
  refine⟨fun a c=>(by cases c),fun a c=>?_⟩
  cases c;exact⟨_,_,f,show 0<5 by decide⟩
end Go.Proofs
namespace Go.Proofs
open Go Go.Lift
end Go.Proofs
namespace Go.Proofs
open Go Go.Lift
end Go.Proofs
namespace Go.Proofs
open Go Go.Lift
section
variable {α:Type} {f:α→List Value} {sz:Nat} {t:TypeId} {M:Nat→Prop} {h:ac} {s:SliceV} {P Q:List α} {x:α}
end
end Go.Proofs
namespace Go.Proofs
open Go Go.Lift
variable {z0:Hs}
end Go.Proofs
namespace Go.Proofs
open Go Go.Lift
end Go.Proofs
namespace Go.Proofs
open Go Go.Lift
end Go.Proofs
namespace Go.Proofs
open Go Go.Lift
end Go.Proofs
namespace Go.Proofs
open Go Go.Lift
end Go.Proofs
namespace Go.Proofs
open Go Go.Lift
end Go.Proofs
namespace Go.Proofs
open Go Go.Lift
end Go.Proofs
namespace Go.Proofs
open Go Go.Lift
theorem CA{a b:ByteArray}:kl a b↔Op.bytesLess a.data.toList b.data.toList=true:=by unfold kl;rw[ByteArray.toList_eq,ByteArray.toList_eq]
theorem zy{a b:UInt8}{x y:List UInt8}:Op.bytesLess (a::x) (b::y)=true↔a.toNat<b.toNat∨(a=b∧Op.bytesLess x y=true):=by
 simp only[Op.bytesLess,Bool.or_eq_true,decide_eq_true_iff,Bool.and_eq_true,beq_iff_eq,UInt8.lt_iff_toNat_lt]
theorem BT{x y:List UInt8}:∀pre:List UInt8,Op.bytesLess (pre++x) (pre++y)=true↔Op.bytesLess x y=true
 | []=>Iff.rfl
 |a::pre=>by rw[jr,jr,zy,BT pre];simp
theorem Es{x y:List UInt8}(h:Op.bytesLess x y=true)(hx:x≠[])(c:y≠[]):hd x≤hd y:=by
 match x,y,hx,c with
 |a::x,b::y,_,_=>
  show a.toNat≤b.toNat
  rcases zy.1 h with h|⟨rfl,_⟩<;>omega
abbrev ky(p:Pr):List UInt8:=p.1.data.toList
def E3(l:List Pr)(a k:List UInt8)(v:ByteArray):Prop:=∃p∈l,ky p=a++k∧p.2=v
structure Beg(l:List Pr)(pre:List UInt8):Prop where
 up:eO l
 at_:∀p∈l,(ky p).take pre.length=pre∧pre.length<(ky p).length
theorem Beg.sub{l c:List Pr}{a:List UInt8}(b:Beg l a)(h:c.Sublist l):Beg c a:=⟨b.up.sublist h,fun p d=>b.at_ p (h.subset d)⟩
theorem Beg.split{l:List Pr}{a:List UInt8}(b:Beg l a){p:Pr}(c:p∈l):ky p=a++(ky p).drop a.length∧(ky p).drop a.length≠[]:=by
 obtain⟨d,f⟩:=b.at_ p c;refine⟨?_,fun e=>?_⟩
 ·conv=>lhs;rw[←bc a.length (ky p),d]
 ·have:=congrArg iq e
  rw[List.length_drop,dQ]at this;omega
def bt(n:Nat)(p:Pr):Nat:=hd ((ky p).drop n)
theorem Beg.mono{A B:List Pr}{a:List UInt8}(b:Beg (A++B) a){x y:Pr}(hx:x∈A)(c:y∈B):bt a.length x≤bt a.length y:=by
 have h:=(bQ.1 b.up).2.2 x hx y c;rw[CA]at h;obtain⟨f,e⟩:=b.split (dG B hx);obtain⟨g,d⟩:=b.split (eD A c);change Op.bytesLess (ky x) (ky y)=true at h;rw[f,g,BT]at h;exact Es h e d
structure Row(L:List Bn)(D T:List Pr)(pre:List UInt8):Prop where
 can:∀n∈L,CO n
 up:L.Pairwise fun m n=>hd m.1<hd n.1
 lo:∀n∈L,∀p∈T,hd n.1<bt pre.length p
 got:∀k v,(∃n∈L,tW n k v)↔E3 D pre k v
theorem Row.nil(T:List Pr)(a:List UInt8):Row [] [] T a:=⟨fun n h=>(by cases h),eW,fun n h=>(by cases h),fun k v=>⟨fun⟨n,h,_⟩=>(by cases h),fun⟨p,h,_⟩=>(by cases h)⟩⟩
theorem Row.more{L:List Bn}{D A B:List Pr}{c:List UInt8}{n:Bn}{p:Pr}(r:Row L D (A++B) c)(o:Beg (A++B) c)(t:p∈A)(z:∀a∈A,bt c.length a=bt c.length p)(y:∀b f,B=b::f→bt c.length b≠bt c.length p)(hc:CO n)(u:hd n.1=bt c.length p)(s:∀k v,tW n k v↔E3 A c k v):Row (L++ [n]) (D++A) B c:=by
 refine⟨fun m hm=>?_,bQ.2 ⟨r.up,cW ..,fun a x b w=>?_⟩,fun m hm q d=>?_,fun k v=>?_⟩
 ·rcases cn.1 hm with hm|hm
  ·exact r.can m hm
  ·rw[ag.1 hm];exact hc
 ·rw[ag.1 w,u]
  exact r.lo a x p (dG _ t)
 ·rcases cn.1 hm with hm|hm
  ·exact r.lo m hm q (eD _ d)
  ·rw[ag.1 hm,u]
   rcases B with _|⟨i,f⟩
   ·cases d
   have E:=y i f rfl;have C:=o.mono t (List.mem_cons_self (a:=i) (l:=f));rcases ai.1 d with rfl|d
   ·omega
   ·have j:Beg ([i]++f) c:=o.sub (List.sublist_append_right A _)
    have:=j.mono (ag.2 rfl) d;omega
 ·constructor
  ·rintro⟨m,hm,g⟩
   rcases cn.1 hm with hm|hm
   ·obtain⟨q,d,e⟩:=(r.got k v).1 ⟨m,hm,g⟩
    exact⟨q,dG _ d,e⟩
   ·rw[ag.1 hm]at g
    obtain⟨q,d,e⟩:=(s k v).1 g;exact⟨q,eD _ d,e⟩
  ·rintro⟨q,d,e⟩
   rcases cn.1 d with d|d
   ·obtain⟨m,hm,g⟩:=(r.got k v).2 ⟨q,d,e⟩
    exact⟨m,dG _ hm,g⟩
   ·exact⟨n,eD _ (ag.2 rfl),(s k v).2 ⟨q,d,e⟩⟩
theorem Row.done{L:List Bn}{D:List Pr}{a:List UInt8}(r:Row L D [] a):fK (.ofL L)∧∀k v,rx (.ofL L) k v↔E3 D a k v:=by
 refine⟨eh.2 ?_,fun k v=>?_⟩
 ·rw[Fo.to_of];exact⟨r.up,r.can⟩
 ·rw[g4,Fo.to_of];exact r.got k v
end Go.Proofs
namespace Go.Proofs
open Go Go.Lift
theorem Kid.less{W W':Nat→Prop}{h:ac}(hm:∀b,W' b→W b∨h.size≤b){a:Option Addr}{n:Bn}:Kid W h a n→Kid W' h a n
 |⟨b,sl,e1,e2,e3⟩=>⟨b,sl,e1,e2,e3.less hm⟩
theorem Kid.updM{W M:Nat→Prop}{h c:ac}(k:Upd M h c)(hm:∀b,M b→W b∨h.size≤b){a:Option Addr}{n:Bn}:Kid W h a n→Kid W c a n
 |⟨b,sl,e1,e2,e3⟩=>⟨b,sl,e1,e2,e3.updM k hm⟩
theorem RxL.less{W W':Nat→Prop}{h:ac}(hm:∀b,W' b→W b∨h.size≤b){ks:List (Option Addr)}{L:List Bn}(r:RxL W h ks L):RxL W' h ks L:=⟨r.1,fun p a=>(r.2 p a).less hm⟩
theorem RxL.updM{W M:Nat→Prop}{h a:ac}(k:Upd M h a)(hm:∀b,M b→W b∨h.size≤b){ks:List (Option Addr)}{L:List Bn}(r:RxL W h ks L):RxL W a ks L:=⟨r.1,fun p c=>(r.2 p c).updM k hm⟩
end Go.Proofs
namespace Go.Proofs
open Go Go.Lift
theorem oL{h:ac}{t:Tr}{k:ac→Prop}(d:∀h',h'[h.size]? =some (.cells (lS t).toArray bd (0,0))→Upd No h h'→k h'):
  At (hnew h (lS nI) bd) (fun a=>nO a (some (bN h)) 0 (lS t)∧At (fX a (bN h) 0 (lS t)) k):=
 bD fun a b1 k1=>fV (c:=lS nI) (vs:=lS t) b1 rfl fun e b2 b=>d e b2 (k1.own b (av _))
end Go.Proofs
namespace Go.Proofs
open Go Go.Lift
theorem Cm{h:ac}{b n:Nat}{t:TypeId}{c d vs:List Value}(a:h[b]? =some (.cells (c++d).toArray t (0,0))) (g:c.length=n) (m:vs.length=d.length) {k:ac→Prop}
  (f:∀h',h'[b]? =some (.cells (c++vs).toArray t (0,0))→Upd (· =b) h h'→k h'):nO h (some (adr ⟨b,0,none⟩ n)) 0 vs∧At (fX h (adr ⟨b,0,none⟩ n) 0 vs) k:=by
 rw[aX,ar];have e:=eG vs h 0 n (c++d) a (by rw[ae];omega);refine⟨.inr ⟨_,rfl,fun j i=>by rw[aX];exact fq a (by rw[bG,ae];omega)⟩,bK ?_⟩
 rw[e];refine f _ ?_ (Upd.set h _ rfl);rw[gp a];congr 3
 subst g;rw[dE,List.take_left,List.drop_eq_nil_of_le (by rw[ae];omega),cR]
abbrev edL(pb tb:Nat)(t:Tr):List Value:= [.pointer (some ⟨pb,0,none⟩),.pointer (some ⟨tb,0,none⟩)]++lS t
def EdAt(h:ac)(eb pb tb:Nat)(t:Tr):Prop:=h[eb]? =some (.cells (edL pb tb t).toArray rd (0,0))
theorem Be{h:ac}{tb pb:Nat}{ti:Int}{a:Bool}(k:TokAt h tb pb ti a){K:Bool→ac→Prop}(b:K a h):HC PG cA [.pointer (some ⟨tb,0,none⟩)] [.c .bool] K h:=by
 refine pB k.by_ ?_;cases a<;>exact b
theorem wU{h:ac}{eb pb tb:Nat}{t:Tr}{ti:Int}{a:Bool}(e:EdAt h eb pb tb t)(k:TokAt h tb pb ti a){K:Bool→ac→Prop}(b:K (!a) h):HC PG dz [.pointer (some ⟨eb,0,none⟩)] [.c .bool] K h:=by
 refine kC _ ?_;unfold ie cL;exact ao.2 ⟨_,rfl,_,vc e 1,Be k b⟩
theorem qE{h:ac}{eb pb tb:Nat}{t:Tr}{ti:Int}{a:Bool}(e:EdAt h eb pb tb t)(k:TokAt h tb pb ti a){K:Int→ac→Prop}(b:K (if a then 0 else 5) h):HC PG d5 [.pointer (some ⟨eb,0,none⟩)] [.c (.int .i64)] K h:=by
 refine l2 _ ?_;unfold jn;refine al.2 (wU e k ?_);cases a
 ·exact ao.2 b
 ·exact al.2 b
theorem EdAt.upd{M:Nat→Prop}{h a:ac}{eb pb tb:Nat}{t:Tr}(e:EdAt h eb pb tb t)(k:Upd M h a)(hm:¬M eb):EdAt a eb pb tb t:=k.get e hm
theorem TokAt.upd{M:Nat→Prop}{h b:ac}{tb pb:Nat}{ti:Int}{a:Bool}(e:TokAt h tb pb ti a)(k:Upd M h b)(hm:¬M tb):TokAt b tb pb ti a:=k.get e hm
theorem HV.mono{P:Program}{V:Value}{args:List Value}{ks:List Kind}{K a:mo ks→ac→Prop}{h:ac}{f:FuncId}{cap:Array Value}(e:V=.func (.func f) #[] cap)(hc:HC P f (args++cap.toList) ks K h)(b:∀t h',K t h'→a t h'):HV P V args ks a h:=by
 subst e;exact HV.mk' (by simpa using hc.mono b)
abbrev AM:List Kind:= [.agg [.int .i64,.int .u64,.int .u64,.int .u64,.ptr,.ptr],.c (.int .i64)]
theorem wW{h:ac}{eb pb tb:Nat}{tu:Tr}{f:FuncId}{cap:Array Value}(e:EdAt h eb pb tb tu){K:Int→ac→Prop}
  (hc:HC PG f ([.pointer (some ⟨tb,0,none⟩)]++cap.toList) AM (fun(z:Tr×Int) k=>EdAt k eb pb tb tu∧∀i,Upd No k i→((z.2=0→∀h',EdAt h' eb pb tb z.1→Upd (· =eb) i h'→K 0 h')∧(z.2≠0→K z.2 i))) h):HC PG fx [.pointer (some ⟨eb,0,none⟩),.func (.func f) #[] cap] [.c (.int .i64)] K h:=by
 refine pe _ _ ?_;unfold kL nv m3 qj CB bJ aj az uX cL Cc;refine⟨_,rfl,_,vc e 1,HV.mono rfl hc fun(z:Tr×Int) k hz=>?_⟩
 obtain⟨v,hz⟩:=hz;refine bD fun i s t=>fV (c:=lS nI) (vs:=lS z.1) s rfl fun u b o=>?_
 have g:=t.own o (av _);obtain⟨j,m⟩:=hz u g;refine CondP.intro (fun a=>?_) fun a=>?_
 ·have a:z.2=0:=by simpa using a
  refine⟨_,vc b 0,_,vc b 1,_,vc b 2,_,vc b 3,_,vc b 4,_,vc b 5,_,rfl,?_⟩;refine Cm (c:= [.pointer (some ⟨pb,0,none⟩),.pointer (some ⟨tb,0,none⟩)]) (d:=lS tu) (vs:=lS z.1) (v.upd g id) rfl rfl fun p q n=>?_
  rw[a];exact j a p q n
 ·exact m (by simpa using a)
structure EdO(W S:Nat→Prop)(h:ac)(eb pb tb:Nat)(ti:Int)(kind:Int)(x:Hs)(tu:Tr)(lu:List Pr):Prop where
 ed:EdAt h eb pb tb tu
 tk:TokAt h tb pb ti true
 iu:TreeO (some ⟨tb,0,none⟩) (fun y=>W y∨S y) h kind x tu lu S
 lt:∀y,(W y∨S y)→y<h.size
 we:W eb
 wt:W tb
 ap:∀y,S y→¬W y
 up:eO lu
 fit:Fit lu
theorem EdO.can{W S:Nat→Prop}{h:ac}{eb pb tb:Nat}{ti:Int}{b:Int}{x:Hs}{tu:Tr}{lu:List Pr}(e:EdO W S h eb pb tb ti b x tu lu):Can (some ⟨tb,0,none⟩) (some ⟨tb,0,none⟩) (fun y=>W y∨S y) S h:=
 ⟨e.tk.by_,e.lt,fun y c=>.inr c,fun a h=>by cases h;exact .inl e.wt,fun a h d=>by cases h;exact e.ap _ d e.wt⟩
theorem EdO.fin{W S j:Nat→Prop}{h m n u w k:ac}{eb pb tb b:Nat}{ti:Int}{d:Int}{x:Hs}{tu g:Tr}{lu f:List Pr}(e:EdO W S h eb pb tb ti d x tu lu)(C:Upd No h m)(B:Upd S m n)(F:TreeO (some ⟨tb,0,none⟩) (fun y=>Pro (fun y=>W y∨S y) h m y∨j y) n d x g f j)(i:∀y,j y→(S y∨m.size≤y)∧y<n.size)
  (q:Upd (· =b) n u)(I:h.size≤b)(D:b<m.size)(t:Upd No u w)(K:EdAt k eb pb tb g)(p:Upd (· =eb) w k)(up:eO f)(fit:Fit f):EdO W j k eb pb tb ti d x g f∧Upd (fun y=>S y∨y=eb) h k∧∀y,j y→(S y∨h.size≤y)∧y<k.size:=by
 have s3:=C.size;have N:=B.size;have O:=q.size;have L:=t.size;have M:=p.size;have s:∀y,S y→y<h.size:=fun y c=>e.lt y (.inr c)
 have J:=e.lt _ (.inl e.we);have G:=e.lt _ (.inl e.wt);have v:∀{z},W z→¬j z:=fun o h=>by
  rcases(i _ h).1 with h|h
  ·exact e.ap _ h o
  ·have:=e.lt _ (.inl o);omega
 have A:Upd (fun y=>S y∨y=eb) h k:=(((C.wide.tr (B.mono fun y c=>.inl (.inl c))).trans q fun y c=>.inr (by have c:y=b:=c;omega)).tr t.wide).trans p fun y c=>.inl (.inr c)
 have E:=F.loc q I D s i;have H:=(E.upd0 t).upd p (fun y c=>by have:=(i y c).2;omega) fun y c=>by
  have c:y=eb:=c;subst c;exact .inl ⟨.inl (.inl (.inl e.we)),v e.we⟩
 refine⟨⟨K,e.tk.upd A fun h=>?_,H.less fun y c=>.inl (c.imp (fun h=>.inl (.inl h)) id),fun y c=>c.elim (fun h=>?_) fun h=>?_,e.we,e.wt,fun y c o=>v o c,up,fit⟩,A,fun y c=>⟨(i y c).1.imp id fun h=>by omega,by have:=(i y c).2;omega⟩⟩
 ·rcases h with h|h
  ·exact e.ap _ h e.wt
  ·have a:=e.tk
   rw[h]at a;have a:=a.symm.trans e.ed;simp at a
 ·have:=e.lt y (.inl h);omega
 ·have:=(i y h).2;omega
set_option maxHeartbeats 1000000 in
theorem BI{W S:Nat→Prop}{h:ac}{eb pb tb:Nat}{ti:Int}{f:Int}{x:Hs}{tu:Tr}{lu:List Pr}(e:EdO W S h eb pb tb ti f x tu lu)(O:lu.length≤1000000)(p:Pr){K:Int→ac→Prop}
  (v:∀n a q,EdO W q n eb pb tb ti f x a (sn lu p)→Upd (fun y=>S y∨y=eb) h n→(∀y,q y→(S y∨h.size≤y)∧y<n.size)→K (zP p) n)(g:Fit (sn lu p)):HC PG dg [.pointer (some ⟨eb,0,none⟩),.agg #[.string p.1,.string p.2]] [.c (.int .i64)] K h:=by
 refine jS _ p ?_;unfold g7 qk;refine bD fun h1 b1 k1=>bD fun V b2 B=>?_
 have z1:=aW b1;have X:=aW b2;have s1:=k1.size;have s2:=B.size;have C:=B.get0 b1;have d:=k1.tr B;refine⟨_,vc C 0,qE (e.ed.upd d id) (e.tk.upd d id) (al.2 ⟨_,vc C 0,?_⟩)⟩;refine wW (e.ed.upd d id) (p5 _ _ _ ?_);unfold lF gn m3 qj m4 bJ aj az yV cT jA cL dZ;refine bD fun Y b3 E=>?_
 have L:=aW b3;have b:=d.tr E;have j:=e.ed.upd b id;have G:=E.get0 b2;have J:=E.get0 C;refine⟨_,vc J 0,_,rfl,_,xp j 2 0,_,xp j 2 1,_,xp j 2 2,_,xp j 2 3,_,xp j 2 4,_,xp j 2 5,p.1,vc G 0,p.2,vc G 1,?_⟩;have s:∀y,S y→y<h.size:=fun y P=>e.lt y (.inr P)
 refine zF (e.iu.pro b) (e.can.pro b) e.up O p fun U a q m I t M=>?_
 have Z:=m.size;refine⟨vc (m.get J fun o=>by have:=s _ o;omega) 0,?_⟩
 refine fV (c:=lS nI) (vs:=lS a) (m.get b3 fun o=>by have:=s _ o;omega) rfl fun N k i=>?_
 refine⟨_,vc k 0,_,vc k 1,_,vc k 2,_,vc k 3,_,vc k 4,_,vc k 5,?_⟩;have H:EdAt N eb pb tb tu:=(j.upd m fun o=>e.ap _ o e.we).upd i (by have:=e.lt _ (.inl e.we);omega)
 have u:eO (sn lu p):=by
  unfold sn;split
  ·exact uA p e.up
  ·exact e.up
 refine⟨H,fun R F=>⟨fun hz n T A=>?_,fun hz=>?_⟩⟩
 ·obtain⟨D,w,z⟩:=e.fin b m I t i (by omega) L F T A u g
  have hz:zP p=0:=hz;rw[hz]at v;exact v n a q D w z
 ·have hz:zP p≠0:=hz
  have Q:=M hz;subst Q;obtain⟨D,w,z⟩:=e.fin b m I t i (by omega) L F (H.upd F id) (Upd.refl _ _) u g;exact v R a q D w z
end Go.Proofs
namespace Go.Proofs
open Go Go.Lift
theorem xC{W:Nat→Prop}{h:ac}{b:Nat}{sl:ByteArray}{w:Option ByteArray}{F:Fo}(r:RxN W h b sl w F){K:ByteArray×Bool→ac→Prop}(c:∀v,(∀u,w=some u→v=u)→K (v,w.isSome) h):HC PG hO [.pointer (some ⟨b,0,none⟩)] [.c .str,.c .bool] K h:=by
 refine pa _ ?_;unfold kI dZ iW;obtain⟨val,s,ow,ks,a,hv,_⟩:=r;exact al.2 ⟨_,rfl,val,fa (i:=2) a,_,rfl,w.isSome,fa (i:=1) a,c val (vw hv)⟩
theorem zL{W:Nat→Prop}{h:ac}{b:Nat}{sl:ByteArray}{w:Option ByteArray}{F:Fo}(r:RxN W h b sl w F)(m:F.toL.length≤256){K:SliceV→ac→Prop}(f:∀s' a ks,OwnS kR 1 ax (fun y=>h.size≤y) a s' ks→RxL W a ks F.toL→Upd No h a→K s' a):HC PG iH [.pointer (some ⟨b,0,none⟩)] [.c .slice] K h:=by
 refine pW _ ?_;unfold ly ci;obtain⟨val,s,ow,ks,g,hv,j,_,k⟩:=r;have d:=nJ.1 k;refine al.2 ⟨_,rfl,s,fa (i:=3) g,?_⟩;refine uR j (by rw[d.1];omega) fun s' a e c=>f s' a ks e (d.upd0 c) c
theorem zW(lab:List UInt8)(w:Option ByteArray)(b a:Fo):qv (.cons lab w b a)=((w.map fun v=>(([]:List UInt8),v)).toList++qv b).map (fun p=>(lab++p.1,p.2))++qv a:=rfl
end Go.Proofs
namespace Go.Proofs
open Go Go.Lift
end Go.Proofs
namespace Go.Proofs
open Go Go.Lift
end Go.Proofs
namespace Go.Proofs
open Go Go.Lift
end Go.Proofs
namespace Go.Proofs
end Go.Proofs
namespace Go.Proofs
open Go Go.Lift
def wl(x:Hs):Nat→List Pr→List Pr
 |0,l=>l
 |m+1,l=>uv x (12-m) l++(pz x (12-m) l).flatMap (wl x m)
def cw(x:Hs):Nat→List Pr→Nat
 |0,_=>2
 |m+1,l=>2+((pz x (12-m) l).map (cw x m)).sum
structure Fr where
 sp:SliceV
 sk:SliceV
 n:Nat
 ps:List Pr
 ks:List (Nat×List Pr)
def Fr.raw(f:Fr):SliceV×SliceV:=(f.sp,f.sk)
def Fr.rem(x:Hs)(f:Fr):List Pr:=f.ps++f.ks.flatMap fun k=>wl x (f.n-1) k.2
theorem setCell{α:Type}{f:α→List Value}{c:Nat}{t:TypeId}{M:Nat→Prop}{h:ac}{s:SliceV}{P Q:List α}{x y:α}{j:Nat}{v:Value}(n:OwnS f c t M h s (P++x::Q))(H:j<c)(D:f y=(f x).set j v){a:Addr}(A:s.a=some a){i:Nat}(E:i=P.length){G:ac→Prop}(B:∀m,OwnS f c t M m s (P++y::Q)→Upd M h m→G m):
  Wr h (adr (adr a (i*c)) j)∧At (hset h (adr (adr a (i*c)) j) v) G:=by
 subst E;have q:=n.ne;have d:=n.len;have k:=n.cap;rcases n.blk with K|⟨b,e,g,w,hc,C⟩
 ·rw[ae,List.length_cons]at d;omega
 rw[A]at g;cases g;have I:(P.flatMap f).length=P.length*c:=gw q P;rw[bh,ba]at hc;have J:=(q x).1;have F:adr (adr ⟨b,0,none⟩ (P.length*c)) j=⟨b,P.length*c+j,none⟩:=by rw[aX,aX,ar]
 rw[F];have u:P.length*c+j<(P.flatMap f++(f x++Q.flatMap f)++e).toArray.size:=by
  simp only[bG,ae];omega
 refine⟨fq hc u,qK hc fun m o p=>B m ⟨by rw[d];simp,q,k,.inr ⟨b,e,A,w,?_,C⟩⟩ (p.mono fun z hz=>.inl (by have hz:z=b:=hz;rw[hz];exact w))⟩
 rw[o];congr 3
 rw[bh,ba,D];apply Array.toList_inj.1;rw[Array.toList_setIfInBounds];simp only[List.append_assoc];rw[List.set_append_right _ _ (by omega),show P.length*c+j-(P.flatMap f).length=j by omega,List.set_append_left _ _ (by omega)]
end Go.Proofs
namespace Go.Proofs
open Go Go.Lift
end Go.Proofs
namespace Go.Proofs
open Go Go.Lift
def Below(W:Nat→Prop)(x:Hs)(h:ac)(m:Nat)(r:Option Addr)(l:List Pr):Prop:=(r=none∧l= [])∨∃b,r=some ⟨b,0,none⟩∧TrieAt W x h m b l
theorem Below.upd0{W:Nat→Prop}{x:Hs}{h a:ac}{m:Nat}{r:Option Addr}{l:List Pr}(k:Upd No h a)(t:Below W x h m r l):Below W x a m r l:=t.imp id fun⟨b,e,t⟩=>⟨b,e,TrieAt.upd0 k t⟩
theorem Below.less{W W':Nat→Prop}{x:Hs}{h:ac}{m:Nat}{r:Option Addr}{l:List Pr}(hm:∀b,W' b→W b∨h.size≤b)(t:Below W x h m r l):Below W' x h m r l:=t.imp id fun⟨b,e,t⟩=>⟨b,e,TrieAt.less hm t⟩
theorem Below.updM{W M:Nat→Prop}{x:Hs}{h a:ac}{m:Nat}{r:Option Addr}{l:List Pr}(k:Upd M h a)(hm:∀b,M b→W b∨h.size≤b)(t:Below W x h m r l):Below W x a m r l:=t.imp id fun⟨b,e,t⟩=>⟨b,e,TrieAt.updM k hm t⟩
end Go.Proofs
namespace Go.Proofs
open Go Go.Lift
end Go.Proofs
namespace Go.Proofs
open Go Go.Lift
end Go.Proofs
namespace Go.Proofs
open Go Go.Lift
end Go.Proofs
namespace Go.Proofs
open Go Go.Lift
end Go.Proofs
namespace Go.Proofs
open Go Go.Lift
end Go.Proofs
namespace Go.Proofs
open Go Go.Lift
theorem wx:∀F:Fo,(qv F).length=(F.toL.map fun n=>(kS n.2.1 n.2.2).length).sum
 | .nil=>rfl
 | .cons lab w kids rest=>by
  rw[zW,Fo.toL_cons,fU,List.sum_cons,←wx rest,ae,List.length_map];rfl
def DU(n:Bn):Prop:=∀{W:Nat→Prop} {h:ac} {b:Nat} {sl:ByteArray},RxN W h b sl n.2.1 n.2.2→(kS n.2.1 n.2.2).length≤1000000000→∀{K:Int→ac→Prop},(∀h',Upd No h h'→K (((kS n.2.1 n.2.2).length:Nat):Int) h')→HC PG ld [.pointer (some ⟨b,0,none⟩)] [.c (.int .i64)] K h
theorem zh{lab:List UInt8}{w:Option ByteArray}{F:Fo}(L:F.toL.length≤256)(M:∀n∈F.toL,DU n):DU (lab,w,F):=by
 intro W h b sl r O K B;simp only at r O B;refine xb (some ⟨b,0,none⟩) ?_;unfold rA dT gg;have j:(kS w F).length=(w.map fun v=>(([]:List UInt8),v)).toList.length+(F.toL.map fun n=>(kS n.2.1 n.2.2).length).sum:=by
  rw[←wx,←ae];rfl
 refine Join.intro (fun t G=>t=(((w.map fun v=>(([]:List UInt8),v)).toList.length:Nat):Int)∧G=h) (fun R C=>?_) ?_
 ·refine xC r fun v _=>?_
  cases w with
  |none=>exact al.2 (C _ _ ⟨rfl,rfl⟩)
  |some u=>exact ao.2 (C _ _ ⟨rfl,rfl⟩)
 ·rintro t G ⟨rfl,rfl⟩
  generalize (w.map fun v=>(([]:List UInt8),v)).toList.length=c0 at j
  refine zL r L fun s1 A ks y d k1=>?_
  have f:Sl kR 1 No A s1 ks:=y.sl fun _ _ _ h=>h
  have g:=f.len;rw[d.1]at g;refine LoopP.ghost (fun(i:Nat) (t:Int×Int) m=>t.1=((c0+((F.toL.take i).map fun n=>(kS n.2.1 n.2.2).length).sum:Nat):Int)∧t.2=(i:Int)∧i≤F.toL.length∧Upd No A m) (fun i=>F.toL.length-i) 0 ⟨by simp,rfl,d4 _,Upd.refl _ _⟩ ?_
  rintro I i ⟨S,ti⟩ m ⟨D,E,U,k⟩ N;simp only at D E;subst D E;have q:∀i,((F.toL.take i).map fun n=>(kS n.2.1 n.2.2).length).sum≤(F.toL.map fun n=>(kS n.2.1 n.2.2).length).sum:=fun i=>by
   conv=>rhs;rw[←bc i F.toL,fQ,jW]
   omega
  refine bi (fun c=>?_) fun x=>?_
  ·have c:i<F.toL.length:=by have:(i:Int)<(s1.len:Int):=c;omega
   obtain⟨H,P,s,_,o⟩:=(d.upd0 k).at c;obtain⟨a,J,_,hv⟩:=(f.upd k fun _ h=>h.elim).at0 s
   refine⟨⟨by simp only;omega,by simp only;omega⟩,a,J,some ⟨H,0,none⟩,hv,?_⟩
   have Q:((F.toL.take (i+1)).map fun n=>(kS n.2.1 n.2.2).length).sum=((F.toL.take i).map fun n=>(kS n.2.1 n.2.2).length).sum+(kS F.toL[i].2.1 F.toL[i].2.2).length:=by
    rw[eT c,fQ,jW];simp
   have A:=q (i+1);refine M _ (bO c) o (by omega) fun T z=>?_
   rw[ke c (by omega)];have e:IntKind.wrap .i64 (((c0+((F.toL.take i).map fun n=>(kS n.2.1 n.2.2).length).sum:Nat):Int)+((kS F.toL[i].2.1 F.toL[i].2.2).length:Int))=((c0+((F.toL.take (i+1)).map fun n=>(kS n.2.1 n.2.2).length).sum:Nat):Int):=by
    rw[nT (by omega)];omega
   rw[e];exact N (i+1) _ _ ⟨rfl,rfl,c,k.tr z⟩ (by omega)
  ·have p:i=F.toL.length:=by have:¬(i:Int)<(s1.len:Int):=x;omega
   subst p;rw[cG,←j];exact B m (k1.tr k)
theorem sX:∀{F:Fo},fK F→∀n∈F.toL,DU n
 | .nil,_,n,a=>by simp[Fo.toL]at a
 | .cons lab w kids rest,h,n,a=>by
  rcases ai.1 a with rfl|a
  ·exact zh (pP h.2.2.1) (sX h.2.2.1)
  ·exact sX h.2.2.2.2 n a
theorem AP{W:Nat→Prop}{x:Hs}{h:ac}{t:Tr}{l:List Pr}(i:TreeIs W h 1 x t l)(k:eO l)(p:l.length≤60000){K:Int→ac→Prop}(g:∀h',Upd No h h'→K (l.length:Int) h'):HC PG eH [Da t] [.c (.int .i64)] K h:=by
 refine mP t ?_;unfold jT qj bJ az;rcases i with⟨e,_⟩|⟨_,b,rfl,t⟩
 ·cases e
 refine bD fun o b1 k1=>⟨_,vc b1 0,ao.2 ⟨_,vc b1 5,?_⟩⟩
 obtain⟨w,F,n,c,m⟩:=(t.upd0 k1).ex;have j:=Co c k m;have a:=congrArg iq j;unfold Ea at a;rw[List.length_map]at a;refine zh (lab:= []) (pP c) (sX c) n (by simp only;omega) fun f d=>?_
 simp only;rw[a];exact g f (k1.tr d)
end Go.Proofs
namespace Go.Proofs
open Go Go.Lift
end Go.Proofs
namespace Go.Proofs
open Go Go.Lift
abbrev Rt:=Int×Int×Int×Int×SliceV
def hx(a v:Int):Int:=if a=0 then v else 0
end Go.Proofs
namespace Go.Proofs
open Go Go.Lift
end Go.Proofs
namespace Go.Proofs
open Go Go.Lift
end Go.Proofs
namespace Go.Proofs
open Go.Lift
abbrev Ch:=ByteArray×ByteArray×ByteArray×Bool×Bool
end Go.Proofs
namespace Go.Proofs
open Go Go.Lift
end Go.Proofs
namespace Go.Proofs
open Go Go.Lift
theorem xU{h:ac}{b:Nat}{c:Array Value}{t:TypeId}(a:h[b]? =some (.cells c t (0,0))) (hc:0<c.size):cq h ⟨b,0,none⟩:=⟨c,t,a,hc⟩
theorem TrieAt.plain{W:Nat→Prop}{x:Hs}{h:ac}:∀{m b:Nat} {l:List Pr},TrieAt W x h m b l→cq h ⟨b,0,none⟩
 |0,_,_,t=>by obtain⟨_,_,_,a,_⟩:=BuckAt.ex t;exact xU a (by simp[dw])
 |m+1,_,_,⟨s,nd,_⟩=>by obtain⟨_,_,_,_,_,a,_⟩:=nd.ex;exact xU a (by simp[dw])
end Go.Proofs
namespace Go.Proofs
open Go Go.Lift
end Go.Proofs
namespace Go.Proofs
open Go Go.Lift
theorem RxN.plain{W:Nat→Prop}{h:ac}{b:Nat}{sl:ByteArray}{w:Option ByteArray}{F:Fo}(r:RxN W h b sl w F):cq h ⟨b,0,none⟩:=by
 obtain⟨val,s,ow,ks,a,_⟩:=r;exact xU a (by simp[qh])
end Go.Proofs
namespace Go.Proofs
open Go Go.Lift
end Go.Proofs
namespace Go.Proofs
open Go Go.Lift
end Go.Proofs
namespace Go.Proofs
open Go Go.Lift
end Go.Proofs
namespace Go.Proofs
open Go Go.Lift
end Go.Proofs
namespace Go.Proofs
open Go Go.Lift
end Go.Proofs
namespace Go.Proofs
open Go Go.Lift
end Go.Proofs
namespace Go.Proofs
open Go Go.Lift
abbrev b1:ByteArray:=⟨#[49]⟩
abbrev b2:ByteArray:=⟨#[50]⟩
abbrev b3:ByteArray:=⟨#[51]⟩
end Go.Proofs
namespace Go.Proofs
open Go Go.Lift
def look(l:List Pr)(k:ByteArray):Option ByteArray:=(l.find? fun p=>decide (p.1=k)).map (·.2)
end Go.Proofs
namespace Go.Proofs
open Go Go.Lift
end Go.Proofs
namespace Go.Proofs
open Go Go.Lift
def Dh(c:Ch):Bool:=(!((!c.2.2.2.1&& !c.2.2.2.2)||(c.2.2.2.1&&(c.2.2.2.2&&decide (c.2.1=c.2.2.1)))))&&((c.2.2.2.1||decide (c.2.1=⟨#[]⟩))&&(c.2.2.2.2||decide (c.2.2.1=⟨#[]⟩)))
def one(c:Ch):Option Ch:=if Dh c then some c else none
end Go.Proofs
namespace Go.Proofs
open Go Go.Lift
end Go.Proofs
namespace Go.Proofs
open Go Go.Lift
end Go.Proofs
namespace Go.Proofs
open Go Go.Lift
end Go.Proofs
namespace Go.Proofs
open Go Go.Lift
end Go.Proofs
namespace Go.Proofs
open Go Go.Lift
theorem AQ(x:Hs)(lev:Nat)(l:List Pr):(uv x lev l).length+(pz x lev l).flatten.length=l.length:=by
 have h:=qw x lev l 32;have d:(l.filter fun p=>decide (ck x lev p.1<32))=l:=List.filter_eq_self.2 fun p _=>decide_eq_true (zu ..)
 rw[d]at h;have:∀n,(fm (fun c=>xy (part x lev c l)) n).length+(fm (fun c=>rG (part x lev c l)) n).flatten.length=((cp n).map fun c=>(part x lev c l).length).sum:=by
  intro n;induction n with
  |zero=>simp[fm]
  |succ n ih=>
   rw[r7,r7,List.range_succ,fQ,jW];simp only[ae,dS,fU,List.map_nil,List.sum_cons,List.sum_nil,dE];generalize part x lev n l=q;have:(xy q).toList.length+(rG q).toList.flatten.length=q.length:=by
    match q with
    | []=>simp[xy,rG]
    | [a]=>simp[xy,rG]
    |a::b::q=>simp[xy,rG]
   omega
 have:=this 32;unfold uv pz;omega
theorem yc{W:Nat→Prop}{x:Hs}{h:ac}{m:Nat}{ks:List (Option Addr)}:∀{ls:List (List Pr)},KidsAt W x h m ks ls→ks.length=ls.length∧∀i (c:i<ls.length),∃b,ks[i]? =some (some ⟨b,0,none⟩)∧TrieAt W x h m b ls[i]:=by
 induction ks with
 |nil=>intro ls;cases ls with
  |nil=>intro _;exact⟨rfl,fun i c=>absurd c (Nat.not_lt_zero _)⟩
  |cons a ls=>intro h;exact h.elim
 |cons k ks ihk=>intro ls;cases ls with
  |nil=>intro h;exact h.elim
  |cons a ls=>
   rintro⟨⟨b,rfl,tk⟩,h⟩;obtain⟨e,d⟩:=ihk h;refine⟨by simp[e],fun i c=>?_⟩
   cases i with
   |zero=>exact⟨b,rfl,tk⟩
   |succ i=>simp only[List.getElem?_cons_succ,List.getElem_cons_succ];exact d i (by simpa using c)
theorem Cy{x:Hs}{W:Nat→Prop}:∀(m:Nat),m≤13→∀{b:Nat} {l:List Pr} {h:ac},TrieAt W x h m b l→l.length≤60000→∀{K:Int→ac→Prop},(∀j,Upd No h j→K (l.length:Int) j)→HC PG lh [.pointer (some ⟨b,0,none⟩)] [.c (.int .i64)] K h:=by
 intro m;induction m with
 |zero=>
  intro _ b l h t U K G;refine ry _ ?_;unfold nG dT gg;have bk:∀{j},Upd No h j→BuckAt W j b l:=fun k=>BuckAt.upd t k fun _ h=>h.elim
  obtain⟨sp,sk,ow,w,p,hsk,_⟩:=(bk (Upd.refl No h)).ex;refine sR w p (by omega) fun s1 h1 u k1=>?_
  obtain⟨M,F,O,s,Z,o,_⟩:=(bk k1).ex;refine zj s o (by simp) fun s2 v q D=>?_
  have C:=q.len;rw[dQ]at C;refine LoopP.ghost (fun(_:Unit) (t:Int×Int) j=>t=((s1.len:Int),0)∧j=v) (fun _=>0) () ⟨rfl,rfl⟩ ?_
  rintro I _ t B ⟨rfl,e⟩ Y;rw[e];refine bi (fun f=>absurd f (by simp only;omega)) fun _=>?_
  simp only;rw[u.len];exact G v (k1.tr D)
 |succ m ih=>
  intro hm b l h t U K G;refine ry _ ?_;unfold nG dT gg;obtain⟨sl,nd,N⟩:=t;have T:∀c,c<32→SlotIs W x h m sl c (part x (12-m) c l):=N;have hd:∀{j},Upd No h j→∃d n sp sk ow,j[b]? =some (.cells (dw d n sp sk false ow) aM (0,0))∧Sl hH 2 W j sp (uv x (12-m) l)∧Sl j4 1 W j sk (fm sl.k 32):=fun{j} k=>by
   obtain⟨d,n,sp,sk,ow,w,bits,B,S,_⟩:=(nd.upd k fun _ h=>h.elim).ex
   refine⟨d,n,sp,sk,ow,w,?_,S⟩;rw[←Cl T];exact B
  have H:KidsAt W x h m (fm sl.k 32) (pz x (12-m) l):=Bf 32 T;have y:∀L∈pz x (12-m) l,L.length≤60000:=fun L hL=>by
   obtain⟨_,c,rfl⟩:=zZ hL;exact fB wz U
  have E:=AQ x (12-m) l;obtain⟨P,z⟩:=yc H;generalize uv x (12-m) l=So at hd E;generalize pz x (12-m) l=Ma at y E P z;obtain⟨d,n,sp,sk,ow,w,p,_⟩:=hd (Upd.refl No h);refine sR w p (by omega) fun s1 h1 u k1=>?_
  obtain⟨d1,n1,M,F,O,s,_,o⟩:=hd k1;have X:=tg (g:=sl.k);refine zj s o (by omega) fun s2 v q D=>?_
  have S2:Sl j4 1 No v s2 (fm sl.k 32):=q.sl fun _ _ _ h=>h
  have hlk:=S2.len;refine LoopP.ghost (fun(i:Nat) (t:Int×Int) j=>t.1=((So.length+(Ma.take i).flatten.length:Nat):Int)∧t.2=(i:Int)∧i≤Ma.length∧Upd No v j) (fun i=>Ma.length-i) 0 ⟨by rw[u.len];simp,rfl,d4 _,Upd.refl _ _⟩ ?_
  rintro I i ⟨tn,ti⟩ B ⟨V,C,hi,A⟩ Y;simp only at V C;subst V C;refine bi (fun f=>?_) fun Q=>?_
  ·have f:i<Ma.length:=by simp only at f;omega
   obtain⟨kb,R,tk⟩:=z i f;obtain⟨a,ha,_,hv⟩:=(S2.upd A fun _ h=>h.elim).at0 R
   refine⟨⟨by simp only;omega,by simp only;omega⟩,a,ha,some ⟨kb,0,none⟩,hv,?_⟩
   have p:(Ma.take i).flatten.length+Ma[i].length≤Ma.flatten.length:=by
    have e:Ma=Ma.take i++Ma[i]::Ma.drop (i+1):=by rw[List.getElem_cons_drop,bc]
    have:=congrArg (fun L=>(List.flatten L).length) e
    simp only[dS,eV,ae]at this;omega
   refine ih (by omega) (TrieAt.upd0 ((k1.tr D).tr A) tk) (y _ (bO f)) fun S k4=>?_
   simp only;rw[ke f (by omega),nT (by omega)];refine Y (i+1) _ _ ⟨?_,rfl,f,A.tr k4⟩ (by omega);rw[eT f,dS];simp only[eV,List.flatten_nil,cR,ae];omega
  ·have J:i=Ma.length:=by simp only at Q;omega
   subst J;simp only;rw[cG,E];exact G B ((k1.tr D).tr A)
theorem yZ{W:Nat→Prop}{x:Hs}{h:ac}{a:Int}{t:Tr}{l:List Pr}(i:TreeIs W h a x t l)(j:eO l)(e:l.length≤60000){K:Int→ac→Prop}(d:∀h',Upd No h h'→K (l.length:Int) h'):HC PG eH [Da t] [.c (.int .i64)] K h:=by
 rcases i with⟨rfl,b,rfl,c⟩|⟨rfl,b,rfl,c⟩
 ·refine mP _ ?_
  unfold jT qj bJ az;refine bD fun k b1 k1=>⟨_,vc b1 0,al.2 ⟨_,vc b1 4,?_⟩⟩
  exact Cy 13 (av _) (TrieAt.upd0 k1 c) e fun g f=>d g (k1.tr f)
 ·exact AP (x:=x) (.inr ⟨rfl,b,rfl,c⟩) j e d
end Go.Proofs
namespace Go.Proofs
open Go Go.Lift
end Go.Proofs
namespace Go.Proofs
open Go Go.Lift
def byN(s:ByteArray)(i:Nat):Nat:=if h:i<s.size then(s[i]'h).toNat else 0
def hv(s:ByteArray):Nat→Nat→Nat
 |_,0=>0
 |p,c+1=>hv s (p+1) c*256+byN s p
end Go.Proofs
namespace Go.Proofs
open Go Go.Lift
end Go.Proofs
namespace Go.Proofs
open Go Go.Lift
section
variable {bu:Bool} {s:SliceV} {q q':Nat→List Pr} {kk kk':Nat→Option Addr} {i:Nat}
end
end Go.Proofs
namespace Go.Proofs
open Go Go.Lift
end Go.Proofs
namespace Go.Proofs
open Go Go.Lift
end Go.Proofs
namespace Go.Proofs
open Go Go.Lift
end Go.Proofs
namespace Go.Proofs
open Go Go.Lift
end Go.Proofs
namespace Go.Proofs
open Go Go.Lift
end Go.Proofs
namespace Go.Proofs
open Go Go.Lift
end Go.Proofs
namespace Go.Proofs
open Go Go.Lift
end Go.Proofs
namespace Go.Proofs
open Go Go.Lift
theorem Ep{h:ac}{eb pb tb cb cap:Nat}{ids:List Int}{tu:Tr}{ti:Int}{a:Bool}(e:EdAt h eb pb tb tu)(k:TokAt h tb pb ti a)(p:PoolAt h pb cb cap ids):eb≠cb∧eb≠tb∧tb≠cb:=by
 obtain⟨n,b,s,r,hc⟩:=p;refine⟨fun h=>?_,fun h=>?_,fun h=>?_⟩
 ·subst h;have:=e.symm.trans hc;simp at this
 ·subst h;have:=e.symm.trans k;simp at this
 ·subst h;have:=k.symm.trans hc;simp at this
theorem tq{h:ac}{pb cb cap:Nat}{i:Int}{ids:List Int}(p:PoolAt h pb cb cap (i::ids))(t:Tr){K:Option Addr×Int→ac→Prop}(f:∀h' eb tb,Upd (· =cb) h h'→PoolAt h' pb cb cap ids→TokAt h' tb pb i true→EdAt h' eb pb tb t→h.size≤eb→h.size≤tb→K (some ⟨eb,0,none⟩,0) h'):HC PG dV [.pointer (some ⟨pb,0,none⟩),Da t] [.c .ptr,.c (.int .i64)] K h:=by
 refine mJ _ t ?_;unfold ka qj bJ aj az Eu;refine bD fun g b1 k1=>?_
 have n:=aW b1;have o:cb<h.size:=by obtain⟨_,_,_,_,hc⟩:=p;exact aW hc
 have s1:=k1.size;refine wy (p.upd0 k1) fun e c m k=>al.2 ?_
 have a:=c.get b1 (show ¬h.size=cb by omega)
 have s3:=c.size;refine⟨_,vc a 0,_,vc a 1,_,vc a 2,_,vc a 3,_,vc a 4,_,vc a 5,bD fun d j b=>?_⟩
 exact f d e.size g.size ((k1.wide.tr c).tr b.wide) (m.upd0 b) (k.upd b fun h=>h) j (by omega) s1
theorem pK{h:ac}{pb cb cap:Nat}(p:PoolAt h pb cb cap [])(t:Tr){K:Option Addr×Int→ac→Prop}(a:∀h',Upd No h h'→K (none,6) h'):HC PG dV [.pointer (some ⟨pb,0,none⟩),Da t] [.c .ptr,.c (.int .i64)] K h:=by
 refine mJ _ t ?_;unfold ka qj bJ aj az Eu;exact bD fun b b1 k1=>uc (p.upd0 k1) (ao.2 (a b k1))
theorem yu{h:ac}{eb pb tb cb cap:Nat}{ids:List Int}{tu:Tr}{ti:Int}(e:EdAt h eb pb tb tu)(k:TokAt h tb pb ti true)(p:PoolAt h pb cb cap ids)(o:ids.length<cap){K:Tr×Int→ac→Prop}(m:∀h',Upd (fun y=>y=cb∨y=tb) h h'→PoolAt h' pb cb cap (ids++ [ti])→TokAt h' tb pb ti false→EdAt h' eb pb tb tu→K (tu,0) h'):el (some ⟨eb,0,none⟩) K h:=by
 obtain⟨v,s,B⟩:=Ep e k p;unfold el gn m3 bJ aj az cT uX jA cL qg;refine bD fun x b1 k1=>?_
 have z:cb<h.size:=by obtain⟨_,_,_,_,hc⟩:=p;exact aW hc
 have A:=aW k;have s1:=k1.size;have d:=e.upd k1 fun h=>h
 refine qE d (k.upd k1 fun h=>h) (al.2 ⟨_,rfl,_,vc d 0,_,rfl,_,vc d 1,?_⟩)
 refine xT (p.upd0 k1) (k.upd k1 fun h=>h) o fun t f n j=>?_
 have b:=d.upd f (by omega);refine⟨_,rfl,_,xp b 2 0,_,xp b 2 1,_,xp b 2 2,_,xp b 2 3,_,xp b 2 4,_,xp b 2 5,?_⟩;refine fV (c:=lS nI) (vs:=lS tu) (f.get b1 (by omega)) rfl fun q b3 a=>?_
 refine⟨_,vc b3 0,_,vc b3 1,_,vc b3 2,_,vc b3 3,_,vc b3 4,_,vc b3 5,?_⟩;have s2:=f.size;have w:=aW e;obtain⟨_,g,_⟩:=id p;have u:=aW g;exact m q ((k1.wide.tr f).trans a fun y i=>.inr (by have i:y=h.size:=i;omega)) (n.upd a (by omega) (by omega)) (j.upd a (by omega)) (b.upd a (by omega))
theorem wV{h:ac}{eb pb tb cb cap:Nat}{ids:List Int}{tu:Tr}{ti:Int}(e:EdAt h eb pb tb tu)(k:TokAt h tb pb ti true)(p:PoolAt h pb cb cap ids)(b:ids.length<cap){K:Tr×Int→ac→Prop}(a:∀h',Upd (fun y=>y=cb∨y=tb) h h'→PoolAt h' pb cb cap (ids++ [ti])→TokAt h' tb pb ti false→EdAt h' eb pb tb tu→K (tu,0) h'):HC PG bR [.pointer (some ⟨eb,0,none⟩)] AM K h:=
 kD _ (yu e k p b a)
theorem BJ{h:ac}{eb pb tb:Nat}{tu:Tr}{ti:Int}(e:EdAt h eb pb tb tu)(k:TokAt h tb pb ti false)(p:Pr){K:Int→ac→Prop}(d:∀h',Upd No h h'→K 5 h'):HC PG dg [.pointer (some ⟨eb,0,none⟩),.agg #[.string p.1,.string p.2]] [.c (.int .i64)] K h:=by
 refine jS _ p ?_;unfold g7 qk;refine bD fun f b1 k1=>bD fun c b2 b=>?_
 have a:=k1.tr b;exact⟨_,vc (b.get0 b1) 0,qE (e.upd a fun h=>h) (k.upd a fun h=>h) (ao.2 (d c a))⟩
end Go.Proofs
namespace Go.Proofs
open Go Go.Lift
theorem EdO.end_{W S:Nat→Prop}{h d:ac}{eb pb tb cb:Nat}{ti:Int}{b:Int}{x:Hs}{tu:Tr}{lu:List Pr}(e:EdO W S h eb pb tb ti b x tu lu)(c:W cb)(k:Upd (fun y=>y=cb∨y=tb) h d)(t:TokAt d tb pb ti false):TreeIs No d b x tu lu:=
 (e.iu.upd k (fun y f=>e.lt y (.inr f)) fun y f=>by
  rcases f with rfl|rfl
  ·exact .inl ⟨.inl c,fun h=>e.ap _ h c⟩
  ·exact .inl ⟨.inl e.wt,fun h=>e.ap _ h e.wt⟩).freeze (W':=No) (fun _ h=>h.elim) (fun a h=>by cases h;exact⟨id,_,_,t,by simp⟩) fun _ _ h=>h
theorem EdO.upd0{W S:Nat→Prop}{h b:ac}{eb pb tb:Nat}{ti:Int}{a:Int}{x:Hs}{tu:Tr}{lu:List Pr}(e:EdO W S h eb pb tb ti a x tu lu)(k:Upd No h b):EdO W S b eb pb tb ti a x tu lu:=
 ⟨e.ed.upd k fun h=>h,e.tk.upd k fun h=>h,e.iu.upd0 k,fun y c=>cg (e.lt y c) k.size,e.we,e.wt,e.ap,e.up,e.fit⟩
theorem Ah{W:Nat→Prop}{h:ac}{eb pb tb:Nat}{ti:Int}{a:Int}{x:Hs}{t:Tr}{l:List Pr}(e:EdAt h eb pb tb t)(k:TokAt h tb pb ti true)(i:TreeIs W h a x t l)(lt:∀y,W y→y<h.size)(we:W eb)(wt:W tb)(up:eO l)(fit:Fit l):EdO W No h eb pb tb ti a x t l:=
 ⟨e,k,AL (i.less fun y b=>.inl (b.elim id fun h=>h.elim)),fun y b=>b.elim (lt y) fun h=>h.elim,we,wt,fun _ h=>h.elim,up,fit⟩
set_option maxRecDepth 100000 in
theorem yA{h:ac}{K:Bool→ac→Prop}(hk:∀s,Upd No h s→K true s):HC PG nx [] [.c .bool] K h:=by
 refine xe ?_;unfold rC nv m3 qj m4 bJ aj az zg3 yV;refine sU (n:=1) (av _) (by omega) fun u k2 G=>?_
 have G:PoolAt u (h.size+1) h.size 1 [1]:=G;have z2:=aW G.2.1;refine Cj (W:=fun y=>y<u.size) (x:=⟨0,0,0⟩) (fun _ h=>h) (.inl rfl) fun F t i4 k4=>oL (t:=t) fun h6 o H=>?_
 have z6:=aW o;have s4:=k4.size;refine⟨_,vc o 0,_,vc o 1,_,vc o 2,_,vc o 3,_,vc o 4,_,vc o 5,?_⟩;refine tq (G.upd0 (k4.tr H)) t fun k eb tb m p14 D w he ht=>?_
 have s14:=m.size;have ze:=aW w;have zt:=aW D;let W:Nat→Prop:=fun y=>y<u.size∨h6.size≤y∧y<k.size
 have v:TreeIs W k 0 ⟨0,0,0⟩ t []:=((((i4.less (W':=fun y=>y<u.size∨F.size≤y) fun _ h=>h).upd0 H).updM m fun y a=>.inl (.inl (by have a:y=h.size:=a;omega))).less fun y a=>.inl (a.imp id fun h=>by omega))
 have i6:TreeIs (fun y=>y=h.size) h6 0 ⟨0,0,0⟩ t []:=(i4.less (W':=fun y=>y=h.size) fun y a=>.inl (by have a:y=h.size:=a;show y<u.size;omega)).upd0 H
 have e:=Ah (W:=W) w D v (fun y a=>by rcases a with h|h<;>omega) (.inr ⟨he,ze⟩) (.inr ⟨ht,zt⟩) eW (fun p I=>by cases I)
 refine Join.intro (fun b s=>b=false∧∃tu S,EdO W S s eb (h.size+1) tb 1 0 ⟨0,0,0⟩ tu [(⟨#[97]⟩,⟨#[]⟩)]∧Upd (fun y=>S y∨y=eb) k s∧∀y,S y→k.size≤y∧y<s.size) (fun R hR=>?_) ?_
 ·refine al.2 (al.2 ?_)
  refine BI e (by simp) (⟨#[97]⟩,⟨#[]⟩) (fun s V S' e' k' A=>?_) (fun p I=>?_)
  ·have er:zP (⟨#[97]⟩,⟨#[]⟩)=0:=rfl
   rw[er];refine hR _ _ ⟨rfl,V,S',e',k'.mono fun y a=>a.elim (fun h=>h.elim) fun h=>.inl (.inr h),fun y a=>⟨(A y a).1.elim (fun h=>h.elim) id,(A y a).2⟩⟩
  ·have:p=(⟨#[97]⟩,⟨#[]⟩):=by
    have hw:sn [] ((⟨#[97]⟩,⟨#[]⟩):Pr)= [(⟨#[97]⟩,⟨#[]⟩)]:=rfl;rw[hw]at I;exact ag.1 I
   rw[this];exact⟨by decide,by decide⟩
 ·rintro _ h17 ⟨rfl,tu,S,q,i,L⟩
  refine al.2 ?_;have T:∀{z},z<k.size→¬S z:=fun hz h=>by have:=(L _ h).1;omega
  have hne:h.size+1≠eb∧h.size≠eb:=by omega
  have J:=p14.upd i (fun h=>h.elim (T (by omega)) fun h=>by omega) (fun h=>h.elim (T (by omega)) fun h=>by omega)
  refine wV q.ed q.tk J (by simp) fun Z j p21 C Y=>?_
  have X:=q.end_ (cb:=h.size) (.inl (by omega)) j C;have z17:=i.size;have z21:=j.size;have b14:=m.get o (show ¬F.size=h.size by omega)
  have b21:=j.get (i.get b14 (fun h=>h.elim (T (by omega)) fun h=>by omega)) (show ¬(F.size=h.size∨F.size=tb) by omega)
  have B:Upd No h Z:=(((k2.tr (k4.tr H)).trans m fun y a=>.inr (by have a:y=h.size:=a;omega)).trans i fun y a=>.inr (a.elim (fun h=>by have:=(L _ h).1;omega) fun h=>by omega)).trans j fun y a=>.inr (by rcases a with h|h<;>omega)
  refine oL (t:=tu) fun h23 f E=>ao.2 ⟨_,vc f 0,_,vc f 1,_,vc f 2,_,vc f 3,_,vc f 4,_,vc f 5,?_⟩
  refine yZ (X.upd0 E) (cW _ _) (by simp) fun h31 U=>ao.2 ?_
  have d:=E.tr U;refine BJ (Y.upd d fun h=>h) (C.upd d fun h=>h) (⟨#[98]⟩,⟨#[]⟩) fun O N=>ao.2 ?_
  have c:=d.tr N;have g:=c.get0 b21;refine⟨_,vc g 0,_,vc g 1,_,vc g 2,_,vc g 3,_,vc g 4,_,vc g 5,?_⟩;have P:TreeIs No O 0 ⟨0,0,0⟩ t []:=((((v.updM i fun y a=>a.elim (fun h=>.inr (L y h).1) fun h=>.inl (.inr ⟨by omega,by omega⟩)).less (W':=W) fun y a=>.inl a).updM j fun y a=>.inl (a.elim (fun h=>.inl (by omega)) fun h=>.inr ⟨by omega,by omega⟩)).less fun _ h=>h.elim).upd0 c
  refine yZ P eW (by simp) fun M Q=>hk M (B.tr (c.tr Q))
end Go.Proofs
namespace Go.Proofs
open Go Go.Lift
def Mv(U:Nat→Prop)(h:ac)(b:Nat→Prop)(a:ac):Prop:=Upd U h a∧∀y,b y→U y∨h.size≤y
section
variable {U U' U1 U2 M:Nat→Prop} {h h' h1 h2:ac}
theorem Mv.refl(U:Nat→Prop)(h:ac):Mv U h U h:=⟨Upd.refl _ _,fun _ h=>.inl h⟩
theorem Mv.tr(a:Mv U h U1 h1)(b:Mv U1 h1 U2 h2):Mv U h U2 h2:=⟨a.1.trans b.1 a.2,fun y c=>(b.2 y c).elim (a.2 y) fun h=>.inr (fB a.1.size h)⟩
theorem Mv.new(a:∀y,U' y→U y∨h.size≤y):Mv U h U' h:=⟨Upd.refl _ _,a⟩
theorem Mv.upM(k:Upd M h h')(hm:∀y,M y→U y∨h.size≤y):Mv U h U h':=⟨k.mono hm,fun _ h=>.inl h⟩
theorem Mv.get(a:Mv U h U' h'){b:Nat}{o:Obj}(c:h[b]? =some o) (d:¬U b):h'[b]? =some o:=a.1.get c d
theorem Mv.not(a:Mv U h U' h'){b:Nat}{o:Obj}(c:h[b]? =some o) (d:¬U b):¬U' b:=fun e=>(a.2 b e).elim d fun h=>by have:=aW c;omega
theorem TreeIs.mv{a:Int}{x:Hs}{t:Tr}{l:List Pr}(i:TreeIs U h a x t l)(m:Mv U h U' h'):TreeIs U' h' a x t l:=
 ((i.less (W':=fun y=>U y∨h.size≤y) fun _ h=>h).updM m.1 fun _ b=>.inl (.inl b)).less fun y b=>.inl (m.2 y b)
end
structure Ed where
 eb:Nat
 tb:Nat
 ti:Int
 lv:Bool
 tu:Tr
 lu:List Pr
 S:Nat→Prop
def tok(e:Ed):Option Addr:=if e.lv then some ⟨e.tb,0,none⟩else none
section
variable {A A' M:Nat→Prop} {h h':ac} {pb cb cap n m:Nat} {ids ids':List Int} {kind:Int} {x:Hs} {es:List Ed}
end
end Go.Proofs
namespace Go.Proofs
open Go Go.Lift
end Go.Proofs
namespace Go.Proofs
open Go Go.Lift
end Go.Proofs
namespace Go.Proofs
open Go Go.Lift
end Go.Proofs
namespace Go.Proofs
open Go Go.Lift
end Go.Proofs
namespace Go.Proofs
open Go Go.Lift
end Go.Proofs
namespace Go.Proofs
open Go Go.Lift
end Go.Proofs
namespace Go.Proofs
open Go Go.Lift
end Go.Proofs
namespace Go.Proofs
open Go Go.Lift
section
variable {A:Nat→Prop} {h:ac} {pb cb cap n:Nat} {ids:List Int} {kind:Int} {x:Hs} {es:List Ed} {i:Nat} {e:Ed}
end
end Go.Proofs
namespace Go.Proofs
open Go Go.Lift
def sb(s:SliceV)(y:Nat):Prop:=s.cap≠0∧∃a,s.a=some a∧y=a.block
section
variable {α:Type} {f:α→List Value} {sz:Nat} {ty:TypeId} {M:Nat→Prop} {h:ac} {s so:SliceV} {xs out:List α}
theorem _root_.Go.Lift.OwnS.sub(o:OwnS f sz ty M h s xs):∀y,sb s y→M y∧y<h.size:=fun y ⟨hc,a,j,c⟩=>by
 rcases o.blk with g|⟨b,e,d,hm,i,_⟩
 ·exact absurd g hc
 ·rw[j]at d
  cases d;exact⟨c▸hm,c▸aW i⟩
theorem _root_.Go.Lift.OwnS.one{x:α}{b:Nat}(a:∀x,(f x).length=sz∧0<sz)(c:h[b]? =some (.cells (f x).toArray ty (0,0))):OwnS f sz ty (sb ⟨some ⟨b,0,none⟩,1,1⟩) h ⟨some ⟨b,0,none⟩,1,1⟩ [x]:=
 ⟨rfl,a,av _,.inr ⟨b,[],rfl,⟨by simp,_,rfl,rfl⟩,by simpa using c,by simp⟩⟩
end
abbrev i1(n:Int):List Value:= [.int .i64 n]
abbrev b1V(b:Bool):List Value:= [.bool b]
abbrev r4L(n:Int)(s1 s2 s3:SliceV):List Value:= [.int .i64 n,.slice s1.a s1.len s1.cap,.slice s2.a s2.len s2.cap,.slice s3.a s3.len s3.cap]
structure R4(h:ac)(rb:Nat)(s1 s2 s3:SliceV)(ids:List Int)(lv:List Bool)(is:List Int):Prop where
 bl:∃n,h[rb]? =some (.cells (r4L n s1 s2 s3).toArray xu (0,0))
 o1:OwnS i1 1 CS (sb s1) h s1 ids
 o2:OwnS b1V 1 mq (sb s2) h s2 lv
 o3:OwnS i1 1 CS (sb s3) h s3 is
end Go.Proofs
namespace Go.Proofs
open Go Go.Lift
abbrev s0:SliceV:=⟨none,0,0⟩
abbrev s1A(b:Nat):SliceV:=⟨some ⟨b,0,none⟩,1,1⟩
def EJ(c:Nat):List Int:=(cp c).map fun j=>((j:Nat):Int)+1
end Go.Proofs
namespace Go.Proofs
open Go Go.Lift
end Go.Proofs
namespace Go.Proofs
open Go Go.Lift
structure Sp where
 T:Nat→Prop
 Q:ac→Prop
 loc:∀{M:Nat→Prop} {h h':ac},Q h→Upd M h h'→(∀y,T y→¬M y)→Q h'
section
variable {Ss:List Sp} {h h':ac} {M:Nat→Prop} {s s':Sp} {i:Nat}
end
section
variable {Ss:List Sp} {h h':ac} {pb cb cap n m:Nat} {ids ids':List Int} {kind:Int} {x:Hs} {es es':List Ed} {s s':Sp} {i:Nat} {M:Nat→Prop}
end
end Go.Proofs
namespace Go.Proofs
open Go Go.Lift
abbrev p1(a:Option Addr):List Value:= [.pointer a]
structure Xd where
 b:Nat
 k:Nat
 ru:Rt
 fz:Bool
structure WG where
 sl:SliceV
 sm:SliceV
 se:SliceV
 sx:SliceV
 s1:SliceV
 s2:SliceV
 s3:SliceV
 lt:List Tr
 lr:List Rt
 le:List (Option Addr)
 lx:List (Option Addr)
 ids:List Int
 lv:List Bool
 is:List Int
 xs:List Xd
def g0(b1 b2:Nat)(s1:SliceV)(t:Tr)(r:Rt)(n:Nat):WG:=⟨s1A b1,s1A b2,s0,s0,s1,s0,s0,[t],[r],[],[],EJ n,[],[],[]⟩
end Go.Proofs
