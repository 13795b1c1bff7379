/- A part of the proof that the named laws of this program answer true, whatever the input. -/
import Derived.Test.YtcpiahjlddmfiaaGreatPart3
import Derived.Test.YtcpiahjlddmfiaaGreatPart2
import Derived.Test.YtcpiahjlddmfiaaGreatPart1
import Derived.Test.YtcpiahjlddmfiaaGreatLift3
open Bool renaming and_eq_true→aR
open ByteArray renaming mk→wJ
open Int renaming toNat_natCast→aY,tmod→lq
open List renaming pairwise_cons→aB,mem_cons→aq,replicate→fR,getElem?_append_left→bN,take_succ_eq_append_getElem→bF,mem_append→aN,mem_singleton→av,take_length→cW,flatMap_cons→aK,length_append→ad,length_map→cL,length_set→ou,length_take→aP,append_assoc→ax,drop_drop→cG,drop_left'→cj,filter_append→dR,getElem?_eq_getElem→aj,mem_cons_of_mem→az,mem_cons_self→au,length_singleton→bd,length_cons→ao,append_nil→aX,mem_filter→ci,nil_append→dV,pairwise_append→bT,getElem?_append_right→aU,getElem?_eq_some_iff→bf
open List.Pairwise renaming nil→db
open Nat renaming le_refl→al,zero_add→aH,lt_of_lt_of_le→aC,zero_le→bS
namespace Go.Proofs
open Go Go.Lift
theorem qM{p q:Pr}:∀{l:List Pr},bV l→(q∈jZ p l↔q=p∨(q∈l∧q.1≠p.1))
 | [],_=>by simp[jZ]
 |r::l,b=>by
  have b:=aB.1 b;rw[mD];by_cases c:kl r.1 p.1
  ·have d:r.1≠p.1:=fun e=>by rw[e]at c;exact cn _ c
   rw[if_pos c,aq,aq,qM b.2];constructor
   ·rintro(rfl|h|⟨h,h'⟩)
    ·exact .inr ⟨.inl rfl,d⟩
    ·exact .inl h
    ·exact .inr ⟨.inr h,h'⟩
   ·rintro(h|⟨h|h,h'⟩)
    ·exact .inr (.inl h)
    ·exact .inl h
    ·exact .inr (.inr ⟨h,h'⟩)
  ·rw[if_neg c]
   by_cases a:r.1=p.1
   ·rw[if_pos a,aq,aq]
    constructor
    ·rintro(h|h)
     ·exact .inl h
     ·refine .inr ⟨.inr h,fun e=>?_⟩
      have:=b.1 q h;rw[e,a]at this;exact cn _ this
    ·rintro(h|⟨rfl|h,h'⟩)
     ·exact .inl h
     ·exact absurd a h'
     ·exact .inr h
   ·rw[if_neg a,aq,aq]
    have f:=rB c a;constructor
    ·rintro(h|rfl|h)
     ·exact .inl h
     ·exact .inr ⟨.inl rfl,a⟩
     ·refine .inr ⟨.inr h,fun e=>?_⟩
      have:=gU f (b.1 q h);rw[e]at this;exact cn _ this
    ·rintro(h|⟨rfl|h,h'⟩)
     ·exact .inl h
     ·exact .inr (.inl rfl)
     ·exact .inr (.inr h)
def RadRoot(W:Nat→Prop)(h:ac)(r:Option Addr)(l:List Pr):Prop:=(r=none∧l= [])∨∃b,r=some ⟨b,0,none⟩∧RadAt W h b l
theorem RadRoot.upd0{W:Nat→Prop}{h h':ac}{r:Option Addr}{l:List Pr}(k:Upd No h h')(t:RadRoot W h r l):RadRoot W h' r l:=t.imp id fun⟨b,e,t⟩=>⟨b,e,t.upd0 k⟩
theorem sR{a b:ByteArray}:a.data.toList=b.data.toList↔a=b:=by
 constructor
 ·intro h;cases a;cases b;exact congrArg wJ (Array.toList_inj.1 h)
 ·rintro rfl;rfl
theorem EN{W:Nat→Prop}{h:ac}(c:∀y,W y→y<h.size){K:Option Addr→ac→Prop}(a:∀h' b,RadAt W h' b []→Upd No h h'→K (some ⟨b,0,none⟩) h'):HC PG qy [] [.c .ptr] K h:=by
 refine Gv ?_;unfold yZ Jn;refine bw (a _ h.size ⟨none,.nil,⟨⟨#[]⟩,⟨none,0,0⟩,none,[],bE h SJ bJ,rfl,Sl.nil pi,⟨al _,fun hx=>Nat.lt_irrefl _ (c _ hx)⟩,rfl⟩,trivial,fun k v=>?_⟩ (Upd.hnew No h _ _))
 simp[zo,Au]
theorem BV{W:Nat→Prop}{h:ac}{r:Option Addr}{l:List Pr}(t:RadRoot W h r l)(d:∀y,W y→y<h.size){K:Option Addr→ac→Prop}(a:∀h' b,RadAt W h' b l→Upd No h h'→(r=some ⟨b,0,none⟩∨r=none)→K (some ⟨b,0,none⟩) h'):HC PG pr [.pointer r] [.c .ptr] K h:=by
 refine IZ r ?_;unfold Bs;rcases t with⟨rfl,rfl⟩|⟨b,rfl,t⟩
 ·exact ar.2 (EN d fun h' b t c=>a h' b t c (.inr rfl))
 ·exact ai.2 (a h b t (Upd.refl _ _) (.inl rfl))
theorem JP{W:Nat→Prop}{h:ac}{r:Option Addr}{l:List Pr}(t:RadRoot W h r l)(C:∀y,W y→y<h.size)(o:bV l)(p:Pr)(E:p.1.size≤1000000){K:Option Addr×Bool→ac→Prop}
  (N:∀h' b' a,Upd No h h'→RadAt W h' b' (jZ p l)→(p∈l→r=some ⟨b',0,none⟩∨r=none)→K (some ⟨b',0,none⟩,a) h'):
  HC PG xE [.pointer none,.pointer r,.agg #[.string p.1,.string p.2]] [.c .ptr,.c .bool] K h:=by
 refine KK none r p ?_;unfold DB ay vR Po;have k1:=Upd.hnew No h [.string p.1,.string p.2] ag;have b1:=bE h [.string p.1,.string p.2] ag;refine bw ?_;simp only[cr h];generalize hnew h [.string p.1,.string p.2] ag=h1 at k1 b1;have g:∀{h':ac},Upd No h1 h'→∀i,aI h' (adr ⟨h.size,0,none⟩ i)=(#[.string p.1,.string p.2]:Array Value)[i]?:=fun k i=>by rw[bW,aL (k.get0 b1),aH]
 have A:=Upd.refl No h1;refine⟨p.1,g A 0,p.2,g A 1,BV (t.upd0 k1) (fun y s=>aC (C y s) k1.size) fun P b I c J=>⟨g c 1,g c 0,?_⟩⟩
 obtain⟨w,F,D,L,B⟩:=I.ex;refine PJ (p.1.size+1) p.1 p.2 (by omega) E D (fun y s=>aC (C y s) (k1.tr c).size) L fun G b3 H F' a O x n z m j u=>?_
 refine N G b3 a ((k1.tr c).tr x) ⟨H,F',n,z,fun k v=>?_⟩ fun hm=>?_
 ·rw[md,m k v,←md,B k v]
  constructor
  ·rintro(⟨rfl,rfl⟩|⟨d,q,f,rfl,rfl⟩)
   ·exact⟨p,(qM o).2 (.inl rfl),rfl,rfl⟩
   ·exact⟨q,(qM o).2 (.inr ⟨f,fun e=>d (by rw[e])⟩),rfl,rfl⟩
  ·rintro⟨q,f,rfl,rfl⟩
   rcases(qM o).1 f with rfl|⟨f,d⟩
   ·exact .inl ⟨rfl,rfl⟩
   ·exact .inr ⟨fun e=>d (sR.1 e),q,f,rfl,rfl⟩
 ·have:=u (md.1 ((B _ _).2 ⟨p,hm,rfl,rfl⟩))
  rw[(j this).1];exact J
end Go.Proofs
namespace Go.Proofs
open Go Go.Lift
theorem bi{h:ac}{cs:List Value}{t:TypeId}{k:ac→Prop}(a:∀h',h'[h.size]? =some (.cells cs.toArray t (0,0))→Upd No h h'→k h'):At (hnew h cs t) k:=
 bw (a _ (bE h cs t) (Upd.hnew No h cs t))
theorem vc{h:ac}{b:Nat}{c:Array Value}{t:TypeId}(a:h[b]? =some (.cells c t (0,0))) (i:Nat):aI h (adr ⟨b,0,none⟩ i)=c[i]?:=by rw[bW,aH];exact aL a
theorem tH{h:ac}{b:Nat}{c:Array Value}{t:TypeId}(a:h[b]? =some (.cells c t (0,0))) (i j:Nat):aI h (adr (adr ⟨b,0,none⟩ i) j)=c[i+j]?:=by rw[bW,bW,aH];exact aL a
theorem F5{h:ac}{b i:Nat}{c c':Array Value}{t:TypeId}{v:Value}{k:ac→Prop}(d:h[b]? =some (.cells c t (0,0))) (hi:i<c.size) (e:c.setIfInBounds i v=c') (f:∀h',h'[b]? =some (.cells c' t (0,0))→Upd (· =b) h h'→k h'):Wr h (adr ⟨b,0,none⟩ i)∧At (hset h (adr ⟨b,0,none⟩ i) v) k:=by
 rw[bW,aH];exact⟨gn d hi,xP d fun h' a g=>f h' (e▸a) g⟩
theorem _root_.Go.Lift.Upd.own{h c a:ac}{b:Nat}(k:Upd No h c)(d:Upd (· =b) c a)(e:h.size≤b):Upd No h a:=k.trans d fun x hx=>.inr (by have hx:x=b:=hx;omega)
theorem _root_.Go.Lift.Upd.oth{h h':ac}{b c:Nat}{o:Obj}(d:Upd (· =b) h h')(hc:h[c]? =some o) (a:c≠b):h'[c]? =some o:=d.get hc a
abbrev Tr:=Int×Int×Int×Int×(Option Addr)×(Option Addr)
abbrev jN(t:Tr):List Value:= [.int .i64 t.1,.int .u64 t.2.1,.int .u64 t.2.2.1,.int .u64 t.2.2.2.1,.pointer t.2.2.2.2.1,.pointer t.2.2.2.2.2]
abbrev Aj(t:Tr):Value:=.agg #[.int .i64 t.1,.int .u64 t.2.1,.int .u64 t.2.2.1,.int .u64 t.2.2.2.1,.pointer t.2.2.2.2.1,.pointer t.2.2.2.2.2]
def Pro(W:Nat→Prop)(h a:ac)(y:Nat):Prop:=W y∨(h.size≤y∧y<a.size)
theorem Pro.lt{W:Nat→Prop}{h a:ac}(c:∀y,W y→y<h.size)(k:Upd No h a):∀y,Pro W h a y→y<a.size:=fun y b=>b.elim (fun h=>aC (c y h) k.size) fun h=>h.2
theorem Pro.hm{W:Nat→Prop}{h b:ac}:∀y,Pro W h b y→W y∨h.size≤y:=fun _ a=>a.imp id fun h=>h.1
theorem Pro.sub{W:Nat→Prop}{h b c:ac}:∀y,W y→Pro W h b y∨c.size≤y:=fun _ a=>.inl (.inl a)
theorem RootAt.less{W W':Nat→Prop}{x:Hs}{h:ac}(hm:∀b,W' b→W b∨h.size≤b){r:Option Addr}{l:List Pr}(t:RootAt W x h r l):RootAt W' x h r l:=t.imp id fun⟨b,e,t⟩=>⟨b,e,TrieAt.less hm t⟩
theorem RadRoot.less{W W':Nat→Prop}{h:ac}(hm:∀b,W' b→W b∨h.size≤b){r:Option Addr}{l:List Pr}(t:RadRoot W h r l):RadRoot W' h r l:=t.imp id fun⟨b,e,t⟩=>⟨b,e,t.less hm⟩
def TreeIs(W:Nat→Prop)(h:ac)(kind:Int)(x:Hs)(t:Tr)(l:List Pr):Prop:=(kind=0∧∃b,t=(0,x.k0,x.k1,x.mask,some ⟨b,0,none⟩,none)∧TrieAt W x h 13 b l)∨(kind=1∧∃b,t=(1,0,0,0,none,some ⟨b,0,none⟩)∧RadAt W h b l)
theorem TreeIs.upd0{W:Nat→Prop}{h h':ac}{kind:Int}{x:Hs}{t:Tr}{l:List Pr}(k:Upd No h h')(i:TreeIs W h kind x t l):TreeIs W h' kind x t l:=
 i.imp (fun⟨e,b,a,t⟩=>⟨e,b,a,TrieAt.upd0 k t⟩) fun⟨e,b,a,t⟩=>⟨e,b,a,t.upd0 k⟩
theorem TreeIs.less{W W':Nat→Prop}{h:ac}(hm:∀b,W' b→W b∨h.size≤b){kind:Int}{x:Hs}{t:Tr}{l:List Pr}(i:TreeIs W h kind x t l):TreeIs W' h kind x t l:=
 i.imp (fun⟨e,b,a,t⟩=>⟨e,b,a,TrieAt.less hm t⟩) fun⟨e,b,a,t⟩=>⟨e,b,a,t.less hm⟩
theorem TreeIs.updM{W M:Nat→Prop}{h h':ac}(k:Upd M h h')(hm:∀b,M b→W b∨h.size≤b){kind:Int}{x:Hs}{t:Tr}{l:List Pr}(i:TreeIs W h kind x t l):TreeIs W h' kind x t l:=
 i.imp (fun⟨e,b,a,t⟩=>⟨e,b,a,TrieAt.updM k hm t⟩) fun⟨e,b,a,t⟩=>⟨e,b,a,t.updM k hm⟩
theorem TreeIs.pro{W:Nat→Prop}{h a:ac}(k:Upd No h a){kind:Int}{x:Hs}{t:Tr}{l:List Pr}(i:TreeIs W h kind x t l):TreeIs (Pro W h a) a kind x t l:=(i.less Pro.hm).upd0 k
theorem Gm{W:Nat→Prop}{x:Hs}{h:ac}(d:∀y,W y→y<h.size){K:Option Addr→ac→Prop}(a:∀h' b,TrieAt W x h' 13 b []→Upd No h h'→K (some ⟨b,0,none⟩) h'):HC PG nP [] [.c .ptr] K h:=by
 refine yT ?_;unfold uT;exact r8 d fun h' b nd c=>a h' b (Ju nd) c
abbrev vH:Tr:=(0,0,0,0,none,none)
theorem JA{W:Nat→Prop}{x:Hs}{h:ac}{r:Option Addr}{l:List Pr}(t:RootAt W x h r l)(q:∀y,W y→y<h.size){K:Tr→ac→Prop}(s:∀h' t,TreeIs W h' 0 x t l→Upd No h h'→K t h'):HC PG sM [.agg #[.int .u64 x.k0,.int .u64 x.k1,.int .u64 x.mask],.pointer r] [.agg [.int .i64,.int .u64,.int .u64,.int .u64,.ptr,.ptr]] K h:=by
 refine FM (x.k0,x.k1,x.mask) r ?_;unfold xY ae D9 aA af dY w6 CW;refine bi fun o b1 k1=>bi fun m b2 j=>?_
 have v:=bo b1;have w:=bo b2;have d:=k1.tr j;refine Join.intro (fun t h'=>Upd No m h'∧∃b,t=some ⟨b,0,none⟩∧TrieAt (Pro W h m) x h' 13 b l) (fun R k=>?_) ?_
 ·rcases t with⟨rfl,rfl⟩|⟨b,rfl,t⟩
  ·exact ar.2 (Gm (Pro.lt q d) fun u b t a=>k _ _ ⟨a,b,rfl,t⟩)
  ·exact ai.2 (k _ _ ⟨Upd.refl _ _,b,rfl,TrieAt.upd0 d (TrieAt.less Pro.hm t)⟩)
 ·rintro n u ⟨a,b,rfl,n⟩
  have c1:=a.get0 (j.get0 b1);refine⟨_,vc c1 0,_,vc c1 1,_,vc c1 2,?_⟩;refine cO (c:=jN vH) (vs:=jN (0,x.k0,x.k1,x.mask,some ⟨b,0,none⟩,none)) (a.get0 b2) rfl fun p e f=>?_
  refine⟨_,vc e 0,_,vc e 1,_,vc e 2,_,vc e 3,_,vc e 4,_,vc e 5,?_⟩;have g:h.size≤o.size:=k1.size;exact s p _ (.inl ⟨rfl,b,rfl,TrieAt.less Pro.sub (TrieAt.updM f (fun y i=>.inl (.inr (by have i:y=o.size:=i;omega))) n)⟩) ((d.tr a).own f g)
theorem Jz{W:Nat→Prop}{x:Hs}{h:ac}{r:Option Addr}{l:List Pr}(t:RadRoot W h r l)(n:∀y,W y→y<h.size){K:Tr→ac→Prop}(o:∀h' t,TreeIs W h' 1 x t l→Upd No h h'→K t h'):HC PG sL [.pointer r] [.agg [.int .i64,.int .u64,.int .u64,.int .u64,.ptr,.ptr]] K h:=by
 refine FL r ?_;unfold xX ae aA af dY w6 CW;refine bi fun i b2 d=>?_
 have q:=bo b2;refine Join.intro (fun t h'=>Upd No i h'∧∃b,t=some ⟨b,0,none⟩∧RadAt (Pro W h i) h' b l) (fun R j=>?_) ?_
 ·rcases t with⟨rfl,rfl⟩|⟨b,rfl,t⟩
  ·exact ar.2 (EN (Pro.lt n d) fun p b t a=>j _ _ ⟨a,b,rfl,t⟩)
  ·exact ai.2 (j _ _ ⟨Upd.refl _ _,b,rfl,(t.less Pro.hm).upd0 d⟩)
 ·rintro k p ⟨a,b,rfl,k⟩
  refine cO (c:=jN vH) (vs:=jN (1,0,0,0,none,some ⟨b,0,none⟩)) (a.get0 b2) rfl fun m e f=>?_
  refine⟨_,vc e 0,_,vc e 1,_,vc e 2,_,vc e 3,_,vc e 4,_,vc e 5,?_⟩;exact o m _ (.inr ⟨rfl,b,rfl,(k.updM f (fun y g=>.inl (.inr (by have g:y=h.size:=g;omega)))).less Pro.sub⟩) ((d.tr a).own f (al _))
theorem Rx{W:Nat→Prop}{x:Hs}{h:ac}(p:∀y,W y→y<h.size){kind:Int}(j:kind=0∨kind=1){K:Tr×Int→ac→Prop}(q:∀h' t,TreeIs W h' kind x t []→Upd No h h'→K (t,0) h'):HC PG zB [.int .i64 kind,.agg #[.int .u64 x.k0,.int .u64 x.k1,.int .u64 x.mask]] [.agg [.int .i64,.int .u64,.int .u64,.int .u64,.ptr,.ptr],.c (.int .i64)] K h:=by
 refine MI kind (x.k0,x.k1,x.mask) ?_;unfold FR ae D9 BN aA af dY w6 qH;refine bi fun m b1 k1=>bi fun o b2 n=>?_
 have u:=bo b1;have v:=bo b2;have e:=k1.tr n;have g:h.size≤m.size:=k1.size;have c1:=n.get0 b1;rcases j with rfl|rfl
 ·refine ar.2 ⟨_,vc c1 0,_,vc c1 1,_,vc c1 2,?_⟩
  refine JA (W:=Pro W h o) (x:=x) (l:= []) (.inl ⟨rfl,rfl⟩) (Pro.lt p e) fun s t k d=>?_
  refine cO (c:=jN vH) (vs:=jN t) (d.get0 b2) rfl fun i a b=>?_
  refine⟨_,vc a 0,_,vc a 1,_,vc a 2,_,vc a 3,_,vc a 4,_,vc a 5,?_⟩;exact q i t ((k.updM b (fun y f=>.inl (.inr (by have f:y=m.size:=f;omega)))).less Pro.sub) ((e.tr d).own b g)
 ·refine ai.2 (ar.2 ?_)
  refine Jz (W:=Pro W h o) (x:=x) (l:= []) (.inl ⟨rfl,rfl⟩) (Pro.lt p e) fun s t k d=>?_
  refine cO (c:=jN vH) (vs:=jN t) (d.get0 b2) rfl fun i a b=>?_
  refine⟨_,vc a 0,_,vc a 1,_,vc a 2,_,vc a 3,_,vc a 4,_,vc a 5,?_⟩;exact q i t ((k.updM b (fun y f=>.inl (.inr (by have f:y=m.size:=f;omega)))).less Pro.sub) ((e.tr d).own b g)
theorem G5{k v:ByteArray}(c:k.size≤256)(b:v.size≤4096){h:ac}{K:Int→ac→Prop}(a:K 0 h):HC PG sg [.string k,.string v] [.c (.int .i64)] K h:=by
 refine Jb k v ?_;unfold Bv;refine aD (fun h=>absurd h (by omega)) fun _=>aD (fun h=>absurd h (by omega)) fun _=>a
theorem Am{W:Nat→Prop}{x:Hs}{h:ac}{kind:Int}{t:Tr}{l:List Pr}(i:TreeIs W h kind x t l)(O:∀y,W y→y<h.size)(H:bV l)(J:l.length≤1000000)(p:Pr)(C:p.1.size≤256)(B:p.2.size≤4096){K:Tr×Int→ac→Prop}
  (I:∀h' t',TreeIs W h' kind x t' (jZ p l)→(p∈l→t'=t)→Upd No h h'→K (t',0) h'):HC PG iP [Aj t,.pointer none,.agg #[.string p.1,.string p.2]] [.agg [.int .i64,.int .u64,.int .u64,.int .u64,.ptr,.ptr],.c (.int .i64)] K h:=by
 refine CA t none p ?_;unfold vr ae BN aA af dY ru w6 qH ay m8 eE CW dI vR;refine bi fun G b1 k1=>bi fun E b2 z=>bi fun R b3 v=>?_
 have T:=bo b1;have X:=bo b2;have S:=bo b3;have V:h.size≤G.size:=k1.size;have U:G.size≤E.size:=z.size;have Q:=v.size;have n:=(k1.tr z).tr v;have o:=v.get0 (z.get0 b1);have s:=v.get0 b2;have P:=i.pro n;have u:=Pro.lt O n;refine⟨_,vc s 0,_,vc s 1,G5 C B (ai.2 ?_)⟩;rcases P with⟨rfl,b,rfl,D⟩|⟨rfl,b,rfl,D⟩
 ·refine⟨_,vc o 0,ai.2 ⟨_,tH o 1 0,_,tH o 1 1,_,tH o 1 2,_,vc o 4,p.1,vc s 0,p.2,vc s 1,?_⟩⟩
  refine KA (.inr ⟨b,rfl,D⟩) u H J p fun L q d w a=>?_
  refine F5 (i:=4) (c':=(jN (0,x.k0,x.k1,x.mask,some ⟨q,0,none⟩,none)).toArray) (d.get0 o) (show 4<6 by decide) rfl fun N j f=>?_
  refine⟨_,vc j 0,_,vc j 1,_,vc j 2,_,vc j 3,_,vc j 4,_,vc j 5,?_⟩;refine cO (c:=jN vH) (vs:=jN (0,x.k0,x.k1,x.mask,some ⟨q,0,none⟩,none)) (f.oth (d.get0 b3) (by omega)) rfl fun A g k=>?_
  refine⟨_,vc g 0,_,vc g 1,_,vc g 2,_,vc g 3,_,vc g 4,_,vc g 5,?_⟩;refine I A _ (.inl ⟨rfl,q,rfl,TrieAt.less Pro.sub (TrieAt.updM k (fun y m=>.inl (.inr (by have m:y=E.size:=m;omega))) (TrieAt.updM f (fun y m=>.inl (.inr (by have m:y=h.size:=m;omega))) w))⟩) (fun hm=>?_) (((n.tr d).own f (al _)).own k (by omega))
  rcases a hm with e|e
  ·rw[e]
  ·cases e
 ·refine⟨_,vc o 0,ar.2 ⟨_,vc o 5,p.1,vc s 0,p.2,vc s 1,?_⟩⟩
  refine JP (.inr ⟨b,rfl,D⟩) u H p (by omega) fun L q F d w a=>?_
  refine F5 (i:=5) (c':=(jN (1,0,0,0,none,some ⟨q,0,none⟩)).toArray) (d.get0 o) (show 5<6 by decide) rfl fun N j f=>?_
  refine⟨_,vc j 0,_,vc j 1,_,vc j 2,_,vc j 3,_,vc j 4,_,vc j 5,?_⟩;refine cO (c:=jN vH) (vs:=jN (1,0,0,0,none,some ⟨q,0,none⟩)) (f.oth (d.get0 b3) (by omega)) rfl fun A g k=>?_
  refine⟨_,vc g 0,_,vc g 1,_,vc g 2,_,vc g 3,_,vc g 4,_,vc g 5,?_⟩;refine I A _ (.inr ⟨rfl,q,rfl,((w.updM f (fun y m=>.inl (.inr (by have m:y=h.size:=m;omega)))).updM k (fun y m=>.inl (.inr (by have m:y=E.size:=m;omega)))).less Pro.sub⟩) (fun hm=>?_) (((n.tr d).own f (al _)).own k (by omega))
  rcases a hm with e|e
  ·rw[e]
  ·cases e
end Go.Proofs
namespace Go.Proofs
open Go Go.Lift
def qN(t u:Tr):Bool:=(t.1==u.1)&&((((t.2.1==u.2.1)&&((t.2.2.1==u.2.2.1)&&true)))&&((t.2.2.2.1==u.2.2.2.1)&&true))
theorem An{t u:Tr}{h:ac}{K:Bool→ac→Prop}(b:∀h',Upd No h h'→K (qN t u) h'):HC PG oZ [Aj t,Aj u] [.c .bool] K h:=by
 refine KJ t u ?_;unfold Dz aA qH eE;refine bi fun d b1 k1=>bi fun c b2 a=>?_
 have c1:=a.get0 b1;refine⟨_,vc c1 0,_,vc b2 0,?_⟩;have:=b c (k1.tr a);unfold qN at this;rcases hb:(t.1==u.1)with _|_
 ·rw[hb]at this
  exact ai.2 this
 ·rw[hb]at this
  exact ar.2 ⟨_,tH c1 1 0,_,tH c1 1 1,_,tH c1 1 2,_,tH b2 1 0,_,tH b2 1 1,_,tH b2 1 2,this⟩
theorem GP{W:Nat→Prop}{x:Hs}{h:ac}{b:Nat}{l:List Pr}(t:TrieAt W x h 13 b l){K:Option Addr→ac→Prop}(a:∀h',Upd No h h'→K (some ⟨b,0,none⟩) h'):HC PG lL [Aj (0,x.k0,x.k1,x.mask,some ⟨b,0,none⟩,none)] [.c .ptr] K h:=by
 refine A5 (0,x.k0,x.k1,x.mask,some ⟨b,0,none⟩,none) ?_;unfold ud aA af qH;refine bi fun d b1 k1=>?_
 refine Join.intro (fun t h'=>t=false∧h'=d) (fun R c=>⟨_,vc b1 0,ar.2 ⟨_,vc b1 4,c _ _ ⟨rfl,rfl⟩⟩⟩) ?_
 rintro t h' ⟨rfl,rfl⟩;exact ai.2 ⟨_,vc b1 4,a h' k1⟩
theorem Oo{W W':Nat→Prop}{h h':ac}{kind a:Int}{x d:Hs}{t u:Tr}{l l':List Pr}(i:TreeIs W h kind x t l)(e:TreeIs W' h' a d u l')(c:qN t u=true):kind=a∧(kind=0→x=d):=by
 rcases i with⟨rfl,b,rfl,_⟩|⟨rfl,b,rfl,_⟩<;>rcases e with⟨rfl,b',rfl,_⟩|⟨rfl,b',rfl,_⟩
 ·refine⟨rfl,fun _=>?_⟩
  unfold qN at c;simp only[aR,beq_iff_eq,Bool.and_true,true_and]at c;cases x;cases d;simp only at c;simp only[Hs.mk.injEq];exact⟨c.1.1,c.1.2,c.2⟩
 ·simp[qN]at c
 ·simp[qN]at c
 ·exact⟨rfl,fun h=>by cases h⟩
theorem TreeIs.plain{W:Nat→Prop}{h:ac}{kind:Int}{x:Hs}{t:Tr}{l:List Pr}(i:TreeIs W h kind x t l):(∀a,t.2.2.2.2.1=some a→fa h a)∧(∀a,t.2.2.2.2.2=some a→fa h a):=by
 rcases i with⟨rfl,b,rfl,t⟩|⟨rfl,b,rfl,t⟩
 ·obtain⟨s,nd,_⟩:=t
  obtain⟨d,n,sp,sk,ow,e,_⟩:=nd.ex;refine⟨fun a c=>?_,fun a c=>(by cases c)⟩
  cases c;exact⟨_,_,e,show 0<6 by decide⟩
 ·obtain⟨w,F,⟨val,s,ow,ks,e,_⟩,_⟩:=t.ex
  refine⟨fun a c=>(by cases c),fun a c=>?_⟩
  cases c;exact⟨_,_,e,show 0<5 by decide⟩
end Go.Proofs
namespace Go.Proofs
open Go Go.Lift
abbrev kStr:KeyE ByteArray:=⟨fun s=>.string s,.str,fun x=>⟨x,rfl⟩,fun x y=>⟨fun e=>wN e,fun e=>by subst e;exact xO x⟩⟩
abbrev TD:=Tr×List Pr
abbrev UT(d:TD):Value:=Aj d.1
abbrev Ra(n:Int):Value:=.int .u32 n
structure VS where
 gp:Nat
 gm:Nat
 tm:Nat
 bm:Nat
 nm:Nat
 kind:Int
 x:Hs
 e:Tr
 L:fp
 nx:Int
 D:List (Int×TD)
 B:List (ByteArray×Int)
 G:List (ByteArray×Int)
def VS.M(s:VS):Nat→Prop:=fun y=>y=s.gp∨y=s.gm∨y=s.tm∨y=s.bm∨y=s.nm
structure VaultAt(W:Nat→Prop)(h:ac)(vp:Nat)(s:VS):Prop where
 blk:h[vp]? =some (.cells (jN s.e++ [Value.pointer (some ⟨s.gp,0,none⟩),Value.map (some s.tm),Value.map (some s.bm),Value.map (some s.nm)]).toArray bO (0,0))
 g:GraphAt W h s.gp s.gm s.L s.nx
 t:MapAt KE UT h s.tm s.D
 b:MapAt kStr Ra h s.bm s.B
 n:MapAt kStr Ra h s.nm s.G
 w:∀y,s.M y→W y
 wv:¬W vp
 ne: [s.gp,s.gm,s.tm,s.bm,s.nm].Nodup
 em:TreeIs W h s.kind s.x s.e []
 ts:∀d∈s.D,TreeIs W h s.kind s.x d.2.1 d.2.2∧bV d.2.2∧Fit d.2.2
 sub:∀id,id∈s.D.map (·.1)↔id∈oY s.L
 inv:Inv s.L s.nx
 kd:s.kind=0∨s.kind=1
theorem VaultAt.upd{W M:Nat→Prop}{h h':ac}{c:Nat}{s:VS}(v:VaultAt W h c s)(k:Upd M h h')(hm:∀b,M b→(W b∧¬s.M b)∨h.size≤b):VaultAt W h' c s:=by
 have f:∀y,s.M y→¬M y:=fun y i a=>(hm y a).elim (fun e=>e.2 i) fun e=>absurd (v.g.lt y (v.w y i)) (by omega)
 have j:∀b,M b→W b∨h.size≤b:=fun b a=>(hm b a).imp (·.1) id
 have m:¬M c:=fun a=>(hm c a).elim (fun e=>v.wv e.1) fun e=>absurd (bo v.blk) (by omega)
 exact⟨k.get v.blk m,v.g.upd k fun b a=>(hm b a).imp (fun e=>⟨e.1,fun g=>e.2 (.inl g),fun g=>e.2 (.inr (.inl g))⟩) id,v.t.upd k (f _ (.inr (.inr (.inl rfl)))),v.b.upd k (f _ (.inr (.inr (.inr (.inl rfl))))),v.n.upd k (f _ (.inr (.inr (.inr (.inr rfl))))),v.w,v.wv,v.ne,v.em.updM k j,fun d hd=>⟨(v.ts d hd).1.updM k j,(v.ts d hd).2⟩,v.sub,v.inv,v.kd⟩
theorem VaultAt.upd0{W:Nat→Prop}{h h':ac}{a:Nat}{s:VS}(v:VaultAt W h a s)(k:Upd No h h'):VaultAt W h' a s:=v.upd k fun _ h=>h.elim
end Go.Proofs
namespace Go.Proofs
open Go Go.Lift
theorem Ip{h:ac}{r:Nat}{es:Array MapEntry}{a:Nat}(t:TypeId)(c:h[r]? =some (.map es a)) {K:Value→ac→Prop} (d:K (.iface t (.map (some h.size))) (h.push (.map es a))):
  HC PG ww [.iface t (.map (some r))] [.c .raw] K h:=by
 refine⟨fun w b=>.inr ?_⟩
 subst b;have f:(getObj r).run PG w=.ok (.map es a) w:=by simp[getObj,Sem.run,c]
 refine⟨.iface t (.map (some w.heap.size)),w.alloc (.map es a),?_,⟨rfl,rfl,rfl⟩,_,rfl,d⟩;rw[IX];have e:Extern.MapsClone.clone #[.iface t (.map (some r))]=(getObj r>>=fun o=>match o with
   | .map entries a=>(newObj (.map entries a)>>=fun n=>pure (.iface t (.map (some n))))
   |_=>stuck "maps.clone: a map expected"):=rfl
 rw[show([Value.iface t (.map (some r))]:List Value).toArray= #[.iface t (.map (some r))]from rfl,e]
 simp only[Sem.run_bind,f,Result.andThen_ok];rfl
theorem Qd{W:Nat→Prop}{h:ac}{gp gm:Nat}{L:fp}{nx:Int}(g:GraphAt W h gp gm L nx)
  {K:Option Addr→ac→Prop}(w:∀h',Upd No h h'→GraphAt (fun b=>W b∨b=h.size+1∨b=h.size) h' gp gm L nx→GraphAt (fun b=>W b∨b=h.size+1∨b=h.size) h' (h.size+1) h.size L nx→K (some ⟨h.size+1,0,none⟩) h'):
  HC PG oG [.pointer (some ⟨gp,0,none⟩)] [.c .ptr] K h:=by
 refine z6 (some ⟨gp,0,none⟩) ?_;unfold tw aZ fj;refine CondP.intro (fun e=>by cases e) fun _=>⟨_,rfl,_,g.c0,_,rfl,_,g.c1,?_⟩
 refine oN (some gm) ?_;unfold ja;refine CondP.intro (fun e=>by cases e) fun _=>?_
 obtain⟨m,⟨ms,a,hm,y⟩,v⟩:=g.map;refine Ip _ hm.here ⟨_,rfl,?_⟩;have k1:=Upd.push No h (.map (ms.map (B9 KE sv)).toArray a);have c:MapAt KE sv (h.push (.map (ms.map (B9 KE sv)).toArray a)) h.size m:=⟨ms,a,⟨sD h _,hm.keys,hm.nums,hm.old⟩,y⟩;refine⟨(g.upd0 k1).c1,?_⟩;have d:(h.push (.map (ms.map (B9 KE sv)).toArray a)).size=h.size+1:=by simp
 generalize (h.push (.map (ms.map (B9 KE sv)).toArray a))=h1 at k1 c d;have f:=Upd.hnew No h1 [.map (some h.size),.int .u32 nx] gM;have b2:=bE h1 [.map (some h.size),.int .u32 nx] gM;have t:=gt h1 [.map (some h.size),.int .u32 nx] gM;simp only[At,cr];rw[d]at b2⊢;generalize hnew h1 [.map (some h.size),.int .u32 nx] gM=h2 at f b2 t
 have k:=k1.tr f;have o:∀b,(b=h.size+1∨b=h.size)→h.size≤b∧b<h2.size:=fun b i=>by omega
 have n:=g.more (Q:=fun b=>b=h.size+1∨b=h.size) k o
 refine⟨((g.upd0 k1).upd0 f).c1,w h2 k n ⟨b2,⟨m,c.upd f id,?_⟩,.inr (.inl rfl),.inr (.inr rfl),n.lt,g.nd⟩⟩;intro j;rcases v j with⟨s,ps,u,p,x⟩|q
 ·exact .inl ⟨s,ps,u,p,(x.less fun b i=>i.imp id fun i=>(o b i).1).upd k fun _ h=>h.elim⟩
 ·exact .inr q
end Go.Proofs
namespace Go.Proofs
open Go Go.Lift
section
variable {W:Nat→Prop} {h:ac} {vp:Nat} {s:VS}
abbrev pV(a:Nat):Value:=.pointer (some ⟨a,0,none⟩)
theorem Rl(v:VaultAt W h vp s)(id:Int){K:Bool→ac→Prop}(a:K (decide (id=0∨id∈oY s.L)) h):HC PG po [pV vp,.int .u32 id] [.c .bool] K h:=by
 refine A0 (some ⟨vp,0,none⟩) id ?_;unfold ua eZ K7;refine CondP.intro (fun e=>?_) fun e=>⟨_,rfl,_,vc v.blk 6,IA v.g id ?_⟩
 ·rw[decide_eq_true (.inl (by simpa using e))]at a;exact a
 ·have e:id≠0:=by simpa using e
  rw[show decide (id=0∨id∈oY s.L)=decide (id∈oY s.L)from by simp[e]]at a;exact a
theorem x8(v:VaultAt W h vp s)(id fr:Int){K:Bool→ac→Prop}(a:∀b h',(b=true↔id=0∨UpG s.L fr id)→Upd No h h'→K b h'):HC PG jO [pV vp,.int .u32 id,.int .u32 fr] [.c .bool] K h:=by
 refine yr (some ⟨vp,0,none⟩) id fr ?_;unfold rQ eZ F7;refine CondP.intro (fun e=>a _ _ ⟨fun _=>.inl (by simpa using e),fun _=>rfl⟩ (Upd.refl _ _)) fun e=>⟨_,rfl,_,vc v.blk 6,Ox v.g v.inv.good.toSmall fr id fun b h' d c=>a b h' ?_ c⟩
 have e:id≠0:=by simpa using e
 simp[d,e]
theorem qF(v:VaultAt W h vp s)(n:ByteArray){K:Int×Bool→ac→Prop}(a:K ((bQ s.B n).getD 0,(bQ s.B n).isSome) h):HC PG eB [pV vp,.string n] [.c (.int .u32),.c .bool] K h:=by
 refine zO (some ⟨vp,0,none⟩) n ?_;unfold sZ aZ;exact CondP.intro (fun e=>by cases e) fun _=>⟨_,rfl,_,vc v.blk 8,_,_,v.b.get n 0,a⟩
theorem NX(v:VaultAt W h vp s){K:Tr→ac→Prop}(b:∀h',Upd No h h'→K s.e h'):HC PG nf [pV vp] [.agg [.int .i64,.int .u64,.int .u64,.int .u64,.ptr,.ptr]] K h:=by
 refine yv (some ⟨vp,0,none⟩) ?_;unfold rS ae eZ aA af dY w6 GY eE CW;refine bi fun f b1 k1=>CondP.intro (fun e=>by cases e) fun _=>⟨_,rfl,?_⟩
 have c:=k1.get0 v.blk;refine⟨_,tH c 0 0,_,tH c 0 1,_,tH c 0 2,_,tH c 0 3,_,tH c 0 4,_,tH c 0 5,?_⟩;refine cO (c:=jN vH) (vs:=jN s.e) b1 rfl fun d b2 a=>?_
 exact⟨_,vc b2 0,_,vc b2 1,_,vc b2 2,_,vc b2 3,_,vc b2 4,_,vc b2 5,b d (k1.own a (al _))⟩
theorem Pq(v:VaultAt W h vp s)(id:Int){K:Tr×Int→ac→Prop}(m:id=0→∀h',Upd No h h'→K (s.e,0) h')(j:∀d,bQ s.D id=some d→id≠0→∀h',Upd No h h'→K (d.1,0) h')(n:bQ s.D id=none→id≠0→∀h',Upd No h h'→K (vH,4) h'):
  HC PG iU [pV vp,.int .u32 id] [.agg [.int .i64,.int .u64,.int .u64,.int .u64,.ptr,.ptr],.c (.int .i64)] K h:=by
 refine zN (some ⟨vp,0,none⟩) id ?_;unfold sY aZ ae eZ aA af dY nv yO w6 qH GY eE CW SD;refine bi fun x b1 k1=>CondP.intro (fun e=>by cases e) fun _=>?_
 have c:=k1.get0 v.blk;refine CondP.intro (fun e=>⟨_,rfl,?_⟩) fun e=>⟨_,rfl,_,vc c 7,((bQ s.D id).getD (vH,[])).1,_,(v.t.upd k1 fun h=>h).get id (vH,[]),bi fun q b2 o=>?_⟩
 ·refine⟨_,tH c 0 0,_,tH c 0 1,_,tH c 0 2,_,tH c 0 3,_,tH c 0 4,_,tH c 0 5,?_⟩
  refine cO (c:=jN vH) (vs:=jN s.e) b1 rfl fun q b2 k=>?_
  exact⟨_,vc b2 0,_,vc b2 1,_,vc b2 2,_,vc b2 3,_,vc b2 4,_,vc b2 5,m (by simpa using e) q (k1.own k (al _))⟩
 ·have e:id≠0:=by simpa using e
  have u:=bo b1;have w:=k1.size;refine cO (c:=jN vH) (vs:=jN ((bQ s.D id).getD (vH,[])).1) b2 rfl fun t b3 f=>?_
  have g:=f.oth (o.get0 b1) (by omega);have p:Upd No h t:=(k1.tr o).own f k1.size;cases hl:bQ s.D id with
  |none=>
   refine ar.2 (cO (c:=jN vH) (vs:=jN vH) g rfl fun i a b=>?_)
   exact⟨_,vc a 0,_,vc a 1,_,vc a 2,_,vc a 3,_,vc a 4,_,vc a 5,n hl e i (p.own b (al _))⟩
  |some d=>
   rw[hl]at b3;refine ai.2 ⟨_,vc b3 0,_,vc b3 1,_,vc b3 2,_,vc b3 3,_,vc b3 4,_,vc b3 5,?_⟩;refine cO (c:=jN vH) (vs:=jN d.1) g rfl fun i a b=>?_
   exact⟨_,vc a 0,_,vc a 1,_,vc a 2,_,vc a 3,_,vc a 4,_,vc a 5,j d hl e i (p.own b (al _))⟩
theorem NW(v:VaultAt W h vp s){K:Option Addr→ac→Prop}(a:∀h',Upd No h h'→GraphAt (fun b=>W b∨b=h.size+1∨b=h.size) h' (h.size+1) h.size s.L s.nx→K (some ⟨h.size+1,0,none⟩) h'):HC PG na [pV vp] [.c .ptr] K h:=by
 refine yu (some ⟨vp,0,none⟩) ?_;unfold rR eZ;exact CondP.intro (fun e=>by cases e) fun _=>⟨_,rfl,_,vc v.blk 6,Qd v.g fun h' c _ g=>a h' c g⟩
theorem VaultAt.turn{M:Nat→Prop}{h':ac}{L:fp}{nx:Int}{D:List (Int×TD)}{B G:List (ByteArray×Int)}(v:VaultAt W h vp s)(k:Upd M h h')(hm:∀b,M b→W b∨h.size≤b)(g:GraphAt W h' s.gp s.gm L nx)(t:MapAt KE UT h' s.tm D)(b:MapAt kStr Ra h' s.bm B)(n:MapAt kStr Ra h' s.nm G)
  (ts:∀d∈D,d∈s.D∨TreeIs W h' s.kind s.x d.2.1 d.2.2∧bV d.2.2∧Fit d.2.2)(sub:∀id,id∈D.map (·.1)↔id∈oY L)(inv:Inv L nx):VaultAt W h' vp {s with L:=L,nx:=nx,D:=D,B:=B,G:=G}:=by
 have a:¬M vp:=fun c=>(hm vp c).elim (fun e=>v.wv e) fun e=>absurd (bo v.blk) (by omega)
 exact⟨k.get v.blk a,g,t,b,n,v.w,v.wv,v.ne,v.em.updM k hm,fun d hd=>(ts d hd).elim (fun e=>⟨(v.ts d e).1.updM k hm,(v.ts d e).2⟩) id,sub,inv,v.kd⟩
end
end Go.Proofs
namespace Go.Proofs
open Go Go.Lift
def Dw(b:UInt8):Bool:=decide (33≤b.toNat)&&decide (b.toNat≤126)
def xm(n:ByteArray):Bool:=decide (1≤n.size)&&decide (n.size≤32)&&n.data.toList.all Dw
theorem QI{b:UInt8}{h:ac}{K:Bool→ac→Prop}(a:K (!Dw b) h):HC PG rC [.int .u8 b.toNat] [.c .bool] K h:=by
 refine DY b.toNat ?_;unfold wR;refine aD (fun e=>?_) fun e=>?_
 ·rw[show(!Dw b)=true from by simp[Dw];omega]at a;exact a
 ·rw[show(!Dw b)=decide ((b.toNat:Int)>126)from by unfold Dw;rw[decide_eq_true (by omega:33≤b.toNat),Bool.true_and,←decide_not,decide_eq_decide];omega]at a;exact a
theorem NV{n:ByteArray}{h:ac}{K:Bool→ac→Prop}(f:∀h',Upd No h h'→K (xm n) h'):HC PG uI [.string n] [.c .bool] K h:=by
 refine Gr n ?_;unfold yV;refine Join.plain (aD (fun e=>ar.2 ?_) fun e=>aD (fun o=>?_) fun o=>?_)
 ·rw[show xm n=false from by simp[xm];omega]at f;exact f _ (Upd.refl _ _)
 ·rw[show xm n=false from by simp[xm];omega]at f;exact f _ (Upd.refl _ _)
 ·refine fun c hc=>?_
  have k1:=Upd.push No h (.cells (dN n++fR (c-n.size) (Value.int .u8 0)).toArray HX (c,c+1));have b1:=sD h (.cells (dN n++fR (c-n.size) (Value.int .u8 0)).toArray HX (c,c+1));generalize h.push (.cells (dN n++fR (c-n.size) (Value.int .u8 0)).toArray HX (c,c+1))=h1 at k1 b1;have d:n.data.toList.length=n.size:=Array.length_toList;refine pg ⟨some (aO h),n.size,c⟩ _ ?_
  unfold jh;refine ql ⟨some (aO h),n.size,c⟩ _ ?_;unfold jX aZ cp;refine LoopP.ghost (fun(i:Nat) (t:Int) h'=>t=(i:Int)∧h'=h1∧i≤n.size∧∀b∈n.data.toList.take i,Dw b=true) (fun i=>n.size-i) 0 ⟨rfl,rfl,bS _,by simp⟩ ?_
  rintro I i t h' ⟨rfl,rfl,hi,k⟩ m;refine aD (fun a=>?_) fun j=>?_
  ·have a:i<n.data.toList.length:=by rw[d];simp only at a;omega
   refine⟨by simp only;omega,aO h,rfl,(n.data.toList[i].toNat:Int),?_,?_⟩
   ·rw[Mh b1,List.getElem?_toArray,aY,Nat.mul_one,bN (by simp[dN];omega)]
    simp[dN,d▸a]
   ·refine HV.mk' (QI (b:=n.data.toList[i]) (CondP.intro (fun e=>?_) fun e=>?_))
    ·rw[show xm n=false from ?_]at f
     ·rw[decide_eq_true (by omega)];exact f _ k1
     ·unfold xm
      rw[show n.data.toList.all Dw=false from List.all_eq_false.2 ⟨_,List.getElem_mem a,by simpa using e⟩,Bool.and_false]
    ·rw[jm (n:=n.size) (by omega) (by omega)]
     refine m (i+1) _ _ ⟨rfl,rfl,by omega,?_⟩ (by omega)
     rw[bF a];intro b g;rcases aN.1 g with g|g
     ·exact k b g
     ·rw[av.1 g];simpa using e
  ·have:i=n.size:=by simp only at j;omega
   subst this;rw[←d,cW]at k;rw[show xm n=true from by unfold xm;rw[List.all_eq_true.2 k];simp;omega]at f
   exact f _ k1
def zK(B:List (ByteArray×Int))(L:fp)(n:ByteArray)(id:Int)(no:Bool):Int:=if xm n=false then 1 else if(bQ B n).isSome then 7 else if no|| !decide (id=0∨id∈oY L)then 4 else if B.length≥256 then 6 else 0
theorem Sy{W:Nat→Prop}{h:ac}{g:Nat}{s:VS}(v:VaultAt W h g s){r:Nat}{B:List (ByteArray×Int)}(m:MapAt kStr Ra h r B)(n:ByteArray)(id:Int)(no:Bool){K:Int→ac→Prop}
  (o:∀h',Upd (· =r) h h'→MapAt kStr Ra h' r (if zK B s.L n id no=0 then pC B n id else B)→K (zK B s.L n id no) h'):HC PG pn [.map (some r),pV g,.string n,.int .u32 id,.bool no] [.c (.int .i64)] K h:=by
 refine AZ (some r) (some ⟨g,0,none⟩) n id no ?_;unfold tZ K7;refine⟨_,_,m.get n 0,NV fun j k1=>?_⟩
 have a:∀e h',zK B s.L n id no=e→e≠0→Upd No h h'→K e h':=fun e h' w u p=>by
  have:=o h' p.wide;rw[w,if_neg u]at this;exact this (m.upd p fun h=>h)
 refine CondP.intro (fun e=>a 1 j ?_ (by decide) k1) fun e=>CondP.intro (fun c=>a 7 j ?_ (by decide) k1) fun c=>?_
 ·unfold zK;rw[if_pos (by simpa using e)]
 ·unfold zK;rw[if_neg (by simpa using e),if_pos c]
 ·have e:¬xm n=false:=by simpa using e
  have c:¬(bQ B n).isSome=true:=by simp[c]
  refine Join.intro (fun t h'=>t=(no|| !decide (id=0∨id∈oY s.L))∧Upd No h h') (fun R k=>?_) ?_
  ·refine CondP.intro (fun b=>k _ _ ⟨by rw[b];rfl,k1⟩) fun b=>Rl (v.upd0 k1) id (k _ _ ⟨by rw[b];rfl,k1⟩)
  ·rintro t f ⟨rfl,d⟩
   refine CondP.intro (fun b=>a 4 f ?_ (by decide) d) fun b=>⟨_,(m.upd d fun h=>h).len,aD (fun q=>a 6 f ?_ (by decide) d) fun q=>?_⟩
   ·unfold zK;rw[if_neg e,if_neg c,if_pos b]
   ·unfold zK;rw[if_neg e,if_neg c,if_neg (by rw[b];decide),if_pos (by omega)]
   ·have i:=m.upd d fun h=>h
    have x:zK B s.L n id no=0:=by unfold zK;rw[if_neg e,if_neg c,if_neg (by rw[b];decide),if_neg (by omega)]
    refine⟨r,rfl,i.isMap,?_⟩;have:=o _ ((d.wide).tr (sy (M:=(· =r)) f (.string n) (.int .u32 id) rfl))
    rw[x,if_pos rfl]at this;exact this (i.put n id)
theorem VS.neB{s:VS}(h: [s.gp,s.gm,s.tm,s.bm,s.nm].Nodup):s.gp≠s.gm∧s.gp≠s.tm∧s.gp≠s.bm∧s.gp≠s.nm∧s.gm≠s.tm∧s.gm≠s.bm∧s.gm≠s.nm∧s.tm≠s.bm∧s.tm≠s.nm∧s.bm≠s.nm:=by
 simp only[List.nodup_cons,aq,List.not_mem_nil,or_false,not_or]at h;exact⟨h.1.1,h.1.2.1,h.1.2.2.1,h.1.2.2.2,h.2.1.1,h.2.1.2.1,h.2.1.2.2,h.2.2.1.1,h.2.2.1.2,h.2.2.2.1⟩
theorem VaultAt.setB{W:Nat→Prop}{h h':ac}{g:Nat}{s:VS}{B:List (ByteArray×Int)}(v:VaultAt W h g s)(k:Upd (· =s.bm) h h')(b:MapAt kStr Ra h' s.bm B):VaultAt W h' g {s with B:=B}:=by
 obtain⟨o,u,m,n,t,i,q,j,p,c⟩:=VS.neB v.ne;have f:∀b,b=s.bm→W b:=fun b e=>v.w b (.inr (.inr (.inr (.inl e))))
 exact v.turn k (fun b e=>.inl (f b e)) (v.g.upd k fun b e=>.inl ⟨f b e,fun a=>m (a.symm.trans e),fun a=>i (a.symm.trans e)⟩) (v.t.upd k j) b (v.n.upd k fun e=>c e.symm) (fun d hd=>.inl hd) v.sub v.inv
theorem vK{W:Nat→Prop}{h:ac}{a:Nat}{s:VS}(v:VaultAt W h a s)(n:ByteArray)(id:Int){K:Int→ac→Prop}
  (c:∀h',Upd (· =s.bm) h h'→VaultAt W h' a {s with B:=if zK s.B s.L n id false=0 then pC s.B n id else s.B}→K (zK s.B s.L n id false) h'):HC PG ft [pV a,.string n,.int .u32 id] [.c (.int .i64)] K h:=by
 refine xQ (some ⟨a,0,none⟩) n id ?_;unfold rc aZ;exact CondP.intro (fun e=>by cases e) fun _=>⟨_,rfl,_,vc v.blk 8,Sy v v.b n id false fun h' b m=>c h' b (v.setB b m)⟩
end Go.Proofs
namespace Go.Proofs
open Go Go.Lift
section
variable {M:Nat→Prop} {h:ac} {s:SliceV} {xs ys:List Int}
theorem HU(l:List Int):l.flatMap u32=l.map fun x=>Value.int .u32 x:=by
 induction l with
 |nil=>rfl
 |cons x l ih=>rw[aK,ih];rfl
theorem OwnS.put1(g:OwnS u32 1 jf M h s ys){i:Nat}(hi:i<ys.length)(x:Int){k:ac→Prop}(p:∀h',OwnS u32 1 jf M h' s (ys.set i x)→Upd M h h'→k h'):∃a,s.a=some a∧Wr h (adr a (i*1))∧At (hset h (adr a (i*1)) (.int .u32 x)) k:=by
 have c:=g.len;have d:=g.cap;rcases g.blk with t|⟨b,f,j,m,hc,o⟩
 ·omega
 refine⟨_,j,?_⟩;rw[Nat.mul_one];refine F5 hc (by rw[List.size_toArray,ad,HU,cL];omega) (List.setIfInBounds_toArray ..) fun n b2 q=>p n ⟨by rw[ou];exact c,vL,d,.inr ⟨b,f,j,m,?_,o⟩⟩ (q.mono fun _ e=>.inl (e▸m))
 rw[b2,HU,List.set_append_left _ _ (by rw[cL];exact hi),HU,List.map_set]
theorem OwnS.cutZ(c:OwnS u32 1 jf M h s ys){i:Nat}(hi:i<ys.length){k:ac→Prop}(u:∀h',OwnS u32 1 jf M h' ⟨aJ s.a 0 s.cap 1,i-0,s.cap-0⟩ (ys.take i)→Upd M h h'→k h'):
  sw h (aJ s.a i s.cap 1) 0 (dq (s.len-i) [.int .u32 0])∧At (fc h (aJ s.a i s.cap 1) 0 (dq (s.len-i) [.int .u32 0])) k:=by
 have j:=c.len;have p:=c.cap;rcases c.blk with w|⟨b,a,m,n,hc,t⟩
 ·omega
 have g:((ys.take i).flatMap u32).length=i*1:=by rw[jC vL,aP,Nat.min_eq_left (by omega)]
 have o:((ys.drop i).flatMap u32).length=(ys.length-i)*1:=by rw[jC vL,List.length_drop]
 rw[xM (f:=u32) ys i]at hc;rw[m,ji (by omega)];have d:(dq (s.len-i) [Value.int .u32 0]).length=(s.len-i)*1:=lZ _ _;refine D8 hc (by rw[d,ad,ad,g,o];omega) fun q b2 v=>u q ⟨by rw[aP];simp only;omega,vL,by simp only;omega,
  .inr ⟨b,dq (s.len-i) [Value.int .u32 0]++a,by rw[m,sub_zero],n,?_,?_⟩⟩ (v.mono fun _ e=>.inl (e▸n))
 ·rw[b2]
  congr 2
  rw[ax,ax,List.take_left' (by rw[g];omega)];congr 2
  rw[←cG,cj (by rw[g];omega),cj (by rw[o,d];omega)]
 ·rw[ad,d,t];simp only;omega
def nz(xs:List Int):List Int:=xs.filter fun x=> !(x==0)
theorem PH{x:Int}{K:Bool→ac→Prop}(a:K (x==0) h):HV PG (.func (.func sK) #[] #[]) [.int .u32 x] [.c .bool] K h:=by
 refine HV.mk' (FK x ?_);unfold xW;exact a
theorem Ps(m:OwnS u32 1 jf M h s xs)(R:xs.length≤1000000){K:SliceV→ac→Prop}(F:∀s' h',OwnS u32 1 jf M h' s' (nz xs)→Upd M h h'→K s' h'):HC PG wg [.slice s.a s.len s.cap] [.c .slice] K h:=by
 have v:=m.len;have E:=m.cap;refine IY s ?_;unfold Bq;refine qZ s _ ?_;unfold km aZ cp dI;refine kY s _ ?_;unfold ik aZ cp;have P:Sl u32 1 No h s xs:=m.sl fun _ _ _ h=>h
 refine LoopP.ghost (fun(i:Nat) (t:Int) h'=>t=(i:Int)∧h'=h∧i≤xs.length∧nz (xs.take i)=xs.take i) (fun i=>xs.length-i) 0 ⟨rfl,rfl,bS _,by simp[nz]⟩ ?_
 rintro I i t h' ⟨rfl,rfl,hi,k⟩ G;refine aD (fun c=>?_) fun Q=>?_
 ·have c:i<xs.length:=by omega
  obtain⟨a,y,_,hx⟩:=Nums.at P c;refine⟨by omega,a,y,_,hx,PH (CondP.intro (fun e=>?_) fun e=>?_)⟩
  ·
   have L:nz (xs.take (i+1))=xs.take i:=by
    rw[bF c];unfold nz at k⊢;rw[dR,k];simp[e]
   refine CondP.intro (fun O=>?_) fun _=>?_
   ·simp at O
   rw[jm c (by omega)];refine LoopP.ghost (fun(g:Nat×Nat×List Int) (t:Int×Int) x=>t=((g.1:Int),(g.2.1:Int))∧g.1<g.2.1∧g.2.1≤xs.length∧OwnS u32 1 jf M x s g.2.2∧g.2.2.take g.1=nz (xs.take g.2.1)∧g.2.2.drop g.2.1=xs.drop g.2.1∧Upd M h' x) (fun g=>xs.length-g.2.1) (i,i+1,xs) ⟨rfl,by simp only;omega,by simp only;omega,m,L.symm,rfl,Upd.refl _ _⟩ ?_
   rintro S ⟨p,j,ys⟩ t x ⟨rfl,B,H,d,o,hd,z⟩ q;have d:OwnS u32 1 jf M x s ys:=d;have J:ys.length=xs.length:=d.len.symm.trans v;simp only at B H o hd⊢;refine aD (fun b=>?_) fun D=>?_
   ·have b:j<xs.length:=by omega
    have C:ys[j]'(by omega)=xs[j]:=by
     have:=congrArg List.head? hd;simpa[List.head?_drop,aj b,aj (show j<ys.length by omega)]using this
    obtain⟨a,y,_,hx⟩:=Nums.at (d.sl (W:=No) fun _ _ _ h=>h) (show j<ys.length by omega)
    rw[C]at hx;have u:ys.drop (j+1)=xs.drop (j+1):=by rw[←cG,hd,cG]
    refine Join.plain ⟨by omega,a,y,_,hx,PH (CondP.intro (fun e=>?_) fun e=>?_)⟩
    ·have f:(!(xs[j]==0))=true:=e
     refine⟨by omega,?_⟩;rw[aY];refine OwnS.put1 d (i:=p) (by omega) xs[j] fun N w A=>?_
     rw[jm (i:=p) (n:=xs.length) (by omega) (by omega),jm b (by omega)];refine q (p+1,j+1,ys.set p xs[j]) _ _ ⟨rfl,by simp only;omega,by simp only;omega,w,?_,?_,z.tr A⟩ (by simp only;omega)
     ·simp only
      rw[bF (by rw[ou];omega),List.getElem_set_self,List.take_set_of_le (al _),o,bF b];unfold nz;rw[dR];simp[f]
     ·simp only
      rw[List.drop_set_of_lt (by omega),u]
    ·have f:(!(xs[j]==0))=false:=e
     rw[jm b (by omega)];refine q (p,j+1,ys) _ _ ⟨rfl,by simp only;omega,by simp only;omega,d,?_,u,z⟩ (by simp only;omega)
     simp only;rw[o,bF b];unfold nz;rw[dR];simp[f]
   ·have:j=xs.length:=by omega
    subst this;rw[cW]at o;refine⟨by omega,?_⟩;rw[aY];refine OwnS.cutZ (ys:=ys) d (by omega) fun N w A=>⟨by omega,?_⟩
    rw[o]at w;exact F _ _ w (z.tr A)
  ·rw[jm c (by omega)]
   refine G (i+1) _ _ ⟨rfl,rfl,by omega,?_⟩ (by omega)
   rw[bF c];unfold nz at k⊢;rw[dR,k];simp[e]
 ·have:i=xs.length:=by omega
  subst this;rw[cW]at k;rw[←k]at m;exact ar.2 (F s _ m (Upd.refl _ _))
end
end Go.Proofs
namespace Go.Proofs
open Go Go.Lift
def BO(s:VS)(n:ByteArray)(d:TD)(ps:List Int):(Int×Int)×VS:=
 if(oJ s.L s.nx ps).1.2≠0 then((0,(oJ s.L s.nx ps).1.2),s)
 else(((oJ s.L s.nx ps).1.1,0),{s with L:=(oJ s.L s.nx ps).2.1,nx:=(oJ s.L s.nx ps).2.2,D:=pC s.D (oJ s.L s.nx ps).1.1 d,B:=pC s.B n (oJ s.L s.nx ps).1.1})
theorem QW{L:fp}{nx:Int}{ps:List Int}(h:(oJ L nx ps).1.2≠0):(oJ L nx ps).2=(L,nx):=by
 unfold oJ at h⊢;split
 ·rfl
 ·split
  ·rfl
  ·split
   ·rfl
   ·rename_i h1 h2 h3
    rw[if_neg h1,if_neg h2,if_neg h3]at h;exact absurd rfl h
theorem OU{L:fp}{nx:Int}{ps:List Int}(h:(oJ L nx ps).1.2=0):oJ L nx ps=((nx,0),AF L nx ps,nx+1):=by
 unfold oJ at h⊢;split at h
 ·rename_i h1;exact absurd h h1
 ·split at h
  ·rename_i h1;exact absurd h h1
  ·split at h
   ·have h:(6:Int)=0:=h
    omega
   ·rename_i h1 h2 h3;rw[if_neg h1,if_neg h2,if_neg h3]
theorem Mz{h:ac}{k:ac→Prop}(a:∀h',h'=h→k h'):At h k:=bw (a h rfl)
theorem KF{κ β:Type}[DecidableEq κ]{k:κ}{v:β}:∀{l:List (κ×β)} {p:κ×β},p∈pC l k v→p=(k,v)∨p∈l
 | [],p,h=>.inl (by simpa[pC]using h)
 |(k',u)::l,p,h=>by
  unfold pC at h;split at h
  ·exact(aq.1 h).imp id (az _)
  ·rcases aq.1 h with h|h
   ·exact .inr (h▸au)
   ·exact(KF h).imp id (az _)
theorem mn{β:Type}{k:Int}{v:β}:∀{l:List (Int×β)},bQ l k=some v→(k,v)∈l
 |(k',u)::l,h=>by
  unfold bQ at h;split at h
  ·rename_i e;cases h;rw[e];exact au
  ·exact az _ (mn h)
section
variable {W:Nat→Prop} {h0 h:ac} {vp:Nat} {s:VS}
theorem VaultAt.size(v:VaultAt W h vp s){y:Nat}(a:s.M y):y<h.size:=v.g.lt y (v.w y a)
theorem VS.mG{s:VS}{y:Nat}(h:FI s.gp s.gm y):s.M y:=h.imp id .inl
theorem CX(v:VaultAt W h0 vp s)(k0:Upd No h0 h)(n:ByteArray){d:TD}(i:TreeIs W h0 s.kind s.x d.1 d.2)(hr:bV d.2)(hf:Fit d.2){pb:Nat}(R:h0.size≤pb)(hpb2:pb<h.size){sl:SliceV}{ps:List Int}(ho:OwnS u32 1 jf (· =pb) h sl ps)(hn:ps.length≤1000000)
  {K:Int×Int→ac→Prop}(F:∀h',Upd s.M h0 h'→VaultAt W h' vp (BO s n d (nz ps)).2→K (BO s n d (nz ps)).1 h'):
  HC PG eY [pV vp,.string n,Aj d.1,.slice sl.a sl.len sl.cap] [.c (.int .u32),.c (.int .i64)] K h:=by
 refine xa (some ⟨vp,0,none⟩) n d.1 sl ?_;unfold pZ aZ ae eZ aA af qH uB HT;refine bi fun h1 b1 k1=>⟨_,rfl,_,vc (v.upd0 (k0.tr k1)).blk 6,?_⟩
 have s0:=k0.size;refine Ps (ho.upd k1 fun _ _ h=>h) hn fun s5 U o5 u5=>?_
 have J:Upd No h0 U:=(k0.tr k1).own u5 R;have u:=v.upd0 J;have b5:=u5.oth b1 (show h.size≠pb by omega)
 have hl5:(nz ps).length≤ps.length:=List.length_filter_le ..;have X:∀y,W y→y<h0.size:=v.g.lt;refine⟨vc u.blk 6,Sh u.g (by have:=v.inv.nx1;omega) (fun hm=>by have:=(v.inv.pos _ hm).2;omega) (o5.sl (W:=W) fun b t _ hw=>by have:=X b hw;omega) (by omega) fun I o H=>?_⟩
 have hM7:∀y,FI s.gp s.gm y→W y∨U.size≤y:=fun y a=>.inl (v.w y (VS.mG a))
 obtain⟨n1,n2,n3,n4,n5,n6,n7,n8,n9,O⟩:=VS.neB v.ne;have w:∀y,y≠s.gp→y≠s.gm→¬FI s.gp s.gm y:=fun y h1 h2 h=>h.elim h1 h2
 have P:=u.t.upd o (w _ n2.symm n5.symm);have m7:=u.b.upd o (w _ n3.symm n6.symm);have E:=u.n.upd o (w _ n4.symm n7.symm);refine CondP.intro (fun e=>?_) fun e=>?_
 ·have e:(oJ s.L s.nx (nz ps)).1.2≠0:=by simpa using e
  have S:=QW e;have Z:BO s n d (nz ps)=((0,(oJ s.L s.nx (nz ps)).1.2),s):=by unfold BO;rw[if_pos e]
  rw[Z]at F;rw[S]at H;exact F I (J.wide.tr (o.mono fun y a=>.inl (VS.mG a))) (u.turn o hM7 H P m7 E (fun d hd=>.inl hd) v.sub v.inv)
 ·have e:(oJ s.L s.nx (nz ps)).1.2=0:=by simpa using e
  have S:=OU e;have q:=v.inv.add (nz ps);have Z:BO s n d (nz ps)=(((oJ s.L s.nx (nz ps)).1.1,0),{s with L:=(oJ s.L s.nx (nz ps)).2.1,nx:=(oJ s.L s.nx (nz ps)).2.2,D:=pC s.D (oJ s.L s.nx (nz ps)).1.1 d,B:=pC s.B n (oJ s.L s.nx (nz ps)).1.1}):=by unfold BO;rw[if_neg (by rw[e];simp)]
  rw[Z]at F;rw[S]at H F q⊢;have A:∀y,s.M y→vp≠y:=fun y a e=>v.wv (e▸v.w y a)
  have c7:=o.get u.blk fun hm=>A _ (VS.mG hm) rfl
  have x:=o.get b5 fun hm=>by have:=v.size (VS.mG hm);omega
  refine⟨_,rfl,_,vc c7 7,_,vc x 0,_,vc x 1,_,vc x 2,_,vc x 3,_,vc x 4,_,vc x 5,_,rfl,P.isMap,Mz fun c m=>?_⟩
  have m:c=oz I s.tm (KE.enc s.nx) (UT d):=m;have g:Upd (· =s.tm) I c:=by rw[m];exact sy I _ _ rfl
  have T:MapAt KE UT c s.tm (pC s.D s.nx d):=by rw[m];exact P.put s.nx d
  have C:=m7.upd g (fun e=>n8 e.symm)
  have z:=E.upd g (fun e=>n9 e.symm)
  have Q:=H.upd g fun b t=>.inl ⟨v.w b (.inr (.inr (.inl t))),fun e=>n2 (e.symm.trans t),fun e=>n5 (e.symm.trans t)⟩
  have c17:=g.get c7 fun e=>A _ (.inr (.inr (.inl rfl))) e
  refine⟨_,rfl,_,vc c17 8,_,rfl,C.isMap,Mz fun f j=>?_⟩
  have j:f=oz c s.bm (kStr.enc n) (Ra s.nx):=j;have k:Upd (· =s.bm) c f:=by rw[j];exact sy c _ _ rfl
  have Y:MapAt kStr Ra f s.bm (pC s.B n s.nx):=by rw[j];exact C.put n s.nx
  have t21:=T.upd k n8;have G:=z.upd k (fun e=>O e.symm)
  have N:=Q.upd k fun b t=>.inl ⟨v.w b (.inr (.inr (.inr (.inl t)))),fun e=>n3 (e.symm.trans t),fun e=>n6 (e.symm.trans t)⟩
  have V:Upd s.M U f:=((o.mono fun y a=>.inl (VS.mG a)).tr (g.mono fun y a=>.inl (.inr (.inr (.inl a))))).tr (k.mono fun y a=>.inl (.inr (.inr (.inr (.inl a)))))
  refine F f (J.wide.tr V) (u.turn V (fun y a=>.inl (v.w y a)) N t21 Y G (fun p hp=>(KF hp).elim (fun e=>.inr ?_) .inl) (fun id=>?_) q)
  ·subst e
   have ku:Upd s.M h0 f:=J.wide.tr V;exact⟨i.updM ku fun y a=>.inl (v.w y a),hr,hf⟩
  ·rw[yo,insV_ids.mem_iff,aq,←v.sub id]
   split
   ·rename_i hm
    exact⟨.inr,fun h=>h.elim (fun e=>e▸hm) fun h=>h⟩
   ·rw[aN,av,Or.comm]
end
end Go.Proofs
namespace Go.Proofs
open Go Go.Lift
abbrev zPrL:List Value:= [.string (⟨#[]⟩:ByteArray),.string (⟨#[]⟩:ByteArray)]
theorem EZ{h:ac}{t:TypeId}{p:Pr}{k:ac→Prop}(e:∀h',h'[h.size]? =some (.cells #[.string p.1,.string p.2] t (0,0))→Upd No h h'→k h'):
  At (hnew h [.string (⟨#[]⟩:ByteArray),.string (⟨#[]⟩:ByteArray)] t) fun b=>sw b (some (aO h)) 0 [.string p.1,.string p.2]∧At (hH b (aO h) 0 [.string p.1,.string p.2]) k:=by
 refine bi fun f b1 k1=>?_
 exact cO (c:=zPrL) (vs:= [.string p.1,.string p.2]) b1 rfl fun d b2 a=>e d b2 (k1.own a (al _))
theorem KG{t:TypeId}{M:Nat→Prop}{h:ac}{so:SliceV}{out:List Pr}{p:Pr}{K:SliceV→ac→Prop}(c:OwnS eJ 2 t M h so out)(f:∀b,h.size≤b→M b)(i:out.length+1≤1000000000)
  (e:∀s' h',OwnS eJ 2 t M h' s' (out++ [p])→Upd M h h'→K s' h'):
  ∃xs,SRow (hnew h [.string p.1,.string p.2] t) (some (aO h)) (1*2) xs∧AppP (some [.string (⟨#[]⟩:ByteArray),.string (⟨#[]⟩:ByteArray)]) 2 32 t so.a so.len so.cap 1 xs (hnew h [.string p.1,.string p.2] t) K:=by
 have k:=Upd.hnew No h [.string p.1,.string p.2] t;have g:OwnS eJ 2 t (fun _=>True) (hnew h [.string p.1,.string p.2] t) ⟨some (aO h),1,1⟩ [p]:=⟨rfl,gS,al _,.inr ⟨h.size,[],rfl,trivial,bE ..,rfl⟩⟩
 refine⟨_,(g.sl (W:=No) fun _ _ _ h=>h).srow,?_⟩
 refine AppP.own (ys:= [p]) (c.upd k fun _ _ h=>h) rfl rfl rfl rfl (by omega) (by simp only[bd];omega) (f _ (by rw[gt];omega)) fun s' h' a d=>?_
 exact e s' h' a ((Upd.hnew M h _ _).tr d)
theorem vJ{i n:Nat}(h:i<n)(a:n≤9223372036854775807):IntKind.wrap .i64 ((i:Int)+1)=((i+1:Nat):Int):=by rw[Go.IntWalk.i64_in _ (by omega)];omega
theorem Hl(p:Pr):∀{l:List Pr},(jZ p l).length≤l.length+1
 | []=>al _
 |q::l=>by
  rw[mD];split
  ·have:=Hl p (l:=l);simp only[ao];omega
  ·split<;>simp
theorem yi{W W':Nat→Prop}{h h':ac}{kind:Int}{x:Hs}{t u:Tr}{l l':List Pr}(i:TreeIs W h kind x t l)(a:TreeIs W' h' kind x u l'):qN t u=true:=by
 rcases i with⟨rfl,b,rfl,_⟩|⟨rfl,b,rfl,_⟩<;>rcases a with⟨e,b',rfl,_⟩|⟨e,b',rfl,_⟩
 ·simp[qN]
 ·cases e
 ·cases e
 ·simp[qN]
theorem Ul{k:Int}(a:0≤k)(b:k≤255):IntKind.wrap .i64 (lq k 2)=0∨IntKind.wrap .i64 (lq k 2)=1:=by
 have:lq k 2=k%2:=Int.tmod_eq_emod_of_nonneg a;rw[this,d8 (by omega)];omega
abbrev hsL(x:Hs):List Value:= [.int .u64 x.k0,.int .u64 x.k1,.int .u64 x.mask]
end Go.Proofs
namespace Go.Proofs
open Go Go.Lift
section
variable {W:Nat→Prop} {h:ac} {vp:Nat} {s:VS}
theorem zd(v:VaultAt W h vp s)(n:ByteArray){hd:Int}(m:bQ s.B n=some hd){d:TD}(i:TreeIs W h s.kind s.x d.1 d.2)(j:bV d.2)(g:Fit d.2)
  {K:Int×Int→ac→Prop}(k:∀h',Upd s.M h h'→VaultAt W h' vp (BO s n d (nz [hd])).2→K (BO s n d (nz [hd])).1 h'):
  HC PG gV [pV vp,.string n,Aj d.1] [.c (.int .u32),.c (.int .i64)] K h:=by
 refine xR (some ⟨vp,0,none⟩) n d.1 ?_;unfold rg ae eZ sx aA af qH uB GY eE;refine bi fun w b1 k1=>qF (v.upd0 k1) n ?_
 rw[m];refine ai.2 ⟨_,vc b1 0,_,vc b1 1,_,vc b1 2,_,vc b1 3,_,vc b1 4,_,vc b1 5,_,rfl,?_⟩;have c1:=k1.get0 v.blk;refine⟨_,tH c1 0 0,_,tH c1 0 1,_,tH c1 0 2,_,tH c1 0 3,_,tH c1 0 4,_,tH c1 0 5,?_⟩;refine An (t:=d.1) (u:=s.e) fun b c=>?_
 rw[yi i v.em];have b2:=c.get0 b1;refine ai.2 ⟨_,vc b2 0,_,vc b2 1,_,vc b2 2,_,vc b2 3,_,vc b2 4,_,vc b2 5,bi fun q b3 p=>?_⟩
 have a:=k1.tr c;have f:=a.size;refine CX v (a.tr p) n i j g (pb:=b.size) f (bo b3) (sl:=⟨some (aO b),1,1⟩) (ps:= [hd]) ⟨rfl,vL,al _,.inr ⟨b.size,[],rfl,rfl,b3,rfl⟩⟩ (by simp) fun h' o e=>k h' o e
end
end Go.Proofs
namespace Go.Proofs
open Go Go.Lift
abbrev Wk:=Option Addr×ByteArray×Bool
theorem OwnS.pop{α:Type}{f:α→List Value}{d:Nat}{t:TypeId}{M:Nat→Prop}{h:ac}{s:SliceV}{xs:List α}{x:α}(a:OwnS f d t M h s (xs++ [x])):OwnS f d t M h ⟨aJ s.a 0 s.cap d,xs.length,s.cap⟩ xs:=by
 have g:=a.len;have hc:=a.cap;rw[ad,bd]at g;refine⟨rfl,a.ne,by simp only;omega,a.blk.imp id fun⟨b,c,e,j,aI,i⟩=>⟨b,f x++c,?_,j,?_,?_⟩⟩
 ·simp only;rw[e,sub_zero]
 ·rw[aI,List.flatMap_append,aK,List.flatMap_nil,aX,ax]
 ·rw[ad,(a.ne x).1,i]
  simp only;have:s.cap-xs.length=(s.cap-s.len)+1:=by omega
  rw[this,Nat.add_mul];omega
structure It where
 b:Nat
 ah:ByteArray
 own:Bool
 sl:ByteArray
 w:Option ByteArray
 F:Fo
def It.raw(i:It):Wk:=(some ⟨i.b,0,none⟩,i.ah,i.own)
def It.key(i:It):List UInt8:=i.ah.data.toList++i.sl.data.toList
def It.cost(i:It):Nat:=if i.own then 1 else 2+2*TG i.F
end Go.Proofs
namespace Go.Proofs
open Go Go.Lift
theorem l8{W:Nat→Prop}{h:ac}{b:Nat}{sl:ByteArray}{w:Option ByteArray}{F:Fo}(r:RxN W h b sl w F){K:ByteArray→ac→Prop}(a:K sl h):HC PG dz [.pointer (some ⟨b,0,none⟩)] [.c .str] K h:=by
 refine zV _ ?_;unfold tl aF;obtain⟨val,s,ow,ks,c,_⟩:=r;exact ai.2 ⟨_,rfl,sl,fk (i:=0) c,a⟩
theorem EM{W:Nat→Prop}{h:ac}{b:Nat}{sl:ByteArray}{w:Option ByteArray}{F:Fo}(r:RxN W h b sl w F){K:ByteArray×Bool→ac→Prop}(d:∀v,(∀u,w=some u→v=u)→K (v,w.isSome) h):HC PG gA [.pointer (some ⟨b,0,none⟩)] [.c .str,.c .bool] K h:=by
 refine sW _ ?_;unfold oO aF bh;obtain⟨val,s,ow,ks,a,c,_⟩:=r;exact ai.2 ⟨_,rfl,val,fk (i:=2) a,_,rfl,w.isSome,fk (i:=1) a,d val (vw c)⟩
theorem JI{W:Nat→Prop}{h:ac}{b:Nat}{sl:ByteArray}{w:Option ByteArray}{F:Fo}(r:RxN W h b sl w F){K:ByteArray×Bool→ac→Prop}(c:K (w.getD ⟨#[]⟩,w.isSome) h):HC PG gA [.pointer (some ⟨b,0,none⟩)] [.c .str,.c .bool] K h:=by
 refine sW _ ?_;unfold oO aF bh;obtain⟨val,s,ow,ks,a,rfl,_⟩:=r;exact ai.2 ⟨_,rfl,_,fk (i:=2) a,_,rfl,w.isSome,fk (i:=1) a,c⟩
theorem BW{W:Nat→Prop}{h:ac}{b:Nat}{sl:ByteArray}{w:Option ByteArray}{F:Fo}(r:RxN W h b sl w F)(k:F.toL.length≤256){K:SliceV→ac→Prop}(g:∀s' h' ks,OwnS rq 1 bq (fun y=>h.size≤y) h' s' ks→RxL W h' ks F.toL→Upd No h h'→K s' h'):HC PG jw [.pointer (some ⟨b,0,none⟩)] [.c .slice] K h:=by
 refine Ba _ ?_;unfold ui bR;obtain⟨val,s,ow,ks,j,m,e,_,f⟩:=r;have c:=lH.1 f;refine ai.2 ⟨_,rfl,s,fk (i:=3) j,?_⟩;refine HA e (by rw[c.1];omega) fun s' h' d a=>g s' h' ks d (c.upd0 a) a
def It.Ok(W:Nat→Prop)(h:ac)(i:It):Prop:=RxN W h i.b i.sl i.w i.F∧g8 i.F∧i.key.length≤10000∧∀p∈zo i.w i.F,i.key.length+p.1.length≤10000
theorem It.Ok.updM{W M:Nat→Prop}{h h':ac}(k:Upd M h h')(hm:∀b,M b→W b∨h.size≤b){i:It}(o:It.Ok W h i):It.Ok W h' i:=⟨o.1.updM k hm,o.2⟩
theorem Of(lab:List UInt8)(w:Option ByteArray)(a b:Fo):Au (.cons lab w a b)=((w.map fun v=>(([]:List UInt8),v)).toList++Au a).map (fun p=>(lab++p.1,p.2))++Au b:=rfl
end Go.Proofs
namespace Go.Proofs
open Go Go.Lift
end Go.Proofs
namespace Go.Proofs
open Go Go.Lift
abbrev TF(x:Pr):List Value:= [.agg #[.string x.1,.string x.2]]
theorem Gp{h:ac}{fv:Value}{N:Nat}{S:List Pr→Prop}{Q:Nat→Prop}(hg:Gives PG fv TF N S Q h)(hN:N≤100000000){K:SliceV→ac→Prop}
  (hk:∀s' h' xs,S xs→OwnS eJ 2 ag (fun b=>h.size≤b) h' s' xs→Upd No h h'→K s' h'):HC PG ed [.slice none 0 0,fv] [.c .slice] K h:=by
 refine lB ⟨none,0,0⟩ fv ?_;unfold gl nv ay rp m8 Tq vR;have k0:=Upd.hnew No h [.slice none 0 0] cf;have b0:=bE h [.slice none 0 0] cf;have hsz:(hnew h [.slice none 0 0] cf).size=h.size+1:=gt ..;have J:=hg.upd k0 fun _ _=>id
 refine bw ?_;generalize hnew h [.slice none 0 0] cf=h1 at J k0 b0 hsz;refine⟨fun lo hlo g=>?_⟩
 obtain⟨f,first,cap,rfl,O⟩:=J.run
 refine⟨f,first,cap,rfl,?_⟩
 have k1:Upd No h1 ((h1.push (.deferred (some []))).push (lo .ready none)):=(Upd.push No _ _).tr (Upd.push No _ _);have l2:((h1.push (.deferred (some []))).push (lo .ready none))[h1.size+1]? =some (lo .ready none):=by
  have:=sD (h1.push (.deferred (some []))) (lo .ready none);rwa [Array.size_push]at this
 have l1:((h1.push (.deferred (some []))).push (lo .ready none))[h1.size]? =some (.deferred (some [])):=(Upd.push No _ _).get0 (sD h1 _);refine O (.func (.yield (h1.size+1)) #[] #[]) (fun pre A h'=>(∀b,A b→b<h'.size∧h.size≤b)∧A h.size∧A h1.size∧A (h1.size+1)∧h'[h1.size]? =some (.deferred (some []))∧h'[h1.size+1]? =some (lo .ready none)∧
   ∃s:SliceV,h'[h.size]? =some (.cells #[sv s] cf (0,0))∧OwnS eJ 2 ag (fun b=>A b∧h1.size+1<b) h' s pre∧pre.length≤N)
  (fun b=>b=h.size∨b=h1.size∨b=h1.size+1) No _ _ ⟨fun _ _ _ E b a=>(E.1 b a).1,fun pre A h' h'' B E t X=>?_,fun pre A h' x K' E hlen hK=>?_⟩ ?_ k1 (fun _ _=>id) (fun b a hq=>?_) ?_
 ·obtain⟨I,R,k,m,Y,h6,s,h7,h8,h9⟩:=E
  exact⟨fun b a=>⟨aC (I b a).1 t.size,(I b a).2⟩,R,k,m,t.get Y (X _ k),t.get h6 (X _ m),s,t.get h7 (X _ R),h8.upd t fun b a=>X b a.1,h9⟩
 ·obtain⟨n,j,i,c,hd,u,s,T,ho,hpl⟩:=E
  refine g x h' K' u ?_;refine EZ (p:=x) fun hp bp z=>?_
  have zp:=bo bp;have u:=z.get0 u;have T:=z.get0 T;have hd:=z.get0 hd;have hop:=ho.upd z fun _ _ h=>h
  have sp:=z.size;refine⟨u,?_⟩;have w:Upd (· =h1.size+1) hp (hp.setIfInBounds (h1.size+1) (lo .busy none)):=Upd.set _ _ rfl
  have Z:=fF (o:=lo .busy none) u;have sb:=w.size;refine bw ?_;generalize hp.setIfInBounds (h1.size+1) (lo .busy none)=R at w Z sb;have F:=(n _ j).1;have G:=(n _ c).1;have W:=w.get bp (by omega);have H:=w.get T (by omega);refine⟨s,by rw[cr,aL H];rfl,_,vc W 0,_,vc W 1,bw ?_⟩
  refine KG (p:=x) (M:=fun b=>((A b∧b<h'.size)∨R.size≤b)∧h1.size+1<b) ((hop.upd w fun b a=>by omega).more fun b a=>⟨.inl ⟨a.1,(n b a.1).1⟩,a.2⟩) (fun b a=>⟨.inr a,by have:=bo Z;omega⟩) (by omega) fun s' k ho3 e=>?_
  have q:k[h.size]? =some (.cells #[sv s] cf (0,0)):=e.get H (by omega);refine⟨by rw[cr];exact gn q (by simp),?_⟩;have y:Upd (· =h.size) k (hset k (aO h) (.slice s'.a s'.len s'.cap)):=Upd.hset _ _ rfl
  have V:(hset k (aO h) (.slice s'.a s'.len s'.cap))[h.size]? =some (.cells #[sv s'] cf (0,0)):=by
   rw[cr,qP q,fF q];rfl
  refine bw ?_;generalize hset k (aO h) (.slice s'.a s'.len s'.cap)=m at y V;have U:m[h1.size+1]? =some (lo .busy none):=y.get (e.get Z (by omega)) (by omega);refine⟨U,?_⟩;have d:Upd (· =h1.size+1) m (m.setIfInBounds (h1.size+1) (lo .ready none)):=Upd.set _ _ rfl
  have hl5:=fF (o:=lo .ready none) U;have D:Upd A h' m:=((z.wide.tr (w.mono (M':=A) fun b a=>.inl (a▸c))).trans e fun b a=>a.1.imp (fun h=>h.1) fun h=>by omega).trans y fun b a=>.inl (a▸j)
  have z3:=e.size;have z4:=y.size;have z5:=d.size;refine hK _ (fun b=>((A b∧b<h'.size)∨R.size≤b)∧b<m.size) ⟨fun b a=>⟨aC a.2 z5,a.1.elim (fun h=>(n b h.1).2) fun h=>by omega⟩,⟨.inl ⟨j,F⟩,by omega⟩,⟨.inl ⟨i,(n _ i).1⟩,by have:=(n _ i).1;omega⟩,⟨.inl ⟨c,G⟩,by omega⟩,
   d.get (y.get (e.get (w.get hd (by omega)) (by omega)) (by omega)) (by omega),hl5,s',d.get V (by omega),?_,by simp;omega⟩ (D.trans d fun b a=>.inl (a▸c)) fun b a=>a.1.imp (fun h=>h.1) fun h=>by omega
  exact(((ho3.upd y fun b a=>by omega).within).more fun b a=>⟨⟨a.1.1,a.2⟩,a.1.2⟩).upd d fun b a=>by omega
 ·refine⟨fun b a=>?_,.inl rfl,.inr (.inl rfl),.inr (.inr rfl),l1,l2,⟨none,0,0⟩,k1.get0 b0,OwnS.nil gS,bS _⟩
  have:=bo l2;rcases a with rfl|rfl|rfl<;>omega
 ·have:=hg.lt b hq
  rcases a with rfl|rfl|rfl<;>omega
 ·rintro xs A' h' hS ⟨n,j,i,c,hd,u,s,T,ho,hpl⟩ t hA'
  refine⟨.ready,none,by decide,u,?_⟩
  have d:Upd (· =h1.size+1) h' (h'.setIfInBounds (h1.size+1) (lo .exhausted none)):=Upd.set _ _ rfl
  show∃v:SliceV,aI (h'.setIfInBounds (h1.size+1) (lo .exhausted none)) (aO h)=some (.slice v.a v.len v.cap)∧_
  have C:=d.get hd (show ¬h1.size=h1.size+1 by omega)
  have P:=d.get T (show ¬h.size=h1.size+1 by omega)
  have L:=ho.upd d fun b a=>by omega
  generalize h'.setIfInBounds (h1.size+1) (lo .exhausted none)=Y at d C P L;refine⟨s,by rw[cr,aL P];rfl,C,?_⟩
  have k6:Upd (· =h1.size) Y (Y.setIfInBounds h1.size (.deferred none)):=Upd.set _ _ rfl
  refine hk s _ xs hS ((L.upd k6 fun b a=>by omega).more fun b a=>(n b a.1).2) ?_
  refine(((k0.tr k1).trans t fun b a=>?_).trans d fun b a=>.inr (by omega)).trans k6 fun b a=>.inr (by omega)
  rcases a with rfl|rfl|rfl<;>(right;omega)
theorem Kw{h:ac}{a:Value}{N:Nat}{S:List Pr→Prop}{Q:Nat→Prop}(d:Gives PG a TF N S Q h)(e:N≤100000000){K:SliceV→ac→Prop}
  (c:∀s' h' xs,S xs→OwnS eJ 2 ag (fun b=>h.size≤b) h' s' xs→Upd No h h'→K s' h'):HC PG iV [a] [.c .slice] K h:=by
 refine sS a ?_;unfold mo;exact Gp d e c
end Go.Proofs
namespace Go.Proofs
structure WO{α:Type}(lt:α→α→Bool):Prop where
 irr:∀a,lt a a=false
 asy:∀a b,lt a b=true→lt b a=false
 ntr:∀a b c,lt a b=false→lt b c=false→lt a c=false
section
variable {α:Type} {lt:α→α→Bool}
def Ky(lt:α→α→Bool)(x a:α):Bool:= !lt a x&& !lt x a
def Srt(lt:α→α→Bool)(l:List α):Prop:=l.Pairwise fun a b=>lt b a=false
structure Eqf(lt:α→α→Bool)(l l':List α):Prop where
 len:l'.length=l.length
 flt:∀x,l'.filter (Ky lt x)=l.filter (Ky lt x)
structure St(lt:α→α→Bool)(l l':List α):Prop where
 eqf:Eqf lt l l'
 srt:Srt lt l'
theorem Eqf.rfl(l:List α):Eqf lt l l:=⟨_root_.rfl,fun _=>_root_.rfl⟩
theorem Eqf.tr{a b c:List α}(h:Eqf lt a b)(k:Eqf lt b c):Eqf lt a c:=⟨k.len.trans h.len,fun x=>(k.flt x).trans (h.flt x)⟩
theorem Eqf.app{a b a' b':List α}(h:Eqf lt a a')(k:Eqf lt b b'):Eqf lt (a++b) (a'++b'):=
 ⟨by rw[ad,ad,h.len,k.len],fun x=>by rw[dR,dR,h.flt,k.flt]⟩
theorem Fw(w:WO lt)(a:α):Ky lt a a=true:=by unfold Ky;rw[w.irr];rfl
theorem Eqf.mem(w:WO lt){l l':List α}(h:Eqf lt l l'){a:α}:a∈l'↔a∈l:=by
 have e:=h.flt a;constructor
 ·intro hm
  have:a∈l'.filter (Ky lt a):=ci.2 ⟨hm,Fw w a⟩;rw[e]at this;exact(ci.1 this).1
 ·intro hm
  have:a∈l.filter (Ky lt a):=ci.2 ⟨hm,Fw w a⟩;rw[←e]at this;exact(ci.1 this).1
theorem Sn(w:WO lt){x u v:α}(b:Ky lt x u=true)(a:Ky lt x v=true):lt v u=false:=by
 unfold Ky at b a;simp only[aR,Bool.not_eq_true']at b a;exact w.ntr v x u a.1 b.2
theorem Eqf.swap(w:WO lt){U V:List α}(h:∀u∈U,∀v∈V,lt v u=true):Eqf lt (U++V) (V++U):=by
 refine⟨by rw[ad,ad,Nat.add_comm],fun x=>?_⟩
 rw[dR,dR];cases hU:U.filter (Ky lt x)with
 |nil=>rw[aX,dV]
 |cons u us=>
  cases hV:V.filter (Ky lt x)with
  |nil=>rw[aX,dV]
  |cons v vs=>
   have e:u∈U.filter (Ky lt x):=by rw[hU];exact au ..
   have d:v∈V.filter (Ky lt x):=by rw[hV];exact au ..
   have c:=ci.1 e;have a:=ci.1 d;have b:=h u c.1 v a.1;rw[Sn w c.2 a.2]at b;cases b
theorem Srt.app{a b:List α}(h:Srt lt a)(k:Srt lt b)(c:∀x∈a,∀y∈b,lt y x=false):Srt lt (a++b):=bT.2 ⟨h,k,c⟩
theorem Srt.left{a b:List α}(h:Srt lt (a++b)):Srt lt a:=(bT.1 h).1
theorem Srt.right{a b:List α}(h:Srt lt (a++b)):Srt lt b:=(bT.1 h).2.1
theorem Srt.cross{a b:List α}(h:Srt lt (a++b)):∀x∈a,∀y∈b,lt y x=false:=(bT.1 h).2.2
theorem Srt.nil:Srt lt ([]:List α):=db
theorem Srt.one(a:α):Srt lt [a]:=List.pairwise_singleton ..
theorem PD(w:WO lt){S L G:List α}{t:α}(h:St lt S (L++G))(f:∀l∈L,lt t l=false)(b:∀g∈G,lt t g=true):St lt (S++ [t]) (L++t::G):=by
 refine⟨(h.eqf.app (Eqf.rfl [t])).tr ?_,?_⟩
 ·rw[ax]
  exact(Eqf.rfl L).app (Eqf.swap w (U:=G) (V:= [t]) fun u c v e=>by rw[av.1 e];exact b u c)
 ·refine h.srt.left.app (aB.2 ⟨fun g d=>w.asy t g (b g d),h.srt.right⟩) fun x hx y a=>?_
  rcases aq.1 a with rfl|a
  ·exact f x hx
  ·exact h.srt.cross x hx y a
theorem HZ(w:WO lt){V1 V2:List α}{u:α}(h:Srt lt (V1++V2))(b:∀v∈V1,lt v u=true)(c:∀v∈V2,lt v u=false):St lt ([u]++(V1++V2)) (V1++u::V2):=by
 refine⟨?_,?_⟩
 ·rw[←ax]
  have:=(Eqf.swap w (U:= [u]) (V:=V1) fun x hx y a=>by rw[av.1 hx];exact b y a).app (Eqf.rfl V2)
  rw[ax V1]at this;exact this
 ·refine h.left.app (aB.2 ⟨c,h.right⟩) fun x hx y a=>?_
  rcases aq.1 a with rfl|a
  ·exact w.asy x y (b x hx)
  ·exact h.cross x hx y a
theorem JB(w:WO lt){U1 U2:List α}{v:α}(h:Srt lt (U1++U2))(b:∀u∈U1,lt v u=false)(a:∀u∈U2,lt v u=true):St lt ((U1++U2)++ [v]) (U1++v::U2):=
 PD w ⟨Eqf.rfl _,h⟩ b a
theorem NZ(w:WO lt){U1 U2 V1 V2 d R2:List α}(g:Srt lt (U1++U2))(j:Srt lt (V1++V2))(f:∀v∈V1,∀u∈U2,lt v u=true)(i:∀u∈U1,∀v∈V2,lt v u=false)(c:St lt (U1++V1) d)(b:St lt (U2++V2) R2):St lt ((U1++U2)++(V1++V2)) (d++R2):=by
 refine⟨?_,c.srt.app b.srt fun x hx y a=>?_⟩
 ·have e:Eqf lt ((U1++U2)++(V1++V2)) ((U1++V1)++(U2++V2)):=by
   have:=((Eqf.rfl U1).app (Eqf.swap w (U:=U2) (V:=V1) fun u m v k=>f v k u m)).app (Eqf.rfl (lt:=lt) V2)
   simp only[ax]at this⊢;exact this
  exact e.tr (c.eqf.app b.eqf)
 ·rcases aN.1 ((c.eqf.mem w).1 hx)with hx|hx<;>rcases aN.1 ((b.eqf.mem w).1 a)with a|a
  ·exact g.cross x hx y a
  ·exact i x hx y a
  ·exact w.asy x y (f x hx y a)
  ·exact j.cross x hx y a
inductive Runs(lt:α→α→Bool)(bs:Nat):List α→Prop where
 |last (l:List α):l.length≤bs→Srt lt l→Runs lt bs l
 |more (b l:List α):b.length=bs→Srt lt b→Runs lt bs l→Runs lt bs (b++l)
theorem Runs.split{a:Nat}{l:List α}(h:Runs lt a l)(c:a≤l.length):∃b r,l=b++r∧b.length=a∧Srt lt b∧Runs lt a r:=by
 cases h with
 |last _ h1 h2=>exact⟨l,[],(aX l).symm,by omega,h2,.last _ (bS _) Srt.nil⟩
 |more b r h1 h2 h3=>exact⟨b,r,_root_.rfl,h1,h2,h3⟩
theorem Runs.short{a:Nat}{l:List α}(h:Runs lt a l)(c:l.length≤a):Srt lt l:=by
 cases h with
 |last _ h1 h2=>exact h2
 |more b r h1 h2 h3=>
  rw[ad]at c;have:r= []:=List.length_eq_zero_iff.1 (by omega);rw[this,aX];exact h2
def Full(lt:α→α→Bool)(a:Nat)(d:List α):Prop:=∀z,Runs lt a z→Runs lt a (d++z)
theorem Full.nil{a:Nat}:Full lt a ([]:List α):=fun _ h=>h
theorem Full.app{a:Nat}{d b:List α}(h:Full lt a d)(f:b.length=a)(e:Srt lt b):Full lt a (d++b):=fun z c=>by
 rw[ax];exact h _ (.more b z f e c)
end
end Go.Proofs
namespace Go.Proofs
open Go Go.Lift
section
variable {α:Type} {f:α→List Value} {sz:Nat} {t:TypeId} {M:Nat→Prop} {h:ac} {s:SliceV} {P Q:List α} {x:α}
theorem lI(b:OwnS f sz t M h s (P++x::Q)){i:Nat}(hi:i=P.length):∃a,s.a=some a∧∀j v,(f x)[j]? =some v→aI h (adr (adr a (i*sz)) j)=some v:=by
 obtain⟨a,c,_,d⟩:=(b.sl (W:=No) fun _ _ _ h=>h).at (i:=i) (x:=x) (by rw[hi,aU (al _),Nat.sub_self];rfl)
 exact⟨a,c,d⟩
theorem uD(g:OwnS f sz t M h s (P++x::Q))(y:α){a:Addr}(n:s.a=some a){i:Nat}(hi:i=P.length){G:ac→Prop}(o:∀h',OwnS f sz t M h' s (P++y::Q)→Upd M h h'→G h'):
  sw h (some (adr a (i*sz))) 0 (f y)∧At (hH h (adr a (i*sz)) 0 (f y)) G:=by
 obtain⟨a',c,q,j,d,m⟩:=OwnS.setAt g (k:=i) (by rw[hi,ad,ao];omega) y;rw[n]at c;cases c;refine⟨j,bw (o _ ?_ (m.mono fun b e=>.inl (by have e:b=a.block:=e;rw[e];exact q)))⟩
 subst hi;have p:(P++x::Q).take P.length=P:=List.take_left;have u:(P++x::Q).drop (P.length+1)=Q:=by rw[←cG,List.drop_left];rfl
 rw[p,u]at d;exact d
end
theorem yf{α:Type}{f:α→List Value}{b:Nat}{t:TypeId}{M:Nat→Prop}{h:ac}{s:SliceV}{xs:List α}{x:α}(c:OwnS f b t M h s xs){i:Nat}(hi:xs[i]? =some x):∃a,s.a=some a∧∀j v,(f x)[j]? =some v→aI h (adr (adr a (i*b)) j)=some v:=by
 obtain⟨a,d,_,e⟩:=(c.sl (W:=No) fun _ _ _ h=>h).at hi
 exact⟨a,d,e⟩
theorem P9{α:Type}{A U X:List α}{i:Nat}(hi:A.length+U.length≤i):(A++(U++X))[i]? =X[i-A.length-U.length]?:=by
 rw[aU (by omega),aU (by omega)]
theorem Qa{α:Type}{A U V B:List α}{i k:Nat}{x:α}(hi:A.length+U.length+k=i)(a:V[k]? =some x):(A++(U++(V++B)))[i]? =some x:=by
 rw[P9 (by omega),show i-A.length-U.length=k by omega,bN (bf.1 a).1];exact a
theorem Nx{α:Type}{A U X:List α}{i k:Nat}{x:α}(hi:A.length+k=i)(a:U[k]? =some x):(A++(U++X))[i]? =some x:=by
 rw[aU (by omega),show i-A.length=k by omega,bN (bf.1 a).1];exact a
theorem Eh{i j:Nat}(h:i+j≤4000000000):IntKind.wrap .i64 (Int.fdiv (IntKind.wrap .u64 (IntKind.wrap .i64 ((i:Int)+(j:Int)))) (2^(min (1:Int).toNat (IntKind.bits .u64))))=(((i+j)/2:Nat):Int):=by
 have a:(2^(min (1:Int).toNat (IntKind.bits .u64)):Int)=2:=rfl;rw[a,d8 (x:=(i:Int)+(j:Int)) (by omega),Go.IntWalk.u64_in _ (by omega),Int.fdiv_eq_ediv_of_nonneg _ (by omega),d8 (by omega)];omega
theorem ry{α:Type}{lt:α→α→Bool}(w:WO lt){l:List α}(h:Srt lt l){i j:Nat}(d:i≤j){x y:α}(hx:l[i]? =some x) (b:l[j]? =some y):lt y x=false:=by
 obtain⟨hi,rfl⟩:=bf.1 hx;obtain⟨c,rfl⟩:=bf.1 b;rcases Nat.lt_or_ge i j with a|a
 ·exact List.pairwise_iff_getElem.1 h i j hi c a
 ·have:i=j:=by omega
  subst this;exact w.irr _
theorem IG{α:Type}(l:List α):l= []∨∃l' y,l=l'++ [y]:=by
 rcases List.eq_nil_or_concat l with h|⟨l',y,h⟩
 ·exact .inl h
 ·exact .inr ⟨l',y,by rw[h,List.concat_eq_append]⟩
structure Cmp{α:Type}(lt:α→α→Bool)(f:α→List Value)(M:Nat→Prop)(Iv:ac→Prop)(V:Value):Prop where
 call:∀(a b:α) {h:ac} {K:Int→ac→Prop},Iv h→(∀h' e,Upd No h h'→decide (e<0)=lt a b→K e h')→HV PG V [.agg (f a).toArray,.agg (f b).toArray] [.c (.int .i64)] K h
 step:∀{h h':ac},Upd M h h'→Iv h→Iv h'
end Go.Proofs
