/- A part of the proof that the named laws of this program answer true, whatever the input. -/
import Derived.Test.YtajpljopgikpgaaGreatPart3
import Derived.Test.YtajpljopgikpgaaGreatPart2
open Int renaming toNat_natCast→aK
open List renaming mem_append→cn,pairwise_append→bQ,mem_cons_self→aC,pairwise_cons→aZ,mem_cons→ai,lt_irrefl→kQ,mem_cons_of_mem→aS,pairwise_singleton→cW,mem_singleton→ag,any_eq_true→bE
open List.Pairwise renaming nil→eW
open Nat renaming le_refl→av,zero_add→ar,lt_of_lt_of_le→cg,le_trans→fB
open Option renaming map_eq_some_iff→fA
open Prod renaming mk→nP
namespace Go.Proofs
open Go Go.Lift
def qv:Fo→List (List UInt8×ByteArray)
 | .nil=> []
 | .cons lab w kids rest=>((w.map fun v=>(([]:List UInt8),v)).toList++qv kids).map (fun p=>(lab++p.1,p.2))++qv rest
def kS(w:Option ByteArray)(F:Fo):List (List UInt8×ByteArray):=(w.map fun v=>(([]:List UInt8),v)).toList++qv F
theorem kY:∀{F:Fo} {k:List UInt8} {v:ByteArray},(k,v)∈qv F↔rx F k v
 | .nil,_,_=>by simp[qv,rx]
 | .cons lab w kids rest,k,v=>by
  unfold qv rx;rw[cn,kY (F:=rest)];refine or_congr ?_ Iff.rfl;rw[List.mem_map];constructor
  ·rintro⟨⟨r,u⟩,hm,b⟩
   simp only[nP.injEq]at b;obtain⟨rfl,rfl⟩:=b;refine⟨r,rfl,?_⟩;rcases cn.1 hm with h|h
   ·left
    rw[Option.mem_toList,fA]at h;obtain⟨a,c,b⟩:=h;simp only[nP.injEq]at b;exact⟨b.1.symm,by rw[c,b.2]⟩
   ·exact .inr (kY.1 h)
  ·rintro⟨r,rfl,h⟩
   refine⟨(r,v),cn.2 ?_,rfl⟩;rcases h with⟨rfl,h⟩|h
   ·left;rw[h];simp
   ·exact .inr (kY.2 h)
theorem wF{w:Option ByteArray}{F:Fo}{k:List UInt8}{v:ByteArray}:(k,v)∈kS w F↔rv w F k v:=by
 unfold kS rv;rw[cn,kY];refine or_congr ?_ Iff.rfl;cases w with
 |none=>simp
 |some u=>simp[Prod.ext_iff,eq_comm]
abbrev Up(l:List (List UInt8×ByteArray)):Prop:=l.Pairwise fun p q=>p.1<q.1
theorem DS{a x y:List UInt8}(h:x<y):a++x<a++y:=by
 induction a with
 |nil=>exact h
 |cons c a ih=>exact List.Lex.cons ih
theorem Bg{x y:List UInt8}(c:y≠[])(h:hd x<hd y):x<y:=by
 match x,y,c with
 | [],b::y,_=>exact List.Lex.nil
 |a::x,b::y,_=>exact List.Lex.rel (UInt8.lt_iff_toNat_lt.2 h)
theorem xR:∀{F:Fo},fK F→Up (qv F)
 | .nil,_=>eW
 | .cons lab w kids rest,h=>by
  unfold qv;refine bQ.2 ⟨?_,xR h.2.2.2.2,?_⟩
  ·rw[List.pairwise_map]
   refine List.Pairwise.imp (R:=fun p q:List UInt8×ByteArray=>p.1<q.1) (fun i=>DS i) ?_
   refine bQ.2 ⟨?_,xR h.2.2.1,?_⟩
   ·cases w<;>simp
   ·intro a g b f
    have d:b.1≠[]:=qy h.2.2.1 (kY (F:=kids).1 (show(b.1,b.2)∈_ from f))
    have j:a.1= []:=by
     rw[Option.mem_toList,fA]at g;obtain⟨v,_,e⟩:=g;rw[←e]
    rw[j];match b.1,d with
    |c::l,_=>exact List.Lex.nil
  ·intro a g b f
   obtain⟨p,_,rfl⟩:=List.mem_map.1 g;obtain⟨n,k,e,_⟩:=qz h.2.2.2.2 (kY (F:=rest).1 (show(b.1,b.2)∈_ from f))
   have d:b.1≠[]:=qy h.2.2.2.2 (kY (F:=rest).1 (show(b.1,b.2)∈_ from f))
   have:=h.2.2.2.1 n k;exact Bg d (by rw[nn h.1];omega)
theorem Cq{w:Option ByteArray}{F:Fo}(h:fK F):Up (kS w F):=by
 refine bQ.2 ⟨by cases w<;>simp,xR h,?_⟩
 intro a g b i;have d:b.1≠[]:=qy h (kY (F:=F).1 (show(b.1,b.2)∈_ from i))
 have f:a.1= []:=by
  rw[Option.mem_toList,fA]at g;obtain⟨v,_,e⟩:=g;rw[←e]
 rw[f];match b.1,d with
 |c::l,_=>exact List.Lex.nil
theorem AI:∀{l l':List (List UInt8×ByteArray)},Up l→Up l'→(∀p,p∈l↔p∈l')→l=l'
 | [],[],_,_,_=>rfl
 | [],q::l',_,_,h=>absurd ((h q).2 (aC ..)) (by simp)
 |p::l,[],_,_,h=>absurd ((h p).1 (aC ..)) (by simp)
 |p::l,q::l',c,a,h=>by
  have c:=aZ.1 c;have a:=aZ.1 a;have e:p=q:=by
   rcases ai.1 ((h p).1 (aC ..))with e|f
   ·exact e
   ·rcases ai.1 ((h q).2 (aC ..))with e|d
    ·exact e.symm
    ·exact absurd (List.lt_trans (c.1 q d) (a.1 p f)) (kQ _)
  subst e;rw[AI c.2 a.2 fun z=>?_]
  constructor
  ·intro hz
   rcases ai.1 ((h z).1 (aS _ hz))with e|b
   ·exact absurd (c.1 z hz) (by rw[e];exact kQ _)
   ·exact b
  ·intro hz
   rcases ai.1 ((h z).2 (aS _ hz))with e|b
   ·exact absurd (a.1 z hz) (by rw[e];exact kQ _)
   ·exact b
end Go.Proofs
namespace Go.Proofs
open Go Go.Lift
structure RadAt(W:Nat→Prop)(h:ac)(b:Nat)(l:List Pr):Prop where
 ex:∃w F,RxN W h b ⟨#[]⟩ w F∧fK F∧∀k v,(k,v)∈kS w F↔∃p∈l,p.1.data.toList=k∧p.2=v
theorem RadAt.upd0{W:Nat→Prop}{h a:ac}{b:Nat}{l:List Pr}(k:Upd No h a)(r:RadAt W h b l):RadAt W a b l:=by
 obtain⟨w,F,e,c,d⟩:=r.ex;exact⟨w,F,e.upd0 k,c,d⟩
theorem RadAt.less{W W':Nat→Prop}{h:ac}(hm:∀b,W' b→W b∨h.size≤b){b:Nat}{l:List Pr}(r:RadAt W h b l):RadAt W' h b l:=by
 obtain⟨w,F,d,a,c⟩:=r.ex;exact⟨w,F,d.less hm,a,c⟩
theorem RadAt.updM{W M:Nat→Prop}{h a:ac}(k:Upd M h a)(hm:∀b,M b→W b∨h.size≤b){b:Nat}{l:List Pr}(r:RadAt W h b l):RadAt W a b l:=by
 obtain⟨w,F,e,c,d⟩:=r.ex;exact⟨w,F,e.updM k hm,c,d⟩
def Ea(l:List Pr):List (List UInt8×ByteArray):=l.map fun p=>(p.1.data.toList,p.2)
theorem Db{l:List Pr}(c:eO l):Up (Ea l):=by
 unfold Ea Up;rw[List.pairwise_map];refine List.Pairwise.imp (R:=fun p q:Pr=>kl p.1 q.1) (fun{a b} h=>?_) c
 rw[x9,ByteArray.toList_eq,ByteArray.toList_eq]at h;exact h
theorem Co{w:Option ByteArray}{F:Fo}{l:List Pr}(hc:fK F)(c:eO l)(b:∀k v,(k,v)∈kS w F↔∃p∈l,p.1.data.toList=k∧p.2=v):kS w F=Ea l:=by
 refine AI (Cq hc) (Db c) fun p=>?_
 have:=b p.1 p.2;rw[show(p.1,p.2)=p from rfl]at this
 rw[this];unfold Ea;rw[List.mem_map];constructor
 ·rintro⟨q,a,d,f⟩;exact⟨q,a,Prod.ext d f⟩
 ·rintro⟨q,a,e⟩;rw[←e];exact⟨q,a,rfl,rfl⟩
end Go.Proofs
namespace Go.Proofs
open Go Go.Lift
theorem kZ{p q:Pr}:∀{l:List Pr},eO l→(q∈f9 p l↔q=p∨(q∈l∧q.1≠p.1))
 | [],_=>by simp[f9]
 |r::l,d=>by
  have d:=aZ.1 d;rw[il];by_cases c:kl r.1 p.1
  ·have f:r.1≠p.1:=fun e=>by rw[e]at c;exact dL _ c
   rw[if_pos c,ai,ai,kZ d.2];constructor
   ·rintro(rfl|h|⟨h,b⟩)
    ·exact .inr ⟨.inl rfl,f⟩
    ·exact .inl h
    ·exact .inr ⟨.inr h,b⟩
   ·rintro(h|⟨h|h,b⟩)
    ·exact .inr (.inl h)
    ·exact .inl h
    ·exact .inr (.inr ⟨h,b⟩)
  ·rw[if_neg c]
   by_cases a:r.1=p.1
   ·rw[if_pos a,ai,ai]
    constructor
    ·rintro(h|h)
     ·exact .inl h
     ·refine .inr ⟨.inr h,fun e=>?_⟩
      have:=d.1 q h;rw[e,a]at this;exact dL _ this
    ·rintro(h|⟨rfl|h,b⟩)
     ·exact .inl h
     ·exact absurd a b
     ·exact .inr h
   ·rw[if_neg a,ai,ai]
    have g:=vu c a;constructor
    ·rintro(h|rfl|h)
     ·exact .inl h
     ·exact .inr ⟨.inl rfl,a⟩
     ·refine .inr ⟨.inr h,fun e=>?_⟩
      have:=km g (d.1 q h);rw[e]at this;exact dL _ this
    ·rintro(h|⟨rfl|h,b⟩)
     ·exact .inl h
     ·exact .inr (.inl rfl)
     ·exact .inr (.inr h)
def RadRoot(W:Nat→Prop)(h:ac)(r:Option Addr)(l:List Pr):Prop:=(r=none∧l= [])∨∃b,r=some ⟨b,0,none⟩∧RadAt W h b l
theorem RadRoot.upd0{W:Nat→Prop}{h a:ac}{r:Option Addr}{l:List Pr}(k:Upd No h a)(t:RadRoot W h r l):RadRoot W a r l:=t.imp id fun⟨b,e,t⟩=>⟨b,e,t.upd0 k⟩
theorem yz{a b:ByteArray}:a.data.toList=b.data.toList↔a=b:=by
 constructor
 ·intro h;cases a;cases b;exact congrArg ByteArray.mk (Array.toList_inj.1 h)
 ·rintro rfl;rfl
theorem xD{W:Nat→Prop}{h:ac}(c:∀y,W y→y<h.size){K:Option Addr→ac→Prop}(a:∀h' b,RadAt W h' b []→Upd No h h'→K (some ⟨b,0,none⟩) h'):HC PG jw [] [.c .ptr] K h:=by
 refine uk ?_;unfold ox vT;refine bK (a _ h.size ⟨none,.nil,⟨⟨#[]⟩,⟨none,0,0⟩,none,[],cf h CV aD,rfl,Sl.nil lL,⟨av _,fun hx=>Nat.lt_irrefl _ (c _ hx),fT⟩,rfl⟩,trivial,fun k v=>?_⟩ (Upd.hnew No h _ _))
 simp[kS,qv]
end Go.Proofs
namespace Go.Proofs
open Go Go.Lift
theorem bD{h:ac}{cs:List Value}{t:TypeId}{k:ac→Prop}(a:∀h',h'[h.size]? =some (.cells cs.toArray t (0,0))→Upd No h h'→k h'):At (hnew h cs t) k:=
 bK (a _ (cf h cs t) (Upd.hnew No h cs t))
theorem vc{h:ac}{b:Nat}{c:Array Value}{t:TypeId}(a:h[b]? =some (.cells c t (0,0))) (i:Nat):aP h (adr ⟨b,0,none⟩ i)=c[i]?:=by rw[aX,ar];exact aH a
theorem xp{h:ac}{b:Nat}{c:Array Value}{t:TypeId}(a:h[b]? =some (.cells c t (0,0))) (i j:Nat):aP h (adr (adr ⟨b,0,none⟩ i) j)=c[i+j]?:=by rw[aX,aX,ar];exact aH a
theorem D4{h:ac}{b i:Nat}{c c':Array Value}{t:TypeId}{v:Value}{k:ac→Prop}(f:h[b]? =some (.cells c t (0,0))) (j:i<c.size) (e:c.setIfInBounds i v=c') (g:∀a,a[b]? =some (.cells c' t (0,0))→Upd (· =b) h a→k a):Wr h (adr ⟨b,0,none⟩ i)∧At (hset h (adr ⟨b,0,none⟩ i) v) k:=by
 rw[aX,ar];exact⟨fq f j,qK f fun a d m=>g a (e▸d) m⟩
theorem _root_.Go.Lift.Upd.own{h a c:ac}{b:Nat}(k:Upd No h a)(d:Upd (· =b) a c)(e:h.size≤b):Upd No h c:=k.trans d fun x hx=>.inr (by have hx:x=b:=hx;omega)
theorem _root_.Go.Lift.Upd.oth{h d:ac}{b c:Nat}{o:Obj}(e:Upd (· =b) h d)(hc:h[c]? =some o) (a:c≠b):d[c]? =some o:=e.get hc a
abbrev Tr:=Int×Int×Int×Int×(Option Addr)×(Option Addr)
abbrev lS(t:Tr):List Value:= [.int .i64 t.1,.int .u64 t.2.1,.int .u64 t.2.2.1,.int .u64 t.2.2.2.1,.pointer t.2.2.2.2.1,.pointer t.2.2.2.2.2]
abbrev Da(t:Tr):Value:=.agg #[.int .i64 t.1,.int .u64 t.2.1,.int .u64 t.2.2.1,.int .u64 t.2.2.2.1,.pointer t.2.2.2.2.1,.pointer t.2.2.2.2.2]
def Pro(W:Nat→Prop)(h a:ac)(y:Nat):Prop:=W y∨(h.size≤y∧y<a.size)
theorem Pro.lt{W:Nat→Prop}{h a:ac}(c:∀y,W y→y<h.size)(k:Upd No h a):∀y,Pro W h a y→y<a.size:=fun y b=>b.elim (fun h=>cg (c y h) k.size) fun h=>h.2
theorem Pro.hm{W:Nat→Prop}{h b:ac}:∀y,Pro W h b y→W y∨h.size≤y:=fun _ a=>a.imp id fun h=>h.1
theorem Pro.sub{W:Nat→Prop}{h b c:ac}:∀y,W y→Pro W h b y∨c.size≤y:=fun _ a=>.inl (.inl a)
theorem RootAt.less{W W':Nat→Prop}{x:Hs}{h:ac}(hm:∀b,W' b→W b∨h.size≤b){r:Option Addr}{l:List Pr}(t:RootAt W x h r l):RootAt W' x h r l:=t.imp id fun⟨b,e,t⟩=>⟨b,e,TrieAt.less hm t⟩
theorem RadRoot.less{W W':Nat→Prop}{h:ac}(hm:∀b,W' b→W b∨h.size≤b){r:Option Addr}{l:List Pr}(t:RadRoot W h r l):RadRoot W' h r l:=t.imp id fun⟨b,e,t⟩=>⟨b,e,t.less hm⟩
def TreeIs(W:Nat→Prop)(h:ac)(a:Int)(x:Hs)(t:Tr)(l:List Pr):Prop:=(a=0∧∃b,t=(0,x.k0,x.k1,x.mask,some ⟨b,0,none⟩,none)∧TrieAt W x h 13 b l)∨(a=1∧∃b,t=(1,0,0,0,none,some ⟨b,0,none⟩)∧RadAt W h b l)
theorem TreeIs.upd0{W:Nat→Prop}{h d:ac}{a:Int}{x:Hs}{t:Tr}{l:List Pr}(k:Upd No h d)(i:TreeIs W h a x t l):TreeIs W d a x t l:=
 i.imp (fun⟨e,b,c,t⟩=>⟨e,b,c,TrieAt.upd0 k t⟩) fun⟨e,b,c,t⟩=>⟨e,b,c,t.upd0 k⟩
theorem TreeIs.less{W W':Nat→Prop}{h:ac}(hm:∀b,W' b→W b∨h.size≤b){a:Int}{x:Hs}{t:Tr}{l:List Pr}(i:TreeIs W h a x t l):TreeIs W' h a x t l:=
 i.imp (fun⟨e,b,c,t⟩=>⟨e,b,c,TrieAt.less hm t⟩) fun⟨e,b,c,t⟩=>⟨e,b,c,t.less hm⟩
theorem TreeIs.updM{W M:Nat→Prop}{h d:ac}(k:Upd M h d)(hm:∀b,M b→W b∨h.size≤b){a:Int}{x:Hs}{t:Tr}{l:List Pr}(i:TreeIs W h a x t l):TreeIs W d a x t l:=
 i.imp (fun⟨e,b,c,t⟩=>⟨e,b,c,TrieAt.updM k hm t⟩) fun⟨e,b,c,t⟩=>⟨e,b,c,t.updM k hm⟩
theorem TreeIs.pro{W:Nat→Prop}{h b:ac}(k:Upd No h b){a:Int}{x:Hs}{t:Tr}{l:List Pr}(i:TreeIs W h a x t l):TreeIs (Pro W h b) b a x t l:=(i.less Pro.hm).upd0 k
theorem uh{W:Nat→Prop}{x:Hs}{h:ac}(d:∀y,W y→y<h.size){K:Option Addr→ac→Prop}(c:∀a b,TrieAt W x a 13 b []→Upd No h a→K (some ⟨b,0,none⟩) a):HC PG jx [] [.c .ptr] K h:=by
 refine uo ?_;unfold oB;exact my d fun a b e f=>c a b (AK e) f
abbrev nI:Tr:=(0,0,0,0,none,none)
theorem vZ{W:Nat→Prop}{x:Hs}{h:ac}{r:Option Addr}{l:List Pr}(t:RootAt W x h r l)(w:∀y,W y→y<h.size){K:Tr→ac→Prop}(u:∀f t,TreeIs W f 0 x t l→Upd No h f→K t f):HC PG kz [.agg #[.int .u64 x.k0,.int .u64 x.k1,.int .u64 x.mask],.pointer r] [.agg [.int .i64,.int .u64,.int .u64,.int .u64,.ptr,.ptr]] K h:=by
 refine tM (x.k0,x.k1,x.mask) r ?_;unfold nF gn m3 bJ aj az uX CY;refine bD fun q b1 k1=>bD fun k b2 p=>?_
 have A:=aW b1;have z:=aW b2;have d:=k1.tr p;refine Join.intro (fun t f=>Upd No k f∧∃b,t=some ⟨b,0,none⟩∧TrieAt (Pro W h k) x f 13 b l) (fun R m=>?_) ?_
 ·rcases t with⟨rfl,rfl⟩|⟨b,rfl,t⟩
  ·exact ao.2 (uh (Pro.lt w d) fun v b t a=>m _ _ ⟨a,b,rfl,t⟩)
  ·exact al.2 (m _ _ ⟨Upd.refl _ _,b,rfl,TrieAt.upd0 d (TrieAt.less Pro.hm t)⟩)
 ·rintro o v ⟨a,b,rfl,o⟩
  have j:=a.get0 (p.get0 b1);refine⟨_,vc j 0,_,vc j 1,_,vc j 2,?_⟩;refine fV (c:=lS nI) (vs:=lS (0,x.k0,x.k1,x.mask,some ⟨b,0,none⟩,none)) (a.get0 b2) rfl fun s e g=>?_
  refine⟨_,vc e 0,_,vc e 1,_,vc e 2,_,vc e 3,_,vc e 4,_,vc e 5,?_⟩;have i:h.size≤q.size:=k1.size;exact u s _ (.inl ⟨rfl,b,rfl,TrieAt.less Pro.sub (TrieAt.updM g (fun y n=>.inl (.inr (by have n:y=q.size:=n;omega))) o)⟩) ((d.tr a).own g i)
theorem vY{W:Nat→Prop}{x:Hs}{h:ac}{r:Option Addr}{l:List Pr}(t:RadRoot W h r l)(q:∀y,W y→y<h.size){K:Tr→ac→Prop}(o:∀e t,TreeIs W e 1 x t l→Upd No h e→K t e):HC PG kw [.pointer r] [.agg [.int .i64,.int .u64,.int .u64,.int .u64,.ptr,.ptr]] K h:=by
 refine tL r ?_;unfold nD gn m3 bJ aj az uX;refine bD fun j b2 d=>?_
 have s:=aW b2;refine Join.intro (fun t e=>Upd No j e∧∃b,t=some ⟨b,0,none⟩∧RadAt (Pro W h j) e b l) (fun R k=>?_) ?_
 ·rcases t with⟨rfl,rfl⟩|⟨b,rfl,t⟩
  ·exact ao.2 (xD (Pro.lt q d) fun p b t a=>k _ _ ⟨a,b,rfl,t⟩)
  ·exact al.2 (k _ _ ⟨Upd.refl _ _,b,rfl,(t.less Pro.hm).upd0 d⟩)
 ·rintro m p ⟨a,b,rfl,m⟩
  refine fV (c:=lS nI) (vs:=lS (1,0,0,0,none,some ⟨b,0,none⟩)) (a.get0 b2) rfl fun n f g=>?_
  refine⟨_,vc f 0,_,vc f 1,_,vc f 2,_,vc f 3,_,vc f 4,_,vc f 5,?_⟩;exact o n _ (.inr ⟨rfl,b,rfl,(m.updM g (fun y i=>.inl (.inr (by have i:y=h.size:=i;omega)))).less Pro.sub⟩) ((d.tr a).own g (av _))
theorem Cj{W:Nat→Prop}{x:Hs}{h:ac}(s:∀y,W y→y<h.size){a:Int}(o:a=0∨a=1){K:Tr×Int→ac→Prop}(q:∀h' t,TreeIs W h' a x t []→Upd No h h'→K (t,0) h'):HC PG oO [.int .i64 a,.agg #[.int .u64 x.k0,.int .u64 x.k1,.int .u64 x.mask]] [.agg [.int .i64,.int .u64,.int .u64,.int .u64,.ptr,.ptr],.c (.int .i64)] K h:=by
 refine yF a (x.k0,x.k1,x.mask) ?_;unfold tN gn m3 qj bJ aj az B7 CY;refine bD fun n b1 k1=>bD fun p b2 u=>?_
 have z:=aW b1;have w:=aW b2;have f:=k1.tr u;have i:h.size≤n.size:=k1.size;have m:=u.get0 b1;rcases o with rfl|rfl
 ·refine ao.2 ⟨_,vc m 0,_,vc m 1,_,vc m 2,?_⟩
  refine vZ (W:=Pro W h p) (x:=x) (l:= []) (.inl ⟨rfl,rfl⟩) (Pro.lt s f) fun v t k e=>?_
  refine fV (c:=lS nI) (vs:=lS t) (e.get0 b2) rfl fun j b d=>?_
  refine⟨_,vc b 0,_,vc b 1,_,vc b 2,_,vc b 3,_,vc b 4,_,vc b 5,?_⟩;exact q j t ((k.updM d (fun y g=>.inl (.inr (by have g:y=n.size:=g;omega)))).less Pro.sub) ((f.tr e).own d i)
 ·refine al.2 (ao.2 ?_)
  refine vY (W:=Pro W h p) (x:=x) (l:= []) (.inl ⟨rfl,rfl⟩) (Pro.lt s f) fun v t k e=>?_
  refine fV (c:=lS nI) (vs:=lS t) (e.get0 b2) rfl fun j b d=>?_
  refine⟨_,vc b 0,_,vc b 1,_,vc b 2,_,vc b 3,_,vc b 4,_,vc b 5,?_⟩;exact q j t ((k.updM d (fun y g=>.inl (.inr (by have g:y=n.size:=g;omega)))).less Pro.sub) ((f.tr e).own d i)
end Go.Proofs
namespace Go.Proofs
open Go Go.Lift
end Go.Proofs
namespace Go.Proofs
open Go Go.Lift
end Go.Proofs
namespace Go.Proofs
end Go.Proofs
namespace Go.Proofs
open Go Go.Lift
end Go.Proofs
namespace Go.Proofs
open Go Go.Lift
end Go.Proofs
namespace Go.Proofs
open Go Go.Lift
end Go.Proofs
namespace Go.Proofs
open Go.Lift
theorem NodeO.upd0{o:Option Addr}{W S:Nat→Prop}{h a:ac}{b:Nat}{s:Slots}(f:NodeO o W h b s S)(k:Upd No h a):NodeO o W a b s S:=
 f.imp (fun n=>⟨n.1.upd k fun _ h=>h.elim,n.2⟩) fun⟨e,d,n,sp,sk,c⟩=>⟨e,d,n,sp,sk,c.upd k fun _ h=>h.elim⟩
theorem NodeO.read{o w:Option Addr}{W S:Nat→Prop}{h:ac}{b:Nat}{s:Slots}(f:NodeO o W h b s S)(t:By h w o):NodeAt No h b s:=by
 rcases f with⟨n,_⟩|⟨e,d,n,sp,sk,c⟩
 ·exact n.less fun _ h=>h.elim
 ·exact c.node (fun _ _ h=>h) fun a e=>⟨id,t.plain a (t.tok e)⟩
set_option maxHeartbeats 1000000 in
theorem kT{W S:Nat→Prop}{h:ac}{w o:Option Addr}{b:Nat}{s:Slots}(nd:NodeO o W h b s S)(t:By h w o)(hW:∀a,o=some a→W a.block)(hS:∀y,S y→y<h.size){i:Nat}(z:i<32)(hx:∀y,s.p i=some y→s.k i=none)(p:Pr){K:Option Addr→ac→Prop}
  (hk:∀h' b' d n sp sk,OwnN (fun y=>S y∨h.size≤y) h' b' d n sp sk ⟨upd s.p i (some p),upd s.k i none⟩ o→Upd S h h'→K (some ⟨b',0,none⟩) h'):
  HC PG db [.pointer (some ⟨b,0,none⟩),.pointer w,.int .i64 i,.agg #[.string p.1,.string p.2]] [.c .ptr] K h:=by
 refine nY _ w i p ?_;unfold j3 gg aw qk c5 uY qg Cc ci mp dJ hE;have k1:=Upd.hnew No h [.string p.1,.string p.2] ah;have b1:=cf h [.string p.1,.string p.2] ah;refine bK ?_;simp only[dK h];generalize hnew h [.string p.1,.string p.2] ah=h1 at k1 b1;have z1:=aW b1;have Y:=nd.upd0 k1;have t1:=t.upd0 k1
 refine wK (Y.read t1) z (al.2 ?_);refine y8 Y t1 hW fun h2 E d n sp sk v M=>?_
 have bits:=v.bits;have Q:∀{x},(S x∨h1.size≤x)→(S x∨h.size≤x):=fun h=>h.imp id fun h=>by omega
 have z2:=M.size;have zb:=aW v.blk;obtain⟨A,B,hA,hB,q,L⟩:=v.ex;have I:=k1.tr M;have C:=M.get0 b1;refine⟨_,rfl,_,cr (i:=0) v.blk,qA bits.d32 z ?_⟩;rw[bits.dp i z];cases hp:s.p i with
 |some y=>
  refine ao.2 ⟨_,rfl,sp,cr (i:=2) v.blk,_,rfl,_,cr (i:=0) v.blk,p.1,by rw[aX,aH C];rfl,p.2,by rw[aX,aH C];rfl,?_⟩
  refine jv bits.d32 z ⟨⟨by rw[aX,aH C];rfl,by rw[aX,aH C];rfl⟩,cr (i:=2) v.blk,?_⟩
  have hlt:=uM z bits.dp hp;obtain⟨a,ha,N,hw,T,m⟩:=OwnS.setAt hA hlt p;have hlen:=hA.len;refine⟨by omega,a,ha,?_⟩;rw[aK];refine⟨hw,bK ?_⟩;rw[←Bj z bits.dp hp]at T;have ob:=m.get v.blk fun e=>(q _ N).2.2.1 e.symm
  have z3:=m.size;have o3:OwnN (fun x=>S x∨h1.size≤x) _ E d n sp sk ⟨upd s.p i (some p),upd s.k i none⟩ o:=⟨ob,⟨bits.d32,bits.n32,fun c hc=>by
    rw[bits.dp c hc];simp only[upd];split
    ·rename_i e;rw[e,hp];rfl
    ·rfl,fun c hc=>by rw[bits.nk c hc,lV (hx y hp)]⟩,
   ⟨A,B,T,by rw[lV (hx y hp)];exact hB.upd m fun x hx e=>(q _ N).2.1 (e▸hx),fun x hx=>⟨(q x hx).1,(q x hx).2.1,(q x hx).2.2.1,by have:=(q x hx).2.2.2;omega⟩,fun x hx=>⟨(L x hx).1,(L x hx).2.1,by have:=(L x hx).2.2;omega⟩⟩,v.mb⟩
  refine hk _ _ _ _ _ _ (o3.mono fun _=>Q) (I.wide.trans m fun x hx=>?_)
  have hx:x=a.block:=hx;rw[hx];exact Q (q _ N).1
 |none=>
  refine al.2 ⟨_,rfl,zo v z fun H d3 n3 G J o3 m=>?_⟩
  have f:=o3.bits;obtain⟨A3,B3,hA3,hB3,j,k⟩:=o3.ex;have z3:=m.size;have F:=m.get C fun e=>e.elim (fun e=>by have:=hS _ e;omega) fun e=>by omega
  have hu03:Upd S h H:=I.wide.trans m fun x hx=>Q hx
  refine⟨_,rfl,G,cr (i:=2) o3.blk,_,rfl,_,cr (i:=0) o3.blk,p.1,by rw[aX,aH F];rfl,p.2,by rw[aX,aH F];rfl,?_⟩
  have U:=Upd.hnew No H [.string p.1,.string p.2] ah;have b4:=cf H [.string p.1,.string p.2] ah;have z4:=je H [.string p.1,.string p.2] ah;have P:=o3.upd U fun _ h=>h.elim
  have fin:HC PG bm [.slice G.a G.len G.cap,.int .i64 (mn i d3),.slice (some (bN H)) 1 1] [.c .slice] (fun(O:SliceV) R=>
       ∃a34:Addr,some (⟨E,0,none⟩:Addr)=some a34∧
       (Wr R (adr (adr a34 0) 2)∧
        At (hset R (adr (adr a34 0) 2) (.slice O.a O.len O.cap)) (fun V=>
         ∃a36:Addr,some (⟨E,0,none⟩:Addr)=some a36∧
         ∃v37:Int,aP V (adr (adr a36 0) 0)=some (.int .u32 v37)∧
         HC PG cI [.int .u32 v37,.int .i64 i] [.c (.int .u32)] (fun(e38:Int) X=>
          ∃a40:Addr,some (⟨E,0,none⟩:Addr)=some a40∧
          (Wr X (adr (adr a40 0) 0)∧
           At (hset X (adr (adr a40 0) 0) (.int .u32 e38)) (fun h41=>
            K (some ⟨E,0,none⟩) h41))) V))) (hnew H [.string p.1,.string p.2] ah):=by
   generalize hnew H [.string p.1,.string p.2] ah=h4 at U b4 z4 P;rw[dK H];have hA4:=(hA3.upd U fun _ _ h=>h).more (M':=fun x=>A3 x∨h4.size≤x) fun x hx=>.inl hx
   have hpn:(⟨upd s.p i none,upd s.k i none⟩:Slots).p i=none:=fE;refine yh hA4 (C0 z f.dp) (by have:=tg (g:=(⟨upd s.p i none,upd s.k i none⟩:Slots).p);omega) (x:=p) b4 (fun e=>e.elim (fun e=>by have:=(j _ e).2.2.2;omega) fun e=>by omega) (fun x hx=>.inr hx) fun s5 h5 Z D=>?_
   rw[←Bk z f.dp hpn p]at Z;have hbl:E<H.size:=aW o3.blk;have b5:=D.get P.blk fun e=>e.elim (fun e=>(j _ e).2.2.1 rfl) fun e=>by omega
   refine⟨_,rfl,Cu (i:=2) b5 (show 2<6 by decide),vp (i:=2) (c':=dw d3 n3 s5 J false o) b5 rfl fun h6 b6 hu6=>?_⟩
   refine⟨_,rfl,_,cr (i:=0) b6,yU f.d32 z fun w1 hw hwt=>?_⟩
   refine⟨_,rfl,Cu (i:=0) b6 (show 0<6 by decide),vp (i:=0) (c':=dw w1 n3 s5 J false o) b6 rfl fun h7 b7 hu7=>?_⟩
   have u:=hu6.tr hu7;have z5:=D.size;have z7:=u.size;have ho5':=Z.within;have e1:(⟨upd (⟨upd s.p i none,upd s.k i none⟩:Slots).p i (some p),upd s.k i none⟩:Slots)=⟨upd s.p i (some p),upd s.k i none⟩:=by rw[yW]
   have o7:OwnN (fun x=>S x∨h1.size≤x) h7 E w1 n3 s5 J ⟨upd s.p i (some p),upd s.k i none⟩ o:=by
    rw[←e1];refine⟨b7,⟨hw,f.n32,fun c hc=>?_,f.nk⟩,⟨fun x=>(A3 x∨h4.size≤x)∧x<h5.size,B3,ho5'.upd u fun x hx e=>?_,((hB3.upd U fun _ _ h=>h).upd D fun x hx e=>?_).upd u fun x hx e=>(k x hx).2.1 e,fun x hx=>⟨?_,?_,?_,by omega⟩,fun x hx=>⟨(k x hx).1,(k x hx).2.1,by have:=(k x hx).2.2;omega⟩⟩,v.mb⟩
    ·rw[hwt,f.dp c hc];simp only[upd];split<;>simp[*]
    ·have e:x=E:=e
     rcases hx.1 with h|h
     ·exact(j x h).2.2.1 e
     ·omega
    ·rcases e with e|e
     ·exact(j x e).2.1 hx
     ·have:=(k x hx).2.2;omega
    ·rcases hx.1 with h|h
     ·exact(j x h).1
     ·exact .inr (by omega)
    ·rcases hx.1 with h|h
     ·exact(j x h).2.1
     ·exact fun hb=>by have:=(k x hb).2.2;omega
    ·rcases hx.1 with h|h
     ·exact(j x h).2.2.1
     ·omega
   refine hk _ _ _ _ _ _ (o7.mono fun _=>Q) (((hu03.tr U.wide).trans D fun x hx=>?_).trans u fun x hx=>?_)
   ·rcases hx with h|h
    ·exact Q (j x h).1
    ·exact .inr (by omega)
   ·have hx:x=E:=hx
    rw[hx];exact Q v.mb
  refine⟨jv f.d32 z ⟨⟨by rw[aX,aH F];rfl,by rw[aX,aH F];rfl⟩,cr (i:=2) o3.blk,bK ⟨cr (i:=2) P.blk,fin⟩⟩,bK ⟨cr (i:=0) P.blk,cr (i:=2) P.blk,jv f.d32 z ⟨cr (i:=2) P.blk,fin⟩⟩⟩
set_option maxHeartbeats 1000000 in
theorem oG{W S:Nat→Prop}{h:ac}{w o:Option Addr}{b:Nat}{s:Slots}(nd:NodeO o W h b s S)(t:By h w o)(hW:∀a,o=some a→W a.block){i:Nat}(u:i<32)(hx:∀y,s.k i=some y→s.p i=none)(j:Addr){K:Option Addr→ac→Prop}
  (hk:∀h' b' d n sp sk,OwnN (fun y=>S y∨h.size≤y) h' b' d n sp sk ⟨upd s.p i none,upd s.k i (some (some j))⟩ o→Upd S h h'→K (some ⟨b',0,none⟩) h'):
  HC PG eg [.pointer (some ⟨b,0,none⟩),.pointer w,.int .i64 i,.pointer (some j)] [.c .ptr] K h:=by
 refine pd _ w i (some j) ?_;unfold kK gg c5 qg ci AH mp dJ hE;refine al.2 ?_;refine wK (nd.read t) u (al.2 ?_);refine y8 nd t hW fun h2 D d n sp sk v L=>?_
 have bits:=v.bits;have z2:=L.size;have zb:=aW v.blk;obtain⟨A,B,hA,hB,C,z⟩:=v.ex;refine⟨_,rfl,_,cr (i:=1) v.blk,qA bits.n32 u ?_⟩;rw[bits.nk i u];cases hp:s.k i with
 |some y=>
  refine ao.2 ⟨_,rfl,sk,cr (i:=3) v.blk,_,rfl,_,cr (i:=1) v.blk,?_⟩;refine jv bits.n32 u ⟨cr (i:=3) v.blk,?_⟩;have Y:=uM u bits.nk hp;obtain⟨a,ha,J,M,T,p⟩:=OwnS.setAt hB Y (some j);have hlen:=hB.len;refine⟨by omega,a,ha,?_⟩;rw[aK];have Z:Wr h2 (adr a (mn i n*1)):=by
   rcases M with M|⟨b',hb',M⟩
   ·cases M
   ·cases hb';exact M 0 (by simp)
  refine⟨Z,bK ?_⟩;rw[←Bj u bits.nk hp]at T;have ob:=p.get v.blk fun e=>(z _ J).2.1 e.symm
  have z3:=p.size;have o3:OwnN (fun x=>S x∨h.size≤x) _ D d n sp sk ⟨upd s.p i none,upd s.k i (some (some j))⟩ o:=⟨ob,⟨bits.d32,bits.n32,fun c hc=>by rw[bits.dp c hc,lV (hx y hp)],fun c hc=>by
    rw[bits.nk c hc];simp only[upd];split
    ·rename_i e;rw[e,hp];rfl
    ·rfl⟩,
   ⟨A,B,by rw[lV (hx y hp)];exact hA.upd p fun x hx e=>(C _ hx).2.1 (e▸J),T,fun x hx=>⟨(C x hx).1,(C x hx).2.1,(C x hx).2.2.1,by have:=(C x hx).2.2.2;omega⟩,fun x hx=>⟨(z x hx).1,(z x hx).2.1,by have:=(z x hx).2.2;omega⟩⟩,v.mb⟩
  refine hk _ _ _ _ _ _ o3 (L.wide.trans p fun x hx=>?_)
  have hx:x=a.block:=hx;rw[hx];exact(z _ J).1
 |none=>
  refine al.2 ⟨_,rfl,zo v u fun G d3 n3 H F o3 p=>?_⟩
  have f:=o3.bits;obtain⟨A3,B3,hA3,hB3,k,m⟩:=o3.ex;have z3:=p.size;have R:Upd S h G:=L.wide.trans p fun x hx=>hx
  refine⟨_,rfl,F,cr (i:=3) o3.blk,_,rfl,_,cr (i:=1) o3.blk,?_⟩;have U:=Upd.hnew No G [.pointer (some j)] aJ;have b4:=cf G [.pointer (some j)] aJ;have z4:=je G [.pointer (some j)] aJ;have N:=o3.upd U fun _ h=>h.elim
  have fin:HC PG bf [.slice F.a F.len F.cap,.int .i64 (mn i n3),.slice (some (bN G)) 1 1] [.c .slice] (fun(I:SliceV) P=>
       ∃a34:Addr,some (⟨D,0,none⟩:Addr)=some a34∧
       (Wr P (adr (adr a34 0) 3)∧
        At (hset P (adr (adr a34 0) 3) (.slice I.a I.len I.cap)) (fun V=>
         ∃a36:Addr,some (⟨D,0,none⟩:Addr)=some a36∧
         ∃v37:Int,aP V (adr (adr a36 0) 1)=some (.int .u32 v37)∧
         HC PG cI [.int .u32 v37,.int .i64 i] [.c (.int .u32)] (fun(e38:Int) O=>
          ∃a40:Addr,some (⟨D,0,none⟩:Addr)=some a40∧
          (Wr O (adr (adr a40 0) 1)∧
           At (hset O (adr (adr a40 0) 1) (.int .u32 e38)) (fun h41=>
            K (some ⟨D,0,none⟩) h41))) V))) (hnew G [.pointer (some j)] aJ):=by
   generalize hnew G [.pointer (some j)] aJ=h4 at U b4 z4 N;rw[dK G];have hB4:=(hB3.upd U fun _ _ h=>h).more (M':=fun x=>B3 x∨h4.size≤x) fun x hx=>.inl hx
   have hpn:(⟨upd s.p i none,upd s.k i none⟩:Slots).k i=none:=fE;refine yi hB4 (C0 u f.nk) (by have:=tg (g:=(⟨upd s.p i none,upd s.k i none⟩:Slots).k);omega) (x:=some j) b4 (fun e=>e.elim (fun e=>by have:=(m _ e).2.2;omega) fun e=>by omega) (fun x hx=>.inr hx) fun s5 h5 Q E=>?_
   rw[←Bk u f.nk hpn (some j)]at Q;have hbl:D<G.size:=aW o3.blk;have b5:=E.get N.blk fun e=>e.elim (fun e=>(m _ e).2.1 rfl) fun e=>by omega
   refine⟨_,rfl,Cu (i:=3) b5 (show 3<6 by decide),vp (i:=3) (c':=dw d3 n3 H s5 false o) b5 rfl fun h6 b6 hu6=>?_⟩
   refine⟨_,rfl,_,cr (i:=1) b6,yU f.n32 u fun w1 M hwt=>?_⟩
   refine⟨_,rfl,Cu (i:=1) b6 (show 1<6 by decide),vp (i:=1) (c':=dw d3 w1 H s5 false o) b6 rfl fun h7 b7 hu7=>?_⟩
   have q:=hu6.tr hu7;have z5:=E.size;have z7:=q.size;have X:=Q.within;have e1:(⟨upd s.p i none,upd (⟨upd s.p i none,upd s.k i none⟩:Slots).k i (some (some j))⟩:Slots)=⟨upd s.p i none,upd s.k i (some (some j))⟩:=by rw[yW]
   have o7:OwnN (fun x=>S x∨h.size≤x) h7 D d3 w1 H s5 ⟨upd s.p i none,upd s.k i (some (some j))⟩ o:=by
    rw[←e1];refine⟨b7,⟨f.d32,M,f.dp,fun c hc=>?_⟩,⟨A3,fun x=>(B3 x∨h4.size≤x)∧x<h5.size,((hA3.upd U fun _ _ h=>h).upd E fun x hx e=>?_).upd q fun x hx e=>(k x hx).2.2.1 e,X.upd q fun x hx e=>?_,fun x hx=>⟨(k x hx).1,?_,(k x hx).2.2.1,by have:=(k x hx).2.2.2;omega⟩,fun x hx=>⟨?_,?_,by omega⟩⟩,v.mb⟩
    ·rw[hwt,f.nk c hc];simp only[upd];split<;>simp[*]
    ·rcases e with e|e
     ·exact(k x hx).2.1 e
     ·have:=(k x hx).2.2.2;omega
    ·have e:x=D:=e
     rcases hx.1 with h|h
     ·exact(m x h).2.1 e
     ·omega
    ·rintro⟨h|h,_⟩
     ·exact(k x hx).2.1 h
     ·have:=(k x hx).2.2.2;omega
    ·rcases hx.1 with h|h
     ·exact(m x h).1
     ·exact .inr (by omega)
    ·rcases hx.1 with h|h
     ·exact(m x h).2.1
     ·omega
   refine hk _ _ _ _ _ _ o7 (((R.tr U.wide).trans E fun x hx=>?_).trans q fun x hx=>?_)
   ·rcases hx with h|h
    ·exact(m x h).1
    ·exact .inr (by omega)
   ·have hx:x=D:=hx
    rw[hx];exact v.mb
  refine⟨jv f.n32 u ⟨cr (i:=3) o3.blk,bK ⟨cr (i:=3) N.blk,fin⟩⟩,bK ⟨cr (i:=1) N.blk,cr (i:=3) N.blk,jv f.n32 u ⟨cr (i:=3) N.blk,fin⟩⟩⟩
end Go.Proofs
namespace Go.Proofs
open Go.Lift
def OwnB(M:Nat→Prop)(h:ac)(b:Nat)(sp sk:SliceV)(l:List Pr)(o:Option Addr):Prop:=
 h[b]? =some (.cells (dw 0 0 sp sk true o) aM (0,0))∧M b∧∃A B:Nat→Prop,OwnS hH 2 ah A h sp l∧OwnS j4 1 aJ B h sk []∧(∀x,A x→M x∧x≠b∧x<h.size)∧(∀x,B x→M x∧x≠b∧x<h.size)
theorem OwnB.upd{M M':Nat→Prop}{h f:ac}{b:Nat}{sp sk:SliceV}{l:List Pr}{o:Option Addr}(n:OwnB M h b sp sk l o)(k:Upd M' h f)(hm:∀x,M' x→¬M x):OwnB M f b sp sk l o:=by
 obtain⟨i,e,A,B,g,j,c,a⟩:=n;have z:=k.size;exact⟨k.get i fun hx=>hm _ hx e,e,A,B,g.upd k fun x hx d=>hm _ d (c x hx).1,j.upd k fun x hx d=>hm _ d (a x hx).1,fun x hx=>⟨(c x hx).1,(c x hx).2.1,by have:=(c x hx).2.2;omega⟩,fun x hx=>⟨(a x hx).1,(a x hx).2.1,by have:=(a x hx).2.2;omega⟩⟩
theorem OwnB.mono{M M':Nat→Prop}{h:ac}{b:Nat}{sp sk:SliceV}{l:List Pr}{o:Option Addr}(n:OwnB M h b sp sk l o)(hm:∀x,M x→M' x):OwnB M' h b sp sk l o:=by
 obtain⟨f,e,A,B,d,g,c,a⟩:=n;exact⟨f,hm _ e,A,B,d,g,fun x hx=>⟨hm _ (c x hx).1,(c x hx).2⟩,fun x hx=>⟨hm _ (a x hx).1,(a x hx).2⟩⟩
theorem OwnB.within{M:Nat→Prop}{h:ac}{b:Nat}{sp sk:SliceV}{l:List Pr}{o:Option Addr}(n:OwnB M h b sp sk l o):OwnB (fun x=>M x∧x<h.size) h b sp sk l o:=by
 obtain⟨d,f,A,B,e,g,c,a⟩:=n;exact⟨d,⟨f,aW d⟩,A,B,e,g,fun x hx=>⟨⟨(c x hx).1,(c x hx).2.2⟩,(c x hx).2⟩,fun x hx=>⟨⟨(a x hx).1,(a x hx).2.2⟩,(a x hx).2⟩⟩
theorem OwnB.buck{M W:Nat→Prop}{h:ac}{b:Nat}{sp sk:SliceV}{l:List Pr}{o:Option Addr}(n:OwnB M h b sp sk l o)(a:∀x,M x→¬W x)(f:OwOk W h o):BuckAt W h b l:=by
 obtain⟨i,e,A,B,c,d,j,g⟩:=n;exact⟨⟨sp,sk,o,i,c.sl fun x hx _=>a _ (j x hx).1,d.sl fun x hx _=>a _ (g x hx).1,c.cap,d.cap,f⟩,a _ e⟩
def BuckO(o:Option Addr)(W:Nat→Prop)(h:ac)(b:Nat)(l:List Pr)(S:Nat→Prop):Prop:=
 (BuckAt W h b l∧∀y,¬S y)∨(o.isSome=true∧∃sp sk,OwnB S h b sp sk l o)
theorem BuckO.upd0{o:Option Addr}{W S:Nat→Prop}{h a:ac}{b:Nat}{l:List Pr}(n:BuckO o W h b l S)(k:Upd No h a):BuckO o W a b l S:=
 n.imp (fun n=>⟨n.1.upd k fun _ h=>h.elim,n.2⟩) fun⟨e,sp,sk,c⟩=>⟨e,sp,sk,c.upd k fun _ h=>h.elim⟩
theorem BuckO.read{o w:Option Addr}{W S:Nat→Prop}{h:ac}{b:Nat}{l:List Pr}(d:BuckO o W h b l S)(t:By h w o):BuckAt No h b l:=by
 rcases d with⟨n,_⟩|⟨e,sp,sk,c⟩
 ·exact n.less fun _ h=>h.elim
 ·exact c.buck (fun _ _ h=>h) fun a e=>⟨id,t.plain a (t.tok e)⟩
theorem A0{W S:Nat→Prop}{h:ac}{w o:Option Addr}{b:Nat}{l:List Pr}(g:BuckO o W h b l S)(t:By h w o)(H:∀a,o=some a→W a.block)(F:l.length≤1000000000){K:Option Addr→ac→Prop}
  (v:∀j m sp sk,OwnB (fun y=>S y∨h.size≤y) j m sp sk l o→Upd No h j→K (some ⟨m,0,none⟩) j):
  HC PG df [.pointer (some ⟨b,0,none⟩),.pointer w] [.c .ptr] K h:=by
 rcases g with⟨g,_⟩|⟨z,sp,sk,g⟩
 ·obtain⟨sp,sk,ow,E,u,s,G,J,i⟩:=g.ex
  refine y9 (d:=0) (n:=0) t E (fun a e=>(i a e).2) ?_ u s F (by simp) fun j q p A B m D I f c k=>?_
  ·cases ho:o with
   |none=>rfl
   |some a=>
    have e:=t.tok ho;rw[Option.isSome_some,Bool.true_and,beq_eq_false_iff_ne];intro C;rw[e]at C;exact(i a C).1 (H a ho)
  ·exact v j h.size q p ⟨m,.inr (av _),A,B,D,I,fun x hx=>⟨.inr (by have:=(f x hx).1;omega),by have:=(f x hx).1;omega,(f x hx).2.2⟩,fun x hx=>⟨.inr (by have:=(c x hx).1;omega),by have:=(c x hx).1;omega,(c x hx).2⟩⟩ k
 ·refine y7 (d:=0) (n:=0) t g.1 (fun a e=>t.plain a (t.tok e)) ?_ (v h b sp sk (g.mono fun _ h=>.inl h) (Upd.refl _ _))
  obtain⟨a,e⟩:=Option.isSome_iff_exists.1 z;rw[z,e,t.tok e];simp
theorem tG{W S:Nat→Prop}{h:ac}{w o:Option Addr}{b:Nat}{l:List Pr}(X:BuckO o W h b l S)(t:By h w o)(N:∀a,o=some a→W a.block)(Y:∀y,S y→y<h.size)(D:eO l)(E:l.length≤1000000000)(p:Pr){K:Option Addr→ac→Prop}
  (I:∀h' b' sp sk,OwnB (fun y=>S y∨h.size≤y) h' b' sp sk (f9 p l) o→Upd S h h'→K (some ⟨b',0,none⟩) h'):
  HC PG fG [.pointer (some ⟨b,0,none⟩),.pointer w,.agg #[.string p.1,.string p.2]] [.c .ptr] K h:=by
 refine rO _ w p ?_;unfold mR aw qk m4 c5 qg ci;have k1:=Upd.hnew No h [.string p.1,.string p.2] ah;have b1:=cf h [.string p.1,.string p.2] ah;refine bK ?_;simp only[dK h];generalize hnew h [.string p.1,.string p.2] ah=h1 at k1 b1;have z1:=aW b1;have k:=X.upd0 k1;have v:=t.upd0 k1;obtain⟨sp,sk,ow,J,R,Q,L,U⟩:=(k.read v).ex
 refine nm (d:=0) (n:=0) J (al.2 ?_);refine A0 k v N E fun H s s2 z V j=>?_
 obtain⟨b2,F,A,B,C,O,Z,g⟩:=V;have m:=j.get0 b1;refine⟨_,rfl,s2,cr (i:=2) b2,p.1,by rw[aX,aH m];rfl,p.2,by rw[aX,aH m];rfl,?_⟩
 refine xX (C.sl (W:=No) fun _ _ _ h=>h) C.cap D E p fun s3 M q f=>?_
 rw[zl p D]at q;have b3:=f.get0 b2;refine⟨_,rfl,Cu (i:=2) b3 (show 2<6 by decide),vp (i:=2) (c':=dw 0 0 s3 z true o) b3 rfl fun G P c=>?_⟩
 have z2:=aW b2;have T:=j.size;have z3:=f.size;have z4:=c.size;have u:∀{x},(S x∨h1.size≤x)→(S x∨h.size≤x):=fun h=>h.imp id fun h=>by omega
 refine I G s s3 z ⟨P,u F,fun x=>H.size≤x∧x<M.size,B,q.within.upd c fun x hx e=>?_,(O.upd f fun _ _ h=>h).upd c fun x hx e=>(g x hx).2.1 e,fun x hx=>⟨.inr (by omega),by omega,by omega⟩,fun x hx=>⟨u (g x hx).1,(g x hx).2.1,by have:=(g x hx).2.2;omega⟩⟩ ((((k1.tr j).tr f).wide).trans c fun x hx=>?_)
 ·have e:x=s:=e
  have:=hx.1;omega
 ·have hx:x=s:=hx
  rw[hx];exact u F
def TrieO(o:Option Addr)(W:Nat→Prop)(x:Hs)(h:ac):Nat→Nat→List Pr→(Nat→Prop)→Prop
 |0,b,l,S=>BuckO o W h b l S
 |m+1,b,l,S=>(TrieAt W x h (m+1) b l∧∀y,¬S y)∨(o.isSome=true∧∃(s:Slots) (d n:Nat) (sp sk:SliceV) (S0:Nat→Prop) (T:Nat→Nat→Prop),OwnN S0 h b d n sp sk s o∧(∀y,S0 y→S y)∧(∀c y,T c y→S y∧¬S0 y)∧(∀c c' y,T c y→T c' y→c=c')∧∀c,c<32→
  ((part x (12-m) c l= []∧s.p c=none∧s.k c=none∧∀y,¬T c y)∨(∃p,part x (12-m) c l= [p]∧s.p c=some p∧s.k c=none∧∀y,¬T c y)∨
   (2≤(part x (12-m) c l).length∧s.p c=none∧∃kb,s.k c=some (some ⟨kb,0,none⟩)∧TrieO o W x h m kb (part x (12-m) c l) (T c))))
def SlotO(o:Option Addr)(W:Nat→Prop)(x:Hs)(h:ac)(m:Nat)(s:Slots)(c:Nat)(l:List Pr)(T:Nat→Prop):Prop:=
 (l= []∧s.p c=none∧s.k c=none∧∀y,¬T y)∨(∃p,l= [p]∧s.p c=some p∧s.k c=none∧∀y,¬T y)∨(2≤l.length∧s.p c=none∧∃kb,s.k c=some (some ⟨kb,0,none⟩)∧TrieO o W x h m kb l T)
theorem vX{o:Option Addr}{W:Nat→Prop}{x:Hs}{h:ac}:∀{m b:Nat} {l:List Pr},TrieAt W x h m b l→TrieO o W x h m b l No
 |0,_,_,t=>.inl ⟨t,fun _ h=>h⟩
 |_+1,_,_,t=>.inl ⟨t,fun _ h=>h⟩
theorem TrieO.freeze{o:Option Addr}{W W':Nat→Prop}{x:Hs}{h:ac}(k:∀y,W' y→W y)(i:OwOk W' h o):∀{m b:Nat} {l:List Pr} {S:Nat→Prop},TrieO o W x h m b l S→(∀y,S y→¬W' y)→TrieAt W' x h m b l
 |0,_,_,_,t,hS=>t.elim (fun t=>t.1.less fun y a=>.inl (k y a)) fun⟨_,_,_,t⟩=>t.buck hS i
 |m+1,b,l,S,t,hS=>by
  rcases t with⟨t,_⟩|⟨_,s,d,n,sp,sk,A,T,w,u,z,_,hc⟩
  ·exact TrieAt.less (fun y a=>.inl (k y a)) t
  ·exact⟨s,w.node (fun y a=>hS y (u y a)) i,fun c e=>(hc c e).imp (fun h=>⟨h.1,h.2.1,h.2.2.1⟩) fun o=>o.imp (fun⟨p,j,f,g,_⟩=>⟨p,j,f,g⟩) fun⟨j,f,v,g,q⟩=>⟨j,f,v,g,TrieO.freeze k i q fun y a=>hS y (z c y a).1⟩⟩
theorem TrieO.read{o w:Option Addr}{W S:Nat→Prop}{x:Hs}{h:ac}{m b:Nat}{l:List Pr}(t:TrieO o W x h m b l S)(by_:By h w o):TrieAt No x h m b l:=
 TrieO.freeze (fun _ h=>h.elim) (fun a e=>⟨id,by_.plain a (by_.tok e)⟩) t fun _ _ h=>h
theorem TrieO.off{W S:Nat→Prop}{x:Hs}{h:ac}{m b:Nat}{l:List Pr}(t:TrieO none W x h m b l S):TrieAt W x h m b l∧∀y,¬S y:=by
 cases m with
 |zero=>exact t.elim id fun h=>absurd h.1 (by simp)
 |succ m=>exact t.elim id fun h=>absurd h.1 (by simp)
theorem TrieO.upd{o:Option Addr}{W M:Nat→Prop}{x:Hs}{h p:ac}(k:Upd M h p):∀{m b:Nat} {l:List Pr} {S:Nat→Prop},TrieO o W x h m b l S→(∀y,S y→y<h.size)→(∀y,M y→(W y∧¬S y)∨h.size≤y)→TrieO o W x p m b l S
 |0,_,_,S,t,hS,hm=>t.imp (fun t=>⟨t.1.upd k fun y a=>(hm y a).imp (fun h=>h.1) id,t.2⟩) fun⟨e,sp,sk,t⟩=>⟨e,sp,sk,t.upd k fun y a f=>by
   have:=hS y f
   rcases hm y a with h|h
   ·exact h.2 f
   ·omega⟩
 |m+1,b,l,S,t,hS,hm=>by
  rcases t with⟨t,e⟩|⟨e,s,d,n,sp,sk,u,T,B,i,j,hd,hc⟩
  ·exact .inl ⟨TrieAt.updM k (fun y a=>(hm y a).imp (fun h=>h.1) id) t,e⟩
  ·refine .inr ⟨e,s,d,n,sp,sk,u,T,B.upd k fun y a f=>?_,i,j,hd,fun c g=>(hc c g).imp id fun o=>o.imp id fun⟨A,v,z,w,q⟩=>⟨A,v,z,w,TrieO.upd k q (fun y a=>hS y (j c y a).1) fun y a=>(hm y a).imp (fun h=>⟨h.1,fun C=>h.2 (j c y C).1⟩) id⟩⟩
   have:=hS y (i y f);rcases hm y a with h|h
   ·exact h.2 (i y f)
   ·omega
theorem TrieO.upd0{o:Option Addr}{W:Nat→Prop}{x:Hs}{h f:ac}(k:Upd No h f):∀{m b:Nat} {l:List Pr} {S:Nat→Prop},TrieO o W x h m b l S→TrieO o W x f m b l S
 |0,_,_,_,t=>BuckO.upd0 t k
 |m+1,b,l,S,t=>by
  rcases t with⟨t,e⟩|⟨e,s,d,n,sp,sk,j,T,w,i,y,hd,hc⟩
  ·exact .inl ⟨TrieAt.upd0 k t,e⟩
  ·exact .inr ⟨e,s,d,n,sp,sk,j,T,w.upd k fun _ h=>h.elim,i,y,hd,fun c a=>(hc c a).imp id fun o=>o.imp id fun⟨v,p,u,q,g⟩=>⟨v,p,u,q,TrieO.upd0 k g⟩⟩
theorem TrieO.less{o:Option Addr}{W W':Nat→Prop}{x:Hs}{h:ac}(hm:∀y,W' y→W y∨h.size≤y):∀{m b:Nat} {l:List Pr} {S:Nat→Prop},TrieO o W x h m b l S→TrieO o W' x h m b l S
 |0,_,_,_,t=>t.imp (fun t=>⟨t.1.less hm,t.2⟩) id
 |m+1,b,l,S,t=>by
  rcases t with⟨t,e⟩|⟨e,s,d,n,sp,sk,i,T,u,g,v,hd,hc⟩
  ·exact .inl ⟨TrieAt.less hm t,e⟩
  ·exact .inr ⟨e,s,d,n,sp,sk,i,T,u,g,v,hd,fun c a=>(hc c a).imp id fun o=>o.imp id fun⟨q,j,p,k,f⟩=>⟨q,j,p,k,TrieO.less hm f⟩⟩
theorem SlotO.upd{o:Option Addr}{W M:Nat→Prop}{x:Hs}{h a:ac}(k:Upd M h a){m:Nat}{s:Slots}{c:Nat}{l:List Pr}{T:Nat→Prop}(t:SlotO o W x h m s c l T)(i:∀y,T y→y<h.size)(hm:∀y,M y→(W y∧¬T y)∨h.size≤y):SlotO o W x a m s c l T:=
 t.imp id fun o=>o.imp id fun⟨g,d,f,e,b⟩=>⟨g,d,f,e,TrieO.upd k b i hm⟩
theorem SlotO.less{o:Option Addr}{W W':Nat→Prop}{x:Hs}{h:ac}(hm:∀y,W' y→W y∨h.size≤y){m:Nat}{s:Slots}{c:Nat}{l:List Pr}{T:Nat→Prop}(t:SlotO o W x h m s c l T):SlotO o W' x h m s c l T:=
 t.imp id fun o=>o.imp id fun⟨f,b,e,d,a⟩=>⟨f,b,e,d,TrieO.less hm a⟩
theorem SlotO.turn{o:Option Addr}{W:Nat→Prop}{x:Hs}{h:ac}{m:Nat}{s s':Slots}{c:Nat}{l:List Pr}{T:Nat→Prop}(t:SlotO o W x h m s c l T)(a:s'.p c=s.p c)(b:s'.k c=s.k c):SlotO o W x h m s' c l T:=by
 unfold SlotO at t⊢;rw[a,b];exact t
theorem TrieO.view{o:Option Addr}{W S:Nat→Prop}{x:Hs}{h:ac}{m b:Nat}{l:List Pr}(t:TrieO o W x h (m+1) b l S):
  ∃(s:Slots) (a:Nat→Prop) (T:Nat→Nat→Prop),NodeO o W h b s a∧(∀y,a y→S y)∧(∀c y,T c y→S y∧¬a y)∧(∀c c' y,T c y→T c' y→c=c')∧∀c,c<32→SlotO o W x h m s c (part x (12-m) c l) (T c):=by
 rcases t with⟨⟨s,v,hc⟩,e⟩|⟨e,s,d,n,sp,sk,a,T,w,q,z,hd,hc⟩
 ·exact⟨s,No,fun _=>No,.inl ⟨v,fun _ h=>h⟩,fun _ h=>h.elim,fun _ _ h=>h.elim,fun _ _ _ h=>h.elim,fun c f=>(hc c f).imp (fun h=>⟨h.1,h.2.1,h.2.2,fun _ h=>h⟩) fun o=>o.imp (fun⟨p,j,g,i⟩=>⟨p,j,g,i,fun _ h=>h⟩) fun⟨j,g,u,i,k⟩=>⟨j,g,u,i,vX k⟩⟩
 ·exact⟨s,a,T,.inr ⟨e,d,n,sp,sk,w⟩,q,z,hd,hc⟩
theorem uu{o:Option Addr}{W j:Nat→Prop}{T:Nat→Nat→Prop}{x:Hs}{k:ac}{m u d n z:Nat}{sp sk:SliceV}{s':Slots}{v:List Pr}(t:OwnN (fun y=>j y∨z≤y) k u d n sp sk s' o)
  (hc:∀c,c<32→SlotO o W x k m s' c (part x (12-m) c v) (T c))(C:∀c y,T c y→y<z∧¬j y)(hd:∀c c' y,T c y→T c' y→c=c')(E:o=none→(∀y,¬j y)∧∀y,W y→y<z):
  TrieO o W x k (m+1) u v (fun y=>o.isSome=true∧(((j y∨z≤y)∧y<k.size)∨∃c,c<32∧T c y)):=by
 cases o with
 |none=>
  obtain⟨A,D⟩:=E rfl;refine .inl ⟨⟨s',t.node (fun y f s=>?_) fT,fun c b=>?_⟩,fun y f=>by simp at f⟩
  ·have:=D y s
   rcases f with h|h
   ·exact A y h
   ·omega
  ·exact(hc c b).imp (fun h=>⟨h.1,h.2.1,h.2.2.1⟩) fun o=>o.imp (fun⟨p,i,g,q,_⟩=>⟨p,i,g,q⟩) fun⟨i,g,B,q,w⟩=>⟨i,g,B,q,w.off.1⟩
 |some a=>
  refine .inr ⟨rfl,s',d,n,sp,sk,fun y=>(j y∨z≤y)∧y<k.size,fun c y=>c<32∧T c y,t.within,fun y f=>⟨rfl,.inl f⟩,fun c y f=>⟨⟨rfl,.inr ⟨c,f⟩⟩,fun h=>?_⟩,fun c c' y i g=>hd c c' y i.2 g.2,fun c b=>?_⟩
  ·obtain⟨i,g⟩:=C c y f.2
   rcases h.1 with h|h
   ·exact g h
   ·omega
  ·have e:(fun y=>c<32∧T c y)=T c:=funext fun y=>propext ⟨fun h=>h.2,fun h=>⟨b,h⟩⟩
   have:=hc c b;unfold SlotO at this;rw[←e]at this;exact this
end Go.Proofs
namespace Go.Proofs
open Go.Lift
theorem zY{o:Option Addr}{W c:Nat→Prop}{f:ac}{i d n z:Nat}{sp sk:SliceV}{s':Slots}(g:OwnN (fun y=>c y∨z≤y) f i d n sp sk s' o)(m:o=none→(∀y,¬c y)∧∀y,W y→y<z):
  NodeO o W f i s' (fun y=>o.isSome=true∧(c y∨z≤y)∧y<f.size):=by
 cases o with
 |none=>
  obtain⟨j,k⟩:=m rfl;refine .inl ⟨g.node (fun y b e=>?_) fT,fun y b=>by simp at b⟩
  have:=k y e;rcases b with h|h
  ·exact j y h
  ·omega
 |some a=>exact .inr ⟨rfl,d,n,sp,sk,g.within.mono fun y b=>⟨rfl,b⟩⟩
theorem qI{o:Option Addr}{W c:Nat→Prop}{e:ac}{g z:Nat}{sp sk:SliceV}{l:List Pr}(f:OwnB (fun y=>c y∨z≤y) e g sp sk l o)(k:o=none→(∀y,¬c y)∧∀y,W y→y<z):
  BuckO o W e g l (fun y=>o.isSome=true∧(c y∨z≤y)∧y<e.size):=by
 cases o with
 |none=>
  obtain⟨i,j⟩:=k rfl;refine .inl ⟨f.buck (fun y b d=>?_) fT,fun y b=>by simp at b⟩
  have:=j y d;rcases b with h|h
  ·exact i y h
  ·omega
 |some a=>exact .inr ⟨rfl,sp,sk,f.within.mono fun y b=>⟨rfl,b⟩⟩
def SN(o:Option Addr)(a:Nat→Prop)(z:Nat)(b:ac)(T:Nat→Nat→Prop)(y:Nat):Prop:=o.isSome=true∧(((a y∨z≤y)∧y<b.size)∨∃c,c<32∧T c y)
def sT(T:Nat→Nat→Prop)(i:Nat)(S:Nat→Prop)(c:Nat):Nat→Prop:=if c=i then S else T c
theorem pr{T:Nat→Nat→Prop}{i:Nat}{S:Nat→Prop}:sT T i S i=S:=if_pos rfl
theorem kf{T:Nat→Nat→Prop}{i c:Nat}{S:Nat→Prop}(h:c≠i):sT T i S c=T c:=if_neg h
theorem B1{o:Option Addr}{S d T':Nat→Prop}{z z0 c0:Nat}{a:ac}{T:Nat→Nat→Prop}(i:∀y,d y→S y)(g:∀c y,T c y→S y∧y<a.size)(b:∀y,T' y→(S y∨z0≤y)∧y<a.size)(hz:z0≤z){y:Nat}(j:SN o d z a (sT T c0 T') y):(S y∨z0≤y)∧y<a.size:=by
 rcases j.2 with⟨h|h,f⟩|⟨c,_,h⟩
 ·exact⟨.inl (i y h),f⟩
 ·exact⟨.inr (fB hz h),f⟩
 ·by_cases e:c=c0
  ·subst e;rw[pr]at h;exact b y h
  ·rw[kf e]at h;exact⟨.inl (g c y h).1,(g c y h).2⟩
theorem sA{o:Option Addr}{W W1 f T':Nat→Prop}{T:Nat→Nat→Prop}{x:Hs}{hz g:ac}{m A d n c0:Nat}{sp sk:SliceV}{s s':Slots}{z:List Pr}
  (K:OwnN (fun y=>f y∨hz.size≤y) g A d n sp sk s' o)(H:Upd f hz g)(G:∀c,c<32→c≠c0→SlotO o W1 x hz m s c (part x (12-m) c z) (T c))(F:∀c,c≠c0→s'.p c=s.p c∧s'.k c=s.k c)
  (J:SlotO o W1 x hz m s' c0 (part x (12-m) c0 z) T')(p:∀y,W y→W1 y)(u:∀y,f y→W1 y)(w:∀c y,T c y→W1 y)(q:∀y,T' y→W1 y)(D:∀c y,T c y→y<hz.size∧¬f y)(b:∀y,T' y→y<hz.size∧¬f y∧∀c,c≠c0→¬T c y)
  (hd:∀c c' y,T c y→T c' y→c=c')(B:o=none→(∀y,¬f y)∧∀y,W1 y→y<hz.size):
  TrieO o (fun y=>W y∨SN o f hz.size g (sT T c0 T') y) x g (m+1) A z (SN o f hz.size g (sT T c0 T')):=by
 have k:∀c y,sT T c0 T' c y→W1 y∧y<hz.size∧¬f y:=fun c y h=>by
  by_cases e:c=c0
  ·subst e;rw[pr]at h;exact⟨q y h,(b y h).1,(b y h).2.1⟩
  ·rw[kf e]at h;exact⟨w c y h,D c y h⟩
 have I:∀y,(W y∨SN o f hz.size g (sT T c0 T') y)→(W1 y∨hz.size≤y):=fun y a=>by
  rcases a with h|⟨_,⟨h|h,_⟩|⟨c,_,h⟩⟩
  ·exact .inl (p y h)
  ·exact .inl (u y h)
  ·exact .inr h
  ·exact .inl (k c y h).1
 have E:∀{s:Slots} {c:Nat} {l:List Pr} {U:Nat→Prop},SlotO o W1 x hz m s c l U→(∀y,U y→y<hz.size∧¬f y)→SlotO o (fun y=>W y∨SN o f hz.size g (sT T c0 T') y) x g m s c l U:=fun t C=>
  ((t.less (W':=fun y=>W1 y∨hz.size≤y) fun y a=>a).upd H (fun y a=>(C y a).1) fun y a=>.inl ⟨.inl (u y a),fun h=>(C y h).2 a⟩).less fun y a=>.inl (I y a)
 refine uu K (fun c hc=>?_) (fun c y h=>(k c y h).2) (fun c c' y j i=>?_) fun e=>⟨(B e).1,fun y a=>?_⟩
 ·by_cases e:c=c0
  ·subst e;rw[pr];exact E J fun y a=>⟨(b y a).1,(b y a).2.1⟩
  ·rw[kf e];exact(E (G c hc e) fun y a=>D c y a).turn (F c e).1 (F c e).2
 ·by_cases e:c=c0<;>by_cases v:c'=c0
  ·omega
  ·subst e;rw[pr]at j;rw[kf v]at i;exact absurd i ((b y j).2.2 c' v)
  ·subst v;rw[pr]at i;rw[kf e]at j;exact absurd j ((b y i).2.2 c e)
  ·rw[kf e]at j;rw[kf v]at i;exact hd c c' y j i
 ·rcases a with h|⟨h,_⟩
  ·exact(B e).2 y (p y h)
  ·rw[e]at h;cases h
abbrev CP(x:Hs)(w:Option Addr)(k:ByteArray):Value:=.agg #[.int .u64 x.k0,.int .u64 x.k1,.int .u64 x.mask,.pointer w,.string k,.int .u64 (jY x k)]
set_option maxHeartbeats 1000000 in
theorem BR{W:Nat→Prop}{x:Hs}{w o:Option Addr}:∀(m:Nat) (p q:Pr),m≤13→p.1≠q.1→∀{h:ac},(∀y,W y→y<h.size)→By h w o→(∀a,o=some a→W a.block)→∀{K:Option Addr→ac→Prop},(∀h' b' S',TrieO o (fun y=>W y∨S' y) x h' m b' (f9 q [p]) S'→(∀y,S' y→h.size≤y∧y<h'.size)→Upd No h h'→K (some ⟨b',0,none⟩) h')→
  HC PG f6 [CP x w q.1,.agg #[.string p.1,.string p.2],.agg #[.string q.1,.string q.2],.int .i64 ((13-m:Nat):Int)] [.c .ptr] K h:=by
 intro m;induction m with
 |zero=>
  intro p q _ Z h hW t F K hk;have L:∀{h'},Upd No h h'→∀y,W y→y<h'.size:=fun k y g=>cg (hW y g) k.size
  refine ln (x.k0,x.k1,x.mask,w,q.1,jY x q.1) p q ((13-0:Nat):Int) ?_;unfold iS aw qk m4 aj az cT B7 B6 DY nU vW;refine bD fun h1 b1 k1=>bD fun h2 b2 k2=>bD fun O b3 k3=>?_
  have j:=(k1.tr k2).tr k3;have u:∀{h':ac},Upd No O h'→∀i,aP h' (adr ⟨h.size,0,none⟩ i)=(#[.int .u64 x.k0,.int .u64 x.k1,.int .u64 x.mask,.pointer w,.string q.1,.int .u64 (jY x q.1)]:Array Value)[i]?:=fun k i=>by
   rw[aX,aH (k.get0 (k3.get0 (k2.get0 b1))),ar]
  have H:∀{h':ac},Upd No O h'→∀i,aP h' (adr ⟨h1.size,0,none⟩ i)=(#[.string p.1,.string p.2]:Array Value)[i]?:=fun k i=>by rw[aX,aH (k.get0 (k3.get0 b2)),ar]
  have E:∀{h':ac},Upd No O h'→∀i,aP h' (adr ⟨h2.size,0,none⟩ i)=(#[.string q.1,.string q.2]:Array Value)[i]?:=fun k i=>by rw[aX,aH (k.get0 b3),ar]
  have r:=Upd.refl No O;have z03:=j.size;refine ao.2 ⟨w,u r 3,p.1,H r 0,p.2,H r 1,w,u r 3,q.1,E r 0,q.2,E r 1,?_⟩;refine Ao (L j) fun h4 b4 bk4 f=>⟨⟨E f 0,E f 1⟩,u f 3,⟨H f 0,H f 1⟩,u f 3,?_⟩
  have t4:=t.upd0 (j.tr f);have z4:=f.size;refine tG (S:=No) (.inl ⟨bk4,fun _ h=>h⟩) t4 F (fun _ h=>h.elim) eW (by simp) p fun Q b5 sp5 sk5 on5 C=>?_
  have D:=f.tr C;have z5:=C.size;refine⟨⟨E D 0,E D 1⟩,u D 3,?_⟩;have bk5:=qI (W:=W) (z:=h4.size) on5 fun e=>⟨fun _ h=>h,L (j.tr f)⟩
  have t5:=t4.upd0 C;refine tG bk5 t5 F (fun y g=>g.2.2) (cW ..) (by simp[f9]) q fun P b6 sp6 sk6 U A=>?_
  have z6:=A.size;have bk6:=qI (W:=fun y=>W y∨(o.isSome=true∧((o.isSome=true∧((No y∨h4.size≤y)∧y<Q.size))∨Q.size≤y)∧y<P.size)) (z:=Q.size) U fun e=>⟨fun y g=>(by rw[e]at g;cases g.1),fun y g=>(by
   rcases g with g|g
   ·exact L (j.tr D) y g
   ·rw[e]at g;cases g.1)⟩
  refine hk P b6 _ bk6 (fun y g=>?_) ((j.tr D).trans A fun y g=>.inr ?_)
  ·rcases g.2.1 with h|h
   ·rcases h.2.1 with h|h
    ·exact h.elim
    ·exact⟨by omega,g.2.2⟩
   ·exact⟨by omega,g.2.2⟩
  ·rcases g.2.1 with h|h
   ·exact h.elim
   ·omega
 |succ m ih=>
  intro p q hm Z h hW t F K hk;have L:∀{h'},Upd No h h'→∀y,W y→y<h'.size:=fun k y g=>cg (hW y g) k.size
  have hl:13-(m+1)<13:=by omega
  have B:13-(m+1)=12-m:=by omega
  refine ln (x.k0,x.k1,x.mask,w,q.1,jY x q.1) p q ((13-(m+1):Nat):Int) ?_;unfold iS aw qk m4 aj az cT B7 B6 DY nU vW;refine bD fun h1 b1 k1=>bD fun h2 b2 k2=>bD fun O b3 k3=>?_
  have j:=(k1.tr k2).tr k3;have u:∀{h':ac},Upd No O h'→∀i,aP h' (adr ⟨h.size,0,none⟩ i)=(#[.int .u64 x.k0,.int .u64 x.k1,.int .u64 x.mask,.pointer w,.string q.1,.int .u64 (jY x q.1)]:Array Value)[i]?:=fun k i=>by
   rw[aX,aH (k.get0 (k3.get0 (k2.get0 b1))),ar]
  have H:∀{h':ac},Upd No O h'→∀i,aP h' (adr ⟨h1.size,0,none⟩ i)=(#[.string p.1,.string p.2]:Array Value)[i]?:=fun k i=>by rw[aX,aH (k.get0 (k3.get0 b2)),ar]
  have E:∀{h':ac},Upd No O h'→∀i,aP h' (adr ⟨h2.size,0,none⟩ i)=(#[.string q.1,.string q.2]:Array Value)[i]?:=fun k i=>by rw[aX,aH (k.get0 b3),ar]
  have r:=Upd.refl No O;have z03:=j.size;have ne:(((13-(m+1):Nat):Int)==(13:Int))=false:=by rw[beq_eq_false_iff_ne];omega
  rw[ne];refine al.2 ⟨_,u r 0,_,u r 1,_,u r 2,_,H r 0,_,u r 5,?_⟩;refine vz fun h4 f=>⟨u f 5,DP hl ⟨u f 5,DP hl ?_⟩⟩
  have hi:=zu x (13-(m+1)) p.1;have hj:=zu x (13-(m+1)) q.1;have hcl:=yX Z;have z4:=f.size;refine CondP.intro (fun e=>?_) fun e=>?_
  ·have e:ck x (13-(m+1)) p.1=ck x (13-(m+1)) q.1:=by have:=eq_of_beq e;omega
   refine⟨_,u f 3,_,u f 0,_,u f 1,_,u f 2,_,u f 3,_,u f 4,_,u f 5,_,H f 0,_,H f 1,_,E f 0,_,E f 1,?_⟩;refine my (L (j.tr f)) fun Q b5 X C=>?_
   have b:=f.tr C;have z5:=C.size;refine⟨⟨E b 0,E b 1⟩,⟨H b 0,H b 1⟩,⟨u b 0,u b 1,u b 2,u b 3,u b 4,u b 5⟩,u b 3,?_⟩;have ew:IntKind.wrap .i64 (((13-(m+1):Nat):Int)+1)=((13-m:Nat):Int):=by rw[nT (by omega)];omega
   rw[ew];refine ih p q (by omega) Z (L (j.tr b)) (t.upd0 (j.tr b)) F fun P b6 Sk t6 M A=>?_
   have v:=b.tr A;have z6:=A.size;refine⟨u v 3,?_⟩;refine oG (S:=No) (.inl ⟨X.upd A fun _ h=>h.elim,fun _ h=>h⟩) (t.upd0 (j.tr v)) F hi (fun y h=>by cases h) ⟨b6,0,none⟩ fun h7 b7 d n sp sk Y I=>?_
   have z7:=I.size;refine hk h7 b7 _ (sA (W:=W) (W1:=fun y=>W y∨Sk y) (T:=fun _=>No) (T':=Sk) (c0:=ck x (13-(m+1)) p.1) (s:=⟨fun _=>none,fun _=>none⟩) (hz:=P) Y I (fun c hc hcc=>?_) (fun c hc=>⟨fR hc,fR hc⟩) ?_ (fun y g=>.inl g) (fun _ h=>h.elim) (fun _ _ h=>h.elim) (fun y g=>.inr g) (fun _ _ h=>h.elim) (fun y g=>⟨(M y g).2,id,fun _ _ h=>h⟩) (fun _ _ _ h=>h.elim) fun eo=>⟨fun _ h=>h,fun y g=>g.elim (L (j.tr v) y) fun h=>(M y h).2⟩) (fun y g=>?_) ((j.tr v).tr I)
   ·refine .inl ⟨y6 fun r V=>?_,rfl,rfl,fun _ h=>h⟩
    rw[B]at hcc e;rcases zd V with rfl|rfl
    ·exact fun e=>hcc e.symm
    ·rw[←e];exact fun e=>hcc e.symm
   ·have ea:part x (12-m) (ck x (13-(m+1)) p.1) (f9 q [p])=f9 q [p]:=wA fun r V=>by
     rw[B]at e⊢;rcases zd V with rfl|rfl
     ·rfl
     ·rw[e]
    rw[ea];exact .inr (.inr ⟨by omega,fE,b6,fE,t6⟩)
   ·have:=B1 (S:=No) (z0:=h.size) (fun _ h=>h) (fun _ _ h=>h.elim) (fun y g=>⟨.inr (by have:=(M y g).1;omega),by have:=(M y g).2;omega⟩) (by omega) g
    exact⟨this.1.elim (fun h=>h.elim) id,this.2⟩
  ·have e:ck x (13-(m+1)) p.1≠ck x (13-(m+1)) q.1:=fun h=>by rw[h]at e;simp at e
   refine⟨_,u f 3,_,H f 0,_,H f 1,_,u f 3,_,E f 0,_,E f 1,?_⟩;refine my (L (j.tr f)) fun Q b5 X C=>?_
   have b:=f.tr C;have z5:=C.size;have t5:=t.upd0 (j.tr b);refine⟨⟨E b 0,E b 1⟩,u b 3,⟨H b 0,H b 1⟩,u b 3,?_⟩;refine kT (S:=No) (.inl ⟨X,fun _ h=>h⟩) t5 F (fun _ h=>h.elim) hi (fun y h=>by cases h) p fun P b6 d6 n6 sp6 sk6 U A=>?_
   have v:=b.tr A;have z6:=A.size;have nd6:=zY (W:=W) U fun _=>⟨fun _ h=>h,L (j.tr b)⟩
   refine⟨⟨E v 0,E v 1⟩,u v 3,?_⟩;refine kT nd6 (t5.upd0 A) F (fun y g=>g.2.2) hj (fun y h=>by simp[upd]) q fun h7 b7 d7 n7 sp7 sk7 Y I=>?_
   have z7:=I.size;have R:∀y,(o.isSome=true∧(No y∨Q.size≤y)∧y<P.size)→Q.size≤y:=fun y g=>g.2.1.elim (fun h=>h.elim) id
   refine hk h7 b7 _ (uu (T:=fun _=>No) (z:=P.size) (W:=fun y=>W y∨SN o (fun y=>o.isSome=true∧(No y∨Q.size≤y)∧y<P.size) P.size h7 (fun _=>No) y) Y (fun c hc=>?_) (fun _ _ h=>h.elim) (fun _ _ _ h=>h.elim) fun eo=>⟨fun y g=>(by rw[eo]at g;cases g.1),fun y g=>(by
    rcases g with g|g
    ·exact L (j.tr v) y g
    ·rw[eo]at g;cases g.1)⟩) (fun y g=>?_) ((j.tr v).trans I fun y g=>.inr (by have:=R y g;omega))
   ·have G:=sQ (x:=x) (lev:=12-m) (c:=c) (p:=q) (l:= [p]) (cW ..)
    rw[B]at e;by_cases N:c=ck x (12-m) p.1
    ·have J:ck x (12-m) q.1≠c:=fun h=>e (by omega)
     have e1:part x (12-m) c [p]= [p]:=wA fun r V=>by rw[ag.1 V,N]
     rw[if_neg J,e1]at G;exact .inr (.inl ⟨p,G,by simp[upd,B,N,e],by simp[upd],fun _ h=>h⟩)
    ·have e1:part x (12-m) c [p]= []:=y6 fun r V=>by rw[ag.1 V];exact fun h=>N h.symm
     rw[e1]at G;by_cases J:c=ck x (12-m) q.1
     ·rw[if_pos J.symm]at G
      exact .inr (.inl ⟨q,G,by simp[upd,B,J],by simp[upd],fun _ h=>h⟩)
     ·rw[if_neg fun h=>J h.symm]at G
      exact .inl ⟨G,by simp[upd,B,J,N],by simp[upd],fun _ h=>h⟩
   ·rcases g.2 with⟨h|h,h2⟩|⟨_,_,h⟩
    ·exact⟨by have:=R y h;omega,h2⟩
    ·exact⟨by omega,h2⟩
    ·exact h.elim
end Go.Proofs
namespace Go.Proofs
open Go.Lift
theorem By.updS{h b:ac}{w o:Option Addr}{S:Nat→Prop}(t:By h w o)(k:Upd S h b)(c:∀a,w=some a→¬S a.block):By b w o:=t.upd k fun _ e d=>absurd d (c _ e)
set_option maxHeartbeats 2000000 in
theorem Cp{W:Nat→Prop}{x:Hs}{w o:Option Addr}:∀(m:Nat),m≤13→∀{b:Nat} {l:List Pr} {S:Nat→Prop} (p:Pr) {h:ac},TrieO o W x h m b l S→By h w o→(∀y,W y→y<h.size)→(∀y,S y→W y)→(∀a,o=some a→W a.block)→(∀a,w=some a→¬S a.block)→eO l→l.length≤1000000→∀{K:(Option Addr)×Bool×Bool→ac→Prop},
  (∀A b' ch S',Upd S h A→TrieO o (fun y=>W y∨S' y) x A m b' (f9 p l) S'→(∀y,S' y→(S y∨h.size≤y)∧y<A.size)→(ch=false→b'=b∧Upd No h A)→ch= !decide (p∈l)→K (some ⟨b',0,none⟩, !cK l p.1,ch) A)→
  HC PG d8 [CP x w p.1,.pointer (some ⟨b,0,none⟩),.agg #[.string p.1,.string p.2],.int .i64 ((13-m:Nat):Int)] [.c .ptr,.c .bool,.c .bool] K h:=by
 intro m;induction m with
 |zero=>
  intro _ b l S p h t by_ hW E J hwS hr hn K hk;have N:∀y,S y→y<h.size:=fun y g=>hW y (E y g)
  refine l3 (x.k0,x.k1,x.mask,w,p.1,jY x p.1) (some ⟨b,0,none⟩) p ((13-0:Nat):Int) ?_;unfold jo aw nv qk sw m4 aj az sd B6 DY nU mp vW;refine bD fun h1 b1 k1=>bD fun j b2 k2=>?_
  have G:∀{A:ac},Upd No j A→∀i,aP A (adr ⟨h.size,0,none⟩ i)=(#[.int .u64 x.k0,.int .u64 x.k1,.int .u64 x.mask,.pointer w,.string p.1,.int .u64 (jY x p.1)]:Array Value)[i]?:=fun k i=>by
   rw[aX,aH (k.get0 (k2.get0 b1)),ar]
  have L:∀{A:ac},Upd No j A→∀i,aP A (adr ⟨h1.size,0,none⟩ i)=(#[.string p.1,.string p.2]:Array Value)[i]?:=fun k i=>by rw[aX,aH (k.get0 b2),ar]
  have r:=Upd.refl No j;have u:=k1.tr k2;have z02:=u.size;have bk:BuckO o W j b l S:=BuckO.upd0 t u;have by2:=by_.upd0 u;have bkr:=bk.read by2;obtain⟨sp,sk,ow,hb,_⟩:=bkr.ex;refine nm (d:=0) (n:=0) hb (ao.2 ⟨_,L r 0,Ek bkr hr (by omega) p.1 fun h3 v U hv=>?_⟩)
  refine Join.intro (fun t' A=>t'=decide (p∈l)∧Upd No j A) (fun R hR=>?_) ?_
  ·cases D:cK l p.1 with
   |false=>
    refine al.2 (hR _ _ ⟨?_,U⟩);refine(decide_eq_false fun hm=>?_).symm
    have:cK l p.1=true:=bE.2 ⟨p,hm,decide_eq_true rfl⟩;rw[D]at this;cases this
   |true=>
    have hv:=hv D;refine ao.2 ⟨_,L U 1,hR _ _ ⟨?_,U⟩⟩;rw[kB,decide_eq_decide];constructor
    ·intro e
     have e:v=p.2:=e;rw[e]at hv;exact hv
    ·intro hm
     exact xH hr hv (show(p.1,p.2)∈l from hm)
  ·rintro t' h4 ⟨rfl,F⟩
   have z4:=F.size;by_cases hm:p∈l
   ·rw[decide_eq_true hm]
    refine ao.2 ?_;have D:cK l p.1=true:=bE.2 ⟨p,hm,decide_eq_true rfl⟩;have:=hk h4 b false S (u.tr F).wide (by rw[rZ hr hm];exact(BuckO.upd0 t (u.tr F)).imp (fun n=>⟨n.1.less fun y g=>.inl (g.elim id (E y)),n.2⟩) id) (fun y g=>⟨.inl g,by have:=N y g;omega⟩) (fun _=>⟨rfl,u.tr F⟩) (by rw[decide_eq_true hm];rfl)
    rw[D]at this;exact this
   ·rw[decide_eq_false hm]
    refine al.2 ⟨w,G F 3,_,L F 0,_,L F 1,?_⟩;refine tG (bk.upd0 F) (by2.upd0 F) J (fun y g=>by have:=N y g;omega) hr (by omega) p fun h5 b5 sp5 sk5 on5 hu5=>?_
    have z5:=hu5.size;have hS0:o=none→∀y,¬S y:=fun e y g=>by
     rcases t with⟨_,h⟩|⟨h,_⟩
     ·exact h y g
     ·rw[e]at h;cases h
    refine hk h5 b5 true _ ((u.tr F).wide.tr hu5) (qI (W:=fun y=>W y∨(o.isSome=true∧(S y∨h4.size≤y)∧y<h5.size)) on5 fun e=>⟨hS0 e,fun y g=>g.elim (fun h=>by have:=hW y h;omega) fun h=>by rw[e]at h;cases h.1⟩) (fun y g=>⟨g.2.1.imp id fun h=>by omega,g.2.2⟩) (fun h=>by cases h) (by rw[decide_eq_false hm];rfl)
 |succ m ih=>
  intro hm b l S p h t by_ hW E J hwS hr hn K hk;have gW:∀{A},Upd No h A→∀y,W y→y<A.size:=fun k y g=>cg (hW y g) k.size
  have N:∀y,S y→y<h.size:=fun y g=>hW y (E y g)
  have hl:13-(m+1)<13:=by omega
  have hlev:13-(m+1)=12-m:=by omega
  refine l3 (x.k0,x.k1,x.mask,w,p.1,jY x p.1) (some ⟨b,0,none⟩) p ((13-(m+1):Nat):Int) ?_;unfold jo aw nv qk sw m4 aj az sd B6 DY nU mp vW;refine bD fun h1 b1 k1=>bD fun j b2 k2=>?_
  have G:∀{A:ac},Upd No j A→∀i,aP A (adr ⟨h.size,0,none⟩ i)=(#[.int .u64 x.k0,.int .u64 x.k1,.int .u64 x.mask,.pointer w,.string p.1,.int .u64 (jY x p.1)]:Array Value)[i]?:=fun k i=>by
   rw[aX,aH (k.get0 (k2.get0 b1)),ar]
  have L:∀{A:ac},Upd No j A→∀i,aP A (adr ⟨h1.size,0,none⟩ i)=(#[.string p.1,.string p.2]:Array Value)[i]?:=fun k i=>by rw[aX,aH (k.get0 b2),ar]
  have r:=Upd.refl No j;have u:=k1.tr k2;have by2:=by_.upd0 u;have z02:=u.size;have hno:o=none→∀y,¬S y:=fun e=>by subst e;exact t.off.2
  obtain⟨s,S0,T,nd0,h0,I,hd,hs⟩:=(TrieO.upd0 u t).view;have tt:∀{A:ac},Upd No j A→TrieO o (fun y=>W y∨S y) x A (m+1) b l S:=fun k=>(TrieO.upd0 (u.tr k) t).less fun y g=>.inl (g.elim id (E y))
  have ndr:=nd0.read by2;obtain⟨d0,n0,sp0,sk0,ow0,hb0,_⟩:=ndr.ex;refine nm hb0 (al.2 ⟨_,G r 5,DP hl ?_⟩);rw[hlev];have hi:=zu x (12-m) p.1;have Z:=hs _ hi;have hrp:=xI (x:=x) (lev:=12-m) (c:=ck x (12-m) p.1) hr;have hnp:(part x (12-m) (ck x (12-m) p.1) l).length≤1000000:=fB wz hn;have hmp:p∈part x (12-m) (ck x (12-m) p.1) l↔p∈l:=by rw[na];exact⟨fun h=>h.1,fun h=>⟨h,rfl⟩⟩
  have htp:=xr (x:=x) (lev:=12-m) (l:=l) (k:=p.1);have turn:∀{hz A:ac} {b' d n:Nat} {sp sk:SliceV} {s':Slots} {T':Nat→Prop},Upd (T (ck x (12-m) p.1)) j hz→OwnN (fun y=>S0 y∨hz.size≤y) A b' d n sp sk s' o→Upd S0 hz A→(∀c,c≠ck x (12-m) p.1→s'.p c=s.p c∧s'.k c=s.k c)→
    SlotO o (fun y=>W y∨T' y) x hz m s' (ck x (12-m) p.1) (f9 p (part x (12-m) (ck x (12-m) p.1) l)) T'→(∀y,T' y→(T (ck x (12-m) p.1) y∨j.size≤y)∧y<hz.size)→p∉l→
    K (some ⟨b',0,none⟩, !cK l p.1,true) A:=fun{hz A b' d n sp sk s' T'} ku on ku2 hp hslot V Q=>by
   have zz:=ku.size;have zz':=ku2.size;have b2S:∀y,S y→y<j.size:=fun y g=>by have:=N y g;omega
   have p1:part x (12-m) (ck x (12-m) p.1) (f9 p l)=f9 p (part x (12-m) (ck x (12-m) p.1) l):=by rw[sQ hr,if_pos rfl]
   have hT0:∀y,T' y→¬S0 y∧∀c,c≠ck x (12-m) p.1→¬T c y:=fun y g=>by
    rcases(V y g).1 with h|h
    ·exact⟨(I _ y h).2,fun c hc D=>hc (hd _ _ y D h)⟩
    ·exact⟨fun hs=>by have:=b2S y (h0 y hs);omega,fun c _ D=>by have:=b2S y (I c y D).1;omega⟩
   refine hk A b' true _ ((u.wide.tr (ku.mono fun y g=>.inl (I _ y g).1)).tr (ku2.mono fun y g=>.inl (h0 y g))) (sA (W:=W) (W1:=fun y=>W y∨T' y) (T:=T) (T':=T') (c0:=ck x (12-m) p.1) (s:=s) (hz:=hz) on ku2 (fun c hc hcc=>?_) hp ?_ (fun y g=>.inl g) (fun y g=>.inl (E y (h0 y g))) (fun c y g=>.inl (E y (I c y g).1)) (fun y g=>.inr g) (fun c y g=>⟨by have:=b2S y (I c y g).1;omega,(I c y g).2⟩) (fun y g=>⟨(V y g).2,hT0 y g⟩) hd fun e=>⟨fun y g=>hno e y (h0 y g),fun y g=>g.elim (fun h=>by have:=hW y h;omega) fun h=>(V y h).2⟩) (fun y g=>?_) (fun h=>by cases h) (by rw[decide_eq_false Q];rfl)
   ·rw[sQ hr,if_neg fun e=>hcc e.symm]
    refine((hs c hc).less (W':=fun y=>W y∨T' y) fun y g=>g.elim .inl fun h=>(V y h).1.imp (fun h=>E y (I _ y h).1) id).upd ku (fun y g=>b2S y (I c y g).1) fun y g=>.inl ⟨.inl (E y (I _ y g).1),fun h=>hcc (hd _ _ y h g)⟩
   ·rw[p1];exact hslot
   ·have:=B1 (S:=S) (z0:=h.size) h0 (fun c y g=>⟨(I c y g).1,by have:=b2S y (I c y g).1;omega⟩) (fun y g=>⟨(V y g).1.imp (fun h=>(I _ y h).1) fun h=>by omega,by have:=(V y g).2;omega⟩) (by omega) g
    exact this
  generalize hc:ck x (12-m) p.1=c at hi Z hrp hnp hmp htp turn;generalize hlp:part x (12-m) c l=lc at Z hrp hnp hmp htp turn;refine Bc ndr hi fun h3 U=>?_
  refine bD fun h4 b4 k4=>?_
  have b4':h4[h3.size]? =some (.cells #[.string C4.1,.string C4.2] ah (0,0)):=b4;refine AY (p:=CD (s.p c)) b4' fun h5 b5 hu5=>?_
  have f:Upd No j h5:=(U.tr k4).trans hu5 fun y g=>.inr (by have g:y=h3.size:=g;have:=U.size;omega)
  have w5:∀{A:ac},Upd No h5 A→∀i,aP A (adr ⟨h3.size,0,none⟩ i)=(#[.string (CD (s.p c)).1,.string (CD (s.p c)).2]:Array Value)[i]?:=fun k i=>by rw[aX,aH (k.get0 b5),ar]
  have r5:=Upd.refl No h5;have z5:=f.size;have P:=by2.upd0 f;have nd5:=nd0.upd0 f;have h0b:∀y,S0 y→y<h5.size:=fun y g=>by have:=N y (h0 y g);omega
  cases hsp:s.p c with
  |some y=>
   rw[hsp]at w5;obtain⟨M,hk0,hTn⟩:lc= [y]∧s.k c=none∧∀y,¬T c y:=by
    rcases Z with⟨_,j,_⟩|⟨q,h1,j,h3,h4⟩|⟨_,j,_⟩
    ·rw[hsp]at j;cases j
    ·rw[hsp]at j;cases j;exact⟨h1,h3,h4⟩
    ·rw[hsp]at j;cases j
   refine ao.2 ⟨y.1,w5 r5 0,y.2,w5 r5 1,p.1,L f 0,p.2,L f 1,?_⟩;rw[kB,kB];have hyl:y∈l:=(na.1 (show y∈part x (12-m) c l by rw[hlp,M];exact ag.2 rfl)).1
   by_cases X:y.1=p.1
   ·have D:cK l p.1=true:=bE.2 ⟨y,hyl,decide_eq_true X⟩
    by_cases e2:y.2=p.2
    ·rw[decide_eq_true X,decide_eq_true e2]
     have hyp:y=p:=Prod.ext X e2;have H:p∈l:=hyp▸hyl;refine ao.2 ?_;rw[D]at hk;exact hk h5 b false S (u.tr f).wide (by rw[rZ hr H];exact tt f) (fun y g=>⟨.inl g,by have:=N y g;omega⟩) (fun _=>⟨rfl,u.tr f⟩) (by rw[decide_eq_true H];rfl)
    ·rw[decide_eq_true X,decide_eq_false e2]
     refine al.2 ⟨y.1,w5 r5 0,p.1,L f 0,?_⟩;rw[kB,decide_eq_true X];refine ao.2 ⟨w,G f 3,p.1,L f 0,p.2,L f 1,?_⟩;refine kT nd5 P J h0b hi (fun _ _=>hk0) p fun h6 b6 d6 n6 sp6 sk6 on6 B=>?_
     have Q:p∉l:=fun hm=>by
      have:=hmp.2 hm;rw[M]at this;exact e2 (by rw[ag.1 this])
     have:=turn (T':=No) f.wide on6 B (fun c' C=>⟨fR C,fR C⟩) (.inr (.inl ⟨p,by rw[M,il,if_neg (by rw[X];exact dL _),if_pos X],fE,fE,fun _ h=>h⟩)) (fun _ h=>h.elim) Q
     rw[D]at this;exact this
   ·rw[decide_eq_false X]
    refine al.2 ⟨y.1,w5 r5 0,p.1,L f 0,?_⟩;rw[kB,decide_eq_false X];refine al.2 ⟨w,G f 3,_,G f 0,_,G f 1,_,G f 2,_,G f 3,_,G f 4,_,G f 5,y.1,w5 r5 0,y.2,w5 r5 1,p.1,L f 0,p.2,L f 1,?_⟩;have ew:IntKind.wrap .i64 (((12-m:Nat):Int)+1)=((13-m:Nat):Int):=by rw[nT (by omega)];omega
    rw[ew];refine BR m y p (by omega) X (gW (u.tr f)) P J fun h6 b6 Sk t6 Y B=>⟨G (f.tr B) 3,?_⟩
    have z6:=B.size;refine oG (nd5.upd0 B) (P.upd0 B) J hi (fun z hz=>by rw[hk0]at hz;cases hz) ⟨b6,0,none⟩ fun h7 b7 d7 n7 sp7 sk7 on7 hu7=>?_
    have D:cK l p.1=false:=by
     rw[←htp,M];unfold cK;rw[List.any_cons,decide_eq_false X];rfl
    have Q:p∉l:=fun hm=>by
     have:cK l p.1=true:=bE.2 ⟨p,hm,decide_eq_true rfl⟩;rw[D]at this;cases this
    have:=turn (T':=Sk) (f.tr B).wide on7 hu7 (fun c' C=>⟨fR C,fR C⟩) (.inr (.inr (by rw[M];exact⟨by rw[yX X];omega,fE,b6,fE,t6⟩))) (fun y g=>⟨.inr (by have:=(Y y g).1;omega),(Y y g).2⟩) Q
    rw[D]at this;exact this
  |none=>
   refine al.2 (Cw (nd5.read P) hi ?_);cases hsk:s.k c with
   |none=>
    have hlc:lc= []:=by
     rcases Z with⟨h1,_⟩|⟨q,_,j,_⟩|⟨_,_,kb,j,_⟩
     ·exact h1
     ·rw[hsp]at j;cases j
     ·rw[hsk]at j;cases j
    refine ao.2 ⟨w,G f 3,p.1,L f 0,p.2,L f 1,?_⟩;refine kT nd5 P J h0b hi (fun _ _=>hsk) p fun h6 b6 d6 n6 sp6 sk6 on6 B=>?_
    have D:cK l p.1=false:=by rw[←htp,hlc];rfl
    have Q:p∉l:=fun hm=>by
     have:cK l p.1=true:=bE.2 ⟨p,hm,decide_eq_true rfl⟩;rw[D]at this;cases this
    have:=turn (T':=No) f.wide on6 B (fun c' C=>⟨fR C,fR C⟩) (.inr (.inl ⟨p,by rw[hlc];rfl,fE,fE,fun _ h=>h⟩)) (fun _ h=>h.elim) Q
    rw[D]at this;exact this
   |some kp=>
    obtain⟨h2l,kb,rfl,tk⟩:2≤lc.length∧∃kb,kp=some ⟨kb,0,none⟩∧TrieO o W x j m kb lc (T c):=by
     rcases Z with⟨_,_,j,_⟩|⟨q,_,j,_⟩|⟨h1,_,kb,j,h3⟩
     ·rw[hsk]at j;cases j
     ·rw[hsp]at j;cases j
     ·rw[hsk]at j;cases j;exact⟨h1,kb,rfl,h3⟩
    refine al.2 ⟨_,G f 0,_,G f 1,_,G f 2,_,G f 3,_,G f 4,_,G f 5,p.1,L f 0,p.2,L f 1,?_⟩;have ew:IntKind.wrap .i64 (((12-m:Nat):Int)+1)=((13-m:Nat):Int):=by rw[nT (by omega)];omega
    rw[ew];refine ih (by omega) p (TrieO.upd0 f tk) P (gW (u.tr f)) (fun y g=>E y (I c y g).1) J (fun a e D=>hwS a e (I c _ D).1) hrp hnp fun h6 b6 ch Sk B t6 Y hsame O=>?_
    have z6:=B.size;have w16:∀i,aP h6 (adr ⟨h.size,0,none⟩ i)=(#[.int .u64 x.k0,.int .u64 x.k1,.int .u64 x.mask,.pointer w,.string p.1,.int .u64 (jY x p.1)]:Array Value)[i]?:=fun i=>by
     rw[aX,aH (B.get (f.get0 (k2.get0 b1)) fun g=>by have:=N _ (I c _ g).1;omega),ar]
    have k26:Upd (T c) j h6:=f.wide.tr B;by_cases H:p∈l
    ·have O:ch=false:=by rw[O,decide_eq_true (hmp.2 H)];rfl
     have D:cK l p.1=true:=bE.2 ⟨p,H,decide_eq_true rfl⟩;rw[D]at hk;rw[O];refine ao.2 ?_;obtain⟨_,k56⟩:=hsame O;have k26:=f.tr k56;exact hk h6 b false S (u.tr k26).wide (by rw[rZ hr H];exact tt k26) (fun y g=>⟨.inl g,by have:=N y g;omega⟩) (fun _=>⟨rfl,u.tr k26⟩) (by rw[decide_eq_true H];rfl)
    ·have O:ch=true:=by rw[O,decide_eq_false fun h=>H (hmp.1 h)];rfl
     rw[O];refine al.2 ⟨w,w16 3,?_⟩;have by6:=P.updS B fun a e D=>hwS a e (I c _ D).1
     have nd6:NodeO o W h6 b s S0:=nd5.imp (fun n=>⟨n.1.upd B fun y g=>.inl (E y (I c y g).1),n.2⟩) fun⟨e,d,n,sp,sk,on⟩=>⟨e,d,n,sp,sk,on.upd B fun y g=>(I c y g).2⟩
     refine oG nd6 by6 J hi (fun _ _=>hsp) ⟨b6,0,none⟩ fun h7 b7 d7 n7 sp7 sk7 on7 hu7=>?_
     have:=turn (T':=Sk) k26 on7 hu7 (fun c' C=>⟨fR C,fR C⟩) (.inr (.inr ⟨fB h2l (wJ p),fE,b6,fE,t6⟩)) (fun y g=>⟨(Y y g).1.imp id fun h=>by omega,(Y y g).2⟩) H
     rw[htp];exact this
end Go.Proofs
namespace Go.Proofs
open Go Go.Lift
end Go.Proofs
