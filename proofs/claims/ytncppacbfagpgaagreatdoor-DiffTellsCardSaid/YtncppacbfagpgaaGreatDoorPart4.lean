/- A part of the proof that the named laws of this program answer true, whatever the input. -/
import Derived.Test.YtncppacbfagpgaaGreatDoorPart3
import Derived.Test.YtncppacbfagpgaaGreatDoorLift3
open Bool renaming and_eq_true→bH
open ByteArray renaming mk→nJ
open Int renaming tmod→qR
open List renaming pairwise_cons→aA,mem_cons→aB,append_assoc→ar,length_append→ac,length_singleton→aE,cons→fi,cons_append→cJ,mem_cons_self→av,length_cons→al,flatMap_cons→aP,append_nil→aL,filter_append→gi,mem_filter→eg,nil_append→cz,pairwise_append→cr,mem_singleton→aF,mem_append→bI,getElem?_append_right→aN,getElem?_append_left→bP,getElem?_eq_some_iff→bJ
open List.Pairwise renaming nil→fT
open Nat renaming le_refl→aj,zero_add→aQ,lt_of_lt_of_le→aD,zero_le→aS,mul_le_mul_right→cB
namespace Go.Proofs
open Go Go.Lift
theorem uK{p q:Pr}:∀{l:List Pr},bS l→(q∈hJ p l↔q=p∨(q∈l∧q.1≠p.1))
 | [],_=>by simp[hJ]
 |r::l,a=>by
  have a:=aA.1 a;rw[hH];by_cases b:kl r.1 p.1
  ·have c:r.1≠p.1:=fun e=>by rw[e]at b;exact co _ b
   rw[if_pos b,aB,aB,uK a.2];constructor
   ·rintro(rfl|h|⟨h,h'⟩)
    ·exact .inr ⟨.inl rfl,c⟩
    ·exact .inl h
    ·exact .inr ⟨.inr h,h'⟩
   ·rintro(h|⟨h|h,h'⟩)
    ·exact .inr (.inl h)
    ·exact .inl h
    ·exact .inr (.inr ⟨h,h'⟩)
  ·rw[if_neg b]
   by_cases h2:r.1=p.1
   ·rw[if_pos h2,aB,aB]
    constructor
    ·rintro(h|h)
     ·exact .inl h
     ·refine .inr ⟨.inr h,fun e=>?_⟩
      have:=a.1 q h;rw[e,h2]at this;exact co _ this
    ·rintro(h|⟨rfl|h,h'⟩)
     ·exact .inl h
     ·exact absurd h2 h'
     ·exact .inr h
   ·rw[if_neg h2,aB,aB]
    have d:=qh b h2;constructor
    ·rintro(h|rfl|h)
     ·exact .inl h
     ·exact .inr ⟨.inl rfl,h2⟩
     ·refine .inr ⟨.inr h,fun e=>?_⟩
      have:=fR d (a.1 q h);rw[e]at this;exact co _ this
    ·rintro(h|⟨rfl|h,h'⟩)
     ·exact .inl h
     ·exact .inr (.inl rfl)
     ·exact .inr (.inr h)
def RadRoot(W:Nat→Prop)(h:ad)(r:Option Addr)(l:List Pr):Prop:=(r=none∧l= [])∨∃b,r=some ⟨b,0,none⟩∧RadAt W h b l
theorem RadRoot.upd0{W:Nat→Prop}{h h':ad}{r:Option Addr}{l:List Pr}(k:Upd No h h')(t:RadRoot W h r l):RadRoot W h' r l:=t.imp id fun⟨b,e,t⟩=>⟨b,e,t.upd0 k⟩
theorem rz{a b:ByteArray}:a.data.toList=b.data.toList↔a=b:=by
 constructor
 ·intro h;cases a;cases b;exact congrArg nJ (Array.toList_inj.1 h)
 ·rintro rfl;rfl
theorem Jg{W:Nat→Prop}{h:ad}(c:∀y,W y→y<h.size){K:Option Addr→ad→Prop}(a:∀h' b,RadAt W h' b []→Upd No h h'→K (some ⟨b,0,none⟩) h'):HC PG uA [] [.c .ptr] K h:=by
 refine LW ?_;unfold CI PN;refine bM (a _ h.size ⟨none,.nil,⟨⟨#[]⟩,⟨none,0,0⟩,none,[],cq h abd cf,rfl,Sl.nil oe,⟨aj _,fun hx=>Nat.lt_irrefl _ (c _ hx)⟩,rfl⟩,trivial,fun k v=>?_⟩ (Upd.hnew No h _ _))
 simp[x7,B8]
theorem FX{W:Nat→Prop}{h:ad}{r:Option Addr}{l:List Pr}(t:RadRoot W h r l)(d:∀y,W y→y<h.size){K:Option Addr→ad→Prop}(a:∀h' b,RadAt W h' b l→Upd No h h'→(r=some ⟨b,0,none⟩∨r=none)→K (some ⟨b,0,none⟩) h'):HC PG sy [.pointer r] [.c .ptr] K h:=by
 refine Pa r ?_;unfold Fm;rcases t with⟨rfl,rfl⟩|⟨b,rfl,t⟩
 ·exact au.2 (Jg d fun h' b t c=>a h' b t c (.inr rfl))
 ·exact ag.2 (a h b t (Upd.refl _ _) (.inl rfl))
theorem Qi{W:Nat→Prop}{h:ad}{r:Option Addr}{l:List Pr}(t:RadRoot W h r l)(B:∀y,W y→y<h.size)(m:bS l)(p:Pr)(H:p.1.size≤1000000){K:Option Addr×Bool→ad→Prop}
  (I:∀h' b' a,Upd No h h'→RadAt W h' b' (hJ p l)→(p∈l→r=some ⟨b',0,none⟩∨r=none)→K (some ⟨b',0,none⟩,a) h'):
  HC PG AZ [.pointer none,.pointer r,.agg #[.string p.1,.string p.2]] [.c .ptr,.c .bool] K h:=by
 refine Ru none r p ?_;unfold Hw az w9 XM;have k1:=Upd.hnew No h [.string p.1,.string p.2] ao;have b1:=cq h [.string p.1,.string p.2] ao;refine bM ?_;simp only[cR h];generalize hnew h [.string p.1,.string p.2] ao=h1 at k1 b1;have g:∀{h':ad},Upd No h1 h'→∀i,aO h' (adr ⟨h.size,0,none⟩ i)=(#[.string p.1,.string p.2]:Array Value)[i]?:=fun k i=>by rw[cp,bF (k.get0 b1),aQ]
 have C:=Upd.refl No h1;refine⟨p.1,g C 0,p.2,g C 1,FX (t.upd0 k1) (fun y o=>aD (B y o) k1.size) fun h2 b L c D=>⟨g c 1,g c 0,?_⟩⟩
 obtain⟨w,F,J,E,A⟩:=L.ex;refine Ya (p.1.size+1) p.1 p.2 (by omega) H J (fun y o=>aD (B y o) (k1.tr c).size) E fun G b3 M F' a N x z u s j n=>?_
 refine I G b3 a ((k1.tr c).tr x) ⟨M,F',z,u,fun k v=>?_⟩ fun hm=>?_
 ·rw[kI,s k v,←kI,A k v]
  constructor
  ·rintro(⟨rfl,rfl⟩|⟨d,q,f,rfl,rfl⟩)
   ·exact⟨p,(uK m).2 (.inl rfl),rfl,rfl⟩
   ·exact⟨q,(uK m).2 (.inr ⟨f,fun e=>d (by rw[e])⟩),rfl,rfl⟩
  ·rintro⟨q,f,rfl,rfl⟩
   rcases(uK m).1 f with rfl|⟨f,d⟩
   ·exact .inl ⟨rfl,rfl⟩
   ·exact .inr ⟨fun e=>d (rz.1 e),q,f,rfl,rfl⟩
 ·have:=n (kI.1 ((A _ _).2 ⟨p,hm,rfl,rfl⟩))
  rw[(j this).1];exact D
def T3(l:List Pr)(xs:List UInt8):Prop:=∃w F,ge F∧x7 w F=US l∧xs=kE ([],w,F)
theorem AV{w:Option ByteArray}{F:Fo}{l:List Pr}(hc:ge F)(c:x7 w F=US l)(a:Fit l):Po F∧∀v,w=some v→v.size≤10000:=by
 have hm:∀k v,uY w F k v→k.length≤10000∧v.size≤10000:=fun k v hi=>by
  have:=kI.2 hi;rw[c]at this;obtain⟨q,b,e⟩:=List.mem_map.1 this;cases e;have:=a q b;exact⟨by simpa using this.1,this.2⟩
 exact⟨TB hc fun k v hi=>hm k v (.inr hi),fun v hv=>(hm [] v (.inl ⟨rfl,hv⟩)).2⟩
theorem aan{l l':List Pr}{xs a:List UInt8}(h:T3 l xs)(h':T3 l' a)(m:Fit l)(g:Fit l'):xs=a↔l=l':=by
 obtain⟨w,F,c,e,rfl⟩:=h;obtain⟨n,F',c',d,rfl⟩:=h';have i:=AV c e m;have j:=AV c' d g;constructor
 ·intro hx
  have hx:kE ([],w,F)++ []=kE ([],n,F')++ []:=by rw[hx]
  unfold kE at hx;simp only[ar]at hx;obtain⟨_,f,k,hx⟩:=MW (aS _) (aS _) i.2 j.2 (j6 c) (j6 c') hx;obtain⟨b,_⟩:=Dh i.1 j.1 k hx;exact UR (by rw[←e,←d,f,b])
 ·rintro rfl
  obtain⟨f,b⟩:=Yf c c' (e.trans d.symm);rw[f,b]
theorem Ei{l:List Pr}{xs:List UInt8}(h:T3 l xs)(d:Fit l):xs.length≤20010+2*l.length*20010:=by
 obtain⟨w,F,c,e,rfl⟩:=h;have b:=AV c e d;have f:=MV (lab:= []) (n:=F.toL.length) (aS _) b.2;have h2:=Dg b.1;have g:=OU c;have a:=congrArg List.length e;unfold x7 US at a;rw[ac,List.length_map]at a;have i:OV F*20010≤2*l.length*20010:=cB _ (by omega);unfold kE;rw[ac];simp only;omega
theorem Qk{W:Nat→Prop}{h:ad}{b:Nat}{l:List Pr}(t:RadAt W h b l)(m:bS l)(d:Fit l)(p:l.length≤60000){K:SliceV→ad→Prop}
  (k:∀s' h' xs,T3 l xs→OwnS rO 1 cP (fun y=>h.size≤y) h' s' xs→Upd No h h'→K s' h'):HC PG yc [.pointer (some ⟨b,0,none⟩)] [.c .slice] K h:=by
 refine LV _ ?_;unfold CH;refine ag.2 ?_;obtain⟨w,F,n,a,f⟩:=t.ex;have e:=Oc a m f;have c:=AV a e d;have hv:T3 l (kE ([],w,F)):=⟨w,F,a,e,rfl⟩;have o:=Ei hv d;exact X8 (lab:= []) (aS _) c.2 (j6 a) (N7 c.1) (s:=⟨none,0,0⟩) (xs:= []) (M:=fun y=>h.size≤y) n rfl (Upd.refl _ _) (fun _ h=>h) (OwnS.nil wJ) (fun _ h=>h) (by rw[List.length_nil];omega) fun s' h' j g=>k s' h' _ hv j (g.mono fun y i=>.inr i)
end Go.Proofs
namespace Go.Proofs
open Go Go.Lift
theorem aW{h:ad}{cs:List Value}{t:TypeId}{k:ad→Prop}(a:∀h',h'[h.size]? =some (.cells cs.toArray t (0,0))→Upd No h h'→k h'):At (hnew h cs t) k:=
 bM (a _ (cq h cs t) (Upd.hnew No h cs t))
theorem vc{h:ad}{b:Nat}{c:Array Value}{t:TypeId}(a:h[b]? =some (.cells c t (0,0))) (i:Nat):aO h (adr ⟨b,0,none⟩ i)=c[i]?:=by rw[cp,aQ];exact bF a
theorem Av{h:ad}{b:Nat}{c:Array Value}{t:TypeId}(a:h[b]? =some (.cells c t (0,0))) (i j:Nat):aO h (adr (adr ⟨b,0,none⟩ i) j)=c[i+j]?:=by rw[cp,cp,aQ];exact bF a
theorem vI{h:ad}{b i:Nat}{c c':Array Value}{t:TypeId}{v:Value}{k:ad→Prop}(d:h[b]? =some (.cells c t (0,0))) (hi:i<c.size) (e:c.setIfInBounds i v=c') (f:∀h',h'[b]? =some (.cells c' t (0,0))→Upd (· =b) h h'→k h'):Wr h (adr ⟨b,0,none⟩ i)∧At (hset h (adr ⟨b,0,none⟩ i) v) k:=by
 rw[cp,aQ];exact⟨iw d hi,wK d fun h' a g=>f h' (e▸a) g⟩
theorem _root_.Go.Lift.Upd.own{h a h2:ad}{b:Nat}(k:Upd No h a)(c:Upd (· =b) a h2)(d:h.size≤b):Upd No h h2:=k.trans c fun x hx=>.inr (by have hx:x=b:=hx;omega)
theorem _root_.Go.Lift.Upd.oth{h h':ad}{b c:Nat}{o:Obj}(d:Upd (· =b) h h')(hc:h[c]? =some o) (a:c≠b):h'[c]? =some o:=d.get hc a
abbrev Tr:=Int×Int×Int×Int×(Option Addr)×(Option Addr)
abbrev oF(t:Tr):List Value:= [.int .i64 t.1,.int .u64 t.2.1,.int .u64 t.2.2.1,.int .u64 t.2.2.2.1,.pointer t.2.2.2.2.1,.pointer t.2.2.2.2.2]
abbrev Ia(t:Tr):Value:=.agg #[.int .i64 t.1,.int .u64 t.2.1,.int .u64 t.2.2.1,.int .u64 t.2.2.2.1,.pointer t.2.2.2.2.1,.pointer t.2.2.2.2.2]
def Pro(W:Nat→Prop)(h h2:ad)(y:Nat):Prop:=W y∨(h.size≤y∧y<h2.size)
theorem Pro.lt{W:Nat→Prop}{h h2:ad}(a:∀y,W y→y<h.size)(k:Upd No h h2):∀y,Pro W h h2 y→y<h2.size:=fun y b=>b.elim (fun h=>aD (a y h) k.size) fun h=>h.2
theorem Pro.hm{W:Nat→Prop}{h h2:ad}:∀y,Pro W h h2 y→W y∨h.size≤y:=fun _ a=>a.imp id fun h=>h.1
theorem Pro.sub{W:Nat→Prop}{h h2 b:ad}:∀y,W y→Pro W h h2 y∨b.size≤y:=fun _ a=>.inl (.inl a)
theorem RootAt.less{W W':Nat→Prop}{x:Hs}{h:ad}(hm:∀b,W' b→W b∨h.size≤b){r:Option Addr}{l:List Pr}(t:RootAt W x h r l):RootAt W' x h r l:=t.imp id fun⟨b,e,t⟩=>⟨b,e,TrieAt.less hm t⟩
theorem RadRoot.less{W W':Nat→Prop}{h:ad}(hm:∀b,W' b→W b∨h.size≤b){r:Option Addr}{l:List Pr}(t:RadRoot W h r l):RadRoot W' h r l:=t.imp id fun⟨b,e,t⟩=>⟨b,e,t.less hm⟩
def TreeIs(W:Nat→Prop)(h:ad)(a:Int)(x:Hs)(t:Tr)(l:List Pr):Prop:=(a=0∧∃b,t=(0,x.k0,x.k1,x.mask,some ⟨b,0,none⟩,none)∧TrieAt W x h 13 b l)∨(a=1∧∃b,t=(1,0,0,0,none,some ⟨b,0,none⟩)∧RadAt W h b l)
theorem TreeIs.upd0{W:Nat→Prop}{h h':ad}{a:Int}{x:Hs}{t:Tr}{l:List Pr}(k:Upd No h h')(i:TreeIs W h a x t l):TreeIs W h' a x t l:=
 i.imp (fun⟨e,b,c,t⟩=>⟨e,b,c,TrieAt.upd0 k t⟩) fun⟨e,b,c,t⟩=>⟨e,b,c,t.upd0 k⟩
theorem TreeIs.less{W W':Nat→Prop}{h:ad}(hm:∀b,W' b→W b∨h.size≤b){a:Int}{x:Hs}{t:Tr}{l:List Pr}(i:TreeIs W h a x t l):TreeIs W' h a x t l:=
 i.imp (fun⟨e,b,c,t⟩=>⟨e,b,c,TrieAt.less hm t⟩) fun⟨e,b,c,t⟩=>⟨e,b,c,t.less hm⟩
theorem TreeIs.updM{W M:Nat→Prop}{h h':ad}(k:Upd M h h')(hm:∀b,M b→W b∨h.size≤b){a:Int}{x:Hs}{t:Tr}{l:List Pr}(i:TreeIs W h a x t l):TreeIs W h' a x t l:=
 i.imp (fun⟨e,b,c,t⟩=>⟨e,b,c,TrieAt.updM k hm t⟩) fun⟨e,b,c,t⟩=>⟨e,b,c,t.updM k hm⟩
theorem TreeIs.pro{W:Nat→Prop}{h h2:ad}(k:Upd No h h2){a:Int}{x:Hs}{t:Tr}{l:List Pr}(i:TreeIs W h a x t l):TreeIs (Pro W h h2) h2 a x t l:=(i.less Pro.hm).upd0 k
theorem LI{W:Nat→Prop}{x:Hs}{h:ad}(e:∀y,W y→y<h.size){K:Option Addr→ad→Prop}(c:∀h' b,TrieAt W x h' 13 b []→Upd No h h'→K (some ⟨b,0,none⟩) h'):HC PG qD [] [.c .ptr] K h:=by
 refine Cz ?_;unfold yo;exact se e fun h' b a d=>c h' b (PV a) d
abbrev IM:Tr:=(0,0,0,0,none,none)
theorem GV{W:Nat→Prop}{x:Hs}{h:ad}{r:Option Addr}{l:List Pr}(t:RootAt W x h r l)(u:∀y,W y→y<h.size){K:Tr→ad→Prop}(s:∀h' t,TreeIs W h' 0 x t l→Upd No h h'→K t h'):HC PG sr [.agg #[.int .u64 x.k0,.int .u64 x.k1,.int .u64 x.mask],.pointer r] [.agg [.int .i64,.int .u64,.int .u64,.int .u64,.ptr,.ptr]] K h:=by
 refine KA (x.k0,x.k1,x.mask) r ?_;unfold Bm aZ af aH eW BK Ay Lo;refine aW fun j b1 k1=>aW fun h2 b2 k=>?_
 have w:=bC b1;have v:=bC b2;have d:=k1.tr k;refine Join.intro (fun t h'=>Upd No h2 h'∧∃b,t=some ⟨b,0,none⟩∧TrieAt (Pro W h h2) x h' 13 b l) (fun R o=>?_) ?_
 ·rcases t with⟨rfl,rfl⟩|⟨b,rfl,t⟩
  ·exact au.2 (LI (Pro.lt u d) fun q b t a=>o _ _ ⟨a,b,rfl,t⟩)
  ·exact ag.2 (o _ _ ⟨Upd.refl _ _,b,rfl,TrieAt.upd0 d (TrieAt.less Pro.hm t)⟩)
 ·rintro m q ⟨a,b,rfl,m⟩
  have g:=a.get0 (k.get0 b1);refine⟨_,vc g 0,_,vc g 1,_,vc g 2,?_⟩;refine dH (c:=oF IM) (vs:=oF (0,x.k0,x.k1,x.mask,some ⟨b,0,none⟩,none)) (a.get0 b2) rfl fun p e f=>?_
  refine⟨_,vc e 0,_,vc e 1,_,vc e 2,_,vc e 3,_,vc e 4,_,vc e 5,?_⟩;have i:h.size≤j.size:=k1.size;exact s p _ (.inl ⟨rfl,b,rfl,TrieAt.less Pro.sub (TrieAt.updM f (fun y n=>.inl (.inr (by have n:y=j.size:=n;omega))) m)⟩) ((d.tr a).own f i)
theorem GU{W:Nat→Prop}{x:Hs}{h:ad}{r:Option Addr}{l:List Pr}(t:RadRoot W h r l)(o:∀y,W y→y<h.size){K:Tr→ad→Prop}(n:∀h' t,TreeIs W h' 1 x t l→Upd No h h'→K t h'):HC PG sq [.pointer r] [.agg [.int .i64,.int .u64,.int .u64,.int .u64,.ptr,.ptr]] K h:=by
 refine Kz r ?_;unfold Bl aZ af aH eW Ay Lo;refine aW fun h2 b2 d=>?_
 have p:=bC b2;refine Join.intro (fun t h'=>Upd No h2 h'∧∃b,t=some ⟨b,0,none⟩∧RadAt (Pro W h h2) h' b l) (fun R g=>?_) ?_
 ·rcases t with⟨rfl,rfl⟩|⟨b,rfl,t⟩
  ·exact au.2 (Jg (Pro.lt o d) fun m b t a=>g _ _ ⟨a,b,rfl,t⟩)
  ·exact ag.2 (g _ _ ⟨Upd.refl _ _,b,rfl,(t.less Pro.hm).upd0 d⟩)
 ·rintro j m ⟨a,b,rfl,j⟩
  refine dH (c:=oF IM) (vs:=oF (1,0,0,0,none,some ⟨b,0,none⟩)) (a.get0 b2) rfl fun k e f=>?_
  refine⟨_,vc e 0,_,vc e 1,_,vc e 2,_,vc e 3,_,vc e 4,_,vc e 5,?_⟩;exact n k _ (.inr ⟨rfl,b,rfl,(j.updM f (fun y i=>.inl (.inr (by have i:y=h.size:=i;omega)))).less Pro.sub⟩) ((d.tr a).own f (aj _))
theorem N2{W:Nat→Prop}{x:Hs}{h:ad}(s:∀y,W y→y<h.size){a:Int}(m:a=0∨a=1){K:Tr×Int→ad→Prop}(q:∀h' t,TreeIs W h' a x t []→Upd No h h'→K (t,0) h'):HC PG zx [.int .i64 a,.agg #[.int .u64 x.k0,.int .u64 x.k1,.int .u64 x.mask]] [.agg [.int .i64,.int .u64,.int .u64,.int .u64,.ptr,.ptr],.c (.int .i64)] K h:=by
 refine Ub a (x.k0,x.k1,x.mask) ?_;unfold KM aZ af aH eW BK xa Ay rT;refine aW fun j b1 k1=>aW fun h2 b2 p=>?_
 have w:=bC b1;have v:=bC b2;have f:=k1.tr p;have i:h.size≤j.size:=k1.size;have n:=p.get0 b1;rcases m with rfl|rfl
 ·refine au.2 ⟨_,vc n 0,_,vc n 1,_,vc n 2,?_⟩
  refine GV (W:=Pro W h h2) (x:=x) (l:= []) (.inl ⟨rfl,rfl⟩) (Pro.lt s f) fun u t o e=>?_
  refine dH (c:=oF IM) (vs:=oF t) (e.get0 b2) rfl fun k b d=>?_
  refine⟨_,vc b 0,_,vc b 1,_,vc b 2,_,vc b 3,_,vc b 4,_,vc b 5,?_⟩;exact q k t ((o.updM d (fun y g=>.inl (.inr (by have g:y=j.size:=g;omega)))).less Pro.sub) ((f.tr e).own d i)
 ·refine ag.2 (au.2 ?_)
  refine GU (W:=Pro W h h2) (x:=x) (l:= []) (.inl ⟨rfl,rfl⟩) (Pro.lt s f) fun u t o e=>?_
  refine dH (c:=oF IM) (vs:=oF t) (e.get0 b2) rfl fun k b d=>?_
  refine⟨_,vc b 0,_,vc b 1,_,vc b 2,_,vc b 3,_,vc b 4,_,vc b 5,?_⟩;exact q k t ((o.updM d (fun y g=>.inl (.inr (by have g:y=j.size:=g;omega)))).less Pro.sub) ((f.tr e).own d i)
theorem BL{k v:ByteArray}(b:k.size≤256)(h2:v.size≤4096){h:ad}{K:Int→ad→Prop}(a:K 0 h):HC PG l7 [.string k,.string v] [.c (.int .i64)] K h:=by
 refine E6 k v ?_;unfold zV;refine ax (fun h=>absurd h (by omega)) fun _=>ax (fun h=>absurd h (by omega)) fun _=>a
theorem PY{W:Nat→Prop}{x:Hs}{h:ad}{q:Int}{t:Tr}{l:List Pr}(i:TreeIs W h q x t l)(J:∀y,W y→y<h.size)(G:bS l)(O:l.length≤1000000)(p:Pr)(A:p.1.size≤256)(D:p.2.size≤4096){K:Tr×Int→ad→Prop}
  (I:∀h' t',TreeIs W h' q x t' (hJ p l)→(p∈l→t'=t)→Upd No h h'→K (t',0) h'):HC PG pK [Ia t,.pointer none,.agg #[.string p.1,.string p.2]] [.agg [.int .i64,.int .u64,.int .u64,.int .u64,.ptr,.ptr],.c (.int .i64)] K h:=by
 refine Gx t none p ?_;unfold yW aZ af aH eW xa Ay rT az is df Lo dG w9 rV;refine aW fun H b1 k1=>aW fun h2 b2 z=>aW fun S b3 w=>?_
 have R:=bC b1;have U:=bC b2;have P:=bC b3;have V:h.size≤H.size:=k1.size;have Q:H.size≤h2.size:=z.size;have T:=w.size;have n:=(k1.tr z).tr w;have o:=w.get0 (z.get0 b1);have u:=w.get0 b2;have N:=i.pro n;have v:=Pro.lt J n;refine⟨_,vc u 0,_,vc u 1,BL A D (ag.2 ?_)⟩;rcases N with⟨rfl,b,rfl,C⟩|⟨rfl,b,rfl,C⟩
 ·refine⟨_,vc o 0,ag.2 ⟨_,Av o 1 0,_,Av o 1 1,_,Av o 1 2,_,vc o 4,p.1,vc u 0,p.2,vc u 1,?_⟩⟩
  refine Re (.inr ⟨b,rfl,C⟩) v G O p fun M s f F d=>?_
  refine vI (i:=4) (c':=(oF (0,x.k0,x.k1,x.mask,some ⟨s,0,none⟩,none)).toArray) (f.get0 o) (show 4<6 by decide) rfl fun L j a=>?_
  refine⟨_,vc j 0,_,vc j 1,_,vc j 2,_,vc j 3,_,vc j 4,_,vc j 5,?_⟩;refine dH (c:=oF IM) (vs:=oF (0,x.k0,x.k1,x.mask,some ⟨s,0,none⟩,none)) (a.oth (f.get0 b3) (by omega)) rfl fun E g k=>?_
  refine⟨_,vc g 0,_,vc g 1,_,vc g 2,_,vc g 3,_,vc g 4,_,vc g 5,?_⟩;refine I E _ (.inl ⟨rfl,s,rfl,TrieAt.less Pro.sub (TrieAt.updM k (fun y m=>.inl (.inr (by have m:y=h2.size:=m;omega))) (TrieAt.updM a (fun y m=>.inl (.inr (by have m:y=h.size:=m;omega))) F))⟩) (fun hm=>?_) (((n.tr f).own a (aj _)).own k (by omega))
  rcases d hm with e|e
  ·rw[e]
  ·cases e
 ·refine⟨_,vc o 0,au.2 ⟨_,vc o 5,p.1,vc u 0,p.2,vc u 1,?_⟩⟩
  refine Qi (.inr ⟨b,rfl,C⟩) v G p (by omega) fun M s B f F d=>?_
  refine vI (i:=5) (c':=(oF (1,0,0,0,none,some ⟨s,0,none⟩)).toArray) (f.get0 o) (show 5<6 by decide) rfl fun L j a=>?_
  refine⟨_,vc j 0,_,vc j 1,_,vc j 2,_,vc j 3,_,vc j 4,_,vc j 5,?_⟩;refine dH (c:=oF IM) (vs:=oF (1,0,0,0,none,some ⟨s,0,none⟩)) (a.oth (f.get0 b3) (by omega)) rfl fun E g k=>?_
  refine⟨_,vc g 0,_,vc g 1,_,vc g 2,_,vc g 3,_,vc g 4,_,vc g 5,?_⟩;refine I E _ (.inr ⟨rfl,s,rfl,((F.updM a (fun y m=>.inl (.inr (by have m:y=h.size:=m;omega)))).updM k (fun y m=>.inl (.inr (by have m:y=h2.size:=m;omega)))).less Pro.sub⟩) (fun hm=>?_) (((n.tr f).own a (aj _)).own k (by omega))
  rcases d hm with e|e
  ·rw[e]
  ·cases e
end Go.Proofs
namespace Go.Proofs
open Go Go.Lift
def qy(t u:Tr):Bool:=(t.1==u.1)&&((((t.2.1==u.2.1)&&((t.2.2.1==u.2.2.1)&&true)))&&((t.2.2.2.1==u.2.2.2.1)&&true))
theorem PZ{t u:Tr}{h:ad}{K:Bool→ad→Prop}(c:∀h',Upd No h h'→K (qy t u) h'):HC PG xp [Ia t,Ia u] [.c .bool] K h:=by
 refine Rs t u ?_;unfold Hv aZ rT df;refine aW fun d b1 k1=>aW fun h2 b2 b=>?_
 have a:=b.get0 b1;refine⟨_,vc a 0,_,vc b2 0,?_⟩;have:=c h2 (k1.tr b);unfold qy at this;rcases hb:(t.1==u.1)with _|_
 ·rw[hb]at this
  exact ag.2 this
 ·rw[hb]at this
  exact au.2 ⟨_,Av a 1 0,_,Av a 1 1,_,Av a 1 2,_,Av b2 1 0,_,Av b2 1 1,_,Av b2 1 2,this⟩
theorem BF{W:Nat→Prop}{x:Hs}{h:ad}{b:Nat}{l:List Pr}(t:TrieAt W x h 13 b l){K:Option Addr→ad→Prop}(a:∀h',Upd No h h'→K (some ⟨b,0,none⟩) h'):HC PG j5 [Ia (0,x.k0,x.k1,x.mask,some ⟨b,0,none⟩,none)] [.c .ptr] K h:=by
 refine EZ (0,x.k0,x.k1,x.mask,some ⟨b,0,none⟩,none) ?_;unfold xD aZ aH rT;refine aW fun c b1 k1=>?_
 refine Join.intro (fun t h'=>t=false∧h'=c) (fun R d=>⟨_,vc b1 0,au.2 ⟨_,vc b1 4,d _ _ ⟨rfl,rfl⟩⟩⟩) ?_
 rintro t h' ⟨rfl,rfl⟩;exact ag.2 ⟨_,vc b1 4,a h' k1⟩
def NH(a:Int)(x:Hs)(l:List Pr)(xs:List UInt8):Prop:=(a=0∧xs=0::gt x 13 l)∨(a=1∧∃ys,T3 l ys∧xs=1::ys)
theorem BU{h a:ad}{b:UInt8}(c:a[h.size]? =some (.cells #[.int .u8 (b.toNat:Int)] cP (0,0))):OwnS rO 1 cP (fun y=>h.size≤y) a ⟨some ⟨h.size,0,none⟩,1,1⟩ [b]:=⟨rfl,wJ,aj _,.inr ⟨h.size,[],rfl,aj _,c,rfl⟩⟩
theorem FR{W:Nat→Prop}{x:Hs}{h:ad}{a:Int}{t:Tr}{l:List Pr}(i:TreeIs W h a x t l)(C:bS l)(m:Fit l)(w:l.length≤60000){K:SliceV→ad→Prop}
  (G:∀s' h' xs,NH a x l xs→OwnS rO 1 cP (fun y=>h.size≤y) h' s' xs→Upd No h h'→K s' h'):HC PG l0 [Ia t] [.c .slice] K h:=by
 refine EX t ?_;unfold xB aZ af aH rT ut;refine aW fun o b1 k1=>?_
 have J:=k1.size;have app:∀{b:UInt8} {h2 f:ad} {s:SliceV} {xs:List UInt8},h2[o.size]? =some (.cells #[.int .u8 (b.toNat:Int)] cP (0,0))→Upd No o h2→OwnS rO 1 cP (fun y=>h2.size≤y) f s xs→Upd No h2 f→xs.length≤70000000000000→NH a x l (b::xs)→
   ∃xs7,SRow f s.a (s.len*1) xs7∧AppP (some [.int .u8 0]) 1 1 cP (some (aG o)) 1 1 s.len xs7 f (fun A B=>K A B):=fun{b h2 f s xs} n c z g I hv=>by
  refine⟨_,(z.sl (W:=No) fun _ _ _ h=>h).srow,?_⟩
  have j:=c.tr g;have L:=bC n;have D:OwnS rO 1 cP (fun y=>h.size≤y) f ⟨some ⟨o.size,0,none⟩,1,1⟩ [b]:=((BU n).upd g fun _ _ h=>h).more fun y v=>by omega
  refine AppP.own (ys:=xs) D z.len rfl (Ek _) rfl (by omega) (by simp only[aE];omega) (by have:=j.size;omega) fun s' h' p u=>?_
  exact G s' h' _ hv p ((k1.tr j).trans u fun y v=>.inr v)
 rcases i with⟨rfl,b,rfl,t⟩|⟨rfl,b,rfl,t⟩
 ·refine⟨_,vc b1 0,ag.2 (aW fun h2 b2 c=>?_)⟩
  have d:=c.get0 b1;refine⟨_,vc d 0,_,vc d 1,_,vc d 2,_,vc d 3,_,vc d 4,_,vc d 5,?_⟩;refine BF (TrieAt.upd0 (k1.tr c) t) fun f g=>?_
  refine aaf (TrieAt.upd0 ((k1.tr c).tr g) t) m w fun E F e q=>?_
  have H:=g.size;have k:=rg (x:=x) 13 m;have n:l.length*(20004+9*(13+1))≤60000*(20004+9*(13+1)):=cB _ w;exact app (b:=0) b2 c (e.more fun y v=>by omega) (g.tr q) (by omega) (.inl ⟨rfl,rfl⟩)
 ·refine⟨_,vc b1 0,au.2 (aW fun h2 b2 c=>?_)⟩
  have d:=c.get0 b1;refine⟨_,vc d 5,?_⟩;refine Qk (t.upd0 (k1.tr c)) C m w fun E F xs hv e q=>?_
  have k:=Ei hv m;have n:2*l.length*20010≤2*60000*20010:=cB _ (by omega);exact app (b:=1) b2 c e q (by omega) (.inr ⟨rfl,xs,hv,rfl⟩)
theorem M2{W W':Nat→Prop}{h h':ad}{a c:Int}{x e:Hs}{t u:Tr}{l l':List Pr}(i:TreeIs W h a x t l)(f:TreeIs W' h' c e u l')(d:qy t u=true):a=c∧(a=0→x=e):=by
 rcases i with⟨rfl,b,rfl,_⟩|⟨rfl,b,rfl,_⟩<;>rcases f with⟨rfl,b',rfl,_⟩|⟨rfl,b',rfl,_⟩
 ·refine⟨rfl,fun _=>?_⟩
  unfold qy at d;simp only[bH,beq_iff_eq,Bool.and_true,true_and]at d;cases x;cases e;simp only at d;simp only[Hs.mk.injEq];exact⟨d.1.1,d.1.2,d.2⟩
 ·simp[qy]at d
 ·simp[qy]at d
 ·exact⟨rfl,fun h=>by cases h⟩
theorem PW{a:Int}{x f:Hs}(hx:a=0→x=f){l l':List Pr}{xs c:List UInt8}(hv:NH a x l xs)(b:NH a f l' c)(j:Fit l)(d:Fit l')(k:l.length≤60000)(g:l'.length≤60000)(m:bS l)(i:bS l'):xs=c↔l=l':=by
 rcases hv with⟨rfl,rfl⟩|⟨rfl,ys,hv,rfl⟩<;>rcases b with⟨e,rfl⟩|⟨e,n,b,rfl⟩
 ·rw[hx rfl]
  constructor
  ·intro h
   have h:gt f 13 l++ []=gt f 13 l'++ []:=by rw[(fi.inj h).2]
   exact(Ja 13 j d k g m i h).1
  ·rintro rfl;rfl
 ·cases e
 ·cases e
 ·rw[fi.injEq,←aan hv b j d]
  exact⟨fun h=>h.2,fun h=>⟨rfl,h⟩⟩
theorem IU{W W':Nat→Prop}{x D:Hs}{h:ad}{k c:Int}{t u:Tr}{l l':List Pr}(i:TreeIs W h k x t l)(A:TreeIs W' h c D u l')(z:bS l)(y:Fit l)(C:l.length≤60000)(f:bS l')(j:Fit l')(g:l'.length≤60000){K:Bool→ad→Prop}
  (n:∀h',Upd No h h'→K (qy t u&&decide (l=l')) h'):HC PG uO [Ia t,Ia u] [.c .bool] K h:=by
 refine Rr t u ?_;unfold Hu aZ af aH rT ut HP;refine aW fun I b1 k1=>aW fun h2 b2 w=>?_
 have b:=w.get0 b1;refine⟨_,vc b 0,_,vc b 1,_,vc b 2,_,vc b 3,_,vc b 4,_,vc b 5,_,vc b2 0,_,vc b2 1,_,vc b2 2,_,vc b2 3,_,vc b2 4,_,vc b2 5,?_⟩;refine PZ fun F o=>?_
 have a:=(k1.tr w).tr o;have e:=o.get0 b;have b3:=o.get0 b2;rcases hl:qy t u with _|_
 ·rw[hl]at n
  exact ag.2 (n F a)
 ·rw[hl]at n
  refine au.2 ⟨_,vc e 0,_,vc e 1,_,vc e 2,_,vc e 3,_,vc e 4,_,vc e 5,_,vc b3 0,_,vc b3 1,_,vc b3 2,_,vc b3 3,_,vc b3 4,_,vc b3 5,?_⟩;refine FR (i.upd0 a) z y C fun G J xs hv v q=>?_
  have d:=q.get0 b3;refine⟨⟨vc d 0,vc d 1,vc d 2,vc d 3,vc d 4,vc d 5⟩,?_⟩;refine FR (A.upd0 (a.tr q)) f j g fun H E ys s p B=>?_
  have m:=v.upd B fun _ _ h=>h
  refine TQ (W:=No) (W':=No) (m.sl fun _ _ _ h=>h) (p.sl fun _ _ _ h=>h) ?_
  obtain⟨rfl,hx⟩:=M2 i A hl;have:=n E ((a.tr q).tr B);rw[decide_eq_decide.2 (PW hx hv s y j C g z f)];exact this
theorem TreeIs.plain{W:Nat→Prop}{h:ad}{e:Int}{x:Hs}{t:Tr}{l:List Pr}(i:TreeIs W h e x t l):(∀a,t.2.2.2.2.1=some a→gT h a)∧(∀a,t.2.2.2.2.2=some a→gT h a):=by
 rcases i with⟨rfl,b,rfl,t⟩|⟨rfl,b,rfl,t⟩
 ·obtain⟨s,g,_⟩:=t
  obtain⟨d,n,sp,sk,ow,f,_⟩:=g.ex;refine⟨fun a c=>?_,fun a c=>(by cases c)⟩
  cases c;exact⟨_,_,f,show 0<6 by decide⟩
 ·obtain⟨w,F,⟨val,s,ow,ks,f,_⟩,_⟩:=t.ex
  refine⟨fun a c=>(by cases c),fun a c=>?_⟩
  cases c;exact⟨_,_,f,show 0<5 by decide⟩
end Go.Proofs
namespace Go.Proofs
open Go Go.Lift
abbrev zPrL:List Value:= [.string (⟨#[]⟩:ByteArray),.string (⟨#[]⟩:ByteArray)]
theorem tG{h:ad}{t:TypeId}{p:Pr}{k:ad→Prop}(d:∀h',h'[h.size]? =some (.cells #[.string p.1,.string p.2] t (0,0))→Upd No h h'→k h'):
  At (hnew h [.string (⟨#[]⟩:ByteArray),.string (⟨#[]⟩:ByteArray)] t) fun b=>wn b (some (aG h)) 0 [.string p.1,.string p.2]∧At (jj b (aG h) 0 [.string p.1,.string p.2]) k:=by
 refine aW fun e b1 k1=>?_
 exact dH (c:=zPrL) (vs:= [.string p.1,.string p.2]) b1 rfl fun h2 b2 a=>d h2 b2 (k1.own a (aj _))
theorem yN{t:TypeId}{M:Nat→Prop}{h:ad}{so:SliceV}{out:List Pr}{p:Pr}{K:SliceV→ad→Prop}(e:OwnS eu 2 t M h so out)(hM:∀b,h.size≤b→M b)(g:out.length+1≤1000000000)
  (f:∀s' h',OwnS eu 2 t M h' s' (out++ [p])→Upd M h h'→K s' h'):
  ∃xs,SRow (hnew h [.string p.1,.string p.2] t) (some (aG h)) (1*2) xs∧AppP (some [.string (⟨#[]⟩:ByteArray),.string (⟨#[]⟩:ByteArray)]) 2 32 t so.a so.len so.cap 1 xs (hnew h [.string p.1,.string p.2] t) K:=by
 have k:=Upd.hnew No h [.string p.1,.string p.2] t;have c:OwnS eu 2 t (fun _=>True) (hnew h [.string p.1,.string p.2] t) ⟨some (aG h),1,1⟩ [p]:=⟨rfl,gu,aj _,.inr ⟨h.size,[],rfl,trivial,cq ..,rfl⟩⟩
 refine⟨_,(c.sl (W:=No) fun _ _ _ h=>h).srow,?_⟩
 refine AppP.own (ys:= [p]) (e.upd k fun _ _ h=>h) rfl rfl rfl rfl (by omega) (by simp only[aE];omega) (hM _ (by rw[jw];omega)) fun s' h' a d=>?_
 exact f s' h' a ((Upd.hnew M h _ _).tr d)
theorem Ev{p:Pr}:∀{A B:List Pr},(∀r∈A,kl r.1 p.1)→hJ p (A++B)=A++hJ p B
 | [],_,_=>rfl
 |r::A,B,h=>by
  rw[cJ,hH,if_pos (h r (av ..)),Ev fun q a=>h q (List.mem_cons_of_mem _ a)];rfl
theorem QR{p q:Pr}:∀{A:List Pr},(∃r∈A,kl p.1 r.1)→hJ p (A++ [q])=hJ p A++ [q]
 | [],h=>by obtain⟨r,e,_⟩:=h;simp at e
 |r::A,h=>by
  rw[cJ,hH,hH];by_cases b:kl r.1 p.1
  ·rw[if_pos b,if_pos b,QR]
   ·rfl
   ·obtain⟨d,a,c⟩:=h
    rcases aB.1 a with rfl|a
    ·exact absurd (fR b c) (co _)
    ·exact⟨d,a,c⟩
  ·rw[if_neg b,if_neg b]
   by_cases h2:r.1=p.1
   ·rw[if_pos h2,if_pos h2];rfl
   ·rw[if_neg h2,if_neg h2];rfl
theorem QP{p:Pr}:∀{l:List Pr},(∀q∈l,kl p.1 q.1)→hJ p l=p::l
 | [],_=>rfl
 |q::l,h=>by
  have a:=h q (av ..);rw[hH,if_neg fun h2=>co _ (fR a h2),if_neg fun e=>by rw[e]at a;exact co _ a]
theorem Nc{p:Pr}:∀{l:List Pr},bS l→hJ p (l.filter fun q=>decide (q.1≠p.1))=hJ p l
 | [],_=>rfl
 |r::l,a=>by
  have a:=aA.1 a;have keep:∀{l:List Pr},(∀q∈l,kl p.1 q.1)→(l.filter fun q=>decide (q.1≠p.1))=l:=fun{l} h=>List.filter_eq_self.2 fun q b=>decide_eq_true fun e=>by have:=h q b;rw[e]at this;exact co _ this
  rw[List.filter_cons,hH];by_cases e:r.1=p.1
  ·have d:∀q∈l,kl p.1 q.1:=fun q b=>by rw[←e];exact a.1 q b
   rw[if_neg (by simp[e]),if_neg (by rw[e];exact co _),if_pos e,keep d,QP d]
  ·rw[if_pos (by simpa using e),hH]
   by_cases c:kl r.1 p.1
   ·rw[if_pos c,if_pos c,Nc a.2]
   ·rw[if_neg c,if_neg c,if_neg e,if_neg e]
    have h2:=qh c e;rw[keep fun q b=>fR h2 (a.1 q b)]
theorem ga{i n:Nat}(h:i<n)(a:n≤9223372036854775807):IntKind.wrap .i64 ((i:Int)+1)=((i+1:Nat):Int):=by rw[Go.IntWalk.i64_in _ (by omega)];omega
theorem yC(p:Pr):∀{l:List Pr},(hJ p l).length≤l.length+1
 | []=>aj _
 |q::l=>by
  rw[hH];split
  ·have:=yC p (l:=l);simp only[al];omega
  ·split<;>simp
theorem wd{W W':Nat→Prop}{h h':ad}{a:Int}{x:Hs}{t u:Tr}{l l':List Pr}(i:TreeIs W h a x t l)(c:TreeIs W' h' a x u l'):qy t u=true:=by
 rcases i with⟨rfl,b,rfl,_⟩|⟨rfl,b,rfl,_⟩<;>rcases c with⟨e,b',rfl,_⟩|⟨e,b',rfl,_⟩
 ·simp[qy]
 ·cases e
 ·cases e
 ·simp[qy]
theorem acK{k:Int}(a:0≤k)(b:k≤255):IntKind.wrap .i64 (qR k 2)=0∨IntKind.wrap .i64 (qR k 2)=1:=by
 have:qR k 2=k%2:=Int.tmod_eq_emod_of_nonneg a;rw[this,dI (by omega)];omega
abbrev hsL(x:Hs):List Value:= [.int .u64 x.k0,.int .u64 x.k1,.int .u64 x.mask]
end Go.Proofs
namespace Go.Proofs
open Go Go.Lift
abbrev Wk:=Option Addr×ByteArray×Bool
theorem OwnS.pop{α:Type}{f:α→List Value}{d:Nat}{t:TypeId}{M:Nat→Prop}{h:ad}{s:SliceV}{xs:List α}{x:α}(c:OwnS f d t M h s (xs++ [x])):OwnS f d t M h ⟨aY s.a 0 s.cap d,xs.length,s.cap⟩ xs:=by
 have j:=c.len;have hc:=c.cap;rw[ac,aE]at j;refine⟨rfl,c.ne,by simp only;omega,c.blk.imp id fun⟨b,a,e,i,aO,g⟩=>⟨b,f x++a,?_,i,?_,?_⟩⟩
 ·simp only;rw[e,sub_zero]
 ·rw[aO,List.flatMap_append,aP,List.flatMap_nil,aL,ar]
 ·rw[ac,(c.ne x).1,g]
  simp only;have:s.cap-xs.length=(s.cap-s.len)+1:=by omega
  rw[this,Nat.add_mul];omega
structure It where
 b:Nat
 ah:ByteArray
 own:Bool
 sl:ByteArray
 w:Option ByteArray
 F:Fo
def It.raw(i:It):Wk:=(some ⟨i.b,0,none⟩,i.ah,i.own)
def It.key(i:It):List UInt8:=i.ah.data.toList++i.sl.data.toList
def It.cost(i:It):Nat:=if i.own then 1 else 2+2*OV i.F
end Go.Proofs
namespace Go.Proofs
open Go Go.Lift
theorem pd{W:Nat→Prop}{h:ad}{b:Nat}{sl:ByteArray}{w:Option ByteArray}{F:Fo}(r:RxN W h b sl w F){K:ByteArray→ad→Prop}(a:K sl h):HC PG eR [.pointer (some ⟨b,0,none⟩)] [.c .str] K h:=by
 refine DT _ ?_;unfold wW ay;obtain⟨val,s,ow,ks,c,_⟩:=r;exact ag.2 ⟨_,rfl,sl,dZ (i:=0) c,a⟩
theorem Je{W:Nat→Prop}{h:ad}{b:Nat}{sl:ByteArray}{w:Option ByteArray}{F:Fo}(r:RxN W h b sl w F){K:ByteArray×Bool→ad→Prop}(c:∀v,(∀u,w=some u→v=u)→K (v,w.isSome) h):HC PG jC [.pointer (some ⟨b,0,none⟩)] [.c .str,.c .bool] K h:=by
 refine wN _ ?_;unfold rF ay bK;obtain⟨val,s,ow,ks,a,hv,_⟩:=r;exact ag.2 ⟨_,rfl,val,dZ (i:=2) a,_,rfl,w.isSome,dZ (i:=1) a,c val (vw hv)⟩
theorem P9{W:Nat→Prop}{h:ad}{b:Nat}{sl:ByteArray}{w:Option ByteArray}{F:Fo}(r:RxN W h b sl w F){K:ByteArray×Bool→ad→Prop}(c:K (w.getD ⟨#[]⟩,w.isSome) h):HC PG jC [.pointer (some ⟨b,0,none⟩)] [.c .str,.c .bool] K h:=by
 refine wN _ ?_;unfold rF ay bK;obtain⟨val,s,ow,ks,a,rfl,_⟩:=r;exact ag.2 ⟨_,rfl,_,dZ (i:=2) a,_,rfl,w.isSome,dZ (i:=1) a,c⟩
theorem FY{W:Nat→Prop}{h:ad}{b:Nat}{sl:ByteArray}{w:Option ByteArray}{F:Fo}(r:RxN W h b sl w F)(k:F.toL.length≤256){K:SliceV→ad→Prop}(f:∀s' h' ks,OwnS qd 1 bj (fun y=>h.size≤y) h' s' ks→RxL W h' ks F.toL→Upd No h h'→K s' h'):HC PG l6 [.pointer (some ⟨b,0,none⟩)] [.c .slice] K h:=by
 refine E5 _ ?_;unfold xJ bV;obtain⟨val,s,ow,ks,g,hv,e,_,j⟩:=r;have c:=lJ.1 j;refine ag.2 ⟨_,rfl,s,dZ (i:=3) g,?_⟩;refine Nz e (by rw[c.1];omega) fun s' h' d a=>f s' h' ks d (c.upd0 a) a
def It.Ok(W:Nat→Prop)(h:ad)(i:It):Prop:=RxN W h i.b i.sl i.w i.F∧ge i.F∧i.key.length≤10000∧∀p∈x7 i.w i.F,i.key.length+p.1.length≤10000
theorem It.Ok.updM{W M:Nat→Prop}{h h':ad}(k:Upd M h h')(hm:∀b,M b→W b∨h.size≤b){i:It}(o:It.Ok W h i):It.Ok W h' i:=⟨o.1.updM k hm,o.2⟩
theorem Ww(lab:List UInt8)(w:Option ByteArray)(a b:Fo):B8 (.cons lab w a b)=((w.map fun v=>(([]:List UInt8),v)).toList++B8 a).map (fun p=>(lab++p.1,p.2))++B8 b:=rfl
end Go.Proofs
namespace Go.Proofs
open Go Go.Lift
end Go.Proofs
namespace Go.Proofs
open Go Go.Lift
abbrev ab3(x:Pr):List Value:= [.agg #[.string x.1,.string x.2]]
theorem LM{h:ad}{Y:Value}{N:Nat}{S:List Pr→Prop}{Q:Nat→Prop}(hg:Gives PG Y ab3 N S Q h)(hN:N≤100000000){K:SliceV→ad→Prop}
  (hk:∀s' h' xs,S xs→OwnS eu 2 ao (fun b=>h.size≤b) h' s' xs→Upd No h h'→K s' h'):HC PG fP [.slice none 0 0,Y] [.c .slice] K h:=by
 refine oy ⟨none,0,0⟩ Y ?_;unfold jq nv az lN is w9 abi;have k0:=Upd.hnew No h [.slice none 0 0] cD;have b0:=cq h [.slice none 0 0] cD;have hsz:(hnew h [.slice none 0 0] cD).size=h.size+1:=jw ..;have T:=hg.upd k0 fun _ _=>id
 refine bM ?_;generalize hnew h [.slice none 0 0] cD=h1 at T k0 b0 hsz;refine⟨fun lo hlo j=>?_⟩
 obtain⟨f,first,cap,rfl,C⟩:=T.run
 refine⟨f,first,cap,rfl,?_⟩
 have k1:Upd No h1 ((h1.push (.deferred (some []))).push (lo .ready none)):=(Upd.push No _ _).tr (Upd.push No _ _);have l2:((h1.push (.deferred (some []))).push (lo .ready none))[h1.size+1]? =some (lo .ready none):=by
  have:=AJ (h1.push (.deferred (some []))) (lo .ready none);rwa [Array.size_push]at this
 have l1:((h1.push (.deferred (some []))).push (lo .ready none))[h1.size]? =some (.deferred (some [])):=(Upd.push No _ _).get0 (AJ h1 _);refine C (.func (.yield (h1.size+1)) #[] #[]) (fun pre A h'=>(∀b,A b→b<h'.size∧h.size≤b)∧A h.size∧A h1.size∧A (h1.size+1)∧h'[h1.size]? =some (.deferred (some []))∧h'[h1.size+1]? =some (lo .ready none)∧
   ∃s:SliceV,h'[h.size]? =some (.cells #[sv s] cD (0,0))∧OwnS eu 2 ao (fun b=>A b∧h1.size+1<b) h' s pre∧pre.length≤N)
  (fun b=>b=h.size∨b=h1.size∨b=h1.size+1) No _ _ ⟨fun _ _ _ V b a=>(V.1 b a).1,fun pre A h' h'' B V q X=>?_,fun pre A h' x K' V hlen hK=>?_⟩ ?_ k1 (fun _ _=>id) (fun b a hq=>?_) ?_
 ·obtain⟨E,h2,m,n,W,h6,s,h7,h8,h9⟩:=V
  exact⟨fun b a=>⟨aD (E b a).1 q.size,(E b a).2⟩,h2,m,n,q.get W (X _ m),q.get h6 (X _ n),s,q.get h7 (X _ h2),h8.upd q fun b a=>X b a.1,h9⟩
 ·obtain⟨k,i,g,c,hd,t,s,U,Z,hpl⟩:=V
  refine j x h' K' t ?_;refine tG (p:=x) fun hp bp z=>?_
  have zp:=bC bp;have t:=z.get0 t;have U:=z.get0 U;have hd:=z.get0 hd;have hop:=Z.upd z fun _ _ h=>h
  have sp:=z.size;refine⟨t,?_⟩;have w:Upd (· =h1.size+1) hp (hp.setIfInBounds (h1.size+1) (lo .busy none)):=Upd.set _ _ rfl
  have lb:=jZ (o:=lo .busy none) t;have sb:=w.size;refine bM ?_;generalize hp.setIfInBounds (h1.size+1) (lo .busy none)=h2 at w lb sb;have P:=(k _ i).1;have J:=(k _ c).1;have H:=w.get bp (by omega);have R:=w.get U (by omega);refine⟨s,by rw[cR,bF R];rfl,_,vc H 0,_,vc H 1,bM ?_⟩
  refine yN (p:=x) (M:=fun b=>((A b∧b<h'.size)∨h2.size≤b)∧h1.size+1<b) ((hop.upd w fun b a=>by omega).more fun b a=>⟨.inl ⟨a.1,(k b a.1).1⟩,a.2⟩) (fun b a=>⟨.inr a,by have:=bC lb;omega⟩) (by omega) fun s' m ho3 e=>?_
  have u:m[h.size]? =some (.cells #[sv s] cD (0,0)):=e.get R (by omega);refine⟨by rw[cR];exact iw u (by simp),?_⟩;have y:Upd (· =h.size) m (hset m (aG h) (.slice s'.a s'.len s'.cap)):=Upd.hset _ _ rfl
  have D:(hset m (aG h) (.slice s'.a s'.len s'.cap))[h.size]? =some (.cells #[sv s'] cD (0,0)):=by
   rw[cR,yD u,jZ u];rfl
  refine bM ?_;generalize hset m (aG h) (.slice s'.a s'.len s'.cap)=n at y D;have L:n[h1.size+1]? =some (lo .busy none):=y.get (e.get lb (by omega)) (by omega);refine⟨L,?_⟩;have d:Upd (· =h1.size+1) n (n.setIfInBounds (h1.size+1) (lo .ready none)):=Upd.set _ _ rfl
  have hl5:=jZ (o:=lo .ready none) L;have I:Upd A h' n:=((z.wide.tr (w.mono (M':=A) fun b a=>.inl (a▸c))).trans e fun b a=>a.1.imp (fun h=>h.1) fun h=>by omega).trans y fun b a=>.inl (a▸i)
  have z3:=e.size;have z4:=y.size;have z5:=d.size;refine hK _ (fun b=>((A b∧b<h'.size)∨h2.size≤b)∧b<n.size) ⟨fun b a=>⟨aD a.2 z5,a.1.elim (fun h=>(k b h.1).2) fun h=>by omega⟩,⟨.inl ⟨i,P⟩,by omega⟩,⟨.inl ⟨g,(k _ g).1⟩,by have:=(k _ g).1;omega⟩,⟨.inl ⟨c,J⟩,by omega⟩,
   d.get (y.get (e.get (w.get hd (by omega)) (by omega)) (by omega)) (by omega),hl5,s',d.get D (by omega),?_,by simp;omega⟩ (I.trans d fun b a=>.inl (a▸c)) fun b a=>a.1.imp (fun h=>h.1) fun h=>by omega
  exact(((ho3.upd y fun b a=>by omega).within).more fun b a=>⟨⟨a.1.1,a.2⟩,a.1.2⟩).upd d fun b a=>by omega
 ·refine⟨fun b a=>?_,.inl rfl,.inr (.inl rfl),.inr (.inr rfl),l1,l2,⟨none,0,0⟩,k1.get0 b0,OwnS.nil gu,aS _⟩
  have:=bC l2;rcases a with rfl|rfl|rfl<;>omega
 ·have:=hg.lt b hq
  rcases a with rfl|rfl|rfl<;>omega
 ·rintro xs A' h' hS ⟨k,i,g,c,hd,t,s,U,Z,hpl⟩ q hA'
  refine⟨.ready,none,by decide,t,?_⟩
  have d:Upd (· =h1.size+1) h' (h'.setIfInBounds (h1.size+1) (lo .exhausted none)):=Upd.set _ _ rfl
  show∃v:SliceV,aO (h'.setIfInBounds (h1.size+1) (lo .exhausted none)) (aG h)=some (.slice v.a v.len v.cap)∧_
  have G:=d.get hd (show ¬h1.size=h1.size+1 by omega)
  have O:=d.get U (show ¬h.size=h1.size+1 by omega)
  have F:=Z.upd d fun b a=>by omega
  generalize h'.setIfInBounds (h1.size+1) (lo .exhausted none)=W at d G O F;refine⟨s,by rw[cR,bF O];rfl,G,?_⟩
  have k6:Upd (· =h1.size) W (W.setIfInBounds h1.size (.deferred none)):=Upd.set _ _ rfl
  refine hk s _ xs hS ((F.upd k6 fun b a=>by omega).more fun b a=>(k b a.1).2) ?_
  refine(((k0.tr k1).trans q fun b a=>?_).trans d fun b a=>.inr (by omega)).trans k6 fun b a=>.inr (by omega)
  rcases a with rfl|rfl|rfl<;>(right;omega)
theorem Rc{h:ad}{a:Value}{N:Nat}{S:List Pr→Prop}{Q:Nat→Prop}(d:Gives PG a ab3 N S Q h)(c:N≤100000000){K:SliceV→ad→Prop}
  (e:∀s' h' xs,S xs→OwnS eu 2 ao (fun b=>h.size≤b) h' s' xs→Upd No h h'→K s' h'):HC PG ly [a] [.c .slice] K h:=by
 refine wM a ?_;unfold py;exact LM d c e
end Go.Proofs
namespace Go.Proofs
structure WO{α:Type}(lt:α→α→Bool):Prop where
 irr:∀a,lt a a=false
 asy:∀a b,lt a b=true→lt b a=false
 ntr:∀a b c,lt a b=false→lt b c=false→lt a c=false
section
variable {α:Type} {lt:α→α→Bool}
def Ny(lt:α→α→Bool)(x a:α):Bool:= !lt a x&& !lt x a
def Srt(lt:α→α→Bool)(l:List α):Prop:=l.Pairwise fun a b=>lt b a=false
structure Eqf(lt:α→α→Bool)(l l':List α):Prop where
 len:l'.length=l.length
 flt:∀x,l'.filter (Ny lt x)=l.filter (Ny lt x)
structure St(lt:α→α→Bool)(l l':List α):Prop where
 eqf:Eqf lt l l'
 srt:Srt lt l'
theorem Eqf.rfl(l:List α):Eqf lt l l:=⟨_root_.rfl,fun _=>_root_.rfl⟩
theorem Eqf.tr{a b c:List α}(h:Eqf lt a b)(k:Eqf lt b c):Eqf lt a c:=⟨k.len.trans h.len,fun x=>(k.flt x).trans (h.flt x)⟩
theorem Eqf.app{a b a' b':List α}(h:Eqf lt a a')(k:Eqf lt b b'):Eqf lt (a++b) (a'++b'):=
 ⟨by rw[ac,ac,h.len,k.len],fun x=>by rw[gi,gi,h.flt,k.flt]⟩
theorem Kf(w:WO lt)(a:α):Ny lt a a=true:=by unfold Ny;rw[w.irr];rfl
theorem Eqf.mem(w:WO lt){l l':List α}(h:Eqf lt l l'){a:α}:a∈l'↔a∈l:=by
 have e:=h.flt a;constructor
 ·intro hm
  have:a∈l'.filter (Ny lt a):=eg.2 ⟨hm,Kf w a⟩;rw[e]at this;exact(eg.1 this).1
 ·intro hm
  have:a∈l.filter (Ny lt a):=eg.2 ⟨hm,Kf w a⟩;rw[←e]at this;exact(eg.1 this).1
theorem aaT(w:WO lt){x u v:α}(a:Ny lt x u=true)(hv:Ny lt x v=true):lt v u=false:=by
 unfold Ny at a hv;simp only[bH,Bool.not_eq_true']at a hv;exact w.ntr v x u hv.1 a.2
theorem Eqf.swap(w:WO lt){U V:List α}(h:∀u∈U,∀v∈V,lt v u=true):Eqf lt (U++V) (V++U):=by
 refine⟨by rw[ac,ac,Nat.add_comm],fun x=>?_⟩
 rw[gi,gi];cases hU:U.filter (Ny lt x)with
 |nil=>rw[aL,cz]
 |cons u us=>
  cases hV:V.filter (Ny lt x)with
  |nil=>rw[aL,cz]
  |cons v vs=>
   have c:u∈U.filter (Ny lt x):=by rw[hU];exact av ..
   have hv:v∈V.filter (Ny lt x):=by rw[hV];exact av ..
   have a:=eg.1 c;have h2:=eg.1 hv;have b:=h u a.1 v h2.1;rw[aaT w a.2 h2.2]at b;cases b
theorem Srt.app{a b:List α}(h:Srt lt a)(k:Srt lt b)(c:∀x∈a,∀y∈b,lt y x=false):Srt lt (a++b):=cr.2 ⟨h,k,c⟩
theorem Srt.left{a b:List α}(h:Srt lt (a++b)):Srt lt a:=(cr.1 h).1
theorem Srt.right{a b:List α}(h:Srt lt (a++b)):Srt lt b:=(cr.1 h).2.1
theorem Srt.cross{a b:List α}(h:Srt lt (a++b)):∀x∈a,∀y∈b,lt y x=false:=(cr.1 h).2.2
theorem Srt.nil:Srt lt ([]:List α):=fT
theorem Srt.one(a:α):Srt lt [a]:=List.pairwise_singleton ..
theorem N3(w:WO lt){S L G:List α}{t:α}(h:St lt S (L++G))(e:∀l∈L,lt t l=false)(b:∀g∈G,lt t g=true):St lt (S++ [t]) (L++t::G):=by
 refine⟨(h.eqf.app (Eqf.rfl [t])).tr ?_,?_⟩
 ·rw[ar]
  exact(Eqf.rfl L).app (Eqf.swap w (U:=G) (V:= [t]) fun u c v hv=>by rw[aF.1 hv];exact b u c)
 ·refine h.srt.left.app (aA.2 ⟨fun g d=>w.asy t g (b g d),h.srt.right⟩) fun x hx y a=>?_
  rcases aB.1 a with rfl|a
  ·exact e x hx
  ·exact h.srt.cross x hx y a
theorem Ec(w:WO lt){V1 V2:List α}{u:α}(h:Srt lt (V1++V2))(b:∀v∈V1,lt v u=true)(h2:∀v∈V2,lt v u=false):St lt ([u]++(V1++V2)) (V1++u::V2):=by
 refine⟨?_,?_⟩
 ·rw[←ar]
  have:=(Eqf.swap w (U:= [u]) (V:=V1) fun x hx y a=>by rw[aF.1 hx];exact b y a).app (Eqf.rfl V2)
  rw[ar V1]at this;exact this
 ·refine h.left.app (aA.2 ⟨h2,h.right⟩) fun x hx y a=>?_
  rcases aB.1 a with rfl|a
  ·exact w.asy x y (b x hx)
  ·exact h.cross x hx y a
theorem GX(w:WO lt){U1 U2:List α}{v:α}(h:Srt lt (U1++U2))(a:∀u∈U1,lt v u=false)(h2:∀u∈U2,lt v u=true):St lt ((U1++U2)++ [v]) (U1++v::U2):=
 N3 w ⟨Eqf.rfl _,h⟩ a h2
theorem MD(w:WO lt){U1 U2 V1 V2 f R2:List α}(g:Srt lt (U1++U2))(j:Srt lt (V1++V2))(d:∀v∈V1,∀u∈U2,lt v u=true)(h2:∀u∈U1,∀v∈V2,lt v u=false)(c:St lt (U1++V1) f)(b:St lt (U2++V2) R2):St lt ((U1++U2)++(V1++V2)) (f++R2):=by
 refine⟨?_,c.srt.app b.srt fun x hx y a=>?_⟩
 ·have e:Eqf lt ((U1++U2)++(V1++V2)) ((U1++V1)++(U2++V2)):=by
   have:=((Eqf.rfl U1).app (Eqf.swap w (U:=U2) (V:=V1) fun u i v hv=>d v hv u i)).app (Eqf.rfl (lt:=lt) V2)
   simp only[ar]at this⊢;exact this
  exact e.tr (c.eqf.app b.eqf)
 ·rcases bI.1 ((c.eqf.mem w).1 hx)with hx|hx<;>rcases bI.1 ((b.eqf.mem w).1 a)with a|a
  ·exact g.cross x hx y a
  ·exact h2 x hx y a
  ·exact w.asy x y (d x hx y a)
  ·exact j.cross x hx y a
inductive Runs(lt:α→α→Bool)(bs:Nat):List α→Prop where
 |last (l:List α):l.length≤bs→Srt lt l→Runs lt bs l
 |more (b l:List α):b.length=bs→Srt lt b→Runs lt bs l→Runs lt bs (b++l)
theorem Runs.split{a:Nat}{l:List α}(h:Runs lt a l)(c:a≤l.length):∃b r,l=b++r∧b.length=a∧Srt lt b∧Runs lt a r:=by
 cases h with
 |last _ h1 h2=>exact⟨l,[],(aL l).symm,by omega,h2,.last _ (aS _) Srt.nil⟩
 |more b r h1 h2 h3=>exact⟨b,r,_root_.rfl,h1,h2,h3⟩
theorem Runs.short{a:Nat}{l:List α}(h:Runs lt a l)(c:l.length≤a):Srt lt l:=by
 cases h with
 |last _ h1 h2=>exact h2
 |more b r h1 h2 h3=>
  rw[ac]at c;have:r= []:=List.length_eq_zero_iff.1 (by omega);rw[this,aL];exact h2
def Full(lt:α→α→Bool)(a:Nat)(d:List α):Prop:=∀z,Runs lt a z→Runs lt a (d++z)
theorem Full.nil{a:Nat}:Full lt a ([]:List α):=fun _ h=>h
theorem Full.app{a:Nat}{d b:List α}(h:Full lt a d)(c:b.length=a)(f:Srt lt b):Full lt a (d++b):=fun z e=>by
 rw[ar];exact h _ (.more b z c f e)
end
end Go.Proofs
namespace Go.Proofs
open Go Go.Lift
abbrev tU(z:Hs)(p:Pr):List Value:= [.string p.1,.string p.2,.int .u64 (eP z p.1)]
theorem Oz(z:Hs)(p:Pr):(tU z p).length=3∧0<3:=⟨rfl,by omega⟩
theorem Vh(z:Hs):∀xs:List Pr,cH (xs.flatMap (tU z))=true
 | []=>rfl
 |x::xs=>by rw[aP];exact nh rfl (Vh z xs)
section
variable {α:Type} {f:α→List Value} {sz:Nat} {t:TypeId} {M:Nat→Prop} {h:ad} {s:SliceV} {P Q:List α} {x:α}
theorem fK(c:OwnS f sz t M h s (P++x::Q)){i:Nat}(hi:i=P.length):∃a,s.a=some a∧∀j v,(f x)[j]? =some v→aO h (adr (adr a (i*sz)) j)=some v:=by
 obtain⟨a,b,_,hv⟩:=(c.sl (W:=No) fun _ _ _ h=>h).at (i:=i) (x:=x) (by rw[hi,aN (aj _),Nat.sub_self];rfl)
 exact⟨a,b,hv⟩
theorem mK(n:OwnS f sz t M h s (P++x::Q))(y:α){a:Addr}(m:s.a=some a){i:Nat}(hi:i=P.length){G:ad→Prop}(q:∀h',OwnS f sz t M h' s (P++y::Q)→Upd M h h'→G h'):
  wn h (some (adr a (i*sz))) 0 (f y)∧At (jj h (adr a (i*sz)) 0 (f y)) G:=by
 obtain⟨a',d,hM,j,c,g⟩:=OwnS.setAt n (k:=i) (by rw[hi,ac,al];omega) y;rw[m]at d;cases d;refine⟨j,bM (q _ ?_ (g.mono fun b e=>.inl (by have e:b=a.block:=e;rw[e];exact hM)))⟩
 subst hi;have p:(P++x::Q).take P.length=P:=List.take_left;have o:(P++x::Q).drop (P.length+1)=Q:=by rw[←List.drop_drop,List.drop_left];rfl
 rw[p,o]at c;exact c
end
theorem uw{α:Type}{f:α→List Value}{b:Nat}{t:TypeId}{M:Nat→Prop}{h:ad}{s:SliceV}{xs:List α}{x:α}(d:OwnS f b t M h s xs){i:Nat}(hi:xs[i]? =some x):∃a,s.a=some a∧∀j v,(f x)[j]? =some v→aO h (adr (adr a (i*b)) j)=some v:=by
 obtain⟨a,c,_,hv⟩:=(d.sl (W:=No) fun _ _ _ h=>h).at hi
 exact⟨a,c,hv⟩
theorem YR{α:Type}{A U X:List α}{i:Nat}(hi:A.length+U.length≤i):(A++(U++X))[i]? =X[i-A.length-U.length]?:=by
 rw[aN (by omega),aN (by omega)]
theorem OD{α:Type}{A U V B:List α}{i k:Nat}{x:α}(hi:A.length+U.length+k=i)(a:V[k]? =some x):(A++(U++(V++B)))[i]? =some x:=by
 rw[YR (by omega),show i-A.length-U.length=k by omega,bP (bJ.1 a).1];exact a
theorem Iq{α:Type}{A U X:List α}{i k:Nat}{x:α}(hi:A.length+k=i)(a:U[k]? =some x):(A++(U++X))[i]? =some x:=by
 rw[aN (by omega),show i-A.length=k by omega,bP (bJ.1 a).1];exact a
theorem xn{i j:Nat}(h:i+j≤4000000000):IntKind.wrap .i64 (Int.fdiv (IntKind.wrap .u64 (IntKind.wrap .i64 ((i:Int)+(j:Int)))) (2^(min (1:Int).toNat (IntKind.bits .u64))))=(((i+j)/2:Nat):Int):=by
 have a:(2^(min (1:Int).toNat (IntKind.bits .u64)):Int)=2:=rfl;rw[a,dI (x:=(i:Int)+(j:Int)) (by omega),Go.IntWalk.u64_in _ (by omega),Int.fdiv_eq_ediv_of_nonneg _ (by omega),dI (by omega)];omega
theorem kO{α:Type}{lt:α→α→Bool}(w:WO lt){l:List α}(h:Srt lt l){i j:Nat}(d:i≤j){x y:α}(hx:l[i]? =some x) (c:l[j]? =some y):lt y x=false:=by
 obtain⟨hi,rfl⟩:=bJ.1 hx;obtain⟨b,rfl⟩:=bJ.1 c;rcases Nat.lt_or_ge i j with a|a
 ·exact List.pairwise_iff_getElem.1 h i j hi b a
 ·have:i=j:=by omega
  subst this;exact w.irr _
theorem BR{α:Type}(l:List α):l= []∨∃l' y,l=l'++ [y]:=by
 rcases List.eq_nil_or_concat l with h|⟨l',y,h⟩
 ·exact .inl h
 ·exact .inr ⟨l',y,by rw[h,List.concat_eq_append]⟩
structure Cmp{α:Type}(lt:α→α→Bool)(f:α→List Value)(M:Nat→Prop)(Iv:ad→Prop)(V:Value):Prop where
 call:∀(a b:α) {h:ad} {K:Int→ad→Prop},Iv h→(∀h' e,Upd No h h'→decide (e<0)=lt a b→K e h')→HV PG V [.agg (f a).toArray,.agg (f b).toArray] [.c (.int .i64)] K h
 step:∀{h h':ad},Upd M h h'→Iv h→Iv h'
end Go.Proofs
