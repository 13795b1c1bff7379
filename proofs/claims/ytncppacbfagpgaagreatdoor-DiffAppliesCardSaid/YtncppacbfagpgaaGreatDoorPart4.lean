/- A part of the proof that the named laws of this program answer true, whatever the input. -/
import Derived.Test.YtncppacbfagpgaaGreatDoorPart3
import Derived.Test.YtncppacbfagpgaaGreatDoorLift3
open Bool renaming and_eq_true→bK
open ByteArray renaming mk→mP
open Int renaming tmod→eB
open List renaming pairwise_cons→aJ,mem_cons→aA,append_assoc→ar,length_append→ac,length_singleton→aE,cons→eT,cons_append→cJ,mem_cons_self→aw,length_cons→ao,flatMap_cons→aO,append_nil→aL,filter_append→fZ,mem_filter→d8,nil_append→cB,pairwise_append→cn,mem_singleton→aD,mem_append→bF,getElem?_append_right→aN,getElem?_append_left→bQ,getElem?_eq_some_iff→bM
open List.Pairwise renaming nil→gF
open Nat renaming le_refl→al,zero_add→aR,lt_of_lt_of_le→aC,zero_le→aS,mul_le_mul_right→cz
namespace Go.Proofs
open Go Go.Lift
theorem tJ{p q:Pr}:∀{l:List Pr},cf l→(q∈iM p l↔q=p∨(q∈l∧q.1≠p.1))
 | [],_=>by simp[iM]
 |r::l,a=>by
  have a:=aJ.1 a;rw[iw];by_cases b:kl r.1 p.1
  ·have c:r.1≠p.1:=fun e=>by rw[e]at b;exact cr _ b
   rw[if_pos b,aA,aA,tJ a.2];constructor
   ·rintro(rfl|h|⟨h,h'⟩)
    ·exact .inr ⟨.inl rfl,c⟩
    ·exact .inl h
    ·exact .inr ⟨.inr h,h'⟩
   ·rintro(h|⟨h|h,h'⟩)
    ·exact .inr (.inl h)
    ·exact .inl h
    ·exact .inr (.inr ⟨h,h'⟩)
  ·rw[if_neg b]
   by_cases h2:r.1=p.1
   ·rw[if_pos h2,aA,aA]
    constructor
    ·rintro(h|h)
     ·exact .inl h
     ·refine .inr ⟨.inr h,fun e=>?_⟩
      have:=a.1 q h;rw[e,h2]at this;exact cr _ this
    ·rintro(h|⟨rfl|h,h'⟩)
     ·exact .inl h
     ·exact absurd h2 h'
     ·exact .inr h
   ·rw[if_neg h2,aA,aA]
    have d:=ql b h2;constructor
    ·rintro(h|rfl|h)
     ·exact .inl h
     ·exact .inr ⟨.inl rfl,h2⟩
     ·refine .inr ⟨.inr h,fun e=>?_⟩
      have:=gJ d (a.1 q h);rw[e]at this;exact cr _ this
    ·rintro(h|⟨rfl|h,h'⟩)
     ·exact .inl h
     ·exact .inr (.inl rfl)
     ·exact .inr (.inr h)
def RadRoot(W:Nat→Prop)(h:ae)(r:Option Addr)(l:List Pr):Prop:=(r=none∧l= [])∨∃b,r=some ⟨b,0,none⟩∧RadAt W h b l
theorem RadRoot.upd0{W:Nat→Prop}{h h':ae}{r:Option Addr}{l:List Pr}(k:Upd No h h')(t:RadRoot W h r l):RadRoot W h' r l:=t.imp id fun⟨b,e,t⟩=>⟨b,e,t.upd0 k⟩
theorem qt{a b:ByteArray}:a.data.toList=b.data.toList↔a=b:=by
 constructor
 ·intro h;cases a;cases b;exact congrArg mP (Array.toList_inj.1 h)
 ·rintro rfl;rfl
theorem H0{W:Nat→Prop}{h:ae}(a:∀y,W y→y<h.size){K:Option Addr→ae→Prop}(c:∀h' b,RadAt W h' b []→Upd No h h'→K (some ⟨b,0,none⟩) h'):HC PG tu [] [.c .ptr] K h:=by
 refine KO ?_;unfold BH Om;refine bP (c _ h.size ⟨none,.nil,⟨⟨#[]⟩,⟨none,0,0⟩,none,[],cp h Zq bZ,rfl,Sl.nil nh,⟨al _,fun hx=>Nat.lt_irrefl _ (a _ hx)⟩,rfl⟩,trivial,fun k v=>?_⟩ (Upd.hnew No h _ _))
 simp[wZ,AZ]
theorem EN{W:Nat→Prop}{h:ae}{r:Option Addr}{l:List Pr}(t:RadRoot W h r l)(d:∀y,W y→y<h.size){K:Option Addr→ae→Prop}(a:∀h' b,RadAt W h' b l→Upd No h h'→(r=some ⟨b,0,none⟩∨r=none)→K (some ⟨b,0,none⟩) h'):HC PG rl [.pointer r] [.c .ptr] K h:=by
 refine NS r ?_;unfold Ej;rcases t with⟨rfl,rfl⟩|⟨b,rfl,t⟩
 ·exact au.2 (H0 d fun h' b t c=>a h' b t c (.inr rfl))
 ·exact aj.2 (a h b t (Upd.refl _ _) (.inl rfl))
theorem OW{W:Nat→Prop}{h:ae}{r:Option Addr}{l:List Pr}(t:RadRoot W h r l)(A:∀y,W y→y<h.size)(j:cf l)(p:Pr)(M:p.1.size≤1000000){K:Option Addr×Bool→ae→Prop}
  (J:∀h' b' a,Upd No h h'→RadAt W h' b' (iM p l)→(p∈l→r=some ⟨b',0,none⟩∨r=none)→K (some ⟨b',0,none⟩,a) h'):
  HC PG zO [.pointer none,.pointer r,.agg #[.string p.1,.string p.2]] [.c .ptr,.c .bool] K h:=by
 refine P1 none r p ?_;unfold Gv ax vN V5;have k1:=Upd.hnew No h [.string p.1,.string p.2] aq;have b1:=cp h [.string p.1,.string p.2] aq;refine bP ?_;simp only[cY h];generalize hnew h [.string p.1,.string p.2] aq=h1 at k1 b1;have g:∀{h':ae},Upd No h1 h'→∀i,aP h' (adr ⟨h.size,0,none⟩ i)=(#[.string p.1,.string p.2]:Array Value)[i]?:=fun k i=>by rw[cj,bH (k.get0 b1),aR]
 have C:=Upd.refl No h1;refine⟨p.1,g C 0,p.2,g C 1,EN (t.upd0 k1) (fun y s=>aC (A y s) k1.size) fun h2 b D c I=>⟨g c 1,g c 0,?_⟩⟩
 obtain⟨w,F,E,H,B⟩:=D.ex;refine Ws (p.1.size+1) p.1 p.2 (by omega) M E (fun y s=>aC (A y s) (k1.tr c).size) H fun L b3 G F' a N n x z u m o=>?_
 refine J L b3 a ((k1.tr c).tr n) ⟨G,F',x,z,fun k v=>?_⟩ fun hm=>?_
 ·rw[jR,u k v,←jR,B k v]
  constructor
  ·rintro(⟨rfl,rfl⟩|⟨d,q,f,rfl,rfl⟩)
   ·exact⟨p,(tJ j).2 (.inl rfl),rfl,rfl⟩
   ·exact⟨q,(tJ j).2 (.inr ⟨f,fun e=>d (by rw[e])⟩),rfl,rfl⟩
  ·rintro⟨q,f,rfl,rfl⟩
   rcases(tJ j).1 f with rfl|⟨f,d⟩
   ·exact .inl ⟨rfl,rfl⟩
   ·exact .inr ⟨fun e=>d (qt.1 e),q,f,rfl,rfl⟩
 ·have:=o (jR.1 ((B _ _).2 ⟨p,hm,rfl,rfl⟩))
  rw[(m this).1];exact I
def Sq(l:List Pr)(xs:List UInt8):Prop:=∃w F,fV F∧wZ w F=Td l∧xs=jN ([],w,F)
theorem zI{w:Option ByteArray}{F:Fo}{l:List Pr}(hc:fV F)(a:wZ w F=Td l)(b:Fit l):N5 F∧∀v,w=some v→v.size≤10000:=by
 have hm:∀k v,tW w F k v→k.length≤10000∧v.size≤10000:=fun k v hi=>by
  have:=jR.2 hi;rw[a]at this;obtain⟨q,c,e⟩:=List.mem_map.1 this;cases e;have:=b q c;exact⟨by simpa using this.1,this.2⟩
 exact⟨RQ hc fun k v hi=>hm k v (.inr hi),fun v hv=>(hm [] v (.inl ⟨rfl,hv⟩)).2⟩
theorem Yx{l l':List Pr}{xs a:List UInt8}(h:Sq l xs)(h':Sq l' a)(m:Fit l)(f:Fit l'):xs=a↔l=l':=by
 obtain⟨w,F,c,e,rfl⟩:=h;obtain⟨n,F',c',g,rfl⟩:=h';have j:=zI c e m;have i:=zI c' g f;constructor
 ·intro hx
  have hx:jN ([],w,F)++ []=jN ([],n,F')++ []:=by rw[hx]
  unfold jN at hx;simp only[ar]at hx;obtain⟨_,d,k,hx⟩:=LM (aS _) (aS _) j.2 i.2 (jC c) (jC c') hx;obtain⟨b,_⟩:=B8 j.1 i.1 k hx;exact Tc (by rw[←e,←g,d,b])
 ·rintro rfl
  obtain⟨d,b⟩:=Wz c c' (e.trans g.symm);rw[d,b]
theorem Dc{l:List Pr}{xs:List UInt8}(h:Sq l xs)(d:Fit l):xs.length≤20010+2*l.length*20010:=by
 obtain⟨w,F,c,e,rfl⟩:=h;have a:=zI c e d;have i:=LL (lab:= []) (n:=F.toL.length) (aS _) a.2;have h2:=B7 a.1;have f:=ND c;have b:=congrArg List.length e;unfold wZ Td at b;rw[ac,List.length_map]at b;have g:NF F*20010≤2*l.length*20010:=cz _ (by omega);unfold jN;rw[ac];simp only;omega
theorem OY{W:Nat→Prop}{h:ae}{b:Nat}{l:List Pr}(t:RadAt W h b l)(i:cf l)(d:Fit l)(o:l.length≤60000){K:SliceV→ae→Prop}
  (m:∀s' h' xs,Sq l xs→OwnS qI 1 cM (fun y=>h.size≤y) h' s' xs→Upd No h h'→K s' h'):HC PG w9 [.pointer (some ⟨b,0,none⟩)] [.c .slice] K h:=by
 refine KM _ ?_;unfold BG;refine aj.2 ?_;obtain⟨w,F,j,a,f⟩:=t.ex;have e:=M0 a i f;have c:=zI a e d;have hv:Sq l (jN ([],w,F)):=⟨w,F,a,e,rfl⟩;have p:=Dc hv d;exact Wp (lab:= []) (aS _) c.2 (jC a) (MU c.1) (s:=⟨none,0,0⟩) (xs:= []) (M:=fun y=>h.size≤y) j rfl (Upd.refl _ _) (fun _ h=>h) (OwnS.nil um) (fun _ h=>h) (by rw[List.length_nil];omega) fun s' h' g n=>m s' h' _ hv g (n.mono fun y k=>.inr k)
end Go.Proofs
namespace Go.Proofs
open Go Go.Lift
theorem aW{h:ae}{cs:List Value}{t:TypeId}{k:ae→Prop}(a:∀h',h'[h.size]? =some (.cells cs.toArray t (0,0))→Upd No h h'→k h'):At (hnew h cs t) k:=
 bP (a _ (cp h cs t) (Upd.hnew No h cs t))
theorem vc{h:ae}{b:Nat}{c:Array Value}{t:TypeId}(a:h[b]? =some (.cells c t (0,0))) (i:Nat):aP h (adr ⟨b,0,none⟩ i)=c[i]?:=by rw[cj,aR];exact bH a
theorem BS{h:ae}{b:Nat}{c:Array Value}{t:TypeId}(a:h[b]? =some (.cells c t (0,0))) (i j:Nat):aP h (adr (adr ⟨b,0,none⟩ i) j)=c[i+j]?:=by rw[cj,cj,aR];exact bH a
theorem qN{h:ae}{b i:Nat}{c c':Array Value}{t:TypeId}{v:Value}{k:ae→Prop}(d:h[b]? =some (.cells c t (0,0))) (hi:i<c.size) (e:c.setIfInBounds i v=c') (g:∀h',h'[b]? =some (.cells c' t (0,0))→Upd (· =b) h h'→k h'):Wr h (adr ⟨b,0,none⟩ i)∧At (hset h (adr ⟨b,0,none⟩ i) v) k:=by
 rw[cj,aR];exact⟨iV d hi,un d fun h' a f=>g h' (e▸a) f⟩
theorem _root_.Go.Lift.Upd.own{h a h2:ae}{b:Nat}(k:Upd No h a)(c:Upd (· =b) a h2)(d:h.size≤b):Upd No h h2:=k.trans c fun x hx=>.inr (by have hx:x=b:=hx;omega)
theorem _root_.Go.Lift.Upd.oth{h h':ae}{b c:Nat}{o:Obj}(d:Upd (· =b) h h')(hc:h[c]? =some o) (a:c≠b):h'[c]? =some o:=d.get hc a
abbrev Tr:=Int×Int×Int×Int×(Option Addr)×(Option Addr)
abbrev pi(t:Tr):List Value:= [.int .i64 t.1,.int .u64 t.2.1,.int .u64 t.2.2.1,.int .u64 t.2.2.2.1,.pointer t.2.2.2.2.1,.pointer t.2.2.2.2.2]
abbrev HJ(t:Tr):Value:=.agg #[.int .i64 t.1,.int .u64 t.2.1,.int .u64 t.2.2.1,.int .u64 t.2.2.2.1,.pointer t.2.2.2.2.1,.pointer t.2.2.2.2.2]
def Pro(W:Nat→Prop)(h h2:ae)(y:Nat):Prop:=W y∨(h.size≤y∧y<h2.size)
theorem Pro.lt{W:Nat→Prop}{h h2:ae}(b:∀y,W y→y<h.size)(k:Upd No h h2):∀y,Pro W h h2 y→y<h2.size:=fun y a=>a.elim (fun h=>aC (b y h) k.size) fun h=>h.2
theorem Pro.hm{W:Nat→Prop}{h h2:ae}:∀y,Pro W h h2 y→W y∨h.size≤y:=fun _ a=>a.imp id fun h=>h.1
theorem Pro.sub{W:Nat→Prop}{h h2 b:ae}:∀y,W y→Pro W h h2 y∨b.size≤y:=fun _ a=>.inl (.inl a)
theorem RootAt.less{W W':Nat→Prop}{x:Hs}{h:ae}(hm:∀b,W' b→W b∨h.size≤b){r:Option Addr}{l:List Pr}(t:RootAt W x h r l):RootAt W' x h r l:=t.imp id fun⟨b,e,t⟩=>⟨b,e,TrieAt.less hm t⟩
theorem RadRoot.less{W W':Nat→Prop}{h:ae}(hm:∀b,W' b→W b∨h.size≤b){r:Option Addr}{l:List Pr}(t:RadRoot W h r l):RadRoot W' h r l:=t.imp id fun⟨b,e,t⟩=>⟨b,e,t.less hm⟩
def TreeIs(W:Nat→Prop)(h:ae)(a:Int)(x:Hs)(t:Tr)(l:List Pr):Prop:=(a=0∧∃b,t=(0,x.k0,x.k1,x.mask,some ⟨b,0,none⟩,none)∧TrieAt W x h 13 b l)∨(a=1∧∃b,t=(1,0,0,0,none,some ⟨b,0,none⟩)∧RadAt W h b l)
theorem TreeIs.upd0{W:Nat→Prop}{h h':ae}{a:Int}{x:Hs}{t:Tr}{l:List Pr}(k:Upd No h h')(i:TreeIs W h a x t l):TreeIs W h' a x t l:=
 i.imp (fun⟨e,b,c,t⟩=>⟨e,b,c,TrieAt.upd0 k t⟩) fun⟨e,b,c,t⟩=>⟨e,b,c,t.upd0 k⟩
theorem TreeIs.less{W W':Nat→Prop}{h:ae}(hm:∀b,W' b→W b∨h.size≤b){a:Int}{x:Hs}{t:Tr}{l:List Pr}(i:TreeIs W h a x t l):TreeIs W' h a x t l:=
 i.imp (fun⟨e,b,c,t⟩=>⟨e,b,c,TrieAt.less hm t⟩) fun⟨e,b,c,t⟩=>⟨e,b,c,t.less hm⟩
theorem TreeIs.updM{W M:Nat→Prop}{h h':ae}(k:Upd M h h')(hm:∀b,M b→W b∨h.size≤b){a:Int}{x:Hs}{t:Tr}{l:List Pr}(i:TreeIs W h a x t l):TreeIs W h' a x t l:=
 i.imp (fun⟨e,b,c,t⟩=>⟨e,b,c,TrieAt.updM k hm t⟩) fun⟨e,b,c,t⟩=>⟨e,b,c,t.updM k hm⟩
theorem TreeIs.pro{W:Nat→Prop}{h h2:ae}(k:Upd No h h2){a:Int}{x:Hs}{t:Tr}{l:List Pr}(i:TreeIs W h a x t l):TreeIs (Pro W h h2) h2 a x t l:=(i.less Pro.hm).upd0 k
theorem KA{W:Nat→Prop}{x:Hs}{h:ae}(d:∀y,W y→y<h.size){K:Option Addr→ae→Prop}(e:∀h' b,TrieAt W x h' 13 b []→Upd No h h'→K (some ⟨b,0,none⟩) h'):HC PG pO [] [.c .ptr] K h:=by
 refine Bx ?_;unfold xn;exact rc d fun h' b a c=>e h' b (Oz a) c
abbrev Kc:Tr:=(0,0,0,0,none,none)
theorem FT{W:Nat→Prop}{x:Hs}{h:ae}{r:Option Addr}{l:List Pr}(t:RootAt W x h r l)(s:∀y,W y→y<h.size){K:Tr→ae→Prop}(q:∀h' t,TreeIs W h' 0 x t l→Upd No h h'→K t h'):HC PG ri [.agg #[.int .u64 x.k0,.int .u64 x.k1,.int .u64 x.mask],.pointer r] [.agg [.int .i64,.int .u64,.int .u64,.int .u64,.ptr,.ptr]] K h:=by
 refine Jm (x.k0,x.k1,x.mask) r ?_;unfold Af bw ag aQ eJ AC AU Ka;refine aW fun m b1 k1=>aW fun h2 b2 o=>?_
 have v:=bD b1;have w:=bD b2;have d:=k1.tr o;refine Join.intro (fun t h'=>Upd No h2 h'∧∃b,t=some ⟨b,0,none⟩∧TrieAt (Pro W h h2) x h' 13 b l) (fun R j=>?_) ?_
 ·rcases t with⟨rfl,rfl⟩|⟨b,rfl,t⟩
  ·exact au.2 (KA (Pro.lt s d) fun p b t a=>j _ _ ⟨a,b,rfl,t⟩)
  ·exact aj.2 (j _ _ ⟨Upd.refl _ _,b,rfl,TrieAt.upd0 d (TrieAt.less Pro.hm t)⟩)
 ·rintro n p ⟨a,b,rfl,n⟩
  have g:=a.get0 (o.get0 b1);refine⟨_,vc g 0,_,vc g 1,_,vc g 2,?_⟩;refine cU (c:=pi Kc) (vs:=pi (0,x.k0,x.k1,x.mask,some ⟨b,0,none⟩,none)) (a.get0 b2) rfl fun u e f=>?_
  refine⟨_,vc e 0,_,vc e 1,_,vc e 2,_,vc e 3,_,vc e 4,_,vc e 5,?_⟩;have i:h.size≤m.size:=k1.size;exact q u _ (.inl ⟨rfl,b,rfl,TrieAt.less Pro.sub (TrieAt.updM f (fun y k=>.inl (.inr (by have k:y=m.size:=k;omega))) n)⟩) ((d.tr a).own f i)
theorem FS{W:Nat→Prop}{x:Hs}{h:ae}{r:Option Addr}{l:List Pr}(t:RadRoot W h r l)(n:∀y,W y→y<h.size){K:Tr→ae→Prop}(m:∀h' t,TreeIs W h' 1 x t l→Upd No h h'→K t h'):HC PG rh [.pointer r] [.agg [.int .i64,.int .u64,.int .u64,.int .u64,.ptr,.ptr]] K h:=by
 refine Jl r ?_;unfold Ae bw ag aQ eJ AU Ka;refine aW fun h2 b2 d=>?_
 have p:=bD b2;refine Join.intro (fun t h'=>Upd No h2 h'∧∃b,t=some ⟨b,0,none⟩∧RadAt (Pro W h h2) h' b l) (fun R g=>?_) ?_
 ·rcases t with⟨rfl,rfl⟩|⟨b,rfl,t⟩
  ·exact au.2 (H0 (Pro.lt n d) fun k b t a=>g _ _ ⟨a,b,rfl,t⟩)
  ·exact aj.2 (g _ _ ⟨Upd.refl _ _,b,rfl,(t.less Pro.hm).upd0 d⟩)
 ·rintro j k ⟨a,b,rfl,j⟩
  refine cU (c:=pi Kc) (vs:=pi (1,0,0,0,none,some ⟨b,0,none⟩)) (a.get0 b2) rfl fun o e f=>?_
  refine⟨_,vc e 0,_,vc e 1,_,vc e 2,_,vc e 3,_,vc e 4,_,vc e 5,?_⟩;exact m o _ (.inr ⟨rfl,b,rfl,(j.updM f (fun y i=>.inl (.inr (by have i:y=h.size:=i;omega)))).less Pro.sub⟩) ((d.tr a).own f (al _))
theorem MP{W:Nat→Prop}{x:Hs}{h:ae}(q:∀y,W y→y<h.size){a:Int}(o:a=0∨a=1){K:Tr×Int→ae→Prop}(p:∀h' t,TreeIs W h' a x t []→Upd No h h'→K (t,0) h'):HC PG yq [.int .i64 a,.agg #[.int .u64 x.k0,.int .u64 x.k1,.int .u64 x.mask]] [.agg [.int .i64,.int .u64,.int .u64,.int .u64,.ptr,.ptr],.c (.int .i64)] K h:=by
 refine Sy a (x.k0,x.k1,x.mask) ?_;unfold Jy bw ag aQ eJ AC vO AU r7;refine aW fun j b1 k1=>aW fun h2 b2 s=>?_
 have v:=bD b1;have w:=bD b2;have f:=k1.tr s;have i:h.size≤j.size:=k1.size;have k:=s.get0 b1;rcases o with rfl|rfl
 ·refine au.2 ⟨_,vc k 0,_,vc k 1,_,vc k 2,?_⟩
  refine FT (W:=Pro W h h2) (x:=x) (l:= []) (.inl ⟨rfl,rfl⟩) (Pro.lt q f) fun u t n d=>?_
  refine cU (c:=pi Kc) (vs:=pi t) (d.get0 b2) rfl fun m b e=>?_
  refine⟨_,vc b 0,_,vc b 1,_,vc b 2,_,vc b 3,_,vc b 4,_,vc b 5,?_⟩;exact p m t ((n.updM e (fun y g=>.inl (.inr (by have g:y=j.size:=g;omega)))).less Pro.sub) ((f.tr d).own e i)
 ·refine aj.2 (au.2 ?_)
  refine FS (W:=Pro W h h2) (x:=x) (l:= []) (.inl ⟨rfl,rfl⟩) (Pro.lt q f) fun u t n d=>?_
  refine cU (c:=pi Kc) (vs:=pi t) (d.get0 b2) rfl fun m b e=>?_
  refine⟨_,vc b 0,_,vc b 1,_,vc b 2,_,vc b 3,_,vc b 4,_,vc b 5,?_⟩;exact p m t ((n.updM e (fun y g=>.inl (.inr (by have g:y=j.size:=g;omega)))).less Pro.sub) ((f.tr d).own e i)
theorem AD{k v:ByteArray}(b:k.size≤256)(h2:v.size≤4096){h:ae}{K:Int→ae→Prop}(a:K 0 h):HC PG ll [.string k,.string v] [.c (.int .i64)] K h:=by
 refine D3 k v ?_;unfold yM;refine az (fun h=>absurd h (by omega)) fun _=>az (fun h=>absurd h (by omega)) fun _=>a
theorem OB{W:Nat→Prop}{x:Hs}{h:ae}{q:Int}{t:Tr}{l:List Pr}(i:TreeIs W h q x t l)(L:∀y,W y→y<h.size)(G:cf l)(O:l.length≤1000000)(p:Pr)(E:p.1.size≤256)(F:p.2.size≤4096){K:Tr×Int→ae→Prop}
  (I:∀h' t',TreeIs W h' q x t' (iM p l)→(p∈l→t'=t)→Upd No h h'→K (t',0) h'):HC PG oK [HJ t,.pointer none,.agg #[.string p.1,.string p.2]] [.agg [.int .i64,.int .u64,.int .u64,.int .u64,.ptr,.ptr],.c (.int .i64)] K h:=by
 refine Ft t none p ?_;unfold xR bw ag aQ eJ db vO AU r7 ax hP dK Ka vN qO;refine aW fun H b1 k1=>aW fun h2 b2 A=>aW fun V b3 w=>?_
 have S:=bD b1;have Q:=bD b2;have T:=bD b3;have P:h.size≤H.size:=k1.size;have U:H.size≤h2.size:=A.size;have R:=w.size;have n:=(k1.tr A).tr w;have o:=w.get0 (A.get0 b1);have u:=w.get0 b2;have N:=i.pro n;have v:=Pro.lt L n;refine⟨_,vc u 0,_,vc u 1,AD E F (aj.2 ?_)⟩;rcases N with⟨rfl,b,rfl,C⟩|⟨rfl,b,rfl,C⟩
 ·refine⟨_,vc o 0,aj.2 ⟨_,BS o 1 0,_,BS o 1 1,_,BS o 1 2,_,vc o 4,p.1,vc u 0,p.2,vc u 1,?_⟩⟩
  refine PP (.inr ⟨b,rfl,C⟩) v G O p fun M s a z d=>?_
  refine qN (i:=4) (c':=(pi (0,x.k0,x.k1,x.mask,some ⟨s,0,none⟩,none)).toArray) (a.get0 o) (show 4<6 by decide) rfl fun J g f=>?_
  refine⟨_,vc g 0,_,vc g 1,_,vc g 2,_,vc g 3,_,vc g 4,_,vc g 5,?_⟩;refine cU (c:=pi Kc) (vs:=pi (0,x.k0,x.k1,x.mask,some ⟨s,0,none⟩,none)) (f.oth (a.get0 b3) (by omega)) rfl fun B j m=>?_
  refine⟨_,vc j 0,_,vc j 1,_,vc j 2,_,vc j 3,_,vc j 4,_,vc j 5,?_⟩;refine I B _ (.inl ⟨rfl,s,rfl,TrieAt.less Pro.sub (TrieAt.updM m (fun y k=>.inl (.inr (by have k:y=h2.size:=k;omega))) (TrieAt.updM f (fun y k=>.inl (.inr (by have k:y=h.size:=k;omega))) z))⟩) (fun hm=>?_) (((n.tr a).own f (al _)).own m (by omega))
  rcases d hm with e|e
  ·rw[e]
  ·cases e
 ·refine⟨_,vc o 0,au.2 ⟨_,vc o 5,p.1,vc u 0,p.2,vc u 1,?_⟩⟩
  refine OW (.inr ⟨b,rfl,C⟩) v G p (by omega) fun M s D a z d=>?_
  refine qN (i:=5) (c':=(pi (1,0,0,0,none,some ⟨s,0,none⟩)).toArray) (a.get0 o) (show 5<6 by decide) rfl fun J g f=>?_
  refine⟨_,vc g 0,_,vc g 1,_,vc g 2,_,vc g 3,_,vc g 4,_,vc g 5,?_⟩;refine cU (c:=pi Kc) (vs:=pi (1,0,0,0,none,some ⟨s,0,none⟩)) (f.oth (a.get0 b3) (by omega)) rfl fun B j m=>?_
  refine⟨_,vc j 0,_,vc j 1,_,vc j 2,_,vc j 3,_,vc j 4,_,vc j 5,?_⟩;refine I B _ (.inr ⟨rfl,s,rfl,((z.updM f (fun y k=>.inl (.inr (by have k:y=h.size:=k;omega)))).updM m (fun y k=>.inl (.inr (by have k:y=h2.size:=k;omega)))).less Pro.sub⟩) (fun hm=>?_) (((n.tr a).own f (al _)).own m (by omega))
  rcases d hm with e|e
  ·rw[e]
  ·cases e
end Go.Proofs
namespace Go.Proofs
open Go Go.Lift
def tK(t u:Tr):Bool:=(t.1==u.1)&&((((t.2.1==u.2.1)&&((t.2.2.1==u.2.2.1)&&true)))&&((t.2.2.2.1==u.2.2.2.1)&&true))
theorem Wj{t u:Tr}{h:ae}{K:Bool→ae→Prop}(c:∀h',Upd No h h'→K (tK t u) h'):HC PG zN [HJ t,HJ u] [.c .bool] K h:=by
 refine P0 t u ?_;unfold Gu bw r7 dK;refine aW fun d b1 k1=>aW fun h2 b2 b=>?_
 have a:=b.get0 b1;refine⟨_,vc a 0,_,vc b2 0,?_⟩;have:=c h2 (k1.tr b);unfold tK at this;rcases hb:(t.1==u.1)with _|_
 ·rw[hb]at this
  exact aj.2 this
 ·rw[hb]at this
  exact au.2 ⟨_,BS a 1 0,_,BS a 1 1,_,BS a 1 2,_,BS b2 1 0,_,BS b2 1 1,_,BS b2 1 2,this⟩
theorem Av{W:Nat→Prop}{x:Hs}{h:ae}{b:Nat}{l:List Pr}(t:TrieAt W x h 13 b l){K:Option Addr→ae→Prop}(d:∀h',Upd No h h'→K (some ⟨b,0,none⟩) h'):HC PG jB [HJ (0,x.k0,x.k1,x.mask,some ⟨b,0,none⟩,none)] [.c .ptr] K h:=by
 refine DW (0,x.k0,x.k1,x.mask,some ⟨b,0,none⟩,none) ?_;unfold wB bw aQ r7;refine aW fun c b1 k1=>?_
 refine Join.intro (fun t h'=>t=false∧h'=c) (fun R a=>⟨_,vc b1 0,au.2 ⟨_,vc b1 4,a _ _ ⟨rfl,rfl⟩⟩⟩) ?_
 rintro t h' ⟨rfl,rfl⟩;exact aj.2 ⟨_,vc b1 4,d h' k1⟩
def Mq(a:Int)(x:Hs)(l:List Pr)(xs:List UInt8):Prop:=(a=0∧xs=0::gf x 13 l)∨(a=1∧∃ys,Sq l ys∧xs=1::ys)
theorem AO{h a:ae}{b:UInt8}(c:a[h.size]? =some (.cells #[.int .u8 (b.toNat:Int)] cM (0,0))):OwnS qI 1 cM (fun y=>h.size≤y) a ⟨some ⟨h.size,0,none⟩,1,1⟩ [b]:=⟨rfl,um,al _,.inr ⟨h.size,[],rfl,al _,c,rfl⟩⟩
theorem Um{W:Nat→Prop}{x:Hs}{h:ae}{a:Int}{t:Tr}{l:List Pr}(i:TreeIs W h a x t l)(C:cf l)(o:Fit l)(w:l.length≤60000){K:SliceV→ae→Prop}
  (G:∀s' h' xs,Mq a x l xs→OwnS qI 1 cM (fun y=>h.size≤y) h' s' xs→Upd No h h'→K s' h'):HC PG re [HJ t] [.c .slice] K h:=by
 refine DT t ?_;unfold wz bw ag aQ r7 yc;refine aW fun m b1 k1=>?_
 have I:=k1.size;have app:∀{b:UInt8} {h2 f:ae} {s:SliceV} {xs:List UInt8},h2[m.size]? =some (.cells #[.int .u8 (b.toNat:Int)] cM (0,0))→Upd No m h2→OwnS qI 1 cM (fun y=>h2.size≤y) f s xs→Upd No h2 f→xs.length≤70000000000000→Mq a x l (b::xs)→
   ∃xs7,SRow f s.a (s.len*1) xs7∧AppP (some [.int .u8 0]) 1 1 cM (some (aF m)) 1 1 s.len xs7 f (fun A F=>K A F):=fun{b h2 f s xs} n c z g H hv=>by
  refine⟨_,(z.sl (W:=No) fun _ _ _ h=>h).srow,?_⟩
  have j:=c.tr g;have L:=bD n;have B:OwnS qI 1 cM (fun y=>h.size≤y) f ⟨some ⟨m.size,0,none⟩,1,1⟩ [b]:=((AO n).upd g fun _ _ h=>h).more fun y v=>by omega
  refine AppP.own (ys:=xs) B z.len rfl (Df _) rfl (by omega) (by simp only[aE];omega) (by have:=j.size;omega) fun s' h' q u=>?_
  exact G s' h' _ hv q ((k1.tr j).trans u fun y v=>.inr v)
 rcases i with⟨rfl,b,rfl,t⟩|⟨rfl,b,rfl,t⟩
 ·refine⟨_,vc b1 0,aj.2 (aW fun h2 b2 c=>?_)⟩
  have d:=c.get0 b1;refine⟨_,vc d 0,_,vc d 1,_,vc d 2,_,vc d 3,_,vc d 4,_,vc d 5,?_⟩;refine Av (TrieAt.upd0 (k1.tr c) t) fun f g=>?_
  refine Yn (TrieAt.upd0 ((k1.tr c).tr g) t) o w fun D E e p=>?_
  have J:=g.size;have k:=qh (x:=x) 13 o;have n:l.length*(20004+9*(13+1))≤60000*(20004+9*(13+1)):=cz _ w;exact app (b:=0) b2 c (e.more fun y v=>by omega) (g.tr p) (by omega) (.inl ⟨rfl,rfl⟩)
 ·refine⟨_,vc b1 0,au.2 (aW fun h2 b2 c=>?_)⟩
  have d:=c.get0 b1;refine⟨_,vc d 5,?_⟩;refine OY (t.upd0 (k1.tr c)) C o w fun D E xs hv e p=>?_
  have k:=Dc hv o;have n:2*l.length*20010≤2*60000*20010:=cz _ (by omega);exact app (b:=1) b2 c e p (by omega) (.inr ⟨rfl,xs,hv,rfl⟩)
theorem UY{W W':Nat→Prop}{h h':ae}{a c:Int}{x e:Hs}{t u:Tr}{l l':List Pr}(i:TreeIs W h a x t l)(f:TreeIs W' h' c e u l')(d:tK t u=true):a=c∧(a=0→x=e):=by
 rcases i with⟨rfl,b,rfl,_⟩|⟨rfl,b,rfl,_⟩<;>rcases f with⟨rfl,b',rfl,_⟩|⟨rfl,b',rfl,_⟩
 ·refine⟨rfl,fun _=>?_⟩
  unfold tK at d;simp only[bK,beq_iff_eq,Bool.and_true,true_and]at d;cases x;cases e;simp only at d;simp only[Hs.mk.injEq];exact⟨d.1.1,d.1.2,d.2⟩
 ·simp[tK]at d
 ·simp[tK]at d
 ·exact⟨rfl,fun h=>by cases h⟩
theorem Wb{a:Int}{x f:Hs}(hx:a=0→x=f){l l':List Pr}{xs d:List UInt8}(hv:Mq a x l xs)(b:Mq a f l' d)(j:Fit l)(c:Fit l')(n:l.length≤60000)(i:l'.length≤60000)(k:cf l)(g:cf l'):xs=d↔l=l':=by
 rcases hv with⟨rfl,rfl⟩|⟨rfl,ys,hv,rfl⟩<;>rcases b with⟨e,rfl⟩|⟨e,m,b,rfl⟩
 ·rw[hx rfl]
  constructor
  ·intro h
   have h:gf f 13 l++ []=gf f 13 l'++ []:=by rw[(eT.inj h).2]
   exact(HS 13 j c n i k g h).1
  ·rintro rfl;rfl
 ·cases e
 ·cases e
 ·rw[eT.injEq,←Yx hv b j c]
  exact⟨fun h=>h.2,fun h=>⟨rfl,h⟩⟩
theorem TreeIs.plain{W:Nat→Prop}{h:ae}{e:Int}{x:Hs}{t:Tr}{l:List Pr}(i:TreeIs W h e x t l):(∀a,t.2.2.2.2.1=some a→gI h a)∧(∀a,t.2.2.2.2.2=some a→gI h a):=by
 rcases i with⟨rfl,b,rfl,t⟩|⟨rfl,b,rfl,t⟩
 ·obtain⟨s,g,_⟩:=t
  obtain⟨d,n,sp,sk,ow,f,_⟩:=g.ex;refine⟨fun a c=>?_,fun a c=>(by cases c)⟩
  cases c;exact⟨_,_,f,show 0<6 by decide⟩
 ·obtain⟨w,F,⟨val,s,ow,ks,f,_⟩,_⟩:=t.ex
  refine⟨fun a c=>(by cases c),fun a c=>?_⟩
  cases c;exact⟨_,_,f,show 0<5 by decide⟩
theorem Yg{W W':Nat→Prop}{x C:Hs}{h:ae}{k g:Int}{t u:Tr}{l l':List Pr}(i:TreeIs W h k x t l)(E:TreeIs W' h g C u l'){K:Bool→ae→Prop}(D:∀h',Upd No h h'→K (decide (t=u)) h'):HC PG Cj [HJ t,HJ u] [.c .bool] K h:=by
 refine Sx t u ?_;unfold Jx bw ag aQ r7;refine aW fun m b1 k1=>aW fun h2 b2 n=>?_
 have j:=n.get0 b1;have B:=(i.upd0 (k1.tr n)).plain;have A:=(E.upd0 (k1.tr n)).plain;refine⟨_,vc j 0,_,vc j 1,_,vc j 2,_,vc j 3,_,vc j 4,_,vc j 5,_,vc b2 0,_,vc b2 1,_,vc b2 2,_,vc b2 3,_,vc b2 4,_,vc b2 5,⟨⟨fun y z v s=>⟨B.1 y v,A.1 z s⟩,fun y z v s=>⟨B.2 y v,A.2 z s⟩,trivial⟩,?_⟩⟩
 have e:((t.1==u.1)&&((((((t.2.1==u.2.1)&&((t.2.2.1==u.2.2.1)&&true)))&&((t.2.2.2.1==u.2.2.2.1)&&true)))&&((t.2.2.2.2.1==u.2.2.2.2.1)&&((t.2.2.2.2.2==u.2.2.2.2.2)&&true))))=decide (t=u):=by
  obtain⟨a,b,c,d,e,f⟩:=t;obtain⟨a',b',c',F,G,H⟩:=u;rw[Bool.eq_iff_iff];simp only[bK,beq_iff_eq,decide_eq_true_iff,Prod.mk.injEq,and_true];constructor
  ·rintro⟨m,⟨⟨h2,w⟩,p⟩,o,q⟩;exact⟨m,h2,w,p,o,q⟩
  ·rintro⟨m,h2,w,p,o,q⟩;exact⟨m,⟨⟨h2,w⟩,p⟩,o,q⟩
 rw[e];exact D h2 (k1.tr n)
end Go.Proofs
namespace Go.Proofs
open Go Go.Lift
abbrev zPrL:List Value:= [.string (⟨#[]⟩:ByteArray),.string (⟨#[]⟩:ByteArray)]
theorem uB{h:ae}{t:TypeId}{p:Pr}{k:ae→Prop}(d:∀h',h'[h.size]? =some (.cells #[.string p.1,.string p.2] t (0,0))→Upd No h h'→k h'):
  At (hnew h [.string (⟨#[]⟩:ByteArray),.string (⟨#[]⟩:ByteArray)] t) fun b=>u6 b (some (aF h)) 0 [.string p.1,.string p.2]∧At (iP b (aF h) 0 [.string p.1,.string p.2]) k:=by
 refine aW fun e b1 k1=>?_
 exact cU (c:=zPrL) (vs:= [.string p.1,.string p.2]) b1 rfl fun h2 b2 a=>d h2 b2 (k1.own a (al _))
theorem xJ{t:TypeId}{M:Nat→Prop}{h:ae}{so:SliceV}{out:List Pr}{p:Pr}{K:SliceV→ae→Prop}(c:OwnS eC 2 t M h so out)(hM:∀b,h.size≤b→M b)(g:out.length+1≤1000000000)
  (e:∀s' h',OwnS eC 2 t M h' s' (out++ [p])→Upd M h h'→K s' h'):
  ∃xs,SRow (hnew h [.string p.1,.string p.2] t) (some (aF h)) (1*2) xs∧AppP (some [.string (⟨#[]⟩:ByteArray),.string (⟨#[]⟩:ByteArray)]) 2 32 t so.a so.len so.cap 1 xs (hnew h [.string p.1,.string p.2] t) K:=by
 have k:=Upd.hnew No h [.string p.1,.string p.2] t;have d:OwnS eC 2 t (fun _=>True) (hnew h [.string p.1,.string p.2] t) ⟨some (aF h),1,1⟩ [p]:=⟨rfl,gq,al _,.inr ⟨h.size,[],rfl,trivial,cp ..,rfl⟩⟩
 refine⟨_,(d.sl (W:=No) fun _ _ _ h=>h).srow,?_⟩
 refine AppP.own (ys:= [p]) (c.upd k fun _ _ h=>h) rfl rfl rfl rfl (by omega) (by simp only[aE];omega) (hM _ (by rw[iY];omega)) fun s' h' a f=>?_
 exact e s' h' a ((Upd.hnew M h _ _).tr f)
theorem Dq{p:Pr}:∀{A B:List Pr},(∀r∈A,kl r.1 p.1)→iM p (A++B)=A++iM p B
 | [],_,_=>rfl
 |r::A,B,h=>by
  rw[cJ,iw,if_pos (h r (aw ..)),Dq fun q a=>h q (List.mem_cons_of_mem _ a)];rfl
theorem Pu{p q:Pr}:∀{A:List Pr},(∃r∈A,kl p.1 r.1)→iM p (A++ [q])=iM p A++ [q]
 | [],h=>by obtain⟨r,d,_⟩:=h;simp at d
 |r::A,h=>by
  rw[cJ,iw,iw];by_cases b:kl r.1 p.1
  ·rw[if_pos b,if_pos b,Pu]
   ·rfl
   ·obtain⟨e,a,c⟩:=h
    rcases aA.1 a with rfl|a
    ·exact absurd (gJ b c) (cr _)
    ·exact⟨e,a,c⟩
  ·rw[if_neg b,if_neg b]
   by_cases h2:r.1=p.1
   ·rw[if_pos h2,if_pos h2];rfl
   ·rw[if_neg h2,if_neg h2];rfl
theorem Ps{p:Pr}:∀{l:List Pr},(∀q∈l,kl p.1 q.1)→iM p l=p::l
 | [],_=>rfl
 |q::l,h=>by
  have a:=h q (aw ..);rw[iw,if_neg fun h2=>cr _ (gJ a h2),if_neg fun e=>by rw[e]at a;exact cr _ a]
theorem LX{p:Pr}:∀{l:List Pr},cf l→iM p (l.filter fun q=>decide (q.1≠p.1))=iM p l
 | [],_=>rfl
 |r::l,a=>by
  have a:=aJ.1 a;have keep:∀{l:List Pr},(∀q∈l,kl p.1 q.1)→(l.filter fun q=>decide (q.1≠p.1))=l:=fun{l} h=>List.filter_eq_self.2 fun q b=>decide_eq_true fun e=>by have:=h q b;rw[e]at this;exact cr _ this
  rw[List.filter_cons,iw];by_cases e:r.1=p.1
  ·have d:∀q∈l,kl p.1 q.1:=fun q b=>by rw[←e];exact a.1 q b
   rw[if_neg (by simp[e]),if_neg (by rw[e];exact cr _),if_pos e,keep d,Ps d]
  ·rw[if_pos (by simpa using e),iw]
   by_cases c:kl r.1 p.1
   ·rw[if_pos c,if_pos c,LX a.2]
   ·rw[if_neg c,if_neg c,if_neg e,if_neg e]
    have h2:=ql c e;rw[keep fun q b=>gJ h2 (a.1 q b)]
theorem fy{i n:Nat}(h:i<n)(a:n≤9223372036854775807):IntKind.wrap .i64 ((i:Int)+1)=((i+1:Nat):Int):=by rw[Go.IntWalk.i64_in _ (by omega)];omega
theorem AH(p:Pr):∀{l:List Pr},(iM p l).length≤l.length+1
 | []=>al _
 |q::l=>by
  rw[iw];split
  ·have:=AH p (l:=l);simp only[ao];omega
  ·split<;>simp
theorem UX{W W':Nat→Prop}{h h':ae}{a:Int}{x:Hs}{t u:Tr}{l l':List Pr}(i:TreeIs W h a x t l)(c:TreeIs W' h' a x u l'):tK t u=true:=by
 rcases i with⟨rfl,b,rfl,_⟩|⟨rfl,b,rfl,_⟩<;>rcases c with⟨e,b',rfl,_⟩|⟨e,b',rfl,_⟩
 ·simp[tK]
 ·cases e
 ·cases e
 ·simp[tK]
theorem aa2{k:Int}(a:0≤k)(b:k≤255):IntKind.wrap .i64 (eB k 2)=0∨IntKind.wrap .i64 (eB k 2)=1:=by
 have:eB k 2=k%2:=Int.tmod_eq_emod_of_nonneg a;rw[this,fx (by omega)];omega
abbrev hsL(x:Hs):List Value:= [.int .u64 x.k0,.int .u64 x.k1,.int .u64 x.mask]
end Go.Proofs
namespace Go.Proofs
open Go Go.Lift
abbrev Wk:=Option Addr×ByteArray×Bool
theorem OwnS.pop{α:Type}{f:α→List Value}{d:Nat}{t:TypeId}{M:Nat→Prop}{h:ae}{s:SliceV}{xs:List α}{x:α}(c:OwnS f d t M h s (xs++ [x])):OwnS f d t M h ⟨bh s.a 0 s.cap d,xs.length,s.cap⟩ xs:=by
 have j:=c.len;have hc:=c.cap;rw[ac,aE]at j;refine⟨rfl,c.ne,by simp only;omega,c.blk.imp id fun⟨b,a,i,e,aP,g⟩=>⟨b,f x++a,?_,e,?_,?_⟩⟩
 ·simp only;rw[i,sub_zero]
 ·rw[aP,List.flatMap_append,aO,List.flatMap_nil,aL,ar]
 ·rw[ac,(c.ne x).1,g]
  simp only;have:s.cap-xs.length=(s.cap-s.len)+1:=by omega
  rw[this,Nat.add_mul];omega
structure It where
 b:Nat
 ah:ByteArray
 own:Bool
 sl:ByteArray
 w:Option ByteArray
 F:Fo
def It.raw(i:It):Wk:=(some ⟨i.b,0,none⟩,i.ah,i.own)
def It.key(i:It):List UInt8:=i.ah.data.toList++i.sl.data.toList
def It.cost(i:It):Nat:=if i.own then 1 else 2+2*NF i.F
end Go.Proofs
namespace Go.Proofs
open Go Go.Lift
theorem nZ{W:Nat→Prop}{h:ae}{b:Nat}{sl:ByteArray}{w:Option ByteArray}{F:Fo}(r:RxN W h b sl w F){K:ByteArray→ae→Prop}(c:K sl h):HC PG eR [.pointer (some ⟨b,0,none⟩)] [.c .str] K h:=by
 refine CC _ ?_;unfold vG aK;obtain⟨val,s,ow,ks,a,_⟩:=r;exact aj.2 ⟨_,rfl,sl,dY (i:=0) a,c⟩
theorem HX{W:Nat→Prop}{h:ae}{b:Nat}{sl:ByteArray}{w:Option ByteArray}{F:Fo}(r:RxN W h b sl w F){K:ByteArray×Bool→ae→Prop}(c:∀v,(∀u,w=some u→v=u)→K (v,w.isSome) h):HC PG jd [.pointer (some ⟨b,0,none⟩)] [.c .str,.c .bool] K h:=by
 refine vx _ ?_;unfold qw aK cD;obtain⟨val,s,ow,ks,a,hv,_⟩:=r;exact aj.2 ⟨_,rfl,val,dY (i:=2) a,_,rfl,w.isSome,dY (i:=1) a,c val (vw hv)⟩
theorem OJ{W:Nat→Prop}{h:ae}{b:Nat}{sl:ByteArray}{w:Option ByteArray}{F:Fo}(r:RxN W h b sl w F){K:ByteArray×Bool→ae→Prop}(c:K (w.getD ⟨#[]⟩,w.isSome) h):HC PG jd [.pointer (some ⟨b,0,none⟩)] [.c .str,.c .bool] K h:=by
 refine vx _ ?_;unfold qw aK cD;obtain⟨val,s,ow,ks,a,rfl,_⟩:=r;exact aj.2 ⟨_,rfl,_,dY (i:=2) a,_,rfl,w.isSome,dY (i:=1) a,c⟩
theorem EO{W:Nat→Prop}{h:ae}{b:Nat}{sl:ByteArray}{w:Option ByteArray}{F:Fo}(r:RxN W h b sl w F)(k:F.toL.length≤256){K:SliceV→ae→Prop}(j:∀s' h' ks,OwnS pj 1 bo (fun y=>h.size≤y) h' s' ks→RxL W h' ks F.toL→Upd No h h'→K s' h'):HC PG li [.pointer (some ⟨b,0,none⟩)] [.c .slice] K h:=by
 refine D2 _ ?_;unfold wH bU;obtain⟨val,s,ow,ks,e,hv,d,_,g⟩:=r;have c:=kM.1 g;refine aj.2 ⟨_,rfl,s,dY (i:=3) e,?_⟩;refine Mk d (by rw[c.1];omega) fun s' h' f a=>j s' h' ks f (c.upd0 a) a
def It.Ok(W:Nat→Prop)(h:ae)(i:It):Prop:=RxN W h i.b i.sl i.w i.F∧fV i.F∧i.key.length≤10000∧∀p∈wZ i.w i.F,i.key.length+p.1.length≤10000
theorem It.Ok.updM{W M:Nat→Prop}{h h':ae}(k:Upd M h h')(hm:∀b,M b→W b∨h.size≤b){i:It}(o:It.Ok W h i):It.Ok W h' i:=⟨o.1.updM k hm,o.2⟩
theorem UL(lab:List UInt8)(w:Option ByteArray)(a b:Fo):AZ (.cons lab w a b)=((w.map fun v=>(([]:List UInt8),v)).toList++AZ a).map (fun p=>(lab++p.1,p.2))++AZ b:=rfl
end Go.Proofs
namespace Go.Proofs
open Go Go.Lift
end Go.Proofs
namespace Go.Proofs
open Go Go.Lift
abbrev aal(x:Pr):List Value:= [.agg #[.string x.1,.string x.2]]
theorem KD{h:ae}{fv:Value}{N:Nat}{S:List Pr→Prop}{Q:Nat→Prop}(hg:Gives PG fv aal N S Q h)(hN:N≤100000000){K:SliceV→ae→Prop}
  (hk:∀s' h' xs,S xs→OwnS eC 2 aq (fun b=>h.size≤b) h' s' xs→Upd No h h'→K s' h'):HC PG fK [.slice none 0 0,fv] [.c .slice] K h:=by
 refine ny ⟨none,0,0⟩ fv ?_;unfold iU nv ax lM hP vN Zx;have k0:=Upd.hnew No h [.slice none 0 0] cK;have b0:=cp h [.slice none 0 0] cK;have hsz:(hnew h [.slice none 0 0] cK).size=h.size+1:=iY ..;have E:=hg.upd k0 fun _ _=>id
 refine bP ?_;generalize hnew h [.slice none 0 0] cK=h1 at E k0 b0 hsz;refine⟨fun lo hlo g=>?_⟩
 obtain⟨f,first,cap,rfl,O⟩:=E.run
 refine⟨f,first,cap,rfl,?_⟩
 have k1:Upd No h1 ((h1.push (.deferred (some []))).push (lo .ready none)):=(Upd.push No _ _).tr (Upd.push No _ _);have l2:((h1.push (.deferred (some []))).push (lo .ready none))[h1.size+1]? =some (lo .ready none):=by
  have:=zw (h1.push (.deferred (some []))) (lo .ready none);rwa [Array.size_push]at this
 have l1:((h1.push (.deferred (some []))).push (lo .ready none))[h1.size]? =some (.deferred (some [])):=(Upd.push No _ _).get0 (zw h1 _);refine O (.func (.yield (h1.size+1)) #[] #[]) (fun pre A h'=>(∀b,A b→b<h'.size∧h.size≤b)∧A h.size∧A h1.size∧A (h1.size+1)∧h'[h1.size]? =some (.deferred (some []))∧h'[h1.size+1]? =some (lo .ready none)∧
   ∃s:SliceV,h'[h.size]? =some (.cells #[sv s] cK (0,0))∧OwnS eC 2 aq (fun b=>A b∧h1.size+1<b) h' s pre∧pre.length≤N)
  (fun b=>b=h.size∨b=h1.size∨b=h1.size+1) No _ _ ⟨fun _ _ _ D b a=>(D.1 b a).1,fun pre A h' h'' B D q X=>?_,fun pre A h' x K' D hlen hK=>?_⟩ ?_ k1 (fun _ _=>id) (fun b a hq=>?_) ?_
 ·obtain⟨T,h2,n,k,W,h6,s,h7,h8,h9⟩:=D
  exact⟨fun b a=>⟨aC (T b a).1 q.size,(T b a).2⟩,h2,n,k,q.get W (X _ n),q.get h6 (X _ k),s,q.get h7 (X _ h2),h8.upd q fun b a=>X b a.1,h9⟩
 ·obtain⟨m,j,i,d,hd,t,s,G,ho,hpl⟩:=D
  refine g x h' K' t ?_;refine uB (p:=x) fun hp bp z=>?_
  have zp:=bD bp;have t:=z.get0 t;have G:=z.get0 G;have hd:=z.get0 hd;have Z:=ho.upd z fun _ _ h=>h
  have sp:=z.size;refine⟨t,?_⟩;have w:Upd (· =h1.size+1) hp (hp.setIfInBounds (h1.size+1) (lo .busy none)):=Upd.set _ _ rfl
  have Y:=kY (o:=lo .busy none) t;have sb:=w.size;refine bP ?_;generalize hp.setIfInBounds (h1.size+1) (lo .busy none)=h2 at w Y sb;have P:=(m _ j).1;have L:=(m _ d).1;have F:=w.get bp (by omega);have H:=w.get G (by omega);refine⟨s,by rw[cY,bH H];rfl,_,vc F 0,_,vc F 1,bP ?_⟩
  refine xJ (p:=x) (M:=fun b=>((A b∧b<h'.size)∨h2.size≤b)∧h1.size+1<b) ((Z.upd w fun b a=>by omega).more fun b a=>⟨.inl ⟨a.1,(m b a.1).1⟩,a.2⟩) (fun b a=>⟨.inr a,by have:=bD Y;omega⟩) (by omega) fun s' n ho3 e=>?_
  have u:n[h.size]? =some (.cells #[sv s] cK (0,0)):=e.get H (by omega);refine⟨by rw[cY];exact iV u (by simp),?_⟩;have y:Upd (· =h.size) n (hset n (aF h) (.slice s'.a s'.len s'.cap)):=Upd.hset _ _ rfl
  have R:(hset n (aF h) (.slice s'.a s'.len s'.cap))[h.size]? =some (.cells #[sv s'] cK (0,0)):=by
   rw[cY,IE u,kY u];rfl
  refine bP ?_;generalize hset n (aF h) (.slice s'.a s'.len s'.cap)=k at y R;have C:k[h1.size+1]? =some (lo .busy none):=y.get (e.get Y (by omega)) (by omega);refine⟨C,?_⟩;have c:Upd (· =h1.size+1) k (k.setIfInBounds (h1.size+1) (lo .ready none)):=Upd.set _ _ rfl
  have hl5:=kY (o:=lo .ready none) C;have J:Upd A h' k:=((z.wide.tr (w.mono (M':=A) fun b a=>.inl (a▸d))).trans e fun b a=>a.1.imp (fun h=>h.1) fun h=>by omega).trans y fun b a=>.inl (a▸j)
  have z3:=e.size;have z4:=y.size;have z5:=c.size;refine hK _ (fun b=>((A b∧b<h'.size)∨h2.size≤b)∧b<k.size) ⟨fun b a=>⟨aC a.2 z5,a.1.elim (fun h=>(m b h.1).2) fun h=>by omega⟩,⟨.inl ⟨j,P⟩,by omega⟩,⟨.inl ⟨i,(m _ i).1⟩,by have:=(m _ i).1;omega⟩,⟨.inl ⟨d,L⟩,by omega⟩,
   c.get (y.get (e.get (w.get hd (by omega)) (by omega)) (by omega)) (by omega),hl5,s',c.get R (by omega),?_,by simp;omega⟩ (J.trans c fun b a=>.inl (a▸d)) fun b a=>a.1.imp (fun h=>h.1) fun h=>by omega
  exact(((ho3.upd y fun b a=>by omega).within).more fun b a=>⟨⟨a.1.1,a.2⟩,a.1.2⟩).upd c fun b a=>by omega
 ·refine⟨fun b a=>?_,.inl rfl,.inr (.inl rfl),.inr (.inr rfl),l1,l2,⟨none,0,0⟩,k1.get0 b0,OwnS.nil gq,aS _⟩
  have:=bD l2;rcases a with rfl|rfl|rfl<;>omega
 ·have:=hg.lt b hq
  rcases a with rfl|rfl|rfl<;>omega
 ·rintro xs A' h' hS ⟨m,j,i,d,hd,t,s,G,ho,hpl⟩ q hA'
  refine⟨.ready,none,by decide,t,?_⟩
  have c:Upd (· =h1.size+1) h' (h'.setIfInBounds (h1.size+1) (lo .exhausted none)):=Upd.set _ _ rfl
  show∃v:SliceV,aP (h'.setIfInBounds (h1.size+1) (lo .exhausted none)) (aF h)=some (.slice v.a v.len v.cap)∧_
  have V:=c.get hd (show ¬h1.size=h1.size+1 by omega)
  have I:=c.get G (show ¬h.size=h1.size+1 by omega)
  have U:=ho.upd c fun b a=>by omega
  generalize h'.setIfInBounds (h1.size+1) (lo .exhausted none)=W at c V I U;refine⟨s,by rw[cY,bH I];rfl,V,?_⟩
  have k6:Upd (· =h1.size) W (W.setIfInBounds h1.size (.deferred none)):=Upd.set _ _ rfl
  refine hk s _ xs hS ((U.upd k6 fun b a=>by omega).more fun b a=>(m b a.1).2) ?_
  refine(((k0.tr k1).trans q fun b a=>?_).trans c fun b a=>.inr (by omega)).trans k6 fun b a=>.inr (by omega)
  rcases a with rfl|rfl|rfl<;>(right;omega)
theorem PN{h:ae}{a:Value}{N:Nat}{S:List Pr→Prop}{Q:Nat→Prop}(c:Gives PG a aal N S Q h)(d:N≤100000000){K:SliceV→ae→Prop}
  (e:∀s' h' xs,S xs→OwnS eC 2 aq (fun b=>h.size≤b) h' s' xs→Upd No h h'→K s' h'):HC PG kC [a] [.c .slice] K h:=by
 refine vu a ?_;unfold oA;exact KD c d e
end Go.Proofs
namespace Go.Proofs
structure WO{α:Type}(lt:α→α→Bool):Prop where
 irr:∀a,lt a a=false
 asy:∀a b,lt a b=true→lt b a=false
 ntr:∀a b c,lt a b=false→lt b c=false→lt a c=false
section
variable {α:Type} {lt:α→α→Bool}
def Mj(lt:α→α→Bool)(x a:α):Bool:= !lt a x&& !lt x a
def Srt(lt:α→α→Bool)(l:List α):Prop:=l.Pairwise fun a b=>lt b a=false
structure Eqf(lt:α→α→Bool)(l l':List α):Prop where
 len:l'.length=l.length
 flt:∀x,l'.filter (Mj lt x)=l.filter (Mj lt x)
structure St(lt:α→α→Bool)(l l':List α):Prop where
 eqf:Eqf lt l l'
 srt:Srt lt l'
theorem Eqf.rfl(l:List α):Eqf lt l l:=⟨_root_.rfl,fun _=>_root_.rfl⟩
theorem Eqf.tr{a b c:List α}(h:Eqf lt a b)(k:Eqf lt b c):Eqf lt a c:=⟨k.len.trans h.len,fun x=>(k.flt x).trans (h.flt x)⟩
theorem Eqf.app{a b a' b':List α}(h:Eqf lt a a')(k:Eqf lt b b'):Eqf lt (a++b) (a'++b'):=
 ⟨by rw[ac,ac,h.len,k.len],fun x=>by rw[fZ,fZ,h.flt,k.flt]⟩
theorem IX(w:WO lt)(a:α):Mj lt a a=true:=by unfold Mj;rw[w.irr];rfl
theorem Eqf.mem(w:WO lt){l l':List α}(h:Eqf lt l l'){a:α}:a∈l'↔a∈l:=by
 have e:=h.flt a;constructor
 ·intro hm
  have:a∈l'.filter (Mj lt a):=d8.2 ⟨hm,IX w a⟩;rw[e]at this;exact(d8.1 this).1
 ·intro hm
  have:a∈l.filter (Mj lt a):=d8.2 ⟨hm,IX w a⟩;rw[←e]at this;exact(d8.1 this).1
theorem Y4(w:WO lt){x u v:α}(a:Mj lt x u=true)(hv:Mj lt x v=true):lt v u=false:=by
 unfold Mj at a hv;simp only[bK,Bool.not_eq_true']at a hv;exact w.ntr v x u hv.1 a.2
theorem Eqf.swap(w:WO lt){U V:List α}(h:∀u∈U,∀v∈V,lt v u=true):Eqf lt (U++V) (V++U):=by
 refine⟨by rw[ac,ac,Nat.add_comm],fun x=>?_⟩
 rw[fZ,fZ];cases hU:U.filter (Mj lt x)with
 |nil=>rw[aL,cB]
 |cons u us=>
  cases hV:V.filter (Mj lt x)with
  |nil=>rw[aL,cB]
  |cons v vs=>
   have c:u∈U.filter (Mj lt x):=by rw[hU];exact aw ..
   have hv:v∈V.filter (Mj lt x):=by rw[hV];exact aw ..
   have b:=d8.1 c;have h2:=d8.1 hv;have a:=h u b.1 v h2.1;rw[Y4 w b.2 h2.2]at a;cases a
theorem Srt.app{a b:List α}(h:Srt lt a)(k:Srt lt b)(c:∀x∈a,∀y∈b,lt y x=false):Srt lt (a++b):=cn.2 ⟨h,k,c⟩
theorem Srt.left{a b:List α}(h:Srt lt (a++b)):Srt lt a:=(cn.1 h).1
theorem Srt.right{a b:List α}(h:Srt lt (a++b)):Srt lt b:=(cn.1 h).2.1
theorem Srt.cross{a b:List α}(h:Srt lt (a++b)):∀x∈a,∀y∈b,lt y x=false:=(cn.1 h).2.2
theorem Srt.nil:Srt lt ([]:List α):=gF
theorem Srt.one(a:α):Srt lt [a]:=List.pairwise_singleton ..
theorem MQ(w:WO lt){S L G:List α}{t:α}(h:St lt S (L++G))(e:∀l∈L,lt t l=false)(b:∀g∈G,lt t g=true):St lt (S++ [t]) (L++t::G):=by
 refine⟨(h.eqf.app (Eqf.rfl [t])).tr ?_,?_⟩
 ·rw[ar]
  exact(Eqf.rfl L).app (Eqf.swap w (U:=G) (V:= [t]) fun u d v hv=>by rw[aD.1 hv];exact b u d)
 ·refine h.srt.left.app (aJ.2 ⟨fun g c=>w.asy t g (b g c),h.srt.right⟩) fun x hx y a=>?_
  rcases aA.1 a with rfl|a
  ·exact e x hx
  ·exact h.srt.cross x hx y a
theorem CV(w:WO lt){V1 V2:List α}{u:α}(h:Srt lt (V1++V2))(b:∀v∈V1,lt v u=true)(h2:∀v∈V2,lt v u=false):St lt ([u]++(V1++V2)) (V1++u::V2):=by
 refine⟨?_,?_⟩
 ·rw[←ar]
  have:=(Eqf.swap w (U:= [u]) (V:=V1) fun x hx y a=>by rw[aD.1 hx];exact b y a).app (Eqf.rfl V2)
  rw[ar V1]at this;exact this
 ·refine h.left.app (aJ.2 ⟨h2,h.right⟩) fun x hx y a=>?_
  rcases aA.1 a with rfl|a
  ·exact w.asy x y (b x hx)
  ·exact h.cross x hx y a
theorem FV(w:WO lt){U1 U2:List α}{v:α}(h:Srt lt (U1++U2))(a:∀u∈U1,lt v u=false)(h2:∀u∈U2,lt v u=true):St lt ((U1++U2)++ [v]) (U1++v::U2):=
 MQ w ⟨Eqf.rfl _,h⟩ a h2
theorem Lq(w:WO lt){U1 U2 V1 V2 d R2:List α}(g:Srt lt (U1++U2))(j:Srt lt (V1++V2))(f:∀v∈V1,∀u∈U2,lt v u=true)(h2:∀u∈U1,∀v∈V2,lt v u=false)(c:St lt (U1++V1) d)(b:St lt (U2++V2) R2):St lt ((U1++U2)++(V1++V2)) (d++R2):=by
 refine⟨?_,c.srt.app b.srt fun x hx y a=>?_⟩
 ·have e:Eqf lt ((U1++U2)++(V1++V2)) ((U1++V1)++(U2++V2)):=by
   have:=((Eqf.rfl U1).app (Eqf.swap w (U:=U2) (V:=V1) fun u i v hv=>f v hv u i)).app (Eqf.rfl (lt:=lt) V2)
   simp only[ar]at this⊢;exact this
  exact e.tr (c.eqf.app b.eqf)
 ·rcases bF.1 ((c.eqf.mem w).1 hx)with hx|hx<;>rcases bF.1 ((b.eqf.mem w).1 a)with a|a
  ·exact g.cross x hx y a
  ·exact h2 x hx y a
  ·exact w.asy x y (f x hx y a)
  ·exact j.cross x hx y a
inductive Runs(lt:α→α→Bool)(bs:Nat):List α→Prop where
 |last (l:List α):l.length≤bs→Srt lt l→Runs lt bs l
 |more (b l:List α):b.length=bs→Srt lt b→Runs lt bs l→Runs lt bs (b++l)
theorem Runs.split{a:Nat}{l:List α}(h:Runs lt a l)(c:a≤l.length):∃b r,l=b++r∧b.length=a∧Srt lt b∧Runs lt a r:=by
 cases h with
 |last _ h1 h2=>exact⟨l,[],(aL l).symm,by omega,h2,.last _ (aS _) Srt.nil⟩
 |more b r h1 h2 h3=>exact⟨b,r,_root_.rfl,h1,h2,h3⟩
theorem Runs.short{a:Nat}{l:List α}(h:Runs lt a l)(c:l.length≤a):Srt lt l:=by
 cases h with
 |last _ h1 h2=>exact h2
 |more b r h1 h2 h3=>
  rw[ac]at c;have:r= []:=List.length_eq_zero_iff.1 (by omega);rw[this,aL];exact h2
def Full(lt:α→α→Bool)(a:Nat)(d:List α):Prop:=∀z,Runs lt a z→Runs lt a (d++z)
theorem Full.nil{a:Nat}:Full lt a ([]:List α):=fun _ h=>h
theorem Full.app{a:Nat}{d b:List α}(h:Full lt a d)(e:b.length=a)(f:Srt lt b):Full lt a (d++b):=fun z c=>by
 rw[ar];exact h _ (.more b z e f c)
end
end Go.Proofs
namespace Go.Proofs
open Go Go.Lift
abbrev sG(z:Hs)(p:Pr):List Value:= [.string p.1,.string p.2,.int .u64 (eP z p.1)]
theorem Nm(z:Hs)(p:Pr):(sG z p).length=3∧0<3:=⟨rfl,by omega⟩
theorem TB(z:Hs):∀xs:List Pr,cG (xs.flatMap (sG z))=true
 | []=>rfl
 |x::xs=>by rw[aO];exact kZ rfl (TB z xs)
section
variable {α:Type} {f:α→List Value} {sz:Nat} {t:TypeId} {M:Nat→Prop} {h:ae} {s:SliceV} {P Q:List α} {x:α}
theorem fG(c:OwnS f sz t M h s (P++x::Q)){i:Nat}(hi:i=P.length):∃a,s.a=some a∧∀j v,(f x)[j]? =some v→aP h (adr (adr a (i*sz)) j)=some v:=by
 obtain⟨a,b,_,hv⟩:=(c.sl (W:=No) fun _ _ _ h=>h).at (i:=i) (x:=x) (by rw[hi,aN (al _),Nat.sub_self];rfl)
 exact⟨a,b,hv⟩
theorem lZ(g:OwnS f sz t M h s (P++x::Q))(y:α){a:Addr}(m:s.a=some a){i:Nat}(hi:i=P.length){G:ae→Prop}(p:∀h',OwnS f sz t M h' s (P++y::Q)→Upd M h h'→G h'):
  u6 h (some (adr a (i*sz))) 0 (f y)∧At (iP h (adr a (i*sz)) 0 (f y)) G:=by
 obtain⟨a',d,hM,o,c,q⟩:=OwnS.setAt g (k:=i) (by rw[hi,ac,ao];omega) y;rw[m]at d;cases d;refine⟨o,bP (p _ ?_ (q.mono fun b e=>.inl (by have e:b=a.block:=e;rw[e];exact hM)))⟩
 subst hi;have n:(P++x::Q).take P.length=P:=List.take_left;have j:(P++x::Q).drop (P.length+1)=Q:=by rw[←List.drop_drop,List.drop_left];rfl
 rw[n,j]at c;exact c
end
theorem tg{α:Type}{f:α→List Value}{b:Nat}{t:TypeId}{M:Nat→Prop}{h:ae}{s:SliceV}{xs:List α}{x:α}(d:OwnS f b t M h s xs){i:Nat}(hi:xs[i]? =some x):∃a,s.a=some a∧∀j v,(f x)[j]? =some v→aP h (adr (adr a (i*b)) j)=some v:=by
 obtain⟨a,c,_,hv⟩:=(d.sl (W:=No) fun _ _ _ h=>h).at hi
 exact⟨a,c,hv⟩
theorem W6{α:Type}{A U X:List α}{i:Nat}(hi:A.length+U.length≤i):(A++(U++X))[i]? =X[i-A.length-U.length]?:=by
 rw[aN (by omega),aN (by omega)]
theorem Nr{α:Type}{A U V B:List α}{i k:Nat}{x:α}(hi:A.length+U.length+k=i)(a:V[k]? =some x):(A++(U++(V++B)))[i]? =some x:=by
 rw[W6 (by omega),show i-A.length-U.length=k by omega,bQ (bM.1 a).1];exact a
theorem Ho{α:Type}{A U X:List α}{i k:Nat}{x:α}(hi:A.length+k=i)(a:U[k]? =some x):(A++(U++X))[i]? =some x:=by
 rw[aN (by omega),show i-A.length=k by omega,bQ (bM.1 a).1];exact a
theorem vX{i j:Nat}(h:i+j≤4000000000):IntKind.wrap .i64 (Int.fdiv (IntKind.wrap .u64 (IntKind.wrap .i64 ((i:Int)+(j:Int)))) (2^(min (1:Int).toNat (IntKind.bits .u64))))=(((i+j)/2:Nat):Int):=by
 have a:(2^(min (1:Int).toNat (IntKind.bits .u64)):Int)=2:=rfl;rw[a,fx (x:=(i:Int)+(j:Int)) (by omega),Go.IntWalk.u64_in _ (by omega),Int.fdiv_eq_ediv_of_nonneg _ (by omega),fx (by omega)];omega
theorem jX{α:Type}{lt:α→α→Bool}(w:WO lt){l:List α}(h:Srt lt l){i j:Nat}(b:i≤j){x y:α}(hx:l[i]? =some x) (c:l[j]? =some y):lt y x=false:=by
 obtain⟨hi,rfl⟩:=bM.1 hx;obtain⟨d,rfl⟩:=bM.1 c;rcases Nat.lt_or_ge i j with a|a
 ·exact List.pairwise_iff_getElem.1 h i j hi d a
 ·have:i=j:=by omega
  subst this;exact w.irr _
theorem AL{α:Type}(l:List α):l= []∨∃l' y,l=l'++ [y]:=by
 rcases List.eq_nil_or_concat l with h|⟨l',y,h⟩
 ·exact .inl h
 ·exact .inr ⟨l',y,by rw[h,List.concat_eq_append]⟩
structure Cmp{α:Type}(lt:α→α→Bool)(f:α→List Value)(M:Nat→Prop)(Iv:ae→Prop)(V:Value):Prop where
 call:∀(a b:α) {h:ae} {K:Int→ae→Prop},Iv h→(∀h' e,Upd No h h'→decide (e<0)=lt a b→K e h')→HV PG V [.agg (f a).toArray,.agg (f b).toArray] [.c (.int .i64)] K h
 step:∀{h h':ae},Upd M h h'→Iv h→Iv h'
end Go.Proofs
