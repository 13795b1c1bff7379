/- A part of the proof that the named laws of this program answer true, whatever the input. -/
import Derived.Test.YtncppacbfagpgaaGreatDoorPart3
import Derived.Test.YtncppacbfagpgaaGreatDoorLift3
open Bool renaming and_eq_true→bq
open ByteArray renaming mk→nC
open Int renaming tmod→kI
open List renaming pairwise_cons→aF,mem_cons→aC,append_assoc→aq,length_append→ac,length_singleton→aK,cons→ft,cons_append→cM,mem_cons_self→au,length_cons→ar,flatMap_cons→aN,append_nil→aL,filter_append→eN,mem_filter→di,nil_append→cN,pairwise_append→cx,mem_singleton→aD,mem_append→bC,getElem?_append_right→aZ,getElem?_append_left→cy,getElem?_eq_some_iff→bN
open List.Pairwise renaming nil→eI
open Nat renaming le_refl→aj,zero_add→aR,lt_of_lt_of_le→aG,zero_le→aS,mul_le_mul_right→cz
namespace Go.Proofs
open Go Go.Lift
theorem uz{p q:Pr}:∀{l:List Pr},bM l→(q∈iq p l↔q=p∨(q∈l∧q.1≠p.1))
 | [],_=>by simp[iq]
 |r::l,b=>by
  have b:=aF.1 b;rw[gR];by_cases a:kl r.1 p.1
  ·have c:r.1≠p.1:=fun e=>by rw[e]at a;exact bZ _ a
   rw[if_pos a,aC,aC,uz b.2];constructor
   ·rintro(rfl|h|⟨h,h'⟩)
    ·exact .inr ⟨.inl rfl,c⟩
    ·exact .inl h
    ·exact .inr ⟨.inr h,h'⟩
   ·rintro(h|⟨h|h,h'⟩)
    ·exact .inr (.inl h)
    ·exact .inl h
    ·exact .inr (.inr ⟨h,h'⟩)
  ·rw[if_neg a]
   by_cases h2:r.1=p.1
   ·rw[if_pos h2,aC,aC]
    constructor
    ·rintro(h|h)
     ·exact .inl h
     ·refine .inr ⟨.inr h,fun e=>?_⟩
      have:=b.1 q h;rw[e,h2]at this;exact bZ _ this
    ·rintro(h|⟨rfl|h,h'⟩)
     ·exact .inl h
     ·exact absurd h2 h'
     ·exact .inr h
   ·rw[if_neg h2,aC,aC]
    have d:=qQ a h2;constructor
    ·rintro(h|rfl|h)
     ·exact .inl h
     ·exact .inr ⟨.inl rfl,h2⟩
     ·refine .inr ⟨.inr h,fun e=>?_⟩
      have:=gD d (b.1 q h);rw[e]at this;exact bZ _ this
    ·rintro(h|⟨rfl|h,h'⟩)
     ·exact .inl h
     ·exact .inr (.inl rfl)
     ·exact .inr (.inr h)
def RadRoot(W:Nat→Prop)(h:ad)(r:Option Addr)(l:List Pr):Prop:=(r=none∧l= [])∨∃b,r=some ⟨b,0,none⟩∧RadAt W h b l
theorem RadRoot.upd0{W:Nat→Prop}{h h':ad}{r:Option Addr}{l:List Pr}(k:Upd No h h')(t:RadRoot W h r l):RadRoot W h' r l:=t.imp id fun⟨b,e,t⟩=>⟨b,e,t.upd0 k⟩
theorem tS{a b:ByteArray}:a.data.toList=b.data.toList↔a=b:=by
 constructor
 ·intro h;cases a;cases b;exact congrArg nC (Array.toList_inj.1 h)
 ·rintro rfl;rfl
theorem IR{W:Nat→Prop}{h:ad}(c:∀y,W y→y<h.size){K:Option Addr→ad→Prop}(a:∀h' b,RadAt W h' b []→Upd No h h'→K (some ⟨b,0,none⟩) h'):HC PG um [] [.c .ptr] K h:=by
 refine LJ ?_;unfold Ct O0;refine bG (a _ h.size ⟨none,.nil,⟨⟨#[]⟩,⟨none,0,0⟩,none,[],co h aaV cq,rfl,Sl.nil qO,⟨aj _,fun hx=>Nat.lt_irrefl _ (c _ hx)⟩,rfl⟩,trivial,fun k v=>?_⟩ (Upd.hnew No h _ _))
 simp[xM,BP]
theorem FK{W:Nat→Prop}{h:ad}{r:Option Addr}{l:List Pr}(t:RadRoot W h r l)(c:∀y,W y→y<h.size){K:Option Addr→ad→Prop}(a:∀h' b,RadAt W h' b l→Upd No h h'→(r=some ⟨b,0,none⟩∨r=none)→K (some ⟨b,0,none⟩) h'):HC PG rW [.pointer r] [.c .ptr] K h:=by
 refine Ow r ?_;unfold E4;rcases t with⟨rfl,rfl⟩|⟨b,rfl,t⟩
 ·exact aw.2 (IR c fun h' b t d=>a h' b t d (.inr rfl))
 ·exact ag.2 (a h b t (Upd.refl _ _) (.inl rfl))
theorem Py{W:Nat→Prop}{h:ad}{r:Option Addr}{l:List Pr}(t:RadRoot W h r l)(A:∀y,W y→y<h.size)(n:bM l)(p:Pr)(E:p.1.size≤1000000){K:Option Addr×Bool→ad→Prop}
  (C:∀h' b' a,Upd No h h'→RadAt W h' b' (iq p l)→(p∈l→r=some ⟨b',0,none⟩∨r=none)→K (some ⟨b',0,none⟩,a) h'):
  HC PG AV [.pointer none,.pointer r,.agg #[.string p.1,.string p.2]] [.c .ptr,.c .bool] K h:=by
 refine QL none r p ?_;unfold Hl av wT Xk;have k1:=Upd.hnew No h [.string p.1,.string p.2] al;have b1:=co h [.string p.1,.string p.2] al;refine bG ?_;simp only[cT h];generalize hnew h [.string p.1,.string p.2] al=h1 at k1 b1;have g:∀{h':ad},Upd No h1 h'→∀i,aJ h' (adr ⟨h.size,0,none⟩ i)=(#[.string p.1,.string p.2]:Array Value)[i]?:=fun k i=>by rw[cd,bm (k.get0 b1),aR]
 have r0:=Upd.refl No h1;refine⟨p.1,g r0 0,p.2,g r0 1,FK (t.upd0 k1) (fun y z=>aG (A y z) k1.size) fun h2 b t2 c H=>⟨g c 1,g c 0,?_⟩⟩
 obtain⟨w,F,r1,r2,B⟩:=t2.ex;refine XJ (p.1.size+1) p.1 p.2 (by omega) E r1 (fun y z=>aG (A y z) (k1.tr c).size) r2 fun D b3 G F' a I s m u j o x=>?_
 refine C D b3 a ((k1.tr c).tr s) ⟨G,F',m,u,fun k v=>?_⟩ fun hm=>?_
 ·rw[lj,j k v,←lj,B k v]
  constructor
  ·rintro(⟨rfl,rfl⟩|⟨d,q,f,rfl,rfl⟩)
   ·exact⟨p,(uz n).2 (.inl rfl),rfl,rfl⟩
   ·exact⟨q,(uz n).2 (.inr ⟨f,fun e=>d (by rw[e])⟩),rfl,rfl⟩
  ·rintro⟨q,f,rfl,rfl⟩
   rcases(uz n).1 f with rfl|⟨f,d⟩
   ·exact .inl ⟨rfl,rfl⟩
   ·exact .inr ⟨fun e=>d (tS.1 e),q,f,rfl,rfl⟩
 ·have:=x (lj.1 ((B _ _).2 ⟨p,hm,rfl,rfl⟩))
  rw[(o this).1];exact H
def Tp(l:List Pr)(xs:List UInt8):Prop:=∃w F,gf F∧xM w F=Uj l∧xs=kq ([],w,F)
theorem AP{w:Option ByteArray}{F:Fo}{l:List Pr}(hc:gf F)(c:xM w F=Uj l)(a:Fit l):OK F∧∀v,w=some v→v.size≤10000:=by
 have hm:∀k v,uQ w F k v→k.length≤10000∧v.size≤10000:=fun k v hi=>by
  have:=lj.2 hi;rw[c]at this;obtain⟨q,b,e⟩:=List.mem_map.1 this;cases e;have:=a q b;exact⟨by simpa using this.1,this.2⟩
 exact⟨SX hc fun k v hi=>hm k v (.inr hi),fun v hv=>(hm [] v (.inl ⟨rfl,hv⟩)).2⟩
theorem ZW{l l':List Pr}{xs a:List UInt8}(h:Tp l xs)(h':Tp l' a)(k:Fit l)(b:Fit l'):xs=a↔l=l':=by
 obtain⟨w,F,c,e,rfl⟩:=h;obtain⟨n,F',c',g,rfl⟩:=h';have i:=AP c e k;have j:=AP c' g b;constructor
 ·intro hx
  have hx:kq ([],w,F)++ []=kq ([],n,F')++ []:=by rw[hx]
  unfold kq at hx;simp only[aq]at hx;obtain⟨_,f,m,hx⟩:=Ms (aS _) (aS _) i.2 j.2 (lD c) (lD c') hx;obtain⟨d,_⟩:=CP i.1 j.1 m hx;exact Ui (by rw[←e,←g,f,d])
 ·rintro rfl
  obtain⟨f,d⟩:=XN c c' (e.trans g.symm);rw[f,d]
theorem D4{l:List Pr}{xs:List UInt8}(h:Tp l xs)(d:Fit l):xs.length≤20010+2*l.length*20010:=by
 obtain⟨w,F,c,e,rfl⟩:=h;have a:=AP c e d;have f:=Mr (lab:= []) (n:=F.toL.length) (aS _) a.2;have h2:=CO a.1;have i:=Oe c;have b:=congrArg List.length e;unfold xM Uj at b;rw[ac,List.length_map]at b;have g:Of F*20010≤2*l.length*20010:=cz _ (by omega);unfold kq;rw[ac];simp only;omega
theorem PA{W:Nat→Prop}{h:ad}{b:Nat}{l:List Pr}(t:RadAt W h b l)(g:bM l)(a:Fit l)(m:l.length≤60000){K:SliceV→ad→Prop}
  (f:∀s' h' xs,Tp l xs→OwnS rD 1 cQ (fun y=>h.size≤y) h' s' xs→Upd No h h'→K s' h'):HC PG xR [.pointer (some ⟨b,0,none⟩)] [.c .slice] K h:=by
 refine LI _ ?_;unfold Cs;refine ag.2 ?_;obtain⟨w,F,r1,r2,j⟩:=t.ex;have d:=NH r2 g j;have c:=AP r2 d a;have hv:Tp l (kq ([],w,F)):=⟨w,F,r2,d,rfl⟩;have n:=D4 hv a;exact XH (lab:= []) (aS _) c.2 (lD r2) (NB c.1) (s:=⟨none,0,0⟩) (xs:= []) (M:=fun y=>h.size≤y) r1 rfl (Upd.refl _ _) (fun _ h=>h) (OwnS.nil wn) (fun _ h=>h) (by rw[List.length_nil];omega) fun s' h' i e=>f s' h' _ hv i (e.mono fun y k=>.inr k)
end Go.Proofs
namespace Go.Proofs
open Go Go.Lift
theorem aP{h:ad}{cs:List Value}{t:TypeId}{k:ad→Prop}(a:∀h',h'[h.size]? =some (.cells cs.toArray t (0,0))→Upd No h h'→k h'):At (hnew h cs t) k:=
 bG (a _ (co h cs t) (Upd.hnew No h cs t))
theorem vc{h:ad}{b:Nat}{c:Array Value}{t:TypeId}(a:h[b]? =some (.cells c t (0,0))) (i:Nat):aJ h (adr ⟨b,0,none⟩ i)=c[i]?:=by rw[cd,aR];exact bm a
theorem lJ{h:ad}{b:Nat}{c:Array Value}{t:TypeId}(a:h[b]? =some (.cells c t (0,0))) (i j:Nat):aJ h (adr (adr ⟨b,0,none⟩ i) j)=c[i+j]?:=by rw[cd,cd,aR];exact bm a
theorem vz{h:ad}{b i:Nat}{c c':Array Value}{t:TypeId}{v:Value}{k:ad→Prop}(d:h[b]? =some (.cells c t (0,0))) (hi:i<c.size) (e:c.setIfInBounds i v=c') (f:∀h',h'[b]? =some (.cells c' t (0,0))→Upd (· =b) h h'→k h'):Wr h (adr ⟨b,0,none⟩ i)∧At (hset h (adr ⟨b,0,none⟩ i) v) k:=by
 rw[cd,aR];exact⟨ip d hi,wr d fun h' a g=>f h' (e▸a) g⟩
theorem _root_.Go.Lift.Upd.own{h a h2:ad}{b:Nat}(k:Upd No h a)(c:Upd (· =b) a h2)(d:h.size≤b):Upd No h h2:=k.trans c fun x hx=>.inr (by have hx:x=b:=hx;omega)
theorem _root_.Go.Lift.Upd.oth{h h':ad}{b c:Nat}{o:Obj}(d:Upd (· =b) h h')(hc:h[c]? =some o) (a:c≠b):h'[c]? =some o:=d.get hc a
abbrev Tr:=Int×Int×Int×Int×(Option Addr)×(Option Addr)
abbrev kg(t:Tr):List Value:= [.int .i64 t.1,.int .u64 t.2.1,.int .u64 t.2.2.1,.int .u64 t.2.2.2.1,.pointer t.2.2.2.2.1,.pointer t.2.2.2.2.2]
abbrev yY(t:Tr):Value:=.agg #[.int .i64 t.1,.int .u64 t.2.1,.int .u64 t.2.2.1,.int .u64 t.2.2.2.1,.pointer t.2.2.2.2.1,.pointer t.2.2.2.2.2]
def Pro(W:Nat→Prop)(h h2:ad)(y:Nat):Prop:=W y∨(h.size≤y∧y<h2.size)
theorem Pro.lt{W:Nat→Prop}{h h2:ad}(a:∀y,W y→y<h.size)(k:Upd No h h2):∀y,Pro W h h2 y→y<h2.size:=fun y b=>b.elim (fun h=>aG (a y h) k.size) fun h=>h.2
theorem Pro.hm{W:Nat→Prop}{h h2:ad}:∀y,Pro W h h2 y→W y∨h.size≤y:=fun _ a=>a.imp id fun h=>h.1
theorem Pro.sub{W:Nat→Prop}{h h2 a:ad}:∀y,W y→Pro W h h2 y∨a.size≤y:=fun _ b=>.inl (.inl b)
theorem RootAt.less{W W':Nat→Prop}{x:Hs}{h:ad}(hm:∀b,W' b→W b∨h.size≤b){r:Option Addr}{l:List Pr}(t:RootAt W x h r l):RootAt W' x h r l:=t.imp id fun⟨b,e,t⟩=>⟨b,e,TrieAt.less hm t⟩
theorem RadRoot.less{W W':Nat→Prop}{h:ad}(hm:∀b,W' b→W b∨h.size≤b){r:Option Addr}{l:List Pr}(t:RadRoot W h r l):RadRoot W' h r l:=t.imp id fun⟨b,e,t⟩=>⟨b,e,t.less hm⟩
def TreeIs(W:Nat→Prop)(h:ad)(a:Int)(x:Hs)(t:Tr)(l:List Pr):Prop:=(a=0∧∃b,t=(0,x.k0,x.k1,x.mask,some ⟨b,0,none⟩,none)∧TrieAt W x h 13 b l)∨(a=1∧∃b,t=(1,0,0,0,none,some ⟨b,0,none⟩)∧RadAt W h b l)
theorem TreeIs.upd0{W:Nat→Prop}{h h':ad}{a:Int}{x:Hs}{t:Tr}{l:List Pr}(k:Upd No h h')(i:TreeIs W h a x t l):TreeIs W h' a x t l:=
 i.imp (fun⟨e,b,c,t⟩=>⟨e,b,c,TrieAt.upd0 k t⟩) fun⟨e,b,c,t⟩=>⟨e,b,c,t.upd0 k⟩
theorem TreeIs.less{W W':Nat→Prop}{h:ad}(hm:∀b,W' b→W b∨h.size≤b){a:Int}{x:Hs}{t:Tr}{l:List Pr}(i:TreeIs W h a x t l):TreeIs W' h a x t l:=
 i.imp (fun⟨e,b,c,t⟩=>⟨e,b,c,TrieAt.less hm t⟩) fun⟨e,b,c,t⟩=>⟨e,b,c,t.less hm⟩
theorem TreeIs.updM{W M:Nat→Prop}{h h':ad}(k:Upd M h h')(hm:∀b,M b→W b∨h.size≤b){a:Int}{x:Hs}{t:Tr}{l:List Pr}(i:TreeIs W h a x t l):TreeIs W h' a x t l:=
 i.imp (fun⟨e,b,c,t⟩=>⟨e,b,c,TrieAt.updM k hm t⟩) fun⟨e,b,c,t⟩=>⟨e,b,c,t.updM k hm⟩
theorem TreeIs.pro{W:Nat→Prop}{h h2:ad}(k:Upd No h h2){a:Int}{x:Hs}{t:Tr}{l:List Pr}(i:TreeIs W h a x t l):TreeIs (Pro W h h2) h2 a x t l:=(i.less Pro.hm).upd0 k
theorem Lq{W:Nat→Prop}{x:Hs}{h:ad}(d:∀y,W y→y<h.size){K:Option Addr→ad→Prop}(c:∀h' b,TrieAt W x h' 13 b []→Upd No h h'→K (some ⟨b,0,none⟩) h'):HC PG qp [] [.c .ptr] K h:=by
 refine Ck ?_;unfold yc;exact rP d fun h' b a e=>c h' b (Pa a) e
abbrev BM:Tr:=(0,0,0,0,none,none)
theorem GL{W:Nat→Prop}{x:Hs}{h:ad}{r:Option Addr}{l:List Pr}(t:RootAt W x h r l)(u:∀y,W y→y<h.size){K:Tr→ad→Prop}(p:∀h' t,TreeIs W h' 0 x t l→Upd No h h'→K t h'):HC PG rU [.agg #[.int .u64 x.k0,.int .u64 x.k1,.int .u64 x.mask],.pointer r] [.agg [.int .i64,.int .u64,.int .u64,.int .u64,.ptr,.ptr]] K h:=by
 refine Kh (x.k0,x.k1,x.mask) r ?_;unfold Bg aI ae aB df AA zP Fz;refine aP fun k b1 k1=>aP fun h2 b2 n=>?_
 have v:=aY b1;have w:=aY b2;have d:=k1.tr n;refine Join.intro (fun t h'=>Upd No h2 h'∧∃b,t=some ⟨b,0,none⟩∧TrieAt (Pro W h h2) x h' 13 b l) (fun R m=>?_) ?_
 ·rcases t with⟨rfl,rfl⟩|⟨b,rfl,t⟩
  ·exact aw.2 (Lq (Pro.lt u d) fun s b t a=>m _ _ ⟨a,b,rfl,t⟩)
  ·exact ag.2 (m _ _ ⟨Upd.refl _ _,b,rfl,TrieAt.upd0 d (TrieAt.less Pro.hm t)⟩)
 ·rintro j s ⟨a,b,rfl,j⟩
  have i:=a.get0 (n.get0 b1);refine⟨_,vc i 0,_,vc i 1,_,vc i 2,?_⟩;refine cF (c:=kg BM) (vs:=kg (0,x.k0,x.k1,x.mask,some ⟨b,0,none⟩,none)) (a.get0 b2) rfl fun q e f=>?_
  refine⟨_,vc e 0,_,vc e 1,_,vc e 2,_,vc e 3,_,vc e 4,_,vc e 5,?_⟩;have g:h.size≤k.size:=k1.size;exact p q _ (.inl ⟨rfl,b,rfl,TrieAt.less Pro.sub (TrieAt.updM f (fun y o=>.inl (.inr (by have o:y=k.size:=o;omega))) j)⟩) ((d.tr a).own f g)
theorem Pe{W:Nat→Prop}{x:Hs}{h:ad}{r:Option Addr}{l:List Pr}(t:RadRoot W h r l)(o:∀y,W y→y<h.size){K:Tr→ad→Prop}(k:∀h' t,TreeIs W h' 1 x t l→Upd No h h'→K t h'):HC PG rT [.pointer r] [.agg [.int .i64,.int .u64,.int .u64,.int .u64,.ptr,.ptr]] K h:=by
 refine Kg r ?_;unfold Bf aI ae aB df zP Fz;refine aP fun h2 b2 d=>?_
 have p:=aY b2;refine Join.intro (fun t h'=>Upd No h2 h'∧∃b,t=some ⟨b,0,none⟩∧RadAt (Pro W h h2) h' b l) (fun R i=>?_) ?_
 ·rcases t with⟨rfl,rfl⟩|⟨b,rfl,t⟩
  ·exact aw.2 (IR (Pro.lt o d) fun n b t a=>i _ _ ⟨a,b,rfl,t⟩)
  ·exact ag.2 (i _ _ ⟨Upd.refl _ _,b,rfl,(t.less Pro.hm).upd0 d⟩)
 ·rintro g n ⟨a,b,rfl,g⟩
  refine cF (c:=kg BM) (vs:=kg (1,0,0,0,none,some ⟨b,0,none⟩)) (a.get0 b2) rfl fun m e f=>?_
  refine⟨_,vc e 0,_,vc e 1,_,vc e 2,_,vc e 3,_,vc e 4,_,vc e 5,?_⟩;exact k m _ (.inr ⟨rfl,b,rfl,(g.updM f (fun y j=>.inl (.inr (by have j:y=h.size:=j;omega)))).less Pro.sub⟩) ((d.tr a).own f (aj _))
theorem Un{W:Nat→Prop}{x:Hs}{h:ad}(s:∀y,W y→y<h.size){a:Int}(n:a=0∨a=1){K:Tr×Int→ad→Prop}(p:∀h' t,TreeIs W h' a x t []→Upd No h h'→K (t,0) h'):HC PG zm [.int .i64 a,.agg #[.int .u64 x.k0,.int .u64 x.k1,.int .u64 x.mask]] [.agg [.int .i64,.int .u64,.int .u64,.int .u64,.ptr,.ptr],.c (.int .i64)] K h:=by
 refine Tx a (x.k0,x.k1,x.mask) ?_;unfold Kr aI ae aB df AA wN zP o9;refine aP fun j b1 k1=>aP fun h2 b2 q=>?_
 have v:=aY b1;have w:=aY b2;have f:=k1.tr q;have g:h.size≤j.size:=k1.size;have o:=q.get0 b1;rcases n with rfl|rfl
 ·refine aw.2 ⟨_,vc o 0,_,vc o 1,_,vc o 2,?_⟩
  refine GL (W:=Pro W h h2) (x:=x) (l:= []) (.inl ⟨rfl,rfl⟩) (Pro.lt s f) fun u t m e=>?_
  refine cF (c:=kg BM) (vs:=kg t) (e.get0 b2) rfl fun k b d=>?_
  refine⟨_,vc b 0,_,vc b 1,_,vc b 2,_,vc b 3,_,vc b 4,_,vc b 5,?_⟩;exact p k t ((m.updM d (fun y i=>.inl (.inr (by have i:y=j.size:=i;omega)))).less Pro.sub) ((f.tr e).own d g)
 ·refine ag.2 (aw.2 ?_)
  refine Pe (W:=Pro W h h2) (x:=x) (l:= []) (.inl ⟨rfl,rfl⟩) (Pro.lt s f) fun u t m e=>?_
  refine cF (c:=kg BM) (vs:=kg t) (e.get0 b2) rfl fun k b d=>?_
  refine⟨_,vc b 0,_,vc b 1,_,vc b 2,_,vc b 3,_,vc b 4,_,vc b 5,?_⟩;exact p k t ((m.updM d (fun y i=>.inl (.inr (by have i:y=j.size:=i;omega)))).less Pro.sub) ((f.tr e).own d g)
theorem FV{k v:ByteArray}(b:k.size≤256)(h2:v.size≤4096){h:ad}{K:Int→ad→Prop}(a:K 0 h):HC PG rZ [.string k,.string v] [.c (.int .i64)] K h:=by
 refine OD k v ?_;unfold Fb;refine ax (fun h=>absurd h (by omega)) fun _=>ax (fun h=>absurd h (by omega)) fun _=>a
theorem IB{W:Nat→Prop}{x:Hs}{h:ad}{q:Int}{t:Tr}{l:List Pr}(i:TreeIs W h q x t l)(M:∀y,W y→y<h.size)(H:bM l)(N:l.length≤1000000)(p:Pr)(F:p.1.size≤256)(A:p.2.size≤4096){K:Tr×Int→ad→Prop}
  (G:∀h' t',TreeIs W h' q x t' (iq p l)→(p∈l→t'=t)→Upd No h h'→K (t',0) h'):HC PG pz [yY t,.pointer none,.agg #[.string p.1,.string p.2]] [.agg [.int .i64,.int .u64,.int .u64,.int .u64,.ptr,.ptr],.c (.int .i64)] K h:=by
 refine Gm t none p ?_;unfold yK aI ae cg aB df wN zP o9 av iU Fz dy wT rC;refine aP fun I b1 k1=>aP fun h2 b2 E=>aP fun T b3 w=>?_
 have P:=aY b1;have S:=aY b2;have U:=aY b3;have R:h.size≤I.size:=k1.size;have Q:I.size≤h2.size:=E.size;have V:=w.size;have n:=(k1.tr E).tr w;have o:=w.get0 (E.get0 b1);have u:=w.get0 b2;have L:=i.pro n;have v:=Pro.lt M n;refine⟨_,vc u 0,_,vc u 1,FV F A (ag.2 ?_)⟩;rcases L with⟨rfl,b,rfl,z⟩|⟨rfl,b,rfl,z⟩
 ·refine⟨_,vc o 0,ag.2 ⟨_,lJ o 1 0,_,lJ o 1 1,_,lJ o 1 2,_,vc o 4,p.1,vc u 0,p.2,vc u 1,?_⟩⟩
  refine QB (.inr ⟨b,rfl,z⟩) v H N p fun J s d B f=>?_
  refine vz (i:=4) (c':=(kg (0,x.k0,x.k1,x.mask,some ⟨s,0,none⟩,none)).toArray) (d.get0 o) (show 4<6 by decide) rfl fun O j a=>?_
  refine⟨_,vc j 0,_,vc j 1,_,vc j 2,_,vc j 3,_,vc j 4,_,vc j 5,?_⟩;refine cF (c:=kg BM) (vs:=kg (0,x.k0,x.k1,x.mask,some ⟨s,0,none⟩,none)) (a.oth (d.get0 b3) (by omega)) rfl fun C g k=>?_
  refine⟨_,vc g 0,_,vc g 1,_,vc g 2,_,vc g 3,_,vc g 4,_,vc g 5,?_⟩;refine G C _ (.inl ⟨rfl,s,rfl,TrieAt.less Pro.sub (TrieAt.updM k (fun y m=>.inl (.inr (by have m:y=h2.size:=m;omega))) (TrieAt.updM a (fun y m=>.inl (.inr (by have m:y=h.size:=m;omega))) B))⟩) (fun hm=>?_) (((n.tr d).own a (aj _)).own k (by omega))
  rcases f hm with e|e
  ·rw[e]
  ·cases e
 ·refine⟨_,vc o 0,aw.2 ⟨_,vc o 5,p.1,vc u 0,p.2,vc u 1,?_⟩⟩
  refine Py (.inr ⟨b,rfl,z⟩) v H p (by omega) fun J s D d B f=>?_
  refine vz (i:=5) (c':=(kg (1,0,0,0,none,some ⟨s,0,none⟩)).toArray) (d.get0 o) (show 5<6 by decide) rfl fun O j a=>?_
  refine⟨_,vc j 0,_,vc j 1,_,vc j 2,_,vc j 3,_,vc j 4,_,vc j 5,?_⟩;refine cF (c:=kg BM) (vs:=kg (1,0,0,0,none,some ⟨s,0,none⟩)) (a.oth (d.get0 b3) (by omega)) rfl fun C g k=>?_
  refine⟨_,vc g 0,_,vc g 1,_,vc g 2,_,vc g 3,_,vc g 4,_,vc g 5,?_⟩;refine G C _ (.inr ⟨rfl,s,rfl,((B.updM a (fun y m=>.inl (.inr (by have m:y=h.size:=m;omega)))).updM k (fun y m=>.inl (.inr (by have m:y=h2.size:=m;omega)))).less Pro.sub⟩) (fun hm=>?_) (((n.tr d).own a (aj _)).own k (by omega))
  rcases f hm with e|e
  ·rw[e]
  ·cases e
end Go.Proofs
namespace Go.Proofs
open Go Go.Lift
def jK(t u:Tr):Bool:=(t.1==u.1)&&((((t.2.1==u.2.1)&&((t.2.2.1==u.2.2.1)&&true)))&&((t.2.2.2.1==u.2.2.2.1)&&true))
theorem Ap{t u:Tr}{h:ad}{K:Bool→ad→Prop}(c:∀h',Upd No h h'→K (jK t u) h'):HC PG uE [yY t,yY u] [.c .bool] K h:=by
 refine QK t u ?_;unfold Hk aI cg o9;refine aP fun d b1 k1=>aP fun h2 b2 b=>?_
 have a:=b.get0 b1;refine⟨_,vc a 0,_,vc b2 0,?_⟩;have:=c h2 (k1.tr b);unfold jK at this;rcases hb:(t.1==u.1)with _|_
 ·rw[hb]at this
  exact ag.2 this
 ·rw[hb]at this
  exact aw.2 ⟨_,lJ a 1 0,_,lJ a 1 1,_,lJ a 1 2,_,lJ b2 1 0,_,lJ b2 1 1,_,lJ b2 1 2,this⟩
theorem Bu{W:Nat→Prop}{x:Hs}{h:ad}{b:Nat}{l:List Pr}(t:TrieAt W x h 13 b l){K:Option Addr→ad→Prop}(c:∀h',Upd No h h'→K (some ⟨b,0,none⟩) h'):HC PG jW [yY (0,x.k0,x.k1,x.mask,some ⟨b,0,none⟩,none)] [.c .ptr] K h:=by
 refine EK (0,x.k0,x.k1,x.mask,some ⟨b,0,none⟩,none) ?_;unfold xm aI aB o9;refine aP fun a b1 k1=>?_
 refine Join.intro (fun t h'=>t=false∧h'=a) (fun R d=>⟨_,vc b1 0,aw.2 ⟨_,vc b1 4,d _ _ ⟨rfl,rfl⟩⟩⟩) ?_
 rintro t h' ⟨rfl,rfl⟩;exact ag.2 ⟨_,vc b1 4,c h' k1⟩
def M8(a:Int)(x:Hs)(l:List Pr)(xs:List UInt8):Prop:=(a=0∧xs=0::gu x 13 l)∨(a=1∧∃ys,Tp l ys∧xs=1::ys)
theorem BI{h a:ad}{b:UInt8}(c:a[h.size]? =some (.cells #[.int .u8 (b.toNat:Int)] cQ (0,0))):OwnS rD 1 cQ (fun y=>h.size≤y) a ⟨some ⟨h.size,0,none⟩,1,1⟩ [b]:=⟨rfl,wn,aj _,.inr ⟨h.size,[],rfl,aj _,c,rfl⟩⟩
theorem Vw{W:Nat→Prop}{x:Hs}{h:ad}{a:Int}{t:Tr}{l:List Pr}(i:TreeIs W h a x t l)(D:bM l)(m:Fit l)(q:l.length≤60000){K:SliceV→ad→Prop}
  (A:∀s' h' xs,M8 a x l xs→OwnS rD 1 cQ (fun y=>h.size≤y) h' s' xs→Upd No h h'→K s' h'):HC PG rQ [yY t] [.c .slice] K h:=by
 refine EH t ?_;unfold xi aI ae aB th o9;refine aP fun n b1 k1=>?_
 have H:=k1.size;have app:∀{b:UInt8} {h2 e:ad} {s:SliceV} {xs:List UInt8},h2[n.size]? =some (.cells #[.int .u8 (b.toNat:Int)] cQ (0,0))→Upd No n h2→OwnS rD 1 cQ (fun y=>h2.size≤y) e s xs→Upd No h2 e→xs.length≤70000000000000→M8 a x l (b::xs)→
   ∃xs7,SRow e s.a (s.len*1) xs7∧AppP (some [.int .u8 0]) 1 1 cQ (some (ay n)) 1 1 s.len xs7 e (fun E F=>K E F):=fun{b h2 e s xs} o c z g J hv=>by
  refine⟨_,(z.sl (W:=No) fun _ _ _ h=>h).srow,?_⟩
  have k:=c.tr g;have L:=aY o;have G:OwnS rD 1 cQ (fun y=>h.size≤y) e ⟨some ⟨n.size,0,none⟩,1,1⟩ [b]:=((BI o).upd g fun _ _ h=>h).more fun y v=>by omega
  refine AppP.own (ys:=xs) G z.len rfl (D7 _) rfl (by omega) (by simp only[aK];omega) (by have:=k.size;omega) fun s' h' w p=>?_
  exact A s' h' _ hv w ((k1.tr k).trans p fun y v=>.inr v)
 rcases i with⟨rfl,b,rfl,t⟩|⟨rfl,b,rfl,t⟩
 ·refine⟨_,vc b1 0,ag.2 (aP fun h2 b2 c=>?_)⟩
  have d:=c.get0 b1;refine⟨_,vc d 0,_,vc d 1,_,vc d 2,_,vc d 3,_,vc d 4,_,vc d 5,?_⟩;refine Bu (TrieAt.upd0 (k1.tr c) t) fun e g=>?_
  refine ZO (TrieAt.upd0 ((k1.tr c).tr g) t) m q fun C B f u=>?_
  have I:=g.size;have j:=qM (x:=x) 13 m;have o:l.length*(20004+9*(13+1))≤60000*(20004+9*(13+1)):=cz _ q;exact app (b:=0) b2 c (f.more fun y v=>by omega) (g.tr u) (by omega) (.inl ⟨rfl,rfl⟩)
 ·refine⟨_,vc b1 0,aw.2 (aP fun h2 b2 c=>?_)⟩
  have d:=c.get0 b1;refine⟨_,vc d 5,?_⟩;refine PA (t.upd0 (k1.tr c)) D m q fun C B xs hv f u=>?_
  have j:=D4 hv m;have o:2*l.length*20010≤2*60000*20010:=cz _ (by omega);exact app (b:=1) b2 c f u (by omega) (.inr ⟨rfl,xs,hv,rfl⟩)
theorem Wc{W W':Nat→Prop}{h h':ad}{c a:Int}{x e:Hs}{t u:Tr}{l l':List Pr}(i:TreeIs W h c x t l)(f:TreeIs W' h' a e u l')(d:jK t u=true):c=a∧(c=0→x=e):=by
 rcases i with⟨rfl,b,rfl,_⟩|⟨rfl,b,rfl,_⟩<;>rcases f with⟨rfl,b',rfl,_⟩|⟨rfl,b',rfl,_⟩
 ·refine⟨rfl,fun _=>?_⟩
  unfold jK at d;simp only[bq,beq_iff_eq,Bool.and_true,true_and]at d;cases x;cases e;simp only at d;simp only[Hs.mk.injEq];exact⟨d.1.1,d.1.2,d.2⟩
 ·simp[jK]at d
 ·simp[jK]at d
 ·exact⟨rfl,fun h=>by cases h⟩
theorem Xs{a:Int}{x f:Hs}(hx:a=0→x=f){l l':List Pr}{xs d:List UInt8}(hv:M8 a x l xs)(b:M8 a f l' d)(j:Fit l)(c:Fit l')(m:l.length≤60000)(i:l'.length≤60000)(n:bM l)(g:bM l'):xs=d↔l=l':=by
 rcases hv with⟨rfl,rfl⟩|⟨rfl,ys,hv,rfl⟩<;>rcases b with⟨e,rfl⟩|⟨e,k,b,rfl⟩
 ·rw[hx rfl]
  constructor
  ·intro h
   have h:gu f 13 l++ []=gu f 13 l'++ []:=by rw[(ft.inj h).2]
   exact(IJ 13 j c m i n g h).1
  ·rintro rfl;rfl
 ·cases e
 ·cases e
 ·rw[ft.injEq,←ZW hv b j c]
  exact⟨fun h=>h.2,fun h=>⟨rfl,h⟩⟩
theorem TreeIs.plain{W:Nat→Prop}{h:ad}{e:Int}{x:Hs}{t:Tr}{l:List Pr}(i:TreeIs W h e x t l):(∀a,t.2.2.2.2.1=some a→gV h a)∧(∀a,t.2.2.2.2.2=some a→gV h a):=by
 rcases i with⟨rfl,b,rfl,t⟩|⟨rfl,b,rfl,t⟩
 ·obtain⟨s,g,_⟩:=t
  obtain⟨d,n,sp,sk,ow,f,_⟩:=g.ex;refine⟨fun a c=>?_,fun a c=>(by cases c)⟩
  cases c;exact⟨_,_,f,show 0<6 by decide⟩
 ·obtain⟨w,F,⟨val,s,ow,ks,f,_⟩,_⟩:=t.ex
  refine⟨fun a c=>(by cases c),fun a c=>?_⟩
  cases c;exact⟨_,_,f,show 0<5 by decide⟩
theorem ZH{W W':Nat→Prop}{x E:Hs}{h:ad}{k g:Int}{t u:Tr}{l l':List Pr}(i:TreeIs W h k x t l)(D:TreeIs W' h g E u l'){K:Bool→ad→Prop}(C:∀h',Upd No h h'→K (decide (t=u)) h'):HC PG Db [yY t,yY u] [.c .bool] K h:=by
 refine Tw t u ?_;unfold Kq aI ae aB o9;refine aP fun n b1 k1=>aP fun h2 b2 m=>?_
 have j:=m.get0 b1;have B:=(i.upd0 (k1.tr m)).plain;have A:=(D.upd0 (k1.tr m)).plain;refine⟨_,vc j 0,_,vc j 1,_,vc j 2,_,vc j 3,_,vc j 4,_,vc j 5,_,vc b2 0,_,vc b2 1,_,vc b2 2,_,vc b2 3,_,vc b2 4,_,vc b2 5,⟨⟨fun y z w v=>⟨B.1 y w,A.1 z v⟩,fun y z w v=>⟨B.2 y w,A.2 z v⟩,trivial⟩,?_⟩⟩
 have e:((t.1==u.1)&&((((((t.2.1==u.2.1)&&((t.2.2.1==u.2.2.1)&&true)))&&((t.2.2.2.1==u.2.2.2.1)&&true)))&&((t.2.2.2.2.1==u.2.2.2.2.1)&&((t.2.2.2.2.2==u.2.2.2.2.2)&&true))))=decide (t=u):=by
  obtain⟨a,b,c,d,e,f⟩:=t;obtain⟨a',b',c',H,F,G⟩:=u;rw[Bool.eq_iff_iff];simp only[bq,beq_iff_eq,decide_eq_true_iff,Prod.mk.injEq,and_true];constructor
  ·rintro⟨n,⟨⟨h2,p⟩,o⟩,s,q⟩;exact⟨n,h2,p,o,s,q⟩
  ·rintro⟨n,h2,p,o,s,q⟩;exact⟨n,⟨⟨h2,p⟩,o⟩,s,q⟩
 rw[e];exact C h2 (k1.tr m)
end Go.Proofs
namespace Go.Proofs
open Go Go.Lift
abbrev zPrL:List Value:= [.string (⟨#[]⟩:ByteArray),.string (⟨#[]⟩:ByteArray)]
theorem tl{h:ad}{t:TypeId}{p:Pr}{k:ad→Prop}(d:∀h',h'[h.size]? =some (.cells #[.string p.1,.string p.2] t (0,0))→Upd No h h'→k h'):
  At (hnew h [.string (⟨#[]⟩:ByteArray),.string (⟨#[]⟩:ByteArray)] t) fun b=>rE b (some (ay h)) 0 [.string p.1,.string p.2]∧At (fS b (ay h) 0 [.string p.1,.string p.2]) k:=by
 refine aP fun e b1 k1=>?_
 exact cF (c:=zPrL) (vs:= [.string p.1,.string p.2]) b1 rfl fun h2 b2 a=>d h2 b2 (k1.own a (aj _))
theorem ws{t:TypeId}{M:Nat→Prop}{h:ad}{so:SliceV}{out:List Pr}{p:Pr}{K:SliceV→ad→Prop}(f:OwnS ey 2 t M h so out)(hM:∀b,h.size≤b→M b)(g:out.length+1≤1000000000)
  (e:∀s' h',OwnS ey 2 t M h' s' (out++ [p])→Upd M h h'→K s' h'):
  ∃xs,SRow (hnew h [.string p.1,.string p.2] t) (some (ay h)) (1*2) xs∧AppP (some [.string (⟨#[]⟩:ByteArray),.string (⟨#[]⟩:ByteArray)]) 2 32 t so.a so.len so.cap 1 xs (hnew h [.string p.1,.string p.2] t) K:=by
 have k:=Upd.hnew No h [.string p.1,.string p.2] t;have d:OwnS ey 2 t (fun _=>True) (hnew h [.string p.1,.string p.2] t) ⟨some (ay h),1,1⟩ [p]:=⟨rfl,fU,aj _,.inr ⟨h.size,[],rfl,trivial,co ..,rfl⟩⟩
 refine⟨_,(d.sl (W:=No) fun _ _ _ h=>h).srow,?_⟩
 refine AppP.own (ys:= [p]) (f.upd k fun _ _ h=>h) rfl rfl rfl rfl (by omega) (by simp only[aK];omega) (hM _ (by rw[jV];omega)) fun s' h' a c=>?_
 exact e s' h' a ((Upd.hnew M h _ _).tr c)
theorem Eh{p:Pr}:∀{A B:List Pr},(∀r∈A,kl r.1 p.1)→iq p (A++B)=A++iq p B
 | [],_,_=>rfl
 |r::A,B,h=>by
  rw[cM,gR,if_pos (h r (au ..)),Eh fun q a=>h q (List.mem_cons_of_mem _ a)];rfl
theorem Qf{p q:Pr}:∀{A:List Pr},(∃r∈A,kl p.1 r.1)→iq p (A++ [q])=iq p A++ [q]
 | [],h=>by obtain⟨r,e,_⟩:=h;simp at e
 |r::A,h=>by
  rw[cM,gR,gR];by_cases b:kl r.1 p.1
  ·rw[if_pos b,if_pos b,Qf]
   ·rfl
   ·obtain⟨d,a,c⟩:=h
    rcases aC.1 a with rfl|a
    ·exact absurd (gD b c) (bZ _)
    ·exact⟨d,a,c⟩
  ·rw[if_neg b,if_neg b]
   by_cases h2:r.1=p.1
   ·rw[if_pos h2,if_pos h2];rfl
   ·rw[if_neg h2,if_neg h2];rfl
theorem Qd{p:Pr}:∀{l:List Pr},(∀q∈l,kl p.1 q.1)→iq p l=p::l
 | [],_=>rfl
 |q::l,h=>by
  have a:=h q (au ..);rw[gR,if_neg fun h2=>bZ _ (gD a h2),if_neg fun e=>by rw[e]at a;exact bZ _ a]
theorem MJ{p:Pr}:∀{l:List Pr},bM l→iq p (l.filter fun q=>decide (q.1≠p.1))=iq p l
 | [],_=>rfl
 |r::l,c=>by
  have c:=aF.1 c;have keep:∀{l:List Pr},(∀q∈l,kl p.1 q.1)→(l.filter fun q=>decide (q.1≠p.1))=l:=fun{l} h=>List.filter_eq_self.2 fun q a=>decide_eq_true fun e=>by have:=h q a;rw[e]at this;exact bZ _ this
  rw[List.filter_cons,gR];by_cases e:r.1=p.1
  ·have d:∀q∈l,kl p.1 q.1:=fun q a=>by rw[←e];exact c.1 q a
   rw[if_neg (by simp[e]),if_neg (by rw[e];exact bZ _),if_pos e,keep d,Qd d]
  ·rw[if_pos (by simpa using e),gR]
   by_cases b:kl r.1 p.1
   ·rw[if_pos b,if_pos b,MJ c.2]
   ·rw[if_neg b,if_neg b,if_neg e,if_neg e]
    have h2:=qQ b e;rw[keep fun q a=>gD h2 (c.1 q a)]
theorem mg{i n:Nat}(h:i<n)(a:n≤9223372036854775807):IntKind.wrap .i64 ((i:Int)+1)=((i+1:Nat):Int):=by rw[Go.IntWalk.i64_in _ (by omega)];omega
theorem BD(p:Pr):∀{l:List Pr},(iq p l).length≤l.length+1
 | []=>aj _
 |q::l=>by
  rw[gR];split
  ·have:=BD p (l:=l);simp only[ar];omega
  ·split<;>simp
theorem FY{W W':Nat→Prop}{h h':ad}{a:Int}{x:Hs}{t u:Tr}{l l':List Pr}(i:TreeIs W h a x t l)(c:TreeIs W' h' a x u l'):jK t u=true:=by
 rcases i with⟨rfl,b,rfl,_⟩|⟨rfl,b,rfl,_⟩<;>rcases c with⟨e,b',rfl,_⟩|⟨e,b',rfl,_⟩
 ·simp[jK]
 ·cases e
 ·cases e
 ·simp[jK]
theorem acJ{k:Int}(a:0≤k)(b:k≤255):IntKind.wrap .i64 (kI k 2)=0∨IntKind.wrap .i64 (kI k 2)=1:=by
 have:kI k 2=k%2:=Int.tmod_eq_emod_of_nonneg a;rw[this,eJ (by omega)];omega
abbrev hsL(x:Hs):List Value:= [.int .u64 x.k0,.int .u64 x.k1,.int .u64 x.mask]
end Go.Proofs
namespace Go.Proofs
open Go Go.Lift
abbrev Wk:=Option Addr×ByteArray×Bool
theorem OwnS.pop{α:Type}{f:α→List Value}{d:Nat}{t:TypeId}{M:Nat→Prop}{h:ad}{s:SliceV}{xs:List α}{x:α}(c:OwnS f d t M h s (xs++ [x])):OwnS f d t M h ⟨aW s.a 0 s.cap d,xs.length,s.cap⟩ xs:=by
 have i:=c.len;have hc:=c.cap;rw[ac,aK]at i;refine⟨rfl,c.ne,by simp only;omega,c.blk.imp id fun⟨b,a,j,g,aJ,e⟩=>⟨b,f x++a,?_,g,?_,?_⟩⟩
 ·simp only;rw[j,sub_zero]
 ·rw[aJ,List.flatMap_append,aN,List.flatMap_nil,aL,aq]
 ·rw[ac,(c.ne x).1,e]
  simp only;have:s.cap-xs.length=(s.cap-s.len)+1:=by omega
  rw[this,Nat.add_mul];omega
structure It where
 b:Nat
 ah:ByteArray
 own:Bool
 sl:ByteArray
 w:Option ByteArray
 F:Fo
def It.raw(i:It):Wk:=(some ⟨i.b,0,none⟩,i.ah,i.own)
def It.key(i:It):List UInt8:=i.ah.data.toList++i.sl.data.toList
def It.cost(i:It):Nat:=if i.own then 1 else 2+2*Of i.F
end Go.Proofs
namespace Go.Proofs
open Go Go.Lift
theorem oX{W:Nat→Prop}{h:ad}{b:Nat}{sl:ByteArray}{w:Option ByteArray}{F:Fo}(r:RxN W h b sl w F){K:ByteArray→ad→Prop}(a:K sl h):HC PG eM [.pointer (some ⟨b,0,none⟩)] [.c .str] K h:=by
 refine Dz _ ?_;unfold wG az;obtain⟨val,s,ow,ks,c,_⟩:=r;exact ag.2 ⟨_,rfl,sl,dU (i:=0) c,a⟩
theorem IP{W:Nat→Prop}{h:ad}{b:Nat}{sl:ByteArray}{w:Option ByteArray}{F:Fo}(r:RxN W h b sl w F){K:ByteArray×Bool→ad→Prop}(c:∀v,(∀u,w=some u→v=u)→K (v,w.isSome) h):HC PG jq [.pointer (some ⟨b,0,none⟩)] [.c .str,.c .bool] K h:=by
 refine ww _ ?_;unfold rg az bF;obtain⟨val,s,ow,ks,a,hv,_⟩:=r;exact ag.2 ⟨_,rfl,val,dU (i:=2) a,_,rfl,w.isSome,dU (i:=1) a,c val (vw hv)⟩
theorem Pp{W:Nat→Prop}{h:ad}{b:Nat}{sl:ByteArray}{w:Option ByteArray}{F:Fo}(r:RxN W h b sl w F){K:ByteArray×Bool→ad→Prop}(c:K (w.getD ⟨#[]⟩,w.isSome) h):HC PG jq [.pointer (some ⟨b,0,none⟩)] [.c .str,.c .bool] K h:=by
 refine ww _ ?_;unfold rg az bF;obtain⟨val,s,ow,ks,a,rfl,_⟩:=r;exact ag.2 ⟨_,rfl,_,dU (i:=2) a,_,rfl,w.isSome,dU (i:=1) a,c⟩
theorem FL{W:Nat→Prop}{h:ad}{b:Nat}{sl:ByteArray}{w:Option ByteArray}{F:Fo}(r:RxN W h b sl w F)(k:F.toL.length≤256){K:SliceV→ad→Prop}(e:∀s' h' ks,OwnS rJ 1 bW (fun y=>h.size≤y) h' s' ks→RxL W h' ks F.toL→Upd No h h'→K s' h'):HC PG l3 [.pointer (some ⟨b,0,none⟩)] [.c .slice] K h:=by
 refine ER _ ?_;unfold xw bK;obtain⟨val,s,ow,ks,f,hv,d,_,j⟩:=r;have c:=lW.1 j;refine ag.2 ⟨_,rfl,s,dU (i:=3) f,?_⟩;refine M2 d (by rw[c.1];omega) fun s' h' g a=>e s' h' ks g (c.upd0 a) a
def It.Ok(W:Nat→Prop)(h:ad)(i:It):Prop:=RxN W h i.b i.sl i.w i.F∧gf i.F∧i.key.length≤10000∧∀p∈xM i.w i.F,i.key.length+p.1.length≤10000
theorem It.Ok.updM{W M:Nat→Prop}{h h':ad}(k:Upd M h h')(hm:∀b,M b→W b∨h.size≤b){i:It}(o:It.Ok W h i):It.Ok W h' i:=⟨o.1.updM k hm,o.2⟩
theorem VV(lab:List UInt8)(w:Option ByteArray)(a b:Fo):BP (.cons lab w a b)=((w.map fun v=>(([]:List UInt8),v)).toList++BP a).map (fun p=>(lab++p.1,p.2))++BP b:=rfl
end Go.Proofs
namespace Go.Proofs
open Go Go.Lift
end Go.Proofs
namespace Go.Proofs
open Go Go.Lift
abbrev abT(x:Pr):List Value:= [.agg #[.string x.1,.string x.2]]
theorem Ls{h:ad}{fv:Value}{N:Nat}{S:List Pr→Prop}{Q:Nat→Prop}(hg:Gives PG fv abT N S Q h)(hN:N≤100000000){K:SliceV→ad→Prop}
  (hk:∀s' h' xs,S xs→OwnS ey 2 al (fun b=>h.size≤b) h' s' xs→Upd No h h'→K s' h'):HC PG fR [.slice none 0 0,fv] [.c .slice] K h:=by
 refine oh ⟨none,0,0⟩ fv ?_;unfold jj nv av lO iU wT aa1;have k0:=Upd.hnew No h [.slice none 0 0] cr;have b0:=co h [.slice none 0 0] cr;have Z:(hnew h [.slice none 0 0] cr).size=h.size+1:=jV ..;have D:=hg.upd k0 fun _ _=>id
 refine bG ?_;generalize hnew h [.slice none 0 0] cr=h1 at D k0 b0 Z;refine⟨fun lo hlo g=>?_⟩
 obtain⟨f,first,cap,rfl,E⟩:=D.run
 refine⟨f,first,cap,rfl,?_⟩
 have k1:Upd No h1 ((h1.push (.deferred (some []))).push (lo .ready none)):=(Upd.push No _ _).tr (Upd.push No _ _);have l2:((h1.push (.deferred (some []))).push (lo .ready none))[h1.size+1]? =some (lo .ready none):=by
  have:=Az (h1.push (.deferred (some []))) (lo .ready none);rwa [Array.size_push]at this
 have l1:((h1.push (.deferred (some []))).push (lo .ready none))[h1.size]? =some (.deferred (some [])):=(Upd.push No _ _).get0 (Az h1 _);refine E (.func (.yield (h1.size+1)) #[] #[]) (fun pre A h'=>(∀b,A b→b<h'.size∧h.size≤b)∧A h.size∧A h1.size∧A (h1.size+1)∧h'[h1.size]? =some (.deferred (some []))∧h'[h1.size+1]? =some (lo .ready none)∧
   ∃s:SliceV,h'[h.size]? =some (.cells #[sv s] cr (0,0))∧OwnS ey 2 al (fun b=>A b∧h1.size+1<b) h' s pre∧pre.length≤N)
  (fun b=>b=h.size∨b=h1.size∨b=h1.size+1) No _ _ ⟨fun _ _ _ H b a=>(H.1 b a).1,fun pre A h' h'' B H t X=>?_,fun pre A h' x K' H hlen hK=>?_⟩ ?_ k1 (fun _ _=>id) (fun b a hq=>?_) ?_
 ·obtain⟨J,h2,n,m,W,h6,s,h7,h8,h9⟩:=H
  exact⟨fun b a=>⟨aG (J b a).1 t.size,(J b a).2⟩,h2,n,m,t.get W (X _ n),t.get h6 (X _ m),s,t.get h7 (X _ h2),h8.upd t fun b a=>X b a.1,h9⟩
 ·obtain⟨k,i,j,c,hd,w,s,U,ho,hpl⟩:=H
  refine g x h' K' w ?_;refine tl (p:=x) fun hp bp y=>?_
  have zp:=aY bp;have w:=y.get0 w;have U:=y.get0 U;have hd:=y.get0 hd;have Y:=ho.upd y fun _ _ h=>h
  have sp:=y.size;refine⟨w,?_⟩;have q:Upd (· =h1.size+1) hp (hp.setIfInBounds (h1.size+1) (lo .busy none)):=Upd.set _ _ rfl
  have lb:=jE (o:=lo .busy none) w;have sb:=q.size;refine bG ?_;generalize hp.setIfInBounds (h1.size+1) (lo .busy none)=h2 at q lb sb;have L:=(k _ i).1;have O:=(k _ c).1;have T:=q.get bp (by omega);have G:=q.get U (by omega);refine⟨s,by rw[cT,bm G];rfl,_,vc T 0,_,vc T 1,bG ?_⟩
  refine ws (p:=x) (M:=fun b=>((A b∧b<h'.size)∨h2.size≤b)∧h1.size+1<b) ((Y.upd q fun b a=>by omega).more fun b a=>⟨.inl ⟨a.1,(k b a.1).1⟩,a.2⟩) (fun b a=>⟨.inr a,by have:=aY lb;omega⟩) (by omega) fun s' n ho3 e=>?_
  have u:n[h.size]? =some (.cells #[sv s] cr (0,0)):=e.get G (by omega);refine⟨by rw[cT];exact ip u (by simp),?_⟩;have z:Upd (· =h.size) n (hset n (ay h) (.slice s'.a s'.len s'.cap)):=Upd.hset _ _ rfl
  have C:(hset n (ay h) (.slice s'.a s'.len s'.cap))[h.size]? =some (.cells #[sv s'] cr (0,0)):=by
   rw[cT,yo u,jE u];rfl
  refine bG ?_;generalize hset n (ay h) (.slice s'.a s'.len s'.cap)=m at z C;have P:m[h1.size+1]? =some (lo .busy none):=z.get (e.get lb (by omega)) (by omega);refine⟨P,?_⟩;have d:Upd (· =h1.size+1) m (m.setIfInBounds (h1.size+1) (lo .ready none)):=Upd.set _ _ rfl
  have hl5:=jE (o:=lo .ready none) P;have R:Upd A h' m:=((y.wide.tr (q.mono (M':=A) fun b a=>.inl (a▸c))).trans e fun b a=>a.1.imp (fun h=>h.1) fun h=>by omega).trans z fun b a=>.inl (a▸i)
  have z3:=e.size;have z4:=z.size;have z5:=d.size;refine hK _ (fun b=>((A b∧b<h'.size)∨h2.size≤b)∧b<m.size) ⟨fun b a=>⟨aG a.2 z5,a.1.elim (fun h=>(k b h.1).2) fun h=>by omega⟩,⟨.inl ⟨i,L⟩,by omega⟩,⟨.inl ⟨j,(k _ j).1⟩,by have:=(k _ j).1;omega⟩,⟨.inl ⟨c,O⟩,by omega⟩,
   d.get (z.get (e.get (q.get hd (by omega)) (by omega)) (by omega)) (by omega),hl5,s',d.get C (by omega),?_,by simp;omega⟩ (R.trans d fun b a=>.inl (a▸c)) fun b a=>a.1.imp (fun h=>h.1) fun h=>by omega
  exact(((ho3.upd z fun b a=>by omega).within).more fun b a=>⟨⟨a.1.1,a.2⟩,a.1.2⟩).upd d fun b a=>by omega
 ·refine⟨fun b a=>?_,.inl rfl,.inr (.inl rfl),.inr (.inr rfl),l1,l2,⟨none,0,0⟩,k1.get0 b0,OwnS.nil fU,aS _⟩
  have:=aY l2;rcases a with rfl|rfl|rfl<;>omega
 ·have:=hg.lt b hq
  rcases a with rfl|rfl|rfl<;>omega
 ·rintro xs A' h' hS ⟨k,i,j,c,hd,w,s,U,ho,hpl⟩ t hA'
  refine⟨.ready,none,by decide,w,?_⟩
  have d:Upd (· =h1.size+1) h' (h'.setIfInBounds (h1.size+1) (lo .exhausted none)):=Upd.set _ _ rfl
  show∃v:SliceV,aJ (h'.setIfInBounds (h1.size+1) (lo .exhausted none)) (ay h)=some (.slice v.a v.len v.cap)∧_
  have F:=d.get hd (show ¬h1.size=h1.size+1 by omega)
  have V:=d.get U (show ¬h.size=h1.size+1 by omega)
  have I:=ho.upd d fun b a=>by omega
  generalize h'.setIfInBounds (h1.size+1) (lo .exhausted none)=W at d F V I;refine⟨s,by rw[cT,bm V];rfl,F,?_⟩
  have k6:Upd (· =h1.size) W (W.setIfInBounds h1.size (.deferred none)):=Upd.set _ _ rfl
  refine hk s _ xs hS ((I.upd k6 fun b a=>by omega).more fun b a=>(k b a.1).2) ?_
  refine(((k0.tr k1).trans t fun b a=>?_).trans d fun b a=>.inr (by omega)).trans k6 fun b a=>.inr (by omega)
  rcases a with rfl|rfl|rfl<;>(right;omega)
theorem Qz{h:ad}{a:Value}{N:Nat}{S:List Pr→Prop}{Q:Nat→Prop}(c:Gives PG a abT N S Q h)(e:N≤100000000){K:SliceV→ad→Prop}
  (d:∀s' h' xs,S xs→OwnS ey 2 al (fun b=>h.size≤b) h' s' xs→Upd No h h'→K s' h'):HC PG ll [a] [.c .slice] K h:=by
 refine wt a ?_;unfold po;exact Ls c e d
end Go.Proofs
namespace Go.Proofs
structure WO{α:Type}(lt:α→α→Bool):Prop where
 irr:∀a,lt a a=false
 asy:∀a b,lt a b=true→lt b a=false
 ntr:∀a b c,lt a b=false→lt b c=false→lt a c=false
section
variable {α:Type} {lt:α→α→Bool}
def M1(lt:α→α→Bool)(x a:α):Bool:= !lt a x&& !lt x a
def Srt(lt:α→α→Bool)(l:List α):Prop:=l.Pairwise fun a b=>lt b a=false
structure Eqf(lt:α→α→Bool)(l l':List α):Prop where
 len:l'.length=l.length
 flt:∀x,l'.filter (M1 lt x)=l.filter (M1 lt x)
structure St(lt:α→α→Bool)(l l':List α):Prop where
 eqf:Eqf lt l l'
 srt:Srt lt l'
theorem Eqf.rfl(l:List α):Eqf lt l l:=⟨_root_.rfl,fun _=>_root_.rfl⟩
theorem Eqf.tr{a b c:List α}(h:Eqf lt a b)(k:Eqf lt b c):Eqf lt a c:=⟨k.len.trans h.len,fun x=>(k.flt x).trans (h.flt x)⟩
theorem Eqf.app{a b a' b':List α}(h:Eqf lt a a')(k:Eqf lt b b'):Eqf lt (a++b) (a'++b'):=
 ⟨by rw[ac,ac,h.len,k.len],fun x=>by rw[eN,eN,h.flt,k.flt]⟩
theorem JO(w:WO lt)(a:α):M1 lt a a=true:=by unfold M1;rw[w.irr];rfl
theorem Eqf.mem(w:WO lt){l l':List α}(h:Eqf lt l l'){a:α}:a∈l'↔a∈l:=by
 have e:=h.flt a;constructor
 ·intro hm
  have:a∈l'.filter (M1 lt a):=di.2 ⟨hm,JO w a⟩;rw[e]at this;exact(di.1 this).1
 ·intro hm
  have:a∈l.filter (M1 lt a):=di.2 ⟨hm,JO w a⟩;rw[←e]at this;exact(di.1 this).1
theorem aav(w:WO lt){x u v:α}(a:M1 lt x u=true)(hv:M1 lt x v=true):lt v u=false:=by
 unfold M1 at a hv;simp only[bq,Bool.not_eq_true']at a hv;exact w.ntr v x u hv.1 a.2
theorem Eqf.swap(w:WO lt){U V:List α}(h:∀u∈U,∀v∈V,lt v u=true):Eqf lt (U++V) (V++U):=by
 refine⟨by rw[ac,ac,Nat.add_comm],fun x=>?_⟩
 rw[eN,eN];cases hU:U.filter (M1 lt x)with
 |nil=>rw[aL,cN]
 |cons u us=>
  cases hV:V.filter (M1 lt x)with
  |nil=>rw[aL,cN]
  |cons v vs=>
   have c:u∈U.filter (M1 lt x):=by rw[hU];exact au ..
   have hv:v∈V.filter (M1 lt x):=by rw[hV];exact au ..
   have b:=di.1 c;have h2:=di.1 hv;have a:=h u b.1 v h2.1;rw[aav w b.2 h2.2]at a;cases a
theorem Srt.app{a b:List α}(h:Srt lt a)(k:Srt lt b)(c:∀x∈a,∀y∈b,lt y x=false):Srt lt (a++b):=cx.2 ⟨h,k,c⟩
theorem Srt.left{a b:List α}(h:Srt lt (a++b)):Srt lt a:=(cx.1 h).1
theorem Srt.right{a b:List α}(h:Srt lt (a++b)):Srt lt b:=(cx.1 h).2.1
theorem Srt.cross{a b:List α}(h:Srt lt (a++b)):∀x∈a,∀y∈b,lt y x=false:=(cx.1 h).2.2
theorem Srt.nil:Srt lt ([]:List α):=eI
theorem Srt.one(a:α):Srt lt [a]:=List.pairwise_singleton ..
theorem Ny(w:WO lt){S L G:List α}{t:α}(h:St lt S (L++G))(d:∀l∈L,lt t l=false)(b:∀g∈G,lt t g=true):St lt (S++ [t]) (L++t::G):=by
 refine⟨(h.eqf.app (Eqf.rfl [t])).tr ?_,?_⟩
 ·rw[aq]
  exact(Eqf.rfl L).app (Eqf.swap w (U:=G) (V:= [t]) fun u c v hv=>by rw[aD.1 hv];exact b u c)
 ·refine h.srt.left.app (aF.2 ⟨fun g e=>w.asy t g (b g e),h.srt.right⟩) fun x hx y a=>?_
  rcases aC.1 a with rfl|a
  ·exact d x hx
  ·exact h.srt.cross x hx y a
theorem Nx(w:WO lt){V1 V2:List α}{u:α}(h:Srt lt (V1++V2))(b:∀v∈V1,lt v u=true)(h2:∀v∈V2,lt v u=false):St lt ([u]++(V1++V2)) (V1++u::V2):=by
 refine⟨?_,?_⟩
 ·rw[←aq]
  have:=(Eqf.swap w (U:= [u]) (V:=V1) fun x hx y a=>by rw[aD.1 hx];exact b y a).app (Eqf.rfl V2)
  rw[aq V1]at this;exact this
 ·refine h.left.app (aF.2 ⟨h2,h.right⟩) fun x hx y a=>?_
  rcases aC.1 a with rfl|a
  ·exact w.asy x y (b x hx)
  ·exact h.cross x hx y a
theorem Pg(w:WO lt){U1 U2:List α}{v:α}(h:Srt lt (U1++U2))(a:∀u∈U1,lt v u=false)(h2:∀u∈U2,lt v u=true):St lt ((U1++U2)++ [v]) (U1++v::U2):=
 Ny w ⟨Eqf.rfl _,h⟩ a h2
theorem Vy(w:WO lt){U1 U2 V1 V2 f R2:List α}(g:Srt lt (U1++U2))(i:Srt lt (V1++V2))(d:∀v∈V1,∀u∈U2,lt v u=true)(h2:∀u∈U1,∀v∈V2,lt v u=false)(c:St lt (U1++V1) f)(b:St lt (U2++V2) R2):St lt ((U1++U2)++(V1++V2)) (f++R2):=by
 refine⟨?_,c.srt.app b.srt fun x hx y a=>?_⟩
 ·have e:Eqf lt ((U1++U2)++(V1++V2)) ((U1++V1)++(U2++V2)):=by
   have:=((Eqf.rfl U1).app (Eqf.swap w (U:=U2) (V:=V1) fun u j v hv=>d v hv u j)).app (Eqf.rfl (lt:=lt) V2)
   simp only[aq]at this⊢;exact this
  exact e.tr (c.eqf.app b.eqf)
 ·rcases bC.1 ((c.eqf.mem w).1 hx)with hx|hx<;>rcases bC.1 ((b.eqf.mem w).1 a)with a|a
  ·exact g.cross x hx y a
  ·exact h2 x hx y a
  ·exact w.asy x y (d x hx y a)
  ·exact i.cross x hx y a
inductive Runs(lt:α→α→Bool)(bs:Nat):List α→Prop where
 |last (l:List α):l.length≤bs→Srt lt l→Runs lt bs l
 |more (b l:List α):b.length=bs→Srt lt b→Runs lt bs l→Runs lt bs (b++l)
theorem Runs.split{a:Nat}{l:List α}(h:Runs lt a l)(c:a≤l.length):∃b r,l=b++r∧b.length=a∧Srt lt b∧Runs lt a r:=by
 cases h with
 |last _ h1 h2=>exact⟨l,[],(aL l).symm,by omega,h2,.last _ (aS _) Srt.nil⟩
 |more b r h1 h2 h3=>exact⟨b,r,_root_.rfl,h1,h2,h3⟩
theorem Runs.short{a:Nat}{l:List α}(h:Runs lt a l)(c:l.length≤a):Srt lt l:=by
 cases h with
 |last _ h1 h2=>exact h2
 |more b r h1 h2 h3=>
  rw[ac]at c;have:r= []:=List.length_eq_zero_iff.1 (by omega);rw[this,aL];exact h2
def Full(lt:α→α→Bool)(a:Nat)(d:List α):Prop:=∀z,Runs lt a z→Runs lt a (d++z)
theorem Full.nil{a:Nat}:Full lt a ([]:List α):=fun _ h=>h
theorem Full.app{a:Nat}{d b:List α}(h:Full lt a d)(f:b.length=a)(c:Srt lt b):Full lt a (d++b):=fun z e=>by
 rw[aq];exact h _ (.more b z f c e)
end
end Go.Proofs
namespace Go.Proofs
open Go Go.Lift
abbrev CX(z:Hs)(p:Pr):List Value:= [.string p.1,.string p.2,.int .u64 (gq z p.1)]
theorem N2(z:Hs)(p:Pr):(CX z p).length=3∧0<3:=⟨rfl,by omega⟩
theorem UI(z:Hs):∀xs:List Pr,cH (xs.flatMap (CX z))=true
 | []=>rfl
 |x::xs=>by rw[aN];exact m9 rfl (UI z xs)
section
variable {α:Type} {f:α→List Value} {sz:Nat} {t:TypeId} {M:Nat→Prop} {h:ad} {s:SliceV} {P Q:List α} {x:α}
theorem jf(c:OwnS f sz t M h s (P++x::Q)){i:Nat}(hi:i=P.length):∃a,s.a=some a∧∀j v,(f x)[j]? =some v→aJ h (adr (adr a (i*sz)) j)=some v:=by
 obtain⟨a,b,_,hv⟩:=(c.sl (W:=No) fun _ _ _ h=>h).at (i:=i) (x:=x) (by rw[hi,aZ (aj _),Nat.sub_self];rfl)
 exact⟨a,b,hv⟩
theorem rH(o:OwnS f sz t M h s (P++x::Q))(y:α){a:Addr}(q:s.a=some a){i:Nat}(hi:i=P.length){G:ad→Prop}(m:∀h',OwnS f sz t M h' s (P++y::Q)→Upd M h h'→G h'):
  rE h (some (adr a (i*sz))) 0 (f y)∧At (fS h (adr a (i*sz)) 0 (f y)) G:=by
 obtain⟨a',c,hM,n,d,j⟩:=OwnS.setAt o (k:=i) (by rw[hi,ac,ar];omega) y;rw[q]at c;cases c;refine⟨n,bG (m _ ?_ (j.mono fun b e=>.inl (by have e:b=a.block:=e;rw[e];exact hM)))⟩
 subst hi;have g:(P++x::Q).take P.length=P:=List.take_left;have p:(P++x::Q).drop (P.length+1)=Q:=by rw[←List.drop_drop,List.drop_left];rfl
 rw[g,p]at d;exact d
end
theorem Bx{α:Type}{f:α→List Value}{b:Nat}{t:TypeId}{M:Nat→Prop}{h:ad}{s:SliceV}{xs:List α}{x:α}(d:OwnS f b t M h s xs){i:Nat}(hi:xs[i]? =some x):∃a,s.a=some a∧∀j v,(f x)[j]? =some v→aJ h (adr (adr a (i*b)) j)=some v:=by
 obtain⟨a,c,_,hv⟩:=(d.sl (W:=No) fun _ _ _ h=>h).at hi
 exact⟨a,c,hv⟩
theorem Yl{α:Type}{A U X:List α}{i:Nat}(hi:A.length+U.length≤i):(A++(U++X))[i]? =X[i-A.length-U.length]?:=by
 rw[aZ (by omega),aZ (by omega)]
theorem Ym{α:Type}{A U V B:List α}{i k:Nat}{x:α}(hi:A.length+U.length+k=i)(a:V[k]? =some x):(A++(U++(V++B)))[i]? =some x:=by
 rw[Yl (by omega),show i-A.length-U.length=k by omega,cy (bN.1 a).1];exact a
theorem UW{α:Type}{A U X:List α}{i k:Nat}{x:α}(hi:A.length+k=i)(a:U[k]? =some x):(A++(U++X))[i]? =some x:=by
 rw[aZ (by omega),show i-A.length=k by omega,cy (bN.1 a).1];exact a
theorem H8{i j:Nat}(h:i+j≤4000000000):IntKind.wrap .i64 (Int.fdiv (IntKind.wrap .u64 (IntKind.wrap .i64 ((i:Int)+(j:Int)))) (2^(min (1:Int).toNat (IntKind.bits .u64))))=(((i+j)/2:Nat):Int):=by
 have a:(2^(min (1:Int).toNat (IntKind.bits .u64)):Int)=2:=rfl;rw[a,eJ (x:=(i:Int)+(j:Int)) (by omega),Go.IntWalk.u64_in _ (by omega),Int.fdiv_eq_ediv_of_nonneg _ (by omega),eJ (by omega)];omega
theorem uT{α:Type}{lt:α→α→Bool}(w:WO lt){l:List α}(h:Srt lt l){i j:Nat}(c:i≤j){x y:α}(hx:l[i]? =some x) (d:l[j]? =some y):lt y x=false:=by
 obtain⟨hi,rfl⟩:=bN.1 hx;obtain⟨b,rfl⟩:=bN.1 d;rcases Nat.lt_or_ge i j with a|a
 ·exact List.pairwise_iff_getElem.1 h i j hi b a
 ·have:i=j:=by omega
  subst this;exact w.irr _
theorem Et{α:Type}(l:List α):l= []∨∃l' y,l=l'++ [y]:=by
 rcases List.eq_nil_or_concat l with h|⟨l',y,h⟩
 ·exact .inl h
 ·exact .inr ⟨l',y,by rw[h,List.concat_eq_append]⟩
structure Cmp{α:Type}(lt:α→α→Bool)(f:α→List Value)(M:Nat→Prop)(Iv:ad→Prop)(V:Value):Prop where
 call:∀(a b:α) {h:ad} {K:Int→ad→Prop},Iv h→(∀h' e,Upd No h h'→decide (e<0)=lt a b→K e h')→HV PG V [.agg (f a).toArray,.agg (f b).toArray] [.c (.int .i64)] K h
 step:∀{h h':ad},Upd M h h'→Iv h→Iv h'
end Go.Proofs
