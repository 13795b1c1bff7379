/- A part of the proof that the named laws of this program answer true, whatever the input. -/
import Derived.Test.YtncppacbfagpgaaGreatPart3
import Derived.Test.YtncppacbfagpgaaGreatLift3
open Bool renaming and_eq_true→bd
open ByteArray renaming mk→lQ
open Int renaming tmod→jE
open List renaming pairwise_cons→aG,mem_cons→az,append_assoc→al,length_append→ac,length_singleton→aR,cons→gU,cons_append→cH,mem_cons_self→ao,length_cons→ak,flatMap_cons→aI,append_nil→aK,filter_append→gg,mem_filter→de,nil_append→cU,pairwise_append→cg,mem_singleton→aB,mem_append→bi,getElem?_append_right→aV,getElem?_append_left→cy,getElem?_eq_some_iff→bM
open List.Pairwise renaming nil→gP
open Nat renaming le_refl→aq,zero_add→aP,lt_of_lt_of_le→aE,zero_le→bw,mul_le_mul_right→dN
namespace Go.Proofs
open Go Go.Lift
theorem rI{p q:Pr}:∀{l:List Pr},bE l→(q∈gV p l↔q=p∨(q∈l∧q.1≠p.1))
 | [],_=>by simp[gV]
 |r::l,hr=>by
  have hr:=aG.1 hr;rw[fU];by_cases h1:kl r.1 p.1
  ·have hne:r.1≠p.1:=fun e=>by rw[e]at h1;exact bW _ h1
   rw[if_pos h1,az,az,rI hr.2];constructor
   ·rintro(rfl|h|⟨h,h'⟩)
    ·exact .inr ⟨.inl rfl,hne⟩
    ·exact .inl h
    ·exact .inr ⟨.inr h,h'⟩
   ·rintro(h|⟨h|h,h'⟩)
    ·exact .inr (.inl h)
    ·exact .inl h
    ·exact .inr (.inr ⟨h,h'⟩)
  ·rw[if_neg h1]
   by_cases h2:r.1=p.1
   ·rw[if_pos h2,az,az]
    constructor
    ·rintro(h|h)
     ·exact .inl h
     ·refine .inr ⟨.inr h,fun e=>?_⟩
      have:=hr.1 q h;rw[e,h2]at this;exact bW _ this
    ·rintro(h|⟨rfl|h,h'⟩)
     ·exact .inl h
     ·exact absurd h2 h'
     ·exact .inr h
   ·rw[if_neg h2,az,az]
    have h3:=ph h1 h2;constructor
    ·rintro(h|rfl|h)
     ·exact .inl h
     ·exact .inr ⟨.inl rfl,h2⟩
     ·refine .inr ⟨.inr h,fun e=>?_⟩
      have:=fE h3 (hr.1 q h);rw[e]at this;exact bW _ this
    ·rintro(h|⟨rfl|h,h'⟩)
     ·exact .inl h
     ·exact .inr (.inl rfl)
     ·exact .inr (.inr h)
def RadRoot(W:Nat→Prop)(h:ad)(r:Option Addr)(l:List Pr):Prop:=(r=none∧l= [])∨∃b,r=some ⟨b,0,none⟩∧RadAt W h b l
theorem RadRoot.upd0{W:Nat→Prop}{h h':ad}{r:Option Addr}{l:List Pr}(k:Upd No h h')(t:RadRoot W h r l):RadRoot W h' r l:=t.imp id fun⟨b,e,t⟩=>⟨b,e,t.upd0 k⟩
theorem tF{a b:ByteArray}:a.data.toList=b.data.toList↔a=b:=by
 constructor
 ·intro h;cases a;cases b;exact congrArg lQ (Array.toList_inj.1 h)
 ·rintro rfl;rfl
theorem E0{W:Nat→Prop}{h:ad}(hW:∀y,W y→y<h.size){K:Option Addr→ad→Prop}(hk:∀h' b,RadAt W h' b []→Upd No h h'→K (some ⟨b,0,none⟩) h'):HC PG ru [] [.c .ptr] K h:=by
 refine GL ?_;unfold y9 JG;refine bq (hk _ h.size ⟨none,.nil,⟨⟨#[]⟩,⟨none,0,0⟩,none,[],bZ h TM cf,rfl,Sl.nil pS,⟨aq _,fun hx=>Nat.lt_irrefl _ (hW _ hx)⟩,rfl⟩,trivial,fun k v=>?_⟩ (Upd.hnew No h _ _))
 simp[vo,yG]
theorem B6{W:Nat→Prop}{h:ad}{r:Option Addr}{l:List Pr}(t:RadRoot W h r l)(hW:∀y,W y→y<h.size){K:Option Addr→ad→Prop}(hk:∀h' b,RadAt W h' b l→Upd No h h'→(r=some ⟨b,0,none⟩∨r=none)→K (some ⟨b,0,none⟩) h'):HC PG p8 [.pointer r] [.c .ptr] K h:=by
 refine Jn r ?_;unfold BA;rcases t with⟨rfl,rfl⟩|⟨b,rfl,t⟩
 ·exact av.2 (E0 hW fun h' b t hu=>hk h' b t hu (.inr rfl))
 ·exact aj.2 (hk h b t (Upd.refl _ _) (.inl rfl))
theorem Kd{W:Nat→Prop}{h:ad}{r:Option Addr}{l:List Pr}(t:RadRoot W h r l)(hW:∀y,W y→y<h.size)(hr:bE l)(p:Pr)(hp:p.1.size≤1000000){K:Option Addr×Bool→ad→Prop}
  (hk:∀h' b' added,Upd No h h'→RadAt W h' b' (gV p l)→(p∈l→r=some ⟨b',0,none⟩∨r=none)→K (some ⟨b',0,none⟩,added) h'):
  HC PG xS [.pointer none,.pointer r,.agg #[.string p.1,.string p.2]] [.c .ptr,.c .bool] K h:=by
 refine Ls none r p ?_;unfold DI au vp Qw ug;have k1:=Upd.hnew No h [.string p.1,.string p.2] af;have b1:=bZ h [.string p.1,.string p.2] af;refine bq ?_;simp only[cJ h];generalize hnew h [.string p.1,.string p.2] af=h1 at k1 b1;have w1:∀{h':ad},Upd No h1 h'→∀i,aS h' (adr ⟨h.size,0,none⟩ i)=(#[.string p.1,.string p.2]:Array Value)[i]?:=fun k i=>by rw[ci,bh (k.get0 b1),aP]
 have r0:=Upd.refl No h1;refine⟨p.1,w1 r0 0,p.2,w1 r0 1,B6 (t.upd0 k1) (fun y hy=>aE (hW y hy) k1.size) fun h2 b t2 hu2 hb=>⟨w1 hu2 1,w1 hu2 0,?_⟩⟩
 obtain⟨w,F,r1,r2,r3⟩:=t2.ex;refine QU (p.1.size+1) p.1 p.2 (by omega) hp r1 (fun y hy=>aE (hW y hy) (k1.tr hu2).size) r2 fun h3 b3 w' F' added ch hu3 rn3 hc3 hp3 hsm hch=>?_
 refine hk h3 b3 added ((k1.tr hu2).tr hu3) ⟨w',F',rn3,hc3,fun k v=>?_⟩ fun hm=>?_
 ·rw[jV,hp3 k v,←jV,r3 k v]
  constructor
  ·rintro(⟨rfl,rfl⟩|⟨hne,q,hq,rfl,rfl⟩)
   ·exact⟨p,(rI hr).2 (.inl rfl),rfl,rfl⟩
   ·exact⟨q,(rI hr).2 (.inr ⟨hq,fun e=>hne (by rw[e])⟩),rfl,rfl⟩
  ·rintro⟨q,hq,rfl,rfl⟩
   rcases(rI hr).1 hq with rfl|⟨hq,hne⟩
   ·exact .inl ⟨rfl,rfl⟩
   ·exact .inr ⟨fun e=>hne (tF.1 e),q,hq,rfl,rfl⟩
 ·have:=hch (jV.1 ((r3 _ _).2 ⟨p,hm,rfl,rfl⟩))
  rw[(hsm this).1];exact hb
def P5(l:List Pr)(xs:List UInt8):Prop:=∃w F,fS F∧vo w F=O7 l∧xs=pf ([],w,F)
theorem AV{w:Option ByteArray}{F:Fo}{l:List Pr}(hc:fS F)(hp:vo w F=O7 l)(hf:Fit l):LH F∧∀v,w=some v→v.size≤10000:=by
 have hm:∀k v,sf w F k v→k.length≤10000∧v.size≤10000:=fun k v hi=>by
  have:=jV.2 hi;rw[hp]at this;obtain⟨q,hq,e⟩:=List.mem_map.1 this;cases e;have:=hf q hq;exact⟨by simpa using this.1,this.2⟩
 exact⟨M9 hc fun k v hi=>hm k v (.inr hi),fun v hv=>(hm [] v (.inl ⟨rfl,hv⟩)).2⟩
theorem SU{l l':List Pr}{xs xs':List UInt8}(h:P5 l xs)(h':P5 l' xs')(hf:Fit l)(hf':Fit l'):xs=xs'↔l=l':=by
 obtain⟨w,F,c,e,rfl⟩:=h;obtain⟨w',F',c',e',rfl⟩:=h';have f1:=AV c e hf;have f2:=AV c' e' hf';constructor
 ·intro hx
  have hx:pf ([],w,F)++ []=pf ([],w',F')++ []:=by rw[hx]
  unfold pf at hx;simp only[al]at hx;obtain⟨_,e2,e3,hx⟩:=Hp (bw _) (bw _) f1.2 f2.2 (mC c) (mC c') hx;obtain⟨e4,_⟩:=zA f1.1 f2.1 e3 hx;exact N6 (by rw[←e,←e',e2,e4])
 ·rintro rfl
  obtain⟨e2,e4⟩:=QY c c' (e.trans e'.symm);rw[e2,e4]
theorem Kf{l:List Pr}{xs:List UInt8}(h:P5 l xs)(hf:Fit l):xs.length≤20010+2*l.length*20010:=by
 obtain⟨w,F,c,e,rfl⟩:=h;have f1:=AV c e hf;have h1:=Ho (lab:= []) (n:=F.toL.length) (bw _) f1.2;have h2:=zz f1.1;have h3:=Jb c;have h4:=congrArg List.length e;unfold vo O7 at h4;rw[ac,List.length_map]at h4;have h5:Jc F*20010≤2*l.length*20010:=dN _ (by omega);unfold pf;rw[ac];simp only;omega
theorem Kg{W:Nat→Prop}{h:ad}{b:Nat}{l:List Pr}(t:RadAt W h b l)(hr:bE l)(hf:Fit l)(hn:l.length≤60000){K:SliceV→ad→Prop}
  (hk:∀s' h' xs,P5 l xs→OwnS vj 1 fq (fun y=>h.size≤y) h' s' xs→Upd No h h'→K s' h'):HC PG uZ [.pointer (some ⟨b,0,none⟩)] [.c .slice] K h:=by
 refine GK _ ?_;unfold y8;refine aj.2 ?_;obtain⟨w,F,r1,r2,r3⟩:=t.ex;have hp:=Oj r2 hr r3;have f1:=AV r2 hp hf;have hv:P5 l (pf ([],w,F)):=⟨w,F,r2,hp,rfl⟩;have hl:=Kf hv hf;exact QR (lab:= []) (bw _) f1.2 (mC r2) (Ip f1.1) (s:=⟨none,0,0⟩) (xs:= []) (M:=fun y=>h.size≤y) r1 rfl (Upd.refl _ _) (fun _ h=>h) (OwnS.nil Cv) (fun _ h=>h) (by rw[List.length_nil];omega) fun s' h' ho hu=>hk s' h' _ hv ho (hu.mono fun y hy=>.inr hy)
end Go.Proofs
namespace Go.Proofs
open Go Go.Lift
theorem aM{h:ad}{cs:List Value}{t:TypeId}{k:ad→Prop}(hk:∀h',h'[h.size]? =some (.cells cs.toArray t (0,0))→Upd No h h'→k h'):At (hnew h cs t) k:=
 bq (hk _ (bZ h cs t) (Upd.hnew No h cs t))
theorem vc{h:ad}{b:Nat}{c:Array Value}{t:TypeId}(hb:h[b]? =some (.cells c t (0,0))) (i:Nat):aS h (adr ⟨b,0,none⟩ i)=c[i]?:=by rw[ci,aP];exact bh hb
theorem sy{h:ad}{b:Nat}{c:Array Value}{t:TypeId}(hb:h[b]? =some (.cells c t (0,0))) (i j:Nat):aS h (adr (adr ⟨b,0,none⟩ i) j)=c[i+j]?:=by rw[ci,ci,aP];exact bh hb
theorem BT{h:ad}{b i:Nat}{c c':Array Value}{t:TypeId}{v:Value}{k:ad→Prop}(hb:h[b]? =some (.cells c t (0,0))) (hi:i<c.size) (e:c.setIfInBounds i v=c') (hk:∀h',h'[b]? =some (.cells c' t (0,0))→Upd (· =b) h h'→k h'):Wr h (adr ⟨b,0,none⟩ i)∧At (hset h (adr ⟨b,0,none⟩ i) v) k:=by
 rw[ci,aP];exact⟨iI hb hi,yb hb fun h' hb' hu=>hk h' (e▸hb') hu⟩
theorem _root_.Go.Lift.Upd.own{h h1 h2:ad}{b:Nat}(k:Upd No h h1)(hu:Upd (· =b) h1 h2)(hb:h.size≤b):Upd No h h2:=k.trans hu fun x hx=>.inr (by have hx:x=b:=hx;omega)
theorem _root_.Go.Lift.Upd.oth{h h':ad}{b c:Nat}{o:Obj}(hu:Upd (· =b) h h')(hc:h[c]? =some o) (hne:c≠b):h'[c]? =some o:=hu.get hc hne
abbrev Tr:=Int×Int×Int×Int×(Option Addr)×(Option Addr)
abbrev fz(t:Tr):List Value:= [.int .i64 t.1,.int .u64 t.2.1,.int .u64 t.2.2.1,.int .u64 t.2.2.2.1,.pointer t.2.2.2.2.1,.pointer t.2.2.2.2.2]
abbrev zo(t:Tr):Value:=.agg #[.int .i64 t.1,.int .u64 t.2.1,.int .u64 t.2.2.1,.int .u64 t.2.2.2.1,.pointer t.2.2.2.2.1,.pointer t.2.2.2.2.2]
def Pro(W:Nat→Prop)(h h2:ad)(y:Nat):Prop:=W y∨(h.size≤y∧y<h2.size)
theorem Pro.lt{W:Nat→Prop}{h h2:ad}(hW:∀y,W y→y<h.size)(k:Upd No h h2):∀y,Pro W h h2 y→y<h2.size:=fun y hy=>hy.elim (fun h=>aE (hW y h) k.size) fun h=>h.2
theorem Pro.hm{W:Nat→Prop}{h h2:ad}:∀y,Pro W h h2 y→W y∨h.size≤y:=fun _ hy=>hy.imp id fun h=>h.1
theorem Pro.sub{W:Nat→Prop}{h h2 h3:ad}:∀y,W y→Pro W h h2 y∨h3.size≤y:=fun _ hy=>.inl (.inl hy)
theorem RootAt.less{W W':Nat→Prop}{x:Hs}{h:ad}(hm:∀b,W' b→W b∨h.size≤b){r:Option Addr}{l:List Pr}(t:RootAt W x h r l):RootAt W' x h r l:=t.imp id fun⟨b,e,t⟩=>⟨b,e,TrieAt.less hm t⟩
theorem RadRoot.less{W W':Nat→Prop}{h:ad}(hm:∀b,W' b→W b∨h.size≤b){r:Option Addr}{l:List Pr}(t:RadRoot W h r l):RadRoot W' h r l:=t.imp id fun⟨b,e,t⟩=>⟨b,e,t.less hm⟩
def TreeIs(W:Nat→Prop)(h:ad)(kind:Int)(x:Hs)(t:Tr)(l:List Pr):Prop:=(kind=0∧∃b,t=(0,x.k0,x.k1,x.mask,some ⟨b,0,none⟩,none)∧TrieAt W x h 13 b l)∨(kind=1∧∃b,t=(1,0,0,0,none,some ⟨b,0,none⟩)∧RadAt W h b l)
theorem TreeIs.upd0{W:Nat→Prop}{h h':ad}{kind:Int}{x:Hs}{t:Tr}{l:List Pr}(k:Upd No h h')(i:TreeIs W h kind x t l):TreeIs W h' kind x t l:=
 i.imp (fun⟨e,b,e2,t⟩=>⟨e,b,e2,TrieAt.upd0 k t⟩) fun⟨e,b,e2,t⟩=>⟨e,b,e2,t.upd0 k⟩
theorem TreeIs.less{W W':Nat→Prop}{h:ad}(hm:∀b,W' b→W b∨h.size≤b){kind:Int}{x:Hs}{t:Tr}{l:List Pr}(i:TreeIs W h kind x t l):TreeIs W' h kind x t l:=
 i.imp (fun⟨e,b,e2,t⟩=>⟨e,b,e2,TrieAt.less hm t⟩) fun⟨e,b,e2,t⟩=>⟨e,b,e2,t.less hm⟩
theorem TreeIs.updM{W M:Nat→Prop}{h h':ad}(k:Upd M h h')(hm:∀b,M b→W b∨h.size≤b){kind:Int}{x:Hs}{t:Tr}{l:List Pr}(i:TreeIs W h kind x t l):TreeIs W h' kind x t l:=
 i.imp (fun⟨e,b,e2,t⟩=>⟨e,b,e2,TrieAt.updM k hm t⟩) fun⟨e,b,e2,t⟩=>⟨e,b,e2,t.updM k hm⟩
theorem TreeIs.pro{W:Nat→Prop}{h h2:ad}(k:Upd No h h2){kind:Int}{x:Hs}{t:Tr}{l:List Pr}(i:TreeIs W h kind x t l):TreeIs (Pro W h h2) h2 kind x t l:=(i.less Pro.hm).upd0 k
theorem GC{W:Nat→Prop}{x:Hs}{h:ad}(hW:∀y,W y→y<h.size){K:Option Addr→ad→Prop}(hk:∀h' b,TrieAt W x h' 13 b []→Upd No h h'→K (some ⟨b,0,none⟩) h'):HC PG oG [] [.c .ptr] K h:=by
 refine yZ ?_;unfold vh;exact pX hW fun h' b nd hu=>hk h' b (JP nd) hu
abbrev sH:Tr:=(0,0,0,0,none,none)
theorem Db{W:Nat→Prop}{x:Hs}{h:ad}{r:Option Addr}{l:List Pr}(t:RootAt W x h r l)(hW:∀y,W y→y<h.size){K:Tr→ad→Prop}(hk:∀h' t,TreeIs W h' 0 x t l→Upd No h h'→K t h'):HC PG p6 [.agg #[.int .u64 x.k0,.int .u64 x.k1,.int .u64 x.mask],.pointer r] [.agg [.int .i64,.int .u64,.int .u64,.int .u64,.ptr,.ptr]] K h:=by
 refine FU (x.k0,x.k1,x.mask) r ?_;unfold yf aN ae ax cp Dm rB tY;refine aM fun h1 b1 k1=>aM fun h2 b2 k2=>?_
 have z1:=aO b1;have z2:=aO b2;have k02:=k1.tr k2;refine Join.intro (fun t h'=>Upd No h2 h'∧∃b,t=some ⟨b,0,none⟩∧TrieAt (Pro W h h2) x h' 13 b l) (fun R hR=>?_) ?_
 ·rcases t with⟨rfl,rfl⟩|⟨b,rfl,t⟩
  ·exact av.2 (GC (Pro.lt hW k02) fun h3 b t hu3=>hR _ _ ⟨hu3,b,rfl,t⟩)
  ·exact aj.2 (hR _ _ ⟨Upd.refl _ _,b,rfl,TrieAt.upd0 k02 (TrieAt.less Pro.hm t)⟩)
 ·rintro t3 h3 ⟨hu3,b,rfl,t3⟩
  have c1:=hu3.get0 (k2.get0 b1);refine⟨_,vc c1 0,_,vc c1 1,_,vc c1 2,?_⟩;refine be (c:=fz sH) (vs:=fz (0,x.k0,x.k1,x.mask,some ⟨b,0,none⟩,none)) (hu3.get0 b2) rfl fun h4 b4 hu4=>?_
  refine⟨_,vc b4 0,_,vc b4 1,_,vc b4 2,_,vc b4 3,_,vc b4 4,_,vc b4 5,?_⟩;have hb1:h.size≤h1.size:=k1.size;exact hk h4 _ (.inl ⟨rfl,b,rfl,TrieAt.less Pro.sub (TrieAt.updM hu4 (fun y hy=>.inl (.inr (by have hy:y=h1.size:=hy;omega))) t3)⟩) ((k02.tr hu3).own hu4 hb1)
theorem JR{W:Nat→Prop}{x:Hs}{h:ad}{r:Option Addr}{l:List Pr}(t:RadRoot W h r l)(hW:∀y,W y→y<h.size){K:Tr→ad→Prop}(hk:∀h' t,TreeIs W h' 1 x t l→Upd No h h'→K t h'):HC PG p5 [.pointer r] [.agg [.int .i64,.int .u64,.int .u64,.int .u64,.ptr,.ptr]] K h:=by
 refine FT r ?_;unfold ye aN ae ax cp rB tY;refine aM fun h2 b2 k02=>?_
 have z2:=aO b2;refine Join.intro (fun t h'=>Upd No h2 h'∧∃b,t=some ⟨b,0,none⟩∧RadAt (Pro W h h2) h' b l) (fun R hR=>?_) ?_
 ·rcases t with⟨rfl,rfl⟩|⟨b,rfl,t⟩
  ·exact av.2 (E0 (Pro.lt hW k02) fun h3 b t hu3=>hR _ _ ⟨hu3,b,rfl,t⟩)
  ·exact aj.2 (hR _ _ ⟨Upd.refl _ _,b,rfl,(t.less Pro.hm).upd0 k02⟩)
 ·rintro t3 h3 ⟨hu3,b,rfl,t3⟩
  refine be (c:=fz sH) (vs:=fz (1,0,0,0,none,some ⟨b,0,none⟩)) (hu3.get0 b2) rfl fun h4 b4 hu4=>?_
  refine⟨_,vc b4 0,_,vc b4 1,_,vc b4 2,_,vc b4 3,_,vc b4 4,_,vc b4 5,?_⟩;exact hk h4 _ (.inr ⟨rfl,b,rfl,(t3.updM hu4 (fun y hy=>.inl (.inr (by have hy:y=h.size:=hy;omega)))).less Pro.sub⟩) ((k02.tr hu3).own hu4 (aq _))
theorem N9{W:Nat→Prop}{x:Hs}{h:ad}(hW:∀y,W y→y<h.size){kind:Int}(hkd:kind=0∨kind=1){K:Tr×Int→ad→Prop}(hk:∀h' t,TreeIs W h' kind x t []→Upd No h h'→K (t,0) h'):HC PG wH [.int .i64 kind,.agg #[.int .u64 x.k0,.int .u64 x.k1,.int .u64 x.mask]] [.agg [.int .i64,.int .u64,.int .u64,.int .u64,.ptr,.ptr],.c (.int .i64)] K h:=by
 refine NB kind (x.k0,x.k1,x.mask) ?_;unfold F3 aN ae ax cp Dm zm rB oa AN;refine aM fun h1 b1 k1=>aM fun h2 b2 k2=>?_
 have z1:=aO b1;have z2:=aO b2;have k02:=k1.tr k2;have hb1:h.size≤h1.size:=k1.size;have c1:=k2.get0 b1;rcases hkd with rfl|rfl
 ·refine av.2 ⟨_,vc c1 0,_,vc c1 1,_,vc c1 2,?_⟩
  refine Db (W:=Pro W h h2) (x:=x) (l:= []) (.inl ⟨rfl,rfl⟩) (Pro.lt hW k02) fun h3 t i3 hu3=>?_
  refine be (c:=fz sH) (vs:=fz t) (hu3.get0 b2) rfl fun h4 b4 hu4=>?_
  refine⟨_,vc b4 0,_,vc b4 1,_,vc b4 2,_,vc b4 3,_,vc b4 4,_,vc b4 5,?_⟩;exact hk h4 t ((i3.updM hu4 (fun y hy=>.inl (.inr (by have hy:y=h1.size:=hy;omega)))).less Pro.sub) ((k02.tr hu3).own hu4 hb1)
 ·refine aj.2 (av.2 ?_)
  refine JR (W:=Pro W h h2) (x:=x) (l:= []) (.inl ⟨rfl,rfl⟩) (Pro.lt hW k02) fun h3 t i3 hu3=>?_
  refine be (c:=fz sH) (vs:=fz t) (hu3.get0 b2) rfl fun h4 b4 hu4=>?_
  refine⟨_,vc b4 0,_,vc b4 1,_,vc b4 2,_,vc b4 3,_,vc b4 4,_,vc b4 5,?_⟩;exact hk h4 t ((i3.updM hu4 (fun y hy=>.inl (.inr (by have hy:y=h1.size:=hy;omega)))).less Pro.sub) ((k02.tr hu3).own hu4 hb1)
theorem Cg{k v:ByteArray}(h1:k.size≤256)(h2:v.size≤4096){h:ad}{K:Int→ad→Prop}(hk:K 0 h):HC PG qb [.string k,.string v] [.c (.int .i64)] K h:=by
 refine Jq k v ?_;unfold BD;refine aA (fun h=>absurd h (by omega)) fun _=>aA (fun h=>absurd h (by omega)) fun _=>hk
theorem EO{W:Nat→Prop}{x:Hs}{h:ad}{kind:Int}{t:Tr}{l:List Pr}(i:TreeIs W h kind x t l)(hW:∀y,W y→y<h.size)(hr:bE l)(hn:l.length≤1000000)(p:Pr)(hp1:p.1.size≤256)(hp2:p.2.size≤4096){K:Tr×Int→ad→Prop}
  (hk:∀h' t',TreeIs W h' kind x t' (gV p l)→(p∈l→t'=t)→Upd No h h'→K (t',0) h'):HC PG ny [zo t,.pointer none,.agg #[.string p.1,.string p.2]] [.agg [.int .i64,.int .u64,.int .u64,.int .u64,.ptr,.ptr],.c (.int .i64)] K h:=by
 refine CE t none p ?_;unfold vN aN ae aH ax au cp zm rB oa jH tY bX dU vp qF gm;refine aM fun h1 b1 k1=>aM fun h2 b2 k2=>aM fun h3 b3 k3=>?_
 have z1:=aO b1;have z2:=aO b2;have z3:=aO b3;have s1:h.size≤h1.size:=k1.size;have s2:h1.size≤h2.size:=k2.size;have s3:=k3.size;have k03:=(k1.tr k2).tr k3;have v1:=k3.get0 (k2.get0 b1);have v2:=k3.get0 b2;have i3:=i.pro k03;have hW3:=Pro.lt hW k03;refine⟨_,vc v2 0,_,vc v2 1,Cg hp1 hp2 (aj.2 ?_)⟩;rcases i3 with⟨rfl,b,rfl,t3⟩|⟨rfl,b,rfl,t3⟩
 ·refine⟨_,vc v1 0,aj.2 ⟨_,sy v1 1 0,_,sy v1 1 1,_,sy v1 1 2,_,vc v1 4,p.1,vc v2 0,p.2,vc v2 1,?_⟩⟩
  refine Lk (.inr ⟨b,rfl,t3⟩) hW3 hr hn p fun h4 b4 hu4 t4 hsame=>?_
  refine BT (i:=4) (c':=(fz (0,x.k0,x.k1,x.mask,some ⟨b4,0,none⟩,none)).toArray) (hu4.get0 v1) (show 4<6 by decide) rfl fun h5 v5 hu5=>?_
  refine⟨_,vc v5 0,_,vc v5 1,_,vc v5 2,_,vc v5 3,_,vc v5 4,_,vc v5 5,?_⟩;refine be (c:=fz sH) (vs:=fz (0,x.k0,x.k1,x.mask,some ⟨b4,0,none⟩,none)) (hu5.oth (hu4.get0 b3) (by omega)) rfl fun h6 v6 hu6=>?_
  refine⟨_,vc v6 0,_,vc v6 1,_,vc v6 2,_,vc v6 3,_,vc v6 4,_,vc v6 5,?_⟩;refine hk h6 _ (.inl ⟨rfl,b4,rfl,TrieAt.less Pro.sub (TrieAt.updM hu6 (fun y hy=>.inl (.inr (by have hy:y=h2.size:=hy;omega))) (TrieAt.updM hu5 (fun y hy=>.inl (.inr (by have hy:y=h.size:=hy;omega))) t4))⟩) (fun hm=>?_) (((k03.tr hu4).own hu5 (aq _)).own hu6 (by omega))
  rcases hsame hm with e|e
  ·rw[e]
  ·cases e
 ·refine⟨_,vc v1 0,av.2 ⟨_,vc v1 5,p.1,vc v2 0,p.2,vc v2 1,?_⟩⟩
  refine Kd (.inr ⟨b,rfl,t3⟩) hW3 hr p (by omega) fun h4 b4 added hu4 t4 hsame=>?_
  refine BT (i:=5) (c':=(fz (1,0,0,0,none,some ⟨b4,0,none⟩)).toArray) (hu4.get0 v1) (show 5<6 by decide) rfl fun h5 v5 hu5=>?_
  refine⟨_,vc v5 0,_,vc v5 1,_,vc v5 2,_,vc v5 3,_,vc v5 4,_,vc v5 5,?_⟩;refine be (c:=fz sH) (vs:=fz (1,0,0,0,none,some ⟨b4,0,none⟩)) (hu5.oth (hu4.get0 b3) (by omega)) rfl fun h6 v6 hu6=>?_
  refine⟨_,vc v6 0,_,vc v6 1,_,vc v6 2,_,vc v6 3,_,vc v6 4,_,vc v6 5,?_⟩;refine hk h6 _ (.inr ⟨rfl,b4,rfl,((t4.updM hu5 (fun y hy=>.inl (.inr (by have hy:y=h.size:=hy;omega)))).updM hu6 (fun y hy=>.inl (.inr (by have hy:y=h2.size:=hy;omega)))).less Pro.sub⟩) (fun hm=>?_) (((k03.tr hu4).own hu5 (aq _)).own hu6 (by omega))
  rcases hsame hm with e|e
  ·rw[e]
  ·cases e
end Go.Proofs
namespace Go.Proofs
open Go Go.Lift
def nX(t u:Tr):Bool:=(t.1==u.1)&&((((t.2.1==u.2.1)&&((t.2.2.1==u.2.2.1)&&true)))&&((t.2.2.2.1==u.2.2.2.1)&&true))
theorem Ax{t u:Tr}{h:ad}{K:Bool→ad→Prop}(hk:∀h',Upd No h h'→K (nX t u) h'):HC PG pJ [zo t,zo u] [.c .bool] K h:=by
 refine Lr t u ?_;unfold DH aN aH oa;refine aM fun h1 b1 k1=>aM fun h2 b2 k2=>?_
 have c1:=k2.get0 b1;refine⟨_,vc c1 0,_,vc b2 0,?_⟩;have:=hk h2 (k1.tr k2);unfold nX at this;rcases hb:(t.1==u.1)with _|_
 ·rw[hb]at this
  exact aj.2 this
 ·rw[hb]at this
  exact av.2 ⟨_,sy c1 1 0,_,sy c1 1 1,_,sy c1 1 2,_,sy b2 1 0,_,sy b2 1 1,_,sy b2 1 2,this⟩
theorem BV{W:Nat→Prop}{x:Hs}{h:ad}{b:Nat}{l:List Pr}(t:TrieAt W x h 13 b l){K:Option Addr→ad→Prop}(hk:∀h',Upd No h h'→K (some ⟨b,0,none⟩) h'):HC PG jX [zo (0,x.k0,x.k1,x.mask,some ⟨b,0,none⟩,none)] [.c .ptr] K h:=by
 refine Bf (0,x.k0,x.k1,x.mask,some ⟨b,0,none⟩,none) ?_;unfold uA aN ax oa;refine aM fun h1 b1 k1=>?_
 refine Join.intro (fun t h'=>t=false∧h'=h1) (fun R hR=>⟨_,vc b1 0,av.2 ⟨_,vc b1 4,hR _ _ ⟨rfl,rfl⟩⟩⟩) ?_
 rintro t h' ⟨rfl,rfl⟩;exact aj.2 ⟨_,vc b1 4,hk h' k1⟩
def OZ(kind:Int)(x:Hs)(l:List Pr)(xs:List UInt8):Prop:=(kind=0∧xs=0::lq x 13 l)∨(kind=1∧∃ys,P5 l ys∧xs=1::ys)
theorem Tu{h h1:ad}{b:UInt8}(hb:h1[h.size]? =some (.cells #[.int .u8 (b.toNat:Int)] fq (0,0))):OwnS vj 1 fq (fun y=>h.size≤y) h1 ⟨some ⟨h.size,0,none⟩,1,1⟩ [b]:=⟨rfl,Cv,aq _,.inr ⟨h.size,[],rfl,aq _,hb,rfl⟩⟩
theorem G8{W:Nat→Prop}{x:Hs}{h:ad}{kind:Int}{t:Tr}{l:List Pr}(i:TreeIs W h kind x t l)(hr:bE l)(hf:Fit l)(hn:l.length≤60000){K:SliceV→ad→Prop}
  (hk:∀s' h' xs,OZ kind x l xs→OwnS vj 1 fq (fun y=>h.size≤y) h' s' xs→Upd No h h'→K s' h'):HC PG mr [zo t] [.c .slice] K h:=by
 refine Bb t ?_;unfold ux aN ae ax jR oa;refine aM fun h1 b1 k1=>?_
 have z1:=k1.size;have app:∀{b:UInt8} {h2 h3:ad} {s:SliceV} {xs:List UInt8},h2[h1.size]? =some (.cells #[.int .u8 (b.toNat:Int)] fq (0,0))→Upd No h1 h2→OwnS vj 1 fq (fun y=>h2.size≤y) h3 s xs→Upd No h2 h3→xs.length≤70000000000000→OZ kind x l (b::xs)→
   ∃xs7,SRow h3 s.a (s.len*1) xs7∧AppP (some [.int .u8 0]) 1 1 fq (some (ag h1)) 1 1 s.len xs7 h3 (fun s8 h9=>K s8 h9):=fun{b h2 h3 s xs} hb k2 ho k3 hl hv=>by
  refine⟨_,(ho.sl (W:=No) fun _ _ _ h=>h).srow,?_⟩
  have k13:=k2.tr k3;have hz:=aO hb;have o1:OwnS vj 1 fq (fun y=>h.size≤y) h3 ⟨some ⟨h1.size,0,none⟩,1,1⟩ [b]:=((Tu hb).upd k3 fun _ _ h=>h).more fun y hy=>by omega
  refine AppP.own (ys:=xs) o1 ho.len rfl (Ej _) rfl (by omega) (by simp only[aR];omega) (by have:=k13.size;omega) fun s' h' ho' hu'=>?_
  exact hk s' h' _ hv ho' ((k1.tr k13).trans hu' fun y hy=>.inr hy)
 rcases i with⟨rfl,b,rfl,t⟩|⟨rfl,b,rfl,t⟩
 ·refine⟨_,vc b1 0,aj.2 (aM fun h2 b2 k2=>?_)⟩
  have c1:=k2.get0 b1;refine⟨_,vc c1 0,_,vc c1 1,_,vc c1 2,_,vc c1 3,_,vc c1 4,_,vc c1 5,?_⟩;refine BV (TrieAt.upd0 (k1.tr k2) t) fun h3 k3=>?_
  refine SQ (TrieAt.upd0 ((k1.tr k2).tr k3) t) hf hn fun s4 h4 ho4 k4=>?_
  have z3:=k3.size;have hlen:=wg (x:=x) 13 hf;have hb:l.length*(20004+9*(13+1))≤60000*(20004+9*(13+1)):=dN _ hn;exact app (b:=0) b2 k2 (ho4.more fun y hy=>by omega) (k3.tr k4) (by omega) (.inl ⟨rfl,rfl⟩)
 ·refine⟨_,vc b1 0,av.2 (aM fun h2 b2 k2=>?_)⟩
  have c1:=k2.get0 b1;refine⟨_,vc c1 5,?_⟩;refine Kg (t.upd0 (k1.tr k2)) hr hf hn fun s4 h4 xs hv ho4 k4=>?_
  have hlen:=Kf hv hf;have hb:2*l.length*20010≤2*60000*20010:=dN _ (by omega);exact app (b:=1) b2 k2 ho4 k4 (by omega) (.inr ⟨rfl,xs,hv,rfl⟩)
theorem Hv{W W':Nat→Prop}{h h':ad}{kind kind':Int}{x x':Hs}{t u:Tr}{l l':List Pr}(i:TreeIs W h kind x t l)(i':TreeIs W' h' kind' x' u l')(hl:nX t u=true):kind=kind'∧(kind=0→x=x'):=by
 rcases i with⟨rfl,b,rfl,_⟩|⟨rfl,b,rfl,_⟩<;>rcases i' with⟨rfl,b',rfl,_⟩|⟨rfl,b',rfl,_⟩
 ·refine⟨rfl,fun _=>?_⟩
  unfold nX at hl;simp only[bd,beq_iff_eq,Bool.and_true,true_and]at hl;cases x;cases x';simp only at hl;simp only[Hs.mk.injEq];exact⟨hl.1.1,hl.1.2,hl.2⟩
 ·simp[nX]at hl
 ·simp[nX]at hl
 ·exact⟨rfl,fun h=>by cases h⟩
theorem QD{kind:Int}{x x':Hs}(hx:kind=0→x=x'){l l':List Pr}{xs xs':List UInt8}(hv:OZ kind x l xs)(hv':OZ kind x' l' xs')(hf:Fit l)(hf':Fit l')(hn:l.length≤60000)(hn':l'.length≤60000)(hr:bE l)(hr':bE l'):xs=xs'↔l=l':=by
 rcases hv with⟨rfl,rfl⟩|⟨rfl,ys,hv,rfl⟩<;>rcases hv' with⟨e,rfl⟩|⟨e,ys',hv',rfl⟩
 ·rw[hx rfl]
  constructor
  ·intro h
   have h:lq x' 13 l++ []=lq x' 13 l'++ []:=by rw[(gU.inj h).2]
   exact(EV 13 hf hf' hn hn' hr hr' h).1
  ·rintro rfl;rfl
 ·cases e
 ·cases e
 ·rw[gU.injEq,←SU hv hv' hf hf']
  exact⟨fun h=>h.2,fun h=>⟨rfl,h⟩⟩
theorem QJ{W W':Nat→Prop}{x x':Hs}{h:ad}{kind kind':Int}{t u:Tr}{l l':List Pr}(i:TreeIs W h kind x t l)(i':TreeIs W' h kind' x' u l')(hr:bE l)(hf:Fit l)(hn:l.length≤60000)(hr':bE l')(hf':Fit l')(hn':l'.length≤60000){K:Bool→ad→Prop}
  (hk:∀h',Upd No h h'→K (nX t u&&decide (l=l')) h'):HC PG xR [zo t,zo u] [.c .bool] K h:=by
 refine Lq t u ?_;unfold DG aN ae ax jR oa Qv;refine aM fun h1 b1 k1=>aM fun h2 b2 k2=>?_
 have c1:=k2.get0 b1;refine⟨_,vc c1 0,_,vc c1 1,_,vc c1 2,_,vc c1 3,_,vc c1 4,_,vc c1 5,_,vc b2 0,_,vc b2 1,_,vc b2 2,_,vc b2 3,_,vc b2 4,_,vc b2 5,?_⟩;refine Ax fun h3 k3=>?_
 have k03:=(k1.tr k2).tr k3;have c3:=k3.get0 c1;have b3:=k3.get0 b2;rcases hl:nX t u with _|_
 ·rw[hl]at hk
  exact aj.2 (hk h3 k03)
 ·rw[hl]at hk
  refine av.2 ⟨_,vc c3 0,_,vc c3 1,_,vc c3 2,_,vc c3 3,_,vc c3 4,_,vc c3 5,_,vc b3 0,_,vc b3 1,_,vc b3 2,_,vc b3 3,_,vc b3 4,_,vc b3 5,?_⟩;refine G8 (i.upd0 k03) hr hf hn fun s4 h4 xs hv ho4 k4=>?_
  have b4:=k4.get0 b3;refine⟨⟨vc b4 0,vc b4 1,vc b4 2,vc b4 3,vc b4 4,vc b4 5⟩,?_⟩;refine G8 (i'.upd0 (k03.tr k4)) hr' hf' hn' fun s5 h5 ys hv' ho5 k5=>?_
  have ho4':=ho4.upd k5 fun _ _ h=>h
  refine Np (W:=No) (W':=No) (ho4'.sl fun _ _ _ h=>h) (ho5.sl fun _ _ _ h=>h) ?_
  obtain⟨rfl,hx⟩:=Hv i i' hl;have:=hk h5 ((k03.tr k4).tr k5);rw[decide_eq_decide.2 (QD hx hv hv' hf hf' hn hn' hr hr')];exact this
theorem TreeIs.plain{W:Nat→Prop}{h:ad}{kind:Int}{x:Hs}{t:Tr}{l:List Pr}(i:TreeIs W h kind x t l):(∀a,t.2.2.2.2.1=some a→fW h a)∧(∀a,t.2.2.2.2.2=some a→fW h a):=by
 rcases i with⟨rfl,b,rfl,t⟩|⟨rfl,b,rfl,t⟩
 ·obtain⟨s,nd,_⟩:=t
  obtain⟨d,n,sp,sk,ow,hb,_⟩:=nd.ex;refine⟨fun a ha=>?_,fun a ha=>(by cases ha)⟩
  cases ha;exact⟨_,_,hb,show 0<6 by decide⟩
 ·obtain⟨w,F,⟨val,s,ow,ks,hb,_⟩,_⟩:=t.ex
  refine⟨fun a ha=>(by cases ha),fun a ha=>?_⟩
  cases ha;exact⟨_,_,hb,show 0<5 by decide⟩
end Go.Proofs
namespace Go.Proofs
open Go Go.Lift
abbrev zPrL:List Value:= [.string (⟨#[]⟩:ByteArray),.string (⟨#[]⟩:ByteArray)]
theorem xD{h:ad}{t:TypeId}{p:Pr}{k:ad→Prop}(hk:∀h',h'[h.size]? =some (.cells #[.string p.1,.string p.2] t (0,0))→Upd No h h'→k h'):
  At (hnew h [.string (⟨#[]⟩:ByteArray),.string (⟨#[]⟩:ByteArray)] t) fun h8=>qE h8 (some (ag h)) 0 [.string p.1,.string p.2]∧At (fk h8 (ag h) 0 [.string p.1,.string p.2]) k:=by
 refine aM fun h1 b1 k1=>?_
 exact be (c:=zPrL) (vs:= [.string p.1,.string p.2]) b1 rfl fun h2 b2 hu2=>hk h2 b2 (k1.own hu2 (aq _))
theorem vF{t:TypeId}{M:Nat→Prop}{h:ad}{so:SliceV}{out:List Pr}{p:Pr}{K:SliceV→ad→Prop}(ho:OwnS eu 2 t M h so out)(hM:∀b,h.size≤b→M b)(hn:out.length+1≤1000000000)
  (hk:∀s' h',OwnS eu 2 t M h' s' (out++ [p])→Upd M h h'→K s' h'):
  ∃xs,SRow (hnew h [.string p.1,.string p.2] t) (some (ag h)) (1*2) xs∧AppP (some [.string (⟨#[]⟩:ByteArray),.string (⟨#[]⟩:ByteArray)]) 2 32 t so.a so.len so.cap 1 xs (hnew h [.string p.1,.string p.2] t) K:=by
 have k:=Upd.hnew No h [.string p.1,.string p.2] t;have h1:OwnS eu 2 t (fun _=>True) (hnew h [.string p.1,.string p.2] t) ⟨some (ag h),1,1⟩ [p]:=⟨rfl,ge,aq _,.inr ⟨h.size,[],rfl,trivial,bZ ..,rfl⟩⟩
 refine⟨_,(h1.sl (W:=No) fun _ _ _ h=>h).srow,?_⟩
 refine AppP.own (ys:= [p]) (ho.upd k fun _ _ h=>h) rfl rfl rfl rfl (by omega) (by simp only[aR];omega) (hM _ (by rw[iS];omega)) fun s' h' ho' hu=>?_
 exact hk s' h' ho' ((Upd.hnew M h _ _).tr hu)
theorem AO{p:Pr}:∀{A B:List Pr},(∀r∈A,kl r.1 p.1)→gV p (A++B)=A++gV p B
 | [],_,_=>rfl
 |r::A,B,h=>by
  rw[cH,fU,if_pos (h r (ao ..)),AO fun q hq=>h q (List.mem_cons_of_mem _ hq)];rfl
theorem KY{p q:Pr}:∀{A:List Pr},(∃r∈A,kl p.1 r.1)→gV p (A++ [q])=gV p A++ [q]
 | [],h=>by obtain⟨r,hr,_⟩:=h;simp at hr
 |r::A,h=>by
  rw[cH,fU,fU];by_cases h1:kl r.1 p.1
  ·rw[if_pos h1,if_pos h1,KY]
   ·rfl
   ·obtain⟨r',hr',hk⟩:=h
    rcases az.1 hr' with rfl|hr'
    ·exact absurd (fE h1 hk) (bW _)
    ·exact⟨r',hr',hk⟩
  ·rw[if_neg h1,if_neg h1]
   by_cases h2:r.1=p.1
   ·rw[if_pos h2,if_pos h2];rfl
   ·rw[if_neg h2,if_neg h2];rfl
theorem KV{p:Pr}:∀{l:List Pr},(∀q∈l,kl p.1 q.1)→gV p l=p::l
 | [],_=>rfl
 |q::l,h=>by
  have h1:=h q (ao ..);rw[fU,if_neg fun h2=>bW _ (fE h1 h2),if_neg fun e=>by rw[e]at h1;exact bW _ h1]
theorem HF{p:Pr}:∀{l:List Pr},bE l→gV p (l.filter fun q=>decide (q.1≠p.1))=gV p l
 | [],_=>rfl
 |r::l,hr=>by
  have hr:=aG.1 hr;have keep:∀{l:List Pr},(∀q∈l,kl p.1 q.1)→(l.filter fun q=>decide (q.1≠p.1))=l:=fun{l} h=>List.filter_eq_self.2 fun q hq=>decide_eq_true fun e=>by have:=h q hq;rw[e]at this;exact bW _ this
  rw[List.filter_cons,fU];by_cases e:r.1=p.1
  ·have hl:∀q∈l,kl p.1 q.1:=fun q hq=>by rw[←e];exact hr.1 q hq
   rw[if_neg (by simp[e]),if_neg (by rw[e];exact bW _),if_pos e,keep hl,KV hl]
  ·rw[if_pos (by simpa using e),fU]
   by_cases h1:kl r.1 p.1
   ·rw[if_pos h1,if_pos h1,HF hr.2]
   ·rw[if_neg h1,if_neg h1,if_neg e,if_neg e]
    have h2:=ph h1 e;rw[keep fun q hq=>fE h2 (hr.1 q hq)]
theorem pd{i n:Nat}(h:i<n)(hn:n≤9223372036854775807):IntKind.wrap .i64 ((i:Int)+1)=((i+1:Nat):Int):=by rw[Go.IntWalk.i64_in _ (by omega)];omega
theorem Ck(p:Pr):∀{l:List Pr},(gV p l).length≤l.length+1
 | []=>aq _
 |q::l=>by
  rw[fU];split
  ·have:=Ck p (l:=l);simp only[ak];omega
  ·split<;>simp
theorem yy{W W':Nat→Prop}{h h':ad}{kind:Int}{x:Hs}{t u:Tr}{l l':List Pr}(i:TreeIs W h kind x t l)(i':TreeIs W' h' kind x u l'):nX t u=true:=by
 rcases i with⟨rfl,b,rfl,_⟩|⟨rfl,b,rfl,_⟩<;>rcases i' with⟨e,b',rfl,_⟩|⟨e,b',rfl,_⟩
 ·simp[nX]
 ·cases e
 ·cases e
 ·simp[nX]
theorem Vn{k:Int}(h0:0≤k)(h1:k≤255):IntKind.wrap .i64 (jE k 2)=0∨IntKind.wrap .i64 (jE k 2)=1:=by
 have:jE k 2=k%2:=Int.tmod_eq_emod_of_nonneg h0;rw[this,d8 (by omega)];omega
abbrev hsL(x:Hs):List Value:= [.int .u64 x.k0,.int .u64 x.k1,.int .u64 x.mask]
end Go.Proofs
namespace Go.Proofs
open Go Go.Lift
abbrev Wk:=Option Addr×ByteArray×Bool
theorem OwnS.pop{α:Type}{f:α→List Value}{sz:Nat}{t:TypeId}{M:Nat→Prop}{h:ad}{s:SliceV}{xs:List α}{x:α}(ho:OwnS f sz t M h s (xs++ [x])):OwnS f sz t M h ⟨aW s.a 0 s.cap sz,xs.length,s.cap⟩ xs:=by
 have hl:=ho.len;have hc:=ho.cap;rw[ac,aR]at hl;refine⟨rfl,ho.ne,by simp only;omega,ho.blk.imp id fun⟨b,rest,ha,hb,aS,hr⟩=>⟨b,f x++rest,?_,hb,?_,?_⟩⟩
 ·simp only;rw[ha,sub_zero]
 ·rw[aS,List.flatMap_append,aI,List.flatMap_nil,aK,al]
 ·rw[ac,(ho.ne x).1,hr]
  simp only;have:s.cap-xs.length=(s.cap-s.len)+1:=by omega
  rw[this,Nat.add_mul];omega
structure It where
 b:Nat
 ah:ByteArray
 own:Bool
 sl:ByteArray
 w:Option ByteArray
 F:Fo
def It.raw(i:It):Wk:=(some ⟨i.b,0,none⟩,i.ah,i.own)
def It.key(i:It):List UInt8:=i.ah.data.toList++i.sl.data.toList
def It.cost(i:It):Nat:=if i.own then 1 else 2+2*Jc i.F
end Go.Proofs
namespace Go.Proofs
open Go Go.Lift
theorem mQ{W:Nat→Prop}{h:ad}{b:Nat}{sl:ByteArray}{w:Option ByteArray}{F:Fo}(r:RxN W h b sl w F){K:ByteArray→ad→Prop}(hk:K sl h):HC PG dR [.pointer (some ⟨b,0,none⟩)] [.c .str] K h:=by
 refine Ad _ ?_;unfold tR aD;obtain⟨val,s,ow,ks,hb,_⟩:=r;exact aj.2 ⟨_,rfl,sl,eo (i:=0) hb,hk⟩
theorem EZ{W:Nat→Prop}{h:ad}{b:Nat}{sl:ByteArray}{w:Option ByteArray}{F:Fo}(r:RxN W h b sl w F){K:ByteArray×Bool→ad→Prop}(hk:∀v,(∀u,w=some u→v=u)→K (v,w.isSome) h):HC PG is [.pointer (some ⟨b,0,none⟩)] [.c .str,.c .bool] K h:=by
 refine tI _ ?_;unfold px aD bI;obtain⟨val,s,ow,ks,hb,hv,_⟩:=r;exact aj.2 ⟨_,rfl,val,eo (i:=2) hb,_,rfl,w.isSome,eo (i:=1) hb,hk val (vw hv)⟩
theorem JY{W:Nat→Prop}{h:ad}{b:Nat}{sl:ByteArray}{w:Option ByteArray}{F:Fo}(r:RxN W h b sl w F){K:ByteArray×Bool→ad→Prop}(hk:K (w.getD ⟨#[]⟩,w.isSome) h):HC PG is [.pointer (some ⟨b,0,none⟩)] [.c .str,.c .bool] K h:=by
 refine tI _ ?_;unfold px aD bI;obtain⟨val,s,ow,ks,hb,rfl,_⟩:=r;exact aj.2 ⟨_,rfl,_,eo (i:=2) hb,_,rfl,w.isSome,eo (i:=1) hb,hk⟩
theorem B7{W:Nat→Prop}{h:ad}{b:Nat}{sl:ByteArray}{w:Option ByteArray}{F:Fo}(r:RxN W h b sl w F)(hn:F.toL.length≤256){K:SliceV→ad→Prop}(hk:∀s' h' ks,OwnS rD 1 bP (fun y=>h.size≤y) h' s' ks→RxL W h' ks F.toL→Upd No h h'→K s' h'):HC PG j4 [.pointer (some ⟨b,0,none⟩)] [.c .slice] K h:=by
 refine Bk _ ?_;unfold uG cd;obtain⟨val,s,ow,ks,hb,hv,hs,_,hF⟩:=r;have hL:=lr.1 hF;refine aj.2 ⟨_,rfl,s,eo (i:=3) hb,?_⟩;refine HU hs (by rw[hL.1];omega) fun s' h' ho hu=>hk s' h' ks ho (hL.upd0 hu) hu
def It.Ok(W:Nat→Prop)(h:ad)(i:It):Prop:=RxN W h i.b i.sl i.w i.F∧fS i.F∧i.key.length≤10000∧∀p∈vo i.w i.F,i.key.length+p.1.length≤10000
theorem It.Ok.updM{W M:Nat→Prop}{h h':ad}(k:Upd M h h')(hm:∀b,M b→W b∨h.size≤b){i:It}(o:It.Ok W h i):It.Ok W h' i:=⟨o.1.updM k hm,o.2⟩
theorem Pq(lab:List UInt8)(w:Option ByteArray)(kids rest:Fo):yG (.cons lab w kids rest)=((w.map fun v=>(([]:List UInt8),v)).toList++yG kids).map (fun p=>(lab++p.1,p.2))++yG rest:=rfl
end Go.Proofs
namespace Go.Proofs
open Go Go.Lift
end Go.Proofs
namespace Go.Proofs
open Go Go.Lift
abbrev UC(x:Pr):List Value:= [.agg #[.string x.1,.string x.2]]
theorem GE{h:ad}{fv:Value}{N:Nat}{S:List Pr→Prop}{Q:Nat→Prop}(hg:Gives PG fv UC N S Q h)(hN:N≤100000000){K:SliceV→ad→Prop}
  (hk:∀s' h' xs,S xs→OwnS eu 2 af (fun b=>h.size≤b) h' s' xs→Upd No h h'→K s' h'):HC PG eS [.slice none 0 0,fv] [.c .slice] K h:=by
 refine mg ⟨none,0,0⟩ fv ?_;unfold im au nv nZ jH vp TP;have k0:=Upd.hnew No h [.slice none 0 0] cB;have b0:=bZ h [.slice none 0 0] cB;have hsz:(hnew h [.slice none 0 0] cB).size=h.size+1:=iS ..;have hg1:=hg.upd k0 fun _ _=>id
 refine bq ?_;generalize hnew h [.slice none 0 0] cB=h1 at hg1 k0 b0 hsz;refine⟨fun lo hlo hround=>?_⟩
 obtain⟨f,first,cap,rfl,hrun⟩:=hg1.run
 refine⟨f,first,cap,rfl,?_⟩
 have k1:Upd No h1 ((h1.push (.deferred (some []))).push (lo .ready none)):=(Upd.push No _ _).tr (Upd.push No _ _);have l2:((h1.push (.deferred (some []))).push (lo .ready none))[h1.size+1]? =some (lo .ready none):=by
  have:=Kr (h1.push (.deferred (some []))) (lo .ready none);rwa [Array.size_push]at this
 have l1:((h1.push (.deferred (some []))).push (lo .ready none))[h1.size]? =some (.deferred (some [])):=(Upd.push No _ _).get0 (Kr h1 _);refine hrun (.func (.yield (h1.size+1)) #[] #[]) (fun pre A h'=>(∀b,A b→b<h'.size∧h.size≤b)∧A h.size∧A h1.size∧A (h1.size+1)∧h'[h1.size]? =some (.deferred (some []))∧h'[h1.size+1]? =some (lo .ready none)∧
   ∃s:SliceV,h'[h.size]? =some (.cells #[sv s] cB (0,0))∧OwnS eu 2 af (fun b=>A b∧h1.size+1<b) h' s pre∧pre.length≤N)
  (fun b=>b=h.size∨b=h1.size∨b=h1.size+1) No _ _ ⟨fun _ _ _ hj b hb=>(hj.1 b hb).1,fun pre A h' h'' B hj hu hB=>?_,fun pre A h' x K' hj hlen hK=>?_⟩ ?_ k1 (fun _ _=>id) (fun b hb hq=>?_) ?_
 ·obtain⟨h1',h2,h3,h4,h5,h6,s,h7,h8,h9⟩:=hj
  exact⟨fun b hb=>⟨aE (h1' b hb).1 hu.size,(h1' b hb).2⟩,h2,h3,h4,hu.get h5 (hB _ h3),hu.get h6 (hB _ h4),s,hu.get h7 (hB _ h2),h8.upd hu fun b hb=>hB b hb.1,h9⟩
 ·obtain⟨hA,hA1,hA2,hA3,hd,hl,s,hs,ho,hpl⟩:=hj
  refine hround x h' K' hl ?_;refine xD (p:=x) fun hp bp kp=>?_
  have zp:=aO bp;have hl:=kp.get0 hl;have hs:=kp.get0 hs;have hd:=kp.get0 hd;have hop:=ho.upd kp fun _ _ h=>h
  have sp:=kp.size;refine⟨hl,?_⟩;have kb:Upd (· =h1.size+1) hp (hp.setIfInBounds (h1.size+1) (lo .busy none)):=Upd.set _ _ rfl
  have lb:=jg (o:=lo .busy none) hl;have sb:=kb.size;refine bq ?_;generalize hp.setIfInBounds (h1.size+1) (lo .busy none)=h2 at kb lb sb;have hlt1:=(hA _ hA1).1;have hlt3:=(hA _ hA3).1;have bp2:=kb.get bp (by omega);have hs2:=kb.get hs (by omega);refine⟨s,by rw[cJ,bh hs2];rfl,_,vc bp2 0,_,vc bp2 1,bq ?_⟩
  refine vF (p:=x) (M:=fun b=>((A b∧b<h'.size)∨h2.size≤b)∧h1.size+1<b) ((hop.upd kb fun b hb=>by omega).more fun b hb=>⟨.inl ⟨hb.1,(hA b hb.1).1⟩,hb.2⟩) (fun b hb=>⟨.inr hb,by have:=aO lb;omega⟩) (by omega) fun s' h3 ho3 hu3=>?_
  have hs3:h3[h.size]? =some (.cells #[sv s] cB (0,0)):=hu3.get hs2 (by omega);refine⟨by rw[cJ];exact iI hs3 (by simp),?_⟩;have k4:Upd (· =h.size) h3 (hset h3 (ag h) (.slice s'.a s'.len s'.cap)):=Upd.hset _ _ rfl
  have hs4:(hset h3 (ag h) (.slice s'.a s'.len s'.cap))[h.size]? =some (.cells #[sv s'] cB (0,0)):=by
   rw[cJ,vt hs3,jg hs3];rfl
  refine bq ?_;generalize hset h3 (ag h) (.slice s'.a s'.len s'.cap)=h4 at k4 hs4;have hl4:h4[h1.size+1]? =some (lo .busy none):=k4.get (hu3.get lb (by omega)) (by omega);refine⟨hl4,?_⟩;have k5:Upd (· =h1.size+1) h4 (h4.setIfInBounds (h1.size+1) (lo .ready none)):=Upd.set _ _ rfl
  have hl5:=jg (o:=lo .ready none) hl4;have hall:Upd A h' h4:=((kp.wide.tr (kb.mono (M':=A) fun b hb=>.inl (hb▸hA3))).trans hu3 fun b hb=>hb.1.imp (fun h=>h.1) fun h=>by omega).trans k4 fun b hb=>.inl (hb▸hA1)
  have z3:=hu3.size;have z4:=k4.size;have z5:=k5.size;refine hK _ (fun b=>((A b∧b<h'.size)∨h2.size≤b)∧b<h4.size) ⟨fun b hb=>⟨aE hb.2 z5,hb.1.elim (fun h=>(hA b h.1).2) fun h=>by omega⟩,⟨.inl ⟨hA1,hlt1⟩,by omega⟩,⟨.inl ⟨hA2,(hA _ hA2).1⟩,by have:=(hA _ hA2).1;omega⟩,⟨.inl ⟨hA3,hlt3⟩,by omega⟩,
   k5.get (k4.get (hu3.get (kb.get hd (by omega)) (by omega)) (by omega)) (by omega),hl5,s',k5.get hs4 (by omega),?_,by simp;omega⟩ (hall.trans k5 fun b hb=>.inl (hb▸hA3)) fun b hb=>hb.1.imp (fun h=>h.1) fun h=>by omega
  exact(((ho3.upd k4 fun b hb=>by omega).within).more fun b hb=>⟨⟨hb.1.1,hb.2⟩,hb.1.2⟩).upd k5 fun b hb=>by omega
 ·refine⟨fun b hb=>?_,.inl rfl,.inr (.inl rfl),.inr (.inr rfl),l1,l2,⟨none,0,0⟩,k1.get0 b0,OwnS.nil ge,bw _⟩
  have:=aO l2;rcases hb with rfl|rfl|rfl<;>omega
 ·have:=hg.lt b hq
  rcases hb with rfl|rfl|rfl<;>omega
 ·rintro xs A' h' hS ⟨hA,hA1,hA2,hA3,hd,hl,s,hs,ho,hpl⟩ hu hA'
  refine⟨.ready,none,by decide,hl,?_⟩
  have k5:Upd (· =h1.size+1) h' (h'.setIfInBounds (h1.size+1) (lo .exhausted none)):=Upd.set _ _ rfl
  show∃v:SliceV,aS (h'.setIfInBounds (h1.size+1) (lo .exhausted none)) (ag h)=some (.slice v.a v.len v.cap)∧_
  have hd5:=k5.get hd (show ¬h1.size=h1.size+1 by omega)
  have hs5:=k5.get hs (show ¬h.size=h1.size+1 by omega)
  have ho5:=ho.upd k5 fun b hb=>by omega
  generalize h'.setIfInBounds (h1.size+1) (lo .exhausted none)=h5 at k5 hd5 hs5 ho5;refine⟨s,by rw[cJ,bh hs5];rfl,hd5,?_⟩
  have k6:Upd (· =h1.size) h5 (h5.setIfInBounds h1.size (.deferred none)):=Upd.set _ _ rfl
  refine hk s _ xs hS ((ho5.upd k6 fun b hb=>by omega).more fun b hb=>(hA b hb.1).2) ?_
  refine(((k0.tr k1).trans hu fun b hb=>?_).trans k5 fun b hb=>.inr (by omega)).trans k6 fun b hb=>.inr (by omega)
  rcases hb with rfl|rfl|rfl<;>(right;omega)
theorem Li{h:ad}{fv:Value}{N:Nat}{S:List Pr→Prop}{Q:Nat→Prop}(hg:Gives PG fv UC N S Q h)(hN:N≤100000000){K:SliceV→ad→Prop}
  (hk:∀s' h' xs,S xs→OwnS eu 2 af (fun b=>h.size≤b) h' s' xs→Upd No h h'→K s' h'):HC PG jy [fv] [.c .slice] K h:=by
 refine tH fv ?_;unfold nh;exact GE hg hN hk
end Go.Proofs
namespace Go.Proofs
structure WO{α:Type}(lt:α→α→Bool):Prop where
 irr:∀a,lt a a=false
 asy:∀a b,lt a b=true→lt b a=false
 ntr:∀a b c,lt a b=false→lt b c=false→lt a c=false
section
variable {α:Type} {lt:α→α→Bool}
def HT(lt:α→α→Bool)(x a:α):Bool:= !lt a x&& !lt x a
def Srt(lt:α→α→Bool)(l:List α):Prop:=l.Pairwise fun a b=>lt b a=false
structure Eqf(lt:α→α→Bool)(l l':List α):Prop where
 len:l'.length=l.length
 flt:∀x,l'.filter (HT lt x)=l.filter (HT lt x)
structure St(lt:α→α→Bool)(l l':List α):Prop where
 eqf:Eqf lt l l'
 srt:Srt lt l'
theorem Eqf.rfl(l:List α):Eqf lt l l:=⟨_root_.rfl,fun _=>_root_.rfl⟩
theorem Eqf.tr{a b c:List α}(h:Eqf lt a b)(k:Eqf lt b c):Eqf lt a c:=⟨k.len.trans h.len,fun x=>(k.flt x).trans (h.flt x)⟩
theorem Eqf.app{a b a' b':List α}(h:Eqf lt a a')(k:Eqf lt b b'):Eqf lt (a++b) (a'++b'):=
 ⟨by rw[ac,ac,h.len,k.len],fun x=>by rw[gg,gg,h.flt,k.flt]⟩
theorem FG(w:WO lt)(a:α):HT lt a a=true:=by unfold HT;rw[w.irr];rfl
theorem Eqf.mem(w:WO lt){l l':List α}(h:Eqf lt l l'){a:α}:a∈l'↔a∈l:=by
 have e:=h.flt a;constructor
 ·intro hm
  have:a∈l'.filter (HT lt a):=de.2 ⟨hm,FG w a⟩;rw[e]at this;exact(de.1 this).1
 ·intro hm
  have:a∈l.filter (HT lt a):=de.2 ⟨hm,FG w a⟩;rw[←e]at this;exact(de.1 this).1
theorem To(w:WO lt){x u v:α}(hu:HT lt x u=true)(hv:HT lt x v=true):lt v u=false:=by
 unfold HT at hu hv;simp only[bd,Bool.not_eq_true']at hu hv;exact w.ntr v x u hv.1 hu.2
theorem Eqf.swap(w:WO lt){U V:List α}(h:∀u∈U,∀v∈V,lt v u=true):Eqf lt (U++V) (V++U):=by
 refine⟨by rw[ac,ac,Nat.add_comm],fun x=>?_⟩
 rw[gg,gg];cases hU:U.filter (HT lt x)with
 |nil=>rw[aK,cU]
 |cons u us=>
  cases hV:V.filter (HT lt x)with
  |nil=>rw[aK,cU]
  |cons v vs=>
   have hu:u∈U.filter (HT lt x):=by rw[hU];exact ao ..
   have hv:v∈V.filter (HT lt x):=by rw[hV];exact ao ..
   have h1:=de.1 hu;have h2:=de.1 hv;have h3:=h u h1.1 v h2.1;rw[To w h1.2 h2.2]at h3;cases h3
theorem Srt.app{a b:List α}(h:Srt lt a)(k:Srt lt b)(hab:∀x∈a,∀y∈b,lt y x=false):Srt lt (a++b):=cg.2 ⟨h,k,hab⟩
theorem Srt.left{a b:List α}(h:Srt lt (a++b)):Srt lt a:=(cg.1 h).1
theorem Srt.right{a b:List α}(h:Srt lt (a++b)):Srt lt b:=(cg.1 h).2.1
theorem Srt.cross{a b:List α}(h:Srt lt (a++b)):∀x∈a,∀y∈b,lt y x=false:=(cg.1 h).2.2
theorem Srt.nil:Srt lt ([]:List α):=gP
theorem Srt.one(a:α):Srt lt [a]:=List.pairwise_singleton ..
theorem Ij(w:WO lt){S L G:List α}{t:α}(h:St lt S (L++G))(hL:∀l∈L,lt t l=false)(hG:∀g∈G,lt t g=true):St lt (S++ [t]) (L++t::G):=by
 refine⟨(h.eqf.app (Eqf.rfl [t])).tr ?_,?_⟩
 ·rw[al]
  exact(Eqf.rfl L).app (Eqf.swap w (U:=G) (V:= [t]) fun u hu v hv=>by rw[aB.1 hv];exact hG u hu)
 ·refine h.srt.left.app (aG.2 ⟨fun g hg=>w.asy t g (hG g hg),h.srt.right⟩) fun x hx y hy=>?_
  rcases az.1 hy with rfl|hy
  ·exact hL x hx
  ·exact h.srt.cross x hx y hy
theorem Ii(w:WO lt){V1 V2:List α}{u:α}(h:Srt lt (V1++V2))(h1:∀v∈V1,lt v u=true)(h2:∀v∈V2,lt v u=false):St lt ([u]++(V1++V2)) (V1++u::V2):=by
 refine⟨?_,?_⟩
 ·rw[←al]
  have:=(Eqf.swap w (U:= [u]) (V:=V1) fun x hx y hy=>by rw[aB.1 hx];exact h1 y hy).app (Eqf.rfl V2)
  rw[al V1]at this;exact this
 ·refine h.left.app (aG.2 ⟨h2,h.right⟩) fun x hx y hy=>?_
  rcases az.1 hy with rfl|hy
  ·exact w.asy x y (h1 x hx)
  ·exact h.cross x hx y hy
theorem JS(w:WO lt){U1 U2:List α}{v:α}(h:Srt lt (U1++U2))(h1:∀u∈U1,lt v u=false)(h2:∀u∈U2,lt v u=true):St lt ((U1++U2)++ [v]) (U1++v::U2):=
 Ij w ⟨Eqf.rfl _,h⟩ h1 h2
theorem O9(w:WO lt){U1 U2 V1 V2 R1 R2:List α}(hU:Srt lt (U1++U2))(hV:Srt lt (V1++V2))(h1:∀v∈V1,∀u∈U2,lt v u=true)(h2:∀u∈U1,∀v∈V2,lt v u=false)(s1:St lt (U1++V1) R1)(s2:St lt (U2++V2) R2):St lt ((U1++U2)++(V1++V2)) (R1++R2):=by
 refine⟨?_,s1.srt.app s2.srt fun x hx y hy=>?_⟩
 ·have e:Eqf lt ((U1++U2)++(V1++V2)) ((U1++V1)++(U2++V2)):=by
   have:=((Eqf.rfl U1).app (Eqf.swap w (U:=U2) (V:=V1) fun u hu v hv=>h1 v hv u hu)).app (Eqf.rfl (lt:=lt) V2)
   simp only[al]at this⊢;exact this
  exact e.tr (s1.eqf.app s2.eqf)
 ·rcases bi.1 ((s1.eqf.mem w).1 hx)with hx|hx<;>rcases bi.1 ((s2.eqf.mem w).1 hy)with hy|hy
  ·exact hU.cross x hx y hy
  ·exact h2 x hx y hy
  ·exact w.asy x y (h1 x hx y hy)
  ·exact hV.cross x hx y hy
inductive Runs(lt:α→α→Bool)(bs:Nat):List α→Prop where
 |last (l:List α):l.length≤bs→Srt lt l→Runs lt bs l
 |more (b l:List α):b.length=bs→Srt lt b→Runs lt bs l→Runs lt bs (b++l)
theorem Runs.split{bs:Nat}{l:List α}(h:Runs lt bs l)(hl:bs≤l.length):∃b r,l=b++r∧b.length=bs∧Srt lt b∧Runs lt bs r:=by
 cases h with
 |last _ h1 h2=>exact⟨l,[],(aK l).symm,by omega,h2,.last _ (bw _) Srt.nil⟩
 |more b r h1 h2 h3=>exact⟨b,r,_root_.rfl,h1,h2,h3⟩
theorem Runs.short{bs:Nat}{l:List α}(h:Runs lt bs l)(hl:l.length≤bs):Srt lt l:=by
 cases h with
 |last _ h1 h2=>exact h2
 |more b r h1 h2 h3=>
  rw[ac]at hl;have:r= []:=List.length_eq_zero_iff.1 (by omega);rw[this,aK];exact h2
def Full(lt:α→α→Bool)(bs:Nat)(d:List α):Prop:=∀z,Runs lt bs z→Runs lt bs (d++z)
theorem Full.nil{bs:Nat}:Full lt bs ([]:List α):=fun _ h=>h
theorem Full.app{bs:Nat}{d b:List α}(h:Full lt bs d)(hb:b.length=bs)(hs:Srt lt b):Full lt bs (d++b):=fun z hz=>by
 rw[al];exact h _ (.more b z hb hs hz)
end
end Go.Proofs
namespace Go.Proofs
open Go Go.Lift
abbrev zH(z:Hs)(p:Pr):List Value:= [.string p.1,.string p.2,.int .u64 (gp z p.1)]
theorem IT(z:Hs)(p:Pr):(zH z p).length=3∧0<3:=⟨rfl,by omega⟩
theorem Ow(z:Hs):∀xs:List Pr,cz (xs.flatMap (zH z))=true
 | []=>rfl
 |x::xs=>by rw[aI];exact lw rfl (Ow z xs)
section
variable {α:Type} {f:α→List Value} {sz:Nat} {t:TypeId} {M:Nat→Prop} {h:ad} {s:SliceV} {P Q:List α} {x:α}
theorem ie(ho:OwnS f sz t M h s (P++x::Q)){i:Nat}(hi:i=P.length):∃a,s.a=some a∧∀j v,(f x)[j]? =some v→aS h (adr (adr a (i*sz)) j)=some v:=by
 obtain⟨a,ha,_,hv⟩:=(ho.sl (W:=No) fun _ _ _ h=>h).at (i:=i) (x:=x) (by rw[hi,aV (aq _),Nat.sub_self];rfl)
 exact⟨a,ha,hv⟩
theorem pQ(ho:OwnS f sz t M h s (P++x::Q))(y:α){a:Addr}(ha:s.a=some a){i:Nat}(hi:i=P.length){G:ad→Prop}(hk:∀h',OwnS f sz t M h' s (P++y::Q)→Upd M h h'→G h'):
  qE h (some (adr a (i*sz))) 0 (f y)∧At (fk h (adr a (i*sz)) 0 (f y)) G:=by
 obtain⟨a',ha',hM,hw,ho',hu⟩:=OwnS.setAt ho (k:=i) (by rw[hi,ac,ak];omega) y;rw[ha]at ha';cases ha';refine⟨hw,bq (hk _ ?_ (hu.mono fun b hb=>.inl (by have hb:b=a.block:=hb;rw[hb];exact hM)))⟩
 subst hi;have e1:(P++x::Q).take P.length=P:=List.take_left;have e2:(P++x::Q).drop (P.length+1)=Q:=by rw[←List.drop_drop,List.drop_left];rfl
 rw[e1,e2]at ho';exact ho'
end
theorem yv{α:Type}{f:α→List Value}{sz:Nat}{t:TypeId}{M:Nat→Prop}{h:ad}{s:SliceV}{xs:List α}{x:α}(ho:OwnS f sz t M h s xs){i:Nat}(hi:xs[i]? =some x):∃a,s.a=some a∧∀j v,(f x)[j]? =some v→aS h (adr (adr a (i*sz)) j)=some v:=by
 obtain⟨a,ha,_,hv⟩:=(ho.sl (W:=No) fun _ _ _ h=>h).at hi
 exact⟨a,ha,hv⟩
theorem Rp{α:Type}{A U X:List α}{i:Nat}(hi:A.length+U.length≤i):(A++(U++X))[i]? =X[i-A.length-U.length]?:=by
 rw[aV (by omega),aV (by omega)]
theorem Rq{α:Type}{A U V B:List α}{i k:Nat}{x:α}(hi:A.length+U.length+k=i)(hk:V[k]? =some x):(A++(U++(V++B)))[i]? =some x:=by
 rw[Rp (by omega),show i-A.length-U.length=k by omega,cy (bM.1 hk).1];exact hk
theorem OH{α:Type}{A U X:List α}{i k:Nat}{x:α}(hi:A.length+k=i)(hk:U[k]? =some x):(A++(U++X))[i]? =some x:=by
 rw[aV (by omega),show i-A.length=k by omega,cy (bM.1 hk).1];exact hk
theorem Eo{i j:Nat}(h:i+j≤4000000000):IntKind.wrap .i64 (Int.fdiv (IntKind.wrap .u64 (IntKind.wrap .i64 ((i:Int)+(j:Int)))) (2^(min (1:Int).toNat (IntKind.bits .u64))))=(((i+j)/2:Nat):Int):=by
 have e3:(2^(min (1:Int).toNat (IntKind.bits .u64)):Int)=2:=rfl;rw[e3,d8 (x:=(i:Int)+(j:Int)) (by omega),Go.IntWalk.u64_in _ (by omega),Int.fdiv_eq_ediv_of_nonneg _ (by omega),d8 (by omega)];omega
theorem rY{α:Type}{lt:α→α→Bool}(w:WO lt){l:List α}(h:Srt lt l){i j:Nat}(hij:i≤j){x y:α}(hx:l[i]? =some x) (hy:l[j]? =some y):lt y x=false:=by
 obtain⟨hi,rfl⟩:=bM.1 hx;obtain⟨hj,rfl⟩:=bM.1 hy;rcases Nat.lt_or_ge i j with h1|h1
 ·exact List.pairwise_iff_getElem.1 h i j hi hj h1
 ·have:i=j:=by omega
  subst this;exact w.irr _
theorem AW{α:Type}(l:List α):l= []∨∃l' y,l=l'++ [y]:=by
 rcases List.eq_nil_or_concat l with h|⟨l',y,h⟩
 ·exact .inl h
 ·exact .inr ⟨l',y,by rw[h,List.concat_eq_append]⟩
structure Cmp{α:Type}(lt:α→α→Bool)(f:α→List Value)(M:Nat→Prop)(Iv:ad→Prop)(V:Value):Prop where
 call:∀(a b:α) {h:ad} {K:Int→ad→Prop},Iv h→(∀h' e,Upd No h h'→decide (e<0)=lt a b→K e h')→HV PG V [.agg (f a).toArray,.agg (f b).toArray] [.c (.int .i64)] K h
 step:∀{h h':ad},Upd M h h'→Iv h→Iv h'
end Go.Proofs
