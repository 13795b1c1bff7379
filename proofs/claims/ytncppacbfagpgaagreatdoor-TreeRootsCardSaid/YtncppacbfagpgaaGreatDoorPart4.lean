/- A part of the proof that the named laws of this program answer true, whatever the input. -/
import Derived.Test.YtncppacbfagpgaaGreatDoorPart3
import Derived.Test.YtncppacbfagpgaaGreatDoorLift3
import Derived.Test.YtncppacbfagpgaaGreatDoorPart0
open Bool renaming false_eq_true→dG
open ByteArray renaming mk→oa
open List renaming pairwise_cons→aX,mem_cons→aA,mem_map→gz,append_assoc→aq,length→dT,length_append→ac,length_map→bF,length_singleton→aC,cons→fp,cons_append→dN,mem_cons_self→ar,mem_cons_of_mem→aL,length_cons→ax,flatMap_cons→aO,getElem?_eq_getElem→af,length_set→g5,getElem?_eq_none→oq,flatMap_append→bm,map_append→cd,getElem?_append_right→aQ,getElem?_append_left→bX,getElem?_eq_some_iff→bl,zip_cons_cons→fE,map_cons→co,sum_cons→jl,mem_append→bV,mem_singleton→aB
open Nat renaming le_refl→ao,zero_add→aD,lt_of_lt_of_le→bB,zero_le→aR,mul_le_mul_right→cg,sub_self→fV,testBit_zero→jE,testBit_succ→gq,eq_zero_or_pos→eh,zero_testBit→ip,testBit_and→gY,le_of_eq→eg
open Prod renaming mk→nV
namespace Go.Proofs
open Go Go.Lift
theorem pf{p q:Pr}:∀{l:List Pr},dD l→(q∈gD p l↔q=p∨(q∈l∧q.1≠p.1))
 | [],_=>by simp[gD]
 |r::l,hr=>by
  have hr:=aX.1 hr;rw[gk];by_cases h1:kl r.1 p.1
  ·have hne:r.1≠p.1:=fun e=>by rw[e]at h1;exact db _ h1
   rw[if_pos h1,aA,aA,pf hr.2];constructor
   ·rintro(rfl|h|⟨h,h'⟩)
    ·exact .inr ⟨.inl rfl,hne⟩
    ·exact .inl h
    ·exact .inr ⟨.inr h,h'⟩
   ·rintro(h|⟨h|h,h'⟩)
    ·exact .inr (.inl h)
    ·exact .inl h
    ·exact .inr (.inr ⟨h,h'⟩)
  ·rw[if_neg h1]
   by_cases h2:r.1=p.1
   ·rw[if_pos h2,aA,aA]
    constructor
    ·rintro(h|h)
     ·exact .inl h
     ·refine .inr ⟨.inr h,fun e=>?_⟩
      have:=hr.1 q h;rw[e,h2]at this;exact db _ this
    ·rintro(h|⟨rfl|h,h'⟩)
     ·exact .inl h
     ·exact absurd h2 h'
     ·exact .inr h
   ·rw[if_neg h2,aA,aA]
    have h3:=rA h1 h2;constructor
    ·rintro(h|rfl|h)
     ·exact .inl h
     ·exact .inr ⟨.inl rfl,h2⟩
     ·refine .inr ⟨.inr h,fun e=>?_⟩
      have:=iZ h3 (hr.1 q h);rw[e]at this;exact db _ this
    ·rintro(h|⟨rfl|h,h'⟩)
     ·exact .inl h
     ·exact .inr (.inl rfl)
     ·exact .inr (.inr h)
def RadRoot(W:Nat→Prop)(h:ad)(r:Option Addr)(l:List Pr):Prop:=(r=none∧l= [])∨∃b,r=some ⟨b,0,none⟩∧RadAt W h b l
theorem RadRoot.upd0{W:Nat→Prop}{h h':ad}{r:Option Addr}{l:List Pr}(k:Upd No h h')(t:RadRoot W h r l):RadRoot W h' r l:=t.imp id fun⟨b,e,t⟩=>⟨b,e,t.upd0 k⟩
theorem wT{a b:ByteArray}:a.data.toList=b.data.toList↔a=b:=by
 constructor
 ·intro h;cases a;cases b;exact congrArg oa (Array.toList_inj.1 h)
 ·rintro rfl;rfl
theorem Bt{W:Nat→Prop}{h:ad}(hW:∀y,W y→y<h.size){K:Option Addr→ad→Prop}(hk:∀h' b,RadAt W h' b []→Upd No h h'→K (some ⟨b,0,none⟩) h'):HC PG oX [] [.c .ptr] K h:=by
 refine Dl ?_;unfold wc F1;refine bj (hk _ h.size ⟨none,.nil,⟨⟨#[]⟩,⟨none,0,0⟩,none,[],bZ h PE bU,rfl,Sl.nil pv,⟨ao _,fun hx=>Nat.lt_irrefl _ (hW _ hx)⟩,rfl⟩,trivial,fun k v=>?_⟩ (Upd.hnew No h _ _))
 simp[ma,vu]
theorem Lx{W:Nat→Prop}{h:ad}{r:Option Addr}{l:List Pr}(t:RadRoot W h r l)(hW:∀y,W y→y<h.size){K:Option Addr→ad→Prop}(hk:∀h' b,RadAt W h' b l→Upd No h h'→(r=some ⟨b,0,none⟩∨r=none)→K (some ⟨b,0,none⟩) h'):HC PG tc [.pointer r] [.c .ptr] K h:=by
 refine FJ r ?_;unfold yp;rcases t with⟨rfl,rfl⟩|⟨b,rfl,t⟩
 ·exact aw.2 (Bt hW fun h' b t hu=>hk h' b t hu (.inr rfl))
 ·exact al.2 (hk h b t (Upd.refl _ _) (.inl rfl))
theorem Gp{W:Nat→Prop}{h:ad}{r:Option Addr}{l:List Pr}(t:RadRoot W h r l)(hW:∀y,W y→y<h.size)(hr:dD l)(p:Pr)(hp:p.1.size≤1000000){K:Option Addr×Bool→ad→Prop}
  (hk:∀h' b' added,Upd No h h'→RadAt W h' b' (gD p l)→(p∈l→r=some ⟨b',0,none⟩∨r=none)→K (some ⟨b',0,none⟩,added) h'):
  HC PG uE [.pointer none,.pointer r,.agg #[.string p.1,.string p.2]] [.c .ptr,.c .bool] K h:=by
 refine Hk none r p ?_;unfold Ad av sP MG qP;have k1:=Upd.hnew No h [.string p.1,.string p.2] ag;have b1:=bZ h [.string p.1,.string p.2] ag;refine bj ?_;simp only[cM h];generalize hnew h [.string p.1,.string p.2] ag=h1 at k1 b1;have w1:∀{h':ad},Upd No h1 h'→∀i,aN h' (adr ⟨h.size,0,none⟩ i)=(#[.string p.1,.string p.2]:Array Value)[i]?:=fun k i=>by rw[bP,aV (k.get0 b1),aD]
 have r0:=Upd.refl No h1;refine⟨p.1,w1 r0 0,p.2,w1 r0 1,Lx (t.upd0 k1) (fun y hy=>bB (hW y hy) k1.size) fun h2 b t2 hu2 hb=>⟨w1 hu2 1,w1 hu2 0,?_⟩⟩
 obtain⟨w,F,r1,r2,r3⟩:=t2.ex;refine M0 (p.1.size+1) p.1 p.2 (by omega) hp r1 (fun y hy=>bB (hW y hy) (k1.tr hu2).size) r2 fun h3 b3 w' F' added ch hu3 rn3 hc3 hp3 hsm hch=>?_
 refine hk h3 b3 added ((k1.tr hu2).tr hu3) ⟨w',F',rn3,hc3,fun k v=>?_⟩ fun hm=>?_
 ·rw[mq,hp3 k v,←mq,r3 k v]
  constructor
  ·rintro(⟨rfl,rfl⟩|⟨hne,q,hq,rfl,rfl⟩)
   ·exact⟨p,(pf hr).2 (.inl rfl),rfl,rfl⟩
   ·exact⟨q,(pf hr).2 (.inr ⟨hq,fun e=>hne (by rw[e])⟩),rfl,rfl⟩
  ·rintro⟨q,hq,rfl,rfl⟩
   rcases(pf hr).1 hq with rfl|⟨hq,hne⟩
   ·exact .inl ⟨rfl,rfl⟩
   ·exact .inr ⟨fun e=>hne (wT.1 e),q,hq,rfl,rfl⟩
 ·have:=hch (mq.1 ((r3 _ _).2 ⟨p,hm,rfl,rfl⟩))
  rw[(hsm this).1];exact hb
def Jr(l:List Pr)(xs:List UInt8):Prop:=∃w F,gi F∧ma w F=Bb l∧xs=gU ([],w,F)
theorem uz{w:Option ByteArray}{F:Fo}{l:List Pr}(hc:gi F)(hp:ma w F=Bb l)(hf:Fit l):FT F∧∀v,w=some v→v.size≤10000:=by
 have hm:∀k v,uN w F k v→k.length≤10000∧v.size≤10000:=fun k v hi=>by
  have:=mq.2 hi;rw[hp]at this;obtain⟨q,hq,e⟩:=gz.1 this;cases e;have:=hf q hq;exact⟨by simpa using this.1,this.2⟩
 exact⟨Je hc fun k v hi=>hm k v (.inr hi),fun v hv=>(hm [] v (.inl ⟨rfl,hv⟩)).2⟩
theorem OI{l l':List Pr}{xs xs':List UInt8}(h:Jr l xs)(h':Jr l' xs')(hf:Fit l)(hf':Fit l'):xs=xs'↔l=l':=by
 obtain⟨w,F,c,e,rfl⟩:=h;obtain⟨w',F',c',e',rfl⟩:=h';have f1:=uz c e hf;have f2:=uz c' e' hf';constructor
 ·intro hx
  have hx:gU ([],w,F)++ []=gU ([],w',F')++ []:=by rw[hx]
  unfold gU at hx;simp only[aq]at hx;obtain⟨_,e2,e3,hx⟩:=DX (aR _) (aR _) f1.2 f2.2 (kM c) (kM c') hx;obtain⟨e4,_⟩:=wx f1.1 f2.1 e3 hx;exact EI (by rw[←e,←e',e2,e4])
 ·rintro rfl
  obtain⟨e2,e4⟩:=M2 c c' (e.trans e'.symm);rw[e2,e4]
theorem xD{l:List Pr}{xs:List UInt8}(h:Jr l xs)(hf:Fit l):xs.length≤20010+2*l.length*20010:=by
 obtain⟨w,F,c,e,rfl⟩:=h;have f1:=uz c e hf;have h1:=DW (lab:= []) (n:=F.toL.length) (aR _) f1.2;have h2:=ww f1.1;have h3:=AX c;have h4:=congrArg dT e;unfold ma Bb at h4;rw[ac,bF]at h4;have h5:xX F*20010≤2*l.length*20010:=cg _ (by omega);unfold gU;rw[ac];simp only;omega
theorem Gq{W:Nat→Prop}{h:ad}{b:Nat}{l:List Pr}(t:RadAt W h b l)(hr:dD l)(hf:Fit l)(hn:l.length≤60000){K:SliceV→ad→Prop}
  (hk:∀s' h' xs,Jr l xs→OwnS nh 1 cD (fun y=>h.size≤y) h' s' xs→Upd No h h'→K s' h'):HC PG rE [.pointer (some ⟨b,0,none⟩)] [.c .slice] K h:=by
 refine Dk _ ?_;unfold wb;refine al.2 ?_;obtain⟨w,F,r1,r2,r3⟩:=t.ex;have hp:=AK r2 hr r3;have f1:=uz r2 hp hf;have hv:Jr l (gU ([],w,F)):=⟨w,F,r2,hp,rfl⟩;have hl:=xD hv hf;exact MX (lab:= []) (aR _) f1.2 (kM r2) (EN f1.1) (s:=⟨none,0,0⟩) (xs:= []) (M:=fun y=>h.size≤y) r1 rfl (Upd.refl _ _) (fun _ h=>h) (OwnS.nil qm) (fun _ h=>h) (by rw[List.length_nil];omega) fun s' h' ho hu=>hk s' h' _ hv ho (hu.mono fun y hy=>.inr hy)
end Go.Proofs
namespace Go.Proofs
open Go Go.Lift
theorem aG{h:ad}{cs:List Value}{t:TypeId}{k:ad→Prop}(hk:∀h',h'[h.size]? =some (.cells cs.toArray t (0,0))→Upd No h h'→k h'):At (hnew h cs t) k:=
 bj (hk _ (bZ h cs t) (Upd.hnew No h cs t))
theorem vc{h:ad}{b:Nat}{c:Array Value}{t:TypeId}(hb:h[b]? =some (.cells c t (0,0))) (i:Nat):aN h (adr ⟨b,0,none⟩ i)=c[i]?:=by rw[bP,aD];exact aV hb
theorem oh{h:ad}{b:Nat}{c:Array Value}{t:TypeId}(hb:h[b]? =some (.cells c t (0,0))) (i j:Nat):aN h (adr (adr ⟨b,0,none⟩ i) j)=c[i+j]?:=by rw[bP,bP,aD];exact aV hb
theorem rQ{h:ad}{b i:Nat}{c c':Array Value}{t:TypeId}{v:Value}{k:ad→Prop}(hb:h[b]? =some (.cells c t (0,0))) (hi:i<c.size) (e:c.setIfInBounds i v=c') (hk:∀h',h'[b]? =some (.cells c' t (0,0))→Upd (· =b) h h'→k h'):Wr h (adr ⟨b,0,none⟩ i)∧At (hset h (adr ⟨b,0,none⟩ i) v) k:=by
 rw[bP,aD];exact⟨gS hb hi,rH hb fun h' hb' hu=>hk h' (e▸hb') hu⟩
theorem _root_.Go.Lift.Upd.own{h h1 h2:ad}{b:Nat}(k:Upd No h h1)(hu:Upd (· =b) h1 h2)(hb:h.size≤b):Upd No h h2:=k.trans hu fun x hx=>.inr (by have hx:x=b:=hx;omega)
theorem _root_.Go.Lift.Upd.oth{h h':ad}{b c:Nat}{o:Obj}(hu:Upd (· =b) h h')(hc:h[c]? =some o) (hne:c≠b):h'[c]? =some o:=hu.get hc hne
abbrev Tr:=Int×Int×Int×Int×(Option Addr)×(Option Addr)
abbrev dZ(t:Tr):List Value:= [.int .i64 t.1,.int .u64 t.2.1,.int .u64 t.2.2.1,.int .u64 t.2.2.2.1,.pointer t.2.2.2.2.1,.pointer t.2.2.2.2.2]
abbrev An(t:Tr):Value:=.agg #[.int .i64 t.1,.int .u64 t.2.1,.int .u64 t.2.2.1,.int .u64 t.2.2.2.1,.pointer t.2.2.2.2.1,.pointer t.2.2.2.2.2]
def Pro(W:Nat→Prop)(h h2:ad)(y:Nat):Prop:=W y∨(h.size≤y∧y<h2.size)
theorem Pro.lt{W:Nat→Prop}{h h2:ad}(hW:∀y,W y→y<h.size)(k:Upd No h h2):∀y,Pro W h h2 y→y<h2.size:=fun y hy=>hy.elim (fun h=>bB (hW y h) k.size) fun h=>h.2
theorem Pro.hm{W:Nat→Prop}{h h2:ad}:∀y,Pro W h h2 y→W y∨h.size≤y:=fun _ hy=>hy.imp id fun h=>h.1
theorem Pro.sub{W:Nat→Prop}{h h2 h3:ad}:∀y,W y→Pro W h h2 y∨h3.size≤y:=fun _ hy=>.inl (.inl hy)
theorem RootAt.less{W W':Nat→Prop}{x:Hs}{h:ad}(hm:∀b,W' b→W b∨h.size≤b){r:Option Addr}{l:List Pr}(t:RootAt W x h r l):RootAt W' x h r l:=t.imp id fun⟨b,e,t⟩=>⟨b,e,TrieAt.less hm t⟩
theorem RadRoot.less{W W':Nat→Prop}{h:ad}(hm:∀b,W' b→W b∨h.size≤b){r:Option Addr}{l:List Pr}(t:RadRoot W h r l):RadRoot W' h r l:=t.imp id fun⟨b,e,t⟩=>⟨b,e,t.less hm⟩
def TreeIs(W:Nat→Prop)(h:ad)(kind:Int)(x:Hs)(t:Tr)(l:List Pr):Prop:=(kind=0∧∃b,t=(0,x.k0,x.k1,x.mask,some ⟨b,0,none⟩,none)∧TrieAt W x h 13 b l)∨(kind=1∧∃b,t=(1,0,0,0,none,some ⟨b,0,none⟩)∧RadAt W h b l)
theorem TreeIs.upd0{W:Nat→Prop}{h h':ad}{kind:Int}{x:Hs}{t:Tr}{l:List Pr}(k:Upd No h h')(i:TreeIs W h kind x t l):TreeIs W h' kind x t l:=
 i.imp (fun⟨e,b,e2,t⟩=>⟨e,b,e2,TrieAt.upd0 k t⟩) fun⟨e,b,e2,t⟩=>⟨e,b,e2,t.upd0 k⟩
theorem TreeIs.less{W W':Nat→Prop}{h:ad}(hm:∀b,W' b→W b∨h.size≤b){kind:Int}{x:Hs}{t:Tr}{l:List Pr}(i:TreeIs W h kind x t l):TreeIs W' h kind x t l:=
 i.imp (fun⟨e,b,e2,t⟩=>⟨e,b,e2,TrieAt.less hm t⟩) fun⟨e,b,e2,t⟩=>⟨e,b,e2,t.less hm⟩
theorem TreeIs.updM{W M:Nat→Prop}{h h':ad}(k:Upd M h h')(hm:∀b,M b→W b∨h.size≤b){kind:Int}{x:Hs}{t:Tr}{l:List Pr}(i:TreeIs W h kind x t l):TreeIs W h' kind x t l:=
 i.imp (fun⟨e,b,e2,t⟩=>⟨e,b,e2,TrieAt.updM k hm t⟩) fun⟨e,b,e2,t⟩=>⟨e,b,e2,t.updM k hm⟩
theorem TreeIs.pro{W:Nat→Prop}{h h2:ad}(k:Upd No h h2){kind:Int}{x:Hs}{t:Tr}{l:List Pr}(i:TreeIs W h kind x t l):TreeIs (Pro W h h2) h2 kind x t l:=(i.less Pro.hm).upd0 k
theorem vR{W:Nat→Prop}{x:Hs}{h:ad}(hW:∀y,W y→y<h.size){K:Option Addr→ad→Prop}(hk:∀h' b,TrieAt W x h' 13 b []→Upd No h h'→K (some ⟨b,0,none⟩) h'):HC PG my [] [.c .ptr] K h:=by
 refine vV ?_;unfold rO;exact pZ hW fun h' b nd hu=>hk h' b (F8 nd) hu
abbrev iP:Tr:=(0,0,0,0,none,none)
theorem zF{W:Nat→Prop}{x:Hs}{h:ad}{r:Option Addr}{l:List Pr}(t:RootAt W x h r l)(hW:∀y,W y→y<h.size){K:Tr→ad→Prop}(hk:∀h' t,TreeIs W h' 0 x t l→Upd No h h'→K t h'):HC PG cY [.agg #[.int .u64 x.k0,.int .u64 x.k1,.int .u64 x.mask],.pointer r] [.agg [.int .i64,.int .u64,.int .u64,.int .u64,.ptr,.ptr]] K h:=by
 refine uP (x.k0,x.k1,x.mask) r ?_;unfold qr aM ae au cJ yE ml Lg;refine aG fun h1 b1 k1=>aG fun h2 b2 k2=>?_
 have z1:=aJ b1;have z2:=aJ b2;have k02:=k1.tr k2;refine Join.intro (fun t h'=>Upd No h2 h'∧∃b,t=some ⟨b,0,none⟩∧TrieAt (Pro W h h2) x h' 13 b l) (fun R hR=>?_) ?_
 ·rcases t with⟨rfl,rfl⟩|⟨b,rfl,t⟩
  ·exact aw.2 (vR (Pro.lt hW k02) fun h3 b t hu3=>hR _ _ ⟨hu3,b,rfl,t⟩)
  ·exact al.2 (hR _ _ ⟨Upd.refl _ _,b,rfl,TrieAt.upd0 k02 (TrieAt.less Pro.hm t)⟩)
 ·rintro t3 h3 ⟨hu3,b,rfl,t3⟩
  have c1:=hu3.get0 (k2.get0 b1);refine⟨_,vc c1 0,_,vc c1 1,_,vc c1 2,?_⟩;refine bo (c:=dZ iP) (vs:=dZ (0,x.k0,x.k1,x.mask,some ⟨b,0,none⟩,none)) (hu3.get0 b2) rfl fun h4 b4 hu4=>?_
  refine⟨_,vc b4 0,_,vc b4 1,_,vc b4 2,_,vc b4 3,_,vc b4 4,_,vc b4 5,?_⟩;have hb1:h.size≤h1.size:=k1.size;exact hk h4 _ (.inl ⟨rfl,b,rfl,TrieAt.less Pro.sub (TrieAt.updM hu4 (fun y hy=>.inl (.inr (by have hy:y=h1.size:=hy;omega))) t3)⟩) ((k02.tr hu3).own hu4 hb1)
theorem zE{W:Nat→Prop}{x:Hs}{h:ad}{r:Option Addr}{l:List Pr}(t:RadRoot W h r l)(hW:∀y,W y→y<h.size){K:Tr→ad→Prop}(hk:∀h' t,TreeIs W h' 1 x t l→Upd No h h'→K t h'):HC PG bq [.pointer r] [.agg [.int .i64,.int .u64,.int .u64,.int .u64,.ptr,.ptr]] K h:=by
 refine uO r ?_;unfold qq aM ae au cJ ml Lg;refine aG fun h2 b2 k02=>?_
 have z2:=aJ b2;refine Join.intro (fun t h'=>Upd No h2 h'∧∃b,t=some ⟨b,0,none⟩∧RadAt (Pro W h h2) h' b l) (fun R hR=>?_) ?_
 ·rcases t with⟨rfl,rfl⟩|⟨b,rfl,t⟩
  ·exact aw.2 (Bt (Pro.lt hW k02) fun h3 b t hu3=>hR _ _ ⟨hu3,b,rfl,t⟩)
  ·exact al.2 (hR _ _ ⟨Upd.refl _ _,b,rfl,(t.less Pro.hm).upd0 k02⟩)
 ·rintro t3 h3 ⟨hu3,b,rfl,t3⟩
  refine bo (c:=dZ iP) (vs:=dZ (1,0,0,0,none,some ⟨b,0,none⟩)) (hu3.get0 b2) rfl fun h4 b4 hu4=>?_
  refine⟨_,vc b4 0,_,vc b4 1,_,vc b4 2,_,vc b4 3,_,vc b4 4,_,vc b4 5,?_⟩;exact hk h4 _ (.inr ⟨rfl,b,rfl,(t3.updM hu4 (fun y hy=>.inl (.inr (by have hy:y=h.size:=hy;omega)))).less Pro.sub⟩) ((k02.tr hu3).own hu4 (ao _))
theorem EK{W:Nat→Prop}{x:Hs}{h:ad}(hW:∀y,W y→y<h.size){kind:Int}(hkd:kind=0∨kind=1){K:Tr×Int→ad→Prop}(hk:∀h' t,TreeIs W h' kind x t []→Upd No h h'→K (t,0) h'):HC PG mS [.int .i64 kind,.agg #[.int .u64 x.k0,.int .u64 x.k1,.int .u64 x.mask]] [.agg [.int .i64,.int .u64,.int .u64,.int .u64,.ptr,.ptr],.c (.int .i64)] K h:=by
 refine Cr kind (x.k0,x.k1,x.mask) ?_;unfold xg aM ae au cJ yE pW ml gB gV;refine aG fun h1 b1 k1=>aG fun h2 b2 k2=>?_
 have z1:=aJ b1;have z2:=aJ b2;have k02:=k1.tr k2;have hb1:h.size≤h1.size:=k1.size;have c1:=k2.get0 b1;rcases hkd with rfl|rfl
 ·refine aw.2 ⟨_,vc c1 0,_,vc c1 1,_,vc c1 2,?_⟩
  refine zF (W:=Pro W h h2) (x:=x) (l:= []) (.inl ⟨rfl,rfl⟩) (Pro.lt hW k02) fun h3 t i3 hu3=>?_
  refine bo (c:=dZ iP) (vs:=dZ t) (hu3.get0 b2) rfl fun h4 b4 hu4=>?_
  refine⟨_,vc b4 0,_,vc b4 1,_,vc b4 2,_,vc b4 3,_,vc b4 4,_,vc b4 5,?_⟩;exact hk h4 t ((i3.updM hu4 (fun y hy=>.inl (.inr (by have hy:y=h1.size:=hy;omega)))).less Pro.sub) ((k02.tr hu3).own hu4 hb1)
 ·refine al.2 (aw.2 ?_)
  refine zE (W:=Pro W h h2) (x:=x) (l:= []) (.inl ⟨rfl,rfl⟩) (Pro.lt hW k02) fun h3 t i3 hu3=>?_
  refine bo (c:=dZ iP) (vs:=dZ t) (hu3.get0 b2) rfl fun h4 b4 hu4=>?_
  refine⟨_,vc b4 0,_,vc b4 1,_,vc b4 2,_,vc b4 3,_,vc b4 4,_,vc b4 5,?_⟩;exact hk h4 t ((i3.updM hu4 (fun y hy=>.inl (.inr (by have hy:y=h1.size:=hy;omega)))).less Pro.sub) ((k02.tr hu3).own hu4 hb1)
theorem DS{k v:ByteArray}(h1:k.size≤256)(h2:v.size≤4096){h:ad}{K:Int→ad→Prop}(hk:K 0 h):HC PG tl [.string k,.string v] [.c (.int .i64)] K h:=by
 refine FQ k v ?_;unfold yx;refine aE (fun h=>absurd h (by omega)) fun _=>aE (fun h=>absurd h (by omega)) fun _=>hk
theorem Ga{W:Nat→Prop}{x:Hs}{h:ad}{kind:Int}{t:Tr}{l:List Pr}(i:TreeIs W h kind x t l)(hW:∀y,W y→y<h.size)(hr:dD l)(hn:l.length≤1000000)(p:Pr)(hp1:p.1.size≤256)(hp2:p.2.size≤4096){K:Tr×Int→ad→Prop}
  (hk:∀h' t',TreeIs W h' kind x t' (gD p l)→(p∈l→t'=t)→Upd No h h'→K (t',0) h'):HC PG ij [An t,.pointer none,.agg #[.string p.1,.string p.2]] [.agg [.int .i64,.int .u64,.int .u64,.int .u64,.ptr,.ptr],.c (.int .i64)] K h:=by
 refine r9 t none p ?_;unfold oH aM ae au cJ pW ml gB o9 jx cy dQ av Lg dL sP uw;refine aG fun h1 b1 k1=>aG fun h2 b2 k2=>aG fun h3 b3 k3=>?_
 have z1:=aJ b1;have z2:=aJ b2;have z3:=aJ b3;have s1:h.size≤h1.size:=k1.size;have s2:h1.size≤h2.size:=k2.size;have s3:=k3.size;have k03:=(k1.tr k2).tr k3;have v1:=k3.get0 (k2.get0 b1);have v2:=k3.get0 b2;have i3:=i.pro k03;have hW3:=Pro.lt hW k03;refine⟨_,vc v2 0,_,vc v2 1,DS hp1 hp2 (al.2 ?_)⟩;rcases i3 with⟨rfl,b,rfl,t3⟩|⟨rfl,b,rfl,t3⟩
 ·refine⟨_,vc v1 0,al.2 ⟨_,oh v1 1 0,_,oh v1 1 1,_,oh v1 1 2,_,vc v1 4,p.1,vc v2 0,p.2,vc v2 1,?_⟩⟩
  refine zX (.inr ⟨b,rfl,t3⟩) hW3 hr hn p fun h4 b4 hu4 t4 hsame=>?_
  refine rQ (i:=4) (c':=(dZ (0,x.k0,x.k1,x.mask,some ⟨b4,0,none⟩,none)).toArray) (hu4.get0 v1) (show 4<6 by decide) rfl fun h5 v5 hu5=>?_
  refine⟨_,vc v5 0,_,vc v5 1,_,vc v5 2,_,vc v5 3,_,vc v5 4,_,vc v5 5,?_⟩;refine bo (c:=dZ iP) (vs:=dZ (0,x.k0,x.k1,x.mask,some ⟨b4,0,none⟩,none)) (hu5.oth (hu4.get0 b3) (by omega)) rfl fun h6 v6 hu6=>?_
  refine⟨_,vc v6 0,_,vc v6 1,_,vc v6 2,_,vc v6 3,_,vc v6 4,_,vc v6 5,?_⟩;refine hk h6 _ (.inl ⟨rfl,b4,rfl,TrieAt.less Pro.sub (TrieAt.updM hu6 (fun y hy=>.inl (.inr (by have hy:y=h2.size:=hy;omega))) (TrieAt.updM hu5 (fun y hy=>.inl (.inr (by have hy:y=h.size:=hy;omega))) t4))⟩) (fun hm=>?_) (((k03.tr hu4).own hu5 (ao _)).own hu6 (by omega))
  rcases hsame hm with e|e
  ·rw[e]
  ·cases e
 ·refine⟨_,vc v1 0,aw.2 ⟨_,vc v1 5,p.1,vc v2 0,p.2,vc v2 1,?_⟩⟩
  refine Gp (.inr ⟨b,rfl,t3⟩) hW3 hr p (by omega) fun h4 b4 added hu4 t4 hsame=>?_
  refine rQ (i:=5) (c':=(dZ (1,0,0,0,none,some ⟨b4,0,none⟩)).toArray) (hu4.get0 v1) (show 5<6 by decide) rfl fun h5 v5 hu5=>?_
  refine⟨_,vc v5 0,_,vc v5 1,_,vc v5 2,_,vc v5 3,_,vc v5 4,_,vc v5 5,?_⟩;refine bo (c:=dZ iP) (vs:=dZ (1,0,0,0,none,some ⟨b4,0,none⟩)) (hu5.oth (hu4.get0 b3) (by omega)) rfl fun h6 v6 hu6=>?_
  refine⟨_,vc v6 0,_,vc v6 1,_,vc v6 2,_,vc v6 3,_,vc v6 4,_,vc v6 5,?_⟩;refine hk h6 _ (.inr ⟨rfl,b4,rfl,((t4.updM hu5 (fun y hy=>.inl (.inr (by have hy:y=h.size:=hy;omega)))).updM hu6 (fun y hy=>.inl (.inr (by have hy:y=h2.size:=hy;omega)))).less Pro.sub⟩) (fun hm=>?_) (((k03.tr hu4).own hu5 (ao _)).own hu6 (by omega))
  rcases hsame hm with e|e
  ·rw[e]
  ·cases e
end Go.Proofs
namespace Go.Proofs
open Go Go.Lift
theorem nb{W:Nat→Prop}{x:Hs}{h:ad}{b:Nat}{l:List Pr}(t:TrieAt W x h 13 b l){K:Option Addr→ad→Prop}(hk:∀h',Upd No h h'→K (some ⟨b,0,none⟩) h'):HC PG cR [An (0,x.k0,x.k1,x.mask,some ⟨b,0,none⟩,none)] [.c .ptr] K h:=by
 refine nM (0,x.k0,x.k1,x.mask,some ⟨b,0,none⟩,none) ?_;unfold kO aM au gB;refine aG fun h1 b1 k1=>?_
 refine Join.intro (fun t h'=>t=false∧h'=h1) (fun R hR=>⟨_,vc b1 0,aw.2 ⟨_,vc b1 4,hR _ _ ⟨rfl,rfl⟩⟩⟩) ?_
 rintro t h' ⟨rfl,rfl⟩;exact al.2 ⟨_,vc b1 4,hk h' k1⟩
def Cq(kind:Int)(x:Hs)(l:List Pr)(xs:List UInt8):Prop:=(kind=0∧xs=0::eO x 13 l)∨(kind=1∧∃ys,Jr l ys∧xs=1::ys)
theorem tA{h h1:ad}{b:UInt8}(hb:h1[h.size]? =some (.cells #[.int .u8 (b.toNat:Int)] cD (0,0))):OwnS nh 1 cD (fun y=>h.size≤y) h1 ⟨some ⟨h.size,0,none⟩,1,1⟩ [b]:=⟨rfl,qm,ao _,.inr ⟨h.size,[],rfl,ao _,hb,rfl⟩⟩
theorem Lk{W:Nat→Prop}{x:Hs}{h:ad}{kind:Int}{t:Tr}{l:List Pr}(i:TreeIs W h kind x t l)(hr:dD l)(hf:Fit l)(hn:l.length≤60000){K:SliceV→ad→Prop}
  (hk:∀s' h' xs,Cq kind x l xs→OwnS nh 1 cD (fun y=>h.size≤y) h' s' xs→Upd No h h'→K s' h'):HC PG kF [An t] [.c .slice] K h:=by
 refine qZ t ?_;unfold nQ aM ae au gB oe;refine aG fun h1 b1 k1=>?_
 have z1:=k1.size;have app:∀{b:UInt8} {h2 h3:ad} {s:SliceV} {xs:List UInt8},h2[h1.size]? =some (.cells #[.int .u8 (b.toNat:Int)] cD (0,0))→Upd No h1 h2→OwnS nh 1 cD (fun y=>h2.size≤y) h3 s xs→Upd No h2 h3→xs.length≤70000000000000→Cq kind x l (b::xs)→
   ∃xs7,SRow h3 s.a (s.len*1) xs7∧AppP (some [.int .u8 0]) 1 1 cD (some (az h1)) 1 1 s.len xs7 h3 (fun s8 h9=>K s8 h9):=fun{b h2 h3 s xs} hb k2 ho k3 hl hv=>by
  refine⟨_,(ho.sl (W:=No) fun _ _ _ h=>h).srow,?_⟩
  have k13:=k2.tr k3;have hz:=aJ hb;have o1:OwnS nh 1 cD (fun y=>h.size≤y) h3 ⟨some ⟨h1.size,0,none⟩,1,1⟩ [b]:=((tA hb).upd k3 fun _ _ h=>h).more fun y hy=>by omega
  refine AppP.own (ys:=xs) o1 ho.len rfl (vg _) rfl (by omega) (by simp only[aC];omega) (by have:=k13.size;omega) fun s' h' ho' hu'=>?_
  exact hk s' h' _ hv ho' ((k1.tr k13).trans hu' fun y hy=>.inr hy)
 rcases i with⟨rfl,b,rfl,t⟩|⟨rfl,b,rfl,t⟩
 ·refine⟨_,vc b1 0,al.2 (aG fun h2 b2 k2=>?_)⟩
  have c1:=k2.get0 b1;refine⟨_,vc c1 0,_,vc c1 1,_,vc c1 2,_,vc c1 3,_,vc c1 4,_,vc c1 5,?_⟩;refine nb (TrieAt.upd0 (k1.tr k2) t) fun h3 k3=>?_
  refine Kj (TrieAt.upd0 ((k1.tr k2).tr k3) t) hf hn fun s4 h4 ho4 k4=>?_
  have z3:=k3.size;have hlen:=kZ (x:=x) 13 hf;have hb:l.length*(20004+9*(13+1))≤60000*(20004+9*(13+1)):=cg _ hn;exact app (b:=0) b2 k2 (ho4.more fun y hy=>by omega) (k3.tr k4) (by omega) (.inl ⟨rfl,rfl⟩)
 ·refine⟨_,vc b1 0,aw.2 (aG fun h2 b2 k2=>?_)⟩
  have c1:=k2.get0 b1;refine⟨_,vc c1 5,?_⟩;refine Gq (t.upd0 (k1.tr k2)) hr hf hn fun s4 h4 xs hv ho4 k4=>?_
  have hlen:=xD hv hf;have hb:2*l.length*20010≤2*60000*20010:=cg _ (by omega);exact app (b:=1) b2 k2 ho4 k4 (by omega) (.inr ⟨rfl,xs,hv,rfl⟩)
theorem MK{kind:Int}{x x':Hs}(hx:kind=0→x=x'){l l':List Pr}{xs xs':List UInt8}(hv:Cq kind x l xs)(hv':Cq kind x' l' xs')(hf:Fit l)(hf':Fit l')(hn:l.length≤60000)(hn':l'.length≤60000)(hr:dD l)(hr':dD l'):xs=xs'↔l=l':=by
 rcases hv with⟨rfl,rfl⟩|⟨rfl,ys,hv,rfl⟩<;>rcases hv' with⟨e,rfl⟩|⟨e,ys',hv',rfl⟩
 ·rw[hx rfl]
  constructor
  ·intro h
   have h:eO x' 13 l++ []=eO x' 13 l'++ []:=by rw[(fp.inj h).2]
   exact(Bk 13 hf hf' hn hn' hr hr' h).1
  ·rintro rfl;rfl
 ·cases e
 ·cases e
 ·rw[fp.injEq,←OI hv hv' hf hf']
  exact⟨fun h=>h.2,fun h=>⟨rfl,h⟩⟩
theorem TreeIs.plain{W:Nat→Prop}{h:ad}{kind:Int}{x:Hs}{t:Tr}{l:List Pr}(i:TreeIs W h kind x t l):(∀a,t.2.2.2.2.1=some a→gA h a)∧(∀a,t.2.2.2.2.2=some a→gA h a):=by
 rcases i with⟨rfl,b,rfl,t⟩|⟨rfl,b,rfl,t⟩
 ·obtain⟨s,nd,_⟩:=t
  obtain⟨d,n,sp,sk,ow,hb,_⟩:=nd.ex;refine⟨fun a ha=>?_,fun a ha=>(by cases ha)⟩
  cases ha;exact⟨_,_,hb,show 0<6 by decide⟩
 ·obtain⟨w,F,⟨val,s,ow,ks,hb,_⟩,_⟩:=t.ex
  refine⟨fun a ha=>(by cases ha),fun a ha=>?_⟩
  cases ha;exact⟨_,_,hb,show 0<5 by decide⟩
theorem Ki{W W':Nat→Prop}{x x':Hs}{h:ad}{kind kind':Int}{t u:Tr}{l l':List Pr}(i:TreeIs W h kind x t l)(i':TreeIs W' h kind' x' u l'){K:Bool→ad→Prop}(hk:∀h',Upd No h h'→K (decide (t=u)) h'):HC PG sX [An t,An u] [.c .bool] K h:=by
 refine Jw t u ?_;unfold Cv aM ae au gB;refine aG fun h1 b1 k1=>aG fun h2 b2 k2=>?_
 have c1:=k2.get0 b1;have p1:=(i.upd0 (k1.tr k2)).plain;have p2:=(i'.upd0 (k1.tr k2)).plain;refine⟨_,vc c1 0,_,vc c1 1,_,vc c1 2,_,vc c1 3,_,vc c1 4,_,vc c1 5,_,vc b2 0,_,vc b2 1,_,vc b2 2,_,vc b2 3,_,vc b2 4,_,vc b2 5,⟨⟨fun y z hy hz=>⟨p1.1 y hy,p2.1 z hz⟩,fun y z hy hz=>⟨p1.2 y hy,p2.2 z hz⟩,trivial⟩,?_⟩⟩
 have e:((t.1==u.1)&&((((((t.2.1==u.2.1)&&((t.2.2.1==u.2.2.1)&&true)))&&((t.2.2.2.1==u.2.2.2.1)&&true)))&&((t.2.2.2.2.1==u.2.2.2.2.1)&&((t.2.2.2.2.2==u.2.2.2.2.2)&&true))))=decide (t=u):=by
  obtain⟨a,b,c,d,e,f⟩:=t;obtain⟨a',b',c',d',e',f'⟩:=u;rw[Bool.eq_iff_iff];simp only[Bool.and_eq_true,beq_iff_eq,decide_eq_true_iff,nV.injEq,and_true];constructor
  ·rintro⟨h1,⟨⟨h2,h3⟩,h4⟩,h5,h6⟩;exact⟨h1,h2,h3,h4,h5,h6⟩
  ·rintro⟨h1,h2,h3,h4,h5,h6⟩;exact⟨h1,⟨⟨h2,h3⟩,h4⟩,h5,h6⟩
 rw[e];exact hk h2 (k1.tr k2)
end Go.Proofs
namespace Go.Proofs
open Go Go.Lift
abbrev zPrL:List Value:= [.string (⟨#[]⟩:ByteArray),.string (⟨#[]⟩:ByteArray)]
theorem pN{h:ad}{t:TypeId}{p:Pr}{k:ad→Prop}(hk:∀h',h'[h.size]? =some (.cells #[.string p.1,.string p.2] t (0,0))→Upd No h h'→k h'):
  At (hnew h [.string (⟨#[]⟩:ByteArray),.string (⟨#[]⟩:ByteArray)] t) fun h8=>uc h8 (some (az h)) 0 [.string p.1,.string p.2]∧At (jA h8 (az h) 0 [.string p.1,.string p.2]) k:=by
 refine aG fun h1 b1 k1=>?_
 exact bo (c:=zPrL) (vs:= [.string p.1,.string p.2]) b1 rfl fun h2 b2 hu2=>hk h2 b2 (k1.own hu2 (ao _))
theorem uL{t:TypeId}{M:Nat→Prop}{h:ad}{so:SliceV}{out:List Pr}{p:Pr}{K:SliceV→ad→Prop}(ho:OwnS eC 2 t M h so out)(hM:∀b,h.size≤b→M b)(hn:out.length+1≤1000000000)
  (hk:∀s' h',OwnS eC 2 t M h' s' (out++ [p])→Upd M h h'→K s' h'):
  ∃xs,SRow (hnew h [.string p.1,.string p.2] t) (some (az h)) (1*2) xs∧AppP (some [.string (⟨#[]⟩:ByteArray),.string (⟨#[]⟩:ByteArray)]) 2 32 t so.a so.len so.cap 1 xs (hnew h [.string p.1,.string p.2] t) K:=by
 have k:=Upd.hnew No h [.string p.1,.string p.2] t;have h1:OwnS eC 2 t (fun _=>True) (hnew h [.string p.1,.string p.2] t) ⟨some (az h),1,1⟩ [p]:=⟨rfl,fO,ao _,.inr ⟨h.size,[],rfl,trivial,bZ ..,rfl⟩⟩
 refine⟨_,(h1.sl (W:=No) fun _ _ _ h=>h).srow,?_⟩
 refine AppP.own (ys:= [p]) (ho.upd k fun _ _ h=>h) rfl rfl rfl rfl (by omega) (by simp only[aC];omega) (hM _ (by rw[iS];omega)) fun s' h' ho' hu=>?_
 exact hk s' h' ho' ((Upd.hnew M h _ _).tr hu)
theorem BV{p:Pr}:∀{A B:List Pr},(∀r∈A,kl r.1 p.1)→gD p (A++B)=A++gD p B
 | [],_,_=>rfl
 |r::A,B,h=>by
  rw[dN,gk,if_pos (h r (ar ..)),BV fun q hq=>h q (aL _ hq)];rfl
theorem GQ{p q:Pr}:∀{A:List Pr},(∃r∈A,kl p.1 r.1)→gD p (A++ [q])=gD p A++ [q]
 | [],h=>by obtain⟨r,hr,_⟩:=h;simp at hr
 |r::A,h=>by
  rw[dN,gk,gk];by_cases h1:kl r.1 p.1
  ·rw[if_pos h1,if_pos h1,GQ]
   ·rfl
   ·obtain⟨r',hr',hk⟩:=h
    rcases aA.1 hr' with rfl|hr'
    ·exact absurd (iZ h1 hk) (db _)
    ·exact⟨r',hr',hk⟩
  ·rw[if_neg h1,if_neg h1]
   by_cases h2:r.1=p.1
   ·rw[if_pos h2,if_pos h2];rfl
   ·rw[if_neg h2,if_neg h2];rfl
theorem GO{p:Pr}:∀{l:List Pr},(∀q∈l,kl p.1 q.1)→gD p l=p::l
 | [],_=>rfl
 |q::l,h=>by
  have h1:=h q (ar ..);rw[gk,if_neg fun h2=>db _ (iZ h1 h2),if_neg fun e=>by rw[e]at h1;exact db _ h1]
theorem D8{p:Pr}:∀{l:List Pr},dD l→gD p (l.filter fun q=>decide (q.1≠p.1))=gD p l
 | [],_=>rfl
 |r::l,hr=>by
  have hr:=aX.1 hr;have keep:∀{l:List Pr},(∀q∈l,kl p.1 q.1)→(l.filter fun q=>decide (q.1≠p.1))=l:=fun{l} h=>List.filter_eq_self.2 fun q hq=>decide_eq_true fun e=>by have:=h q hq;rw[e]at this;exact db _ this
  rw[List.filter_cons,gk];by_cases e:r.1=p.1
  ·have hl:∀q∈l,kl p.1 q.1:=fun q hq=>by rw[←e];exact hr.1 q hq
   rw[if_neg (by simp[e]),if_neg (by rw[e];exact db _),if_pos e,keep hl,GO hl]
  ·rw[if_pos (by simpa using e),gk]
   by_cases h1:kl r.1 p.1
   ·rw[if_pos h1,if_pos h1,D8 hr.2]
   ·rw[if_neg h1,if_neg h1,if_neg e,if_neg e]
    have h2:=rA h1 e;rw[keep fun q hq=>iZ h2 (hr.1 q hq)]
theorem AZ{i n:Nat}(h:i<n)(hn:n≤9223372036854775807):IntKind.wrap .i64 ((i:Int)+1)=((i+1:Nat):Int):=by rw[Go.IntWalk.i64_in _ (by omega)];omega
theorem D7(p:Pr):∀{l:List Pr},(gD p l).length≤l.length+1
 | []=>ao _
 |q::l=>by
  rw[gk];split
  ·have:=D7 p (l:=l);simp only[ax];omega
  ·split<;>simp
abbrev hsL(x:Hs):List Value:= [.int .u64 x.k0,.int .u64 x.k1,.int .u64 x.mask]
end Go.Proofs
namespace Go.Proofs
open Go Go.Lift
abbrev Wk:=Option Addr×ByteArray×Bool
abbrev La(x:Wk):List Value:= [.pointer x.1,.string x.2.1,.bool x.2.2]
theorem EA(x:Wk):(La x).length=3∧0<3:=⟨rfl,by omega⟩
theorem Kv:∀xs:List Wk,cj (xs.flatMap La)=true
 | []=>rfl
 |x::xs=>by rw[aO];exact jT rfl (Kv xs)
theorem MZ{α:Type}{l:List α}{i:Nat}(hi:i<l.length)(x:α):l.take i++x::l.drop (i+1)=l.set i x:=by rw[List.set_eq_take_append_cons_drop,if_pos hi]
theorem Ii{M:Nat→Prop}{h:ad}{s:SliceV}{xs:List Wk}(ho:OwnS La 3 dS M h s xs)(hn:xs.length≤1000000000){K:Unit→ad→Prop}(hk:∀h',OwnS La 3 dS M h' s xs.reverse→Upd M h h'→K () h'):HC PG eR [.slice s.a s.len s.cap] [] K h:=by
 refine lz s ?_;unfold gG dd bC ge rt tK CW;have hlen:=ho.len;have ej:IntKind.wrap .i64 ((s.len:Int)-1)=(xs.length:Int)-1-((0:Nat):Int):=by rw[jm (by omega)];omega
 rw[ej];refine LoopP.ghost (fun(i:Nat) (t:Int×Int) h'=>t.1=(i:Int)∧t.2=(xs.length:Int)-1-(i:Int)∧i≤xs.length∧(∃ys,OwnS La 3 dS M h' s ys∧ys.length=xs.length∧∀k,k<xs.length→ys[k]? =if k<i∨xs.length-i≤k then xs[xs.length-1-k]? else xs[k]?)∧Upd M h h') (fun i=>xs.length-i) 0
  ⟨rfl,rfl,aR _,⟨xs,ho,rfl,fun k hk=>by rw[if_neg (by omega)]⟩,Upd.refl _ _⟩ ?_
 rintro I i ⟨ti,tj⟩ h' ⟨e1,e2,hi,⟨ys,hy,hyl,hys⟩,hu⟩ hI;simp only at e1 e2;subst e1 e2;refine aE (fun hlt=>?_) fun hge=>?_
 ·have hlt:2*i+1<xs.length:=by have:(i:Int)<(xs.length:Int)-1-(i:Int):=hlt;omega
  obtain⟨j,hj⟩:∃j:Nat,(xs.length:Int)-1-(i:Int)=(j:Int):=⟨xs.length-1-i,by omega⟩
  have hjn:j=xs.length-1-i:=by omega
  simp only;rw[hj];have hiy:i<ys.length:=by omega
  have hjy:j<ys.length:=by omega
  have sl:=hy.sl (W:=No) fun _ _ _ h=>h
  obtain⟨a,ha,_,hv⟩:=sl.at (af hjy);obtain⟨a',ha',_,hv'⟩:=sl.at (af hiy);rw[ha]at ha';cases ha';refine⟨⟨by omega,by omega⟩,a,ha,ys[j].1,hv 0 _ rfl,ys[j].2.1,hv 1 _ rfl,ys[j].2.2,hv 2 _ rfl,⟨by omega,by omega⟩,a,ha,ys[i].1,hv' 0 _ rfl,ys[i].2.1,hv' 1 _ rfl,ys[i].2.2,hv' 2 _ rfl,⟨by omega,by omega⟩,?_⟩
  obtain⟨b,hb,hbM,hw,ho1,hu1⟩:=OwnS.setAt hy hiy ys[j];rw[ha]at hb;cases hb;rw[MZ hiy]at ho1;refine⟨a,ha,hw,bj ⟨⟨by omega,by omega⟩,a,ha,?_⟩⟩
  obtain⟨b,hb,_,hw2,ho2,hu2⟩:=OwnS.setAt ho1 (k:=j) (by rw[g5];omega) ys[i];rw[ha]at hb;cases hb;rw[MZ (by rw[g5];omega)]at ho2;refine⟨hw2,bj ?_⟩;rw[cp (n:=xs.length) (by omega) (by omega)];have ej2:IntKind.wrap .i64 ((j:Int)-1)=(xs.length:Int)-1-((i+1:Nat):Int):=by rw[jm (by omega)];omega
  rw[ej2];refine hI (i+1) _ _ ⟨rfl,rfl,by omega,⟨_,ho2,by rw[g5,g5];exact hyl,fun k hk=>?_⟩,?_⟩ (by omega)
  ·rw[List.getElem?_set,g5]
   have ei:=hys i (by omega);have ejj:=hys j (by omega);rw[if_neg (by omega),af hiy]at ei;rw[if_neg (by omega),af hjy]at ejj;by_cases h1:j=k
   ·rw[if_pos h1,if_pos hjy,if_pos (by omega),ei]
    congr 1;omega
   ·rw[if_neg h1,List.getElem?_set]
    by_cases h2:i=k
    ·rw[if_pos h2,if_pos hiy,if_pos (by omega),ejj]
     congr 1;omega
    ·rw[if_neg h2,hys k hk]
     by_cases h3:k<i∨xs.length-i≤k
     ·rw[if_pos h3,if_pos (by omega)]
     ·rw[if_neg h3,if_neg (by omega)]
  ·exact(hu.trans hu1 fun y hy=>.inl (by have hy:y=a.block:=hy;rw[hy];exact hbM)).trans hu2 fun y hy=>.inl (by have hy:y=a.block:=hy;rw[hy];exact hbM)
 ·have hge:xs.length≤2*i+1:=by have:¬(i:Int)<(xs.length:Int)-1-(i:Int):=hge;omega
  have e:ys=xs.reverse:=by
   apply List.ext_getElem?;intro k;by_cases hk:k<xs.length
   ·rw[hys k hk,List.getElem?_reverse hk]
    by_cases h3:k<i∨xs.length-i≤k
    ·rw[if_pos h3]
    ·rw[if_neg h3];congr 1;omega
   ·rw[oq (by omega),oq (by rw[List.length_reverse];omega)]
  subst e;exact hk _ hy hu
theorem OwnS.pop{α:Type}{f:α→List Value}{sz:Nat}{t:TypeId}{M:Nat→Prop}{h:ad}{s:SliceV}{xs:List α}{x:α}(ho:OwnS f sz t M h s (xs++ [x])):OwnS f sz t M h ⟨aY s.a 0 s.cap sz,xs.length,s.cap⟩ xs:=by
 have hl:=ho.len;have hc:=ho.cap;rw[ac,aC]at hl;refine⟨rfl,ho.ne,by simp only;omega,ho.blk.imp id fun⟨b,rest,ha,hb,aN,hr⟩=>⟨b,f x++rest,?_,hb,?_,?_⟩⟩
 ·simp only;rw[ha,sub_zero]
 ·rw[aN,bm,aO,List.flatMap_nil,List.append_nil,aq]
 ·rw[ac,(ho.ne x).1,hr]
  simp only;have:s.cap-xs.length=(s.cap-s.len)+1:=by omega
  rw[this,Nat.add_mul];omega
structure It where
 b:Nat
 ah:ByteArray
 own:Bool
 sl:ByteArray
 w:Option ByteArray
 F:Fo
def It.raw(i:It):Wk:=(some ⟨i.b,0,none⟩,i.ah,i.own)
def It.key(i:It):List UInt8:=i.ah.data.toList++i.sl.data.toList
def It.prs(i:It):List (List UInt8×ByteArray):=if i.own then(i.w.map fun v=>(i.key,v)).toList else(ma i.w i.F).map fun p=>(i.key++p.1,p.2)
def It.cost(i:It):Nat:=if i.own then 1 else 2+2*xX i.F
def sO(l:List It):List (List UInt8×ByteArray):=l.reverse.flatMap It.prs
def jO(l:List It):Nat:=(l.map It.cost).sum
theorem DI(l:List It)(i:It):sO (l++ [i])=i.prs++sO l:=by unfold sO;rw[List.reverse_append];rfl
theorem vn(l m:List It):jO (l++m)=jO l+jO m:=by unfold jO;rw[cd,List.sum_append]
theorem M5(l m:List It):sO (l++m)=sO m++sO l:=by unfold sO;rw[List.reverse_append,bm]
end Go.Proofs
namespace Go.Proofs
open Go Go.Lift
section
variable {α:Type} {f:α→List Value} {sz:Nat} {t:TypeId} {M:Nat→Prop} {h:ad} {s:SliceV} {P Q:List α} {x:α}
theorem kE(ho:OwnS f sz t M h s (P++x::Q)){i:Nat}(hi:i=P.length):∃a,s.a=some a∧∀j v,(f x)[j]? =some v→aN h (adr (adr a (i*sz)) j)=some v:=by
 obtain⟨a,ha,_,hv⟩:=(ho.sl (W:=No) fun _ _ _ h=>h).at (i:=i) (x:=x) (by rw[hi,aQ (ao _),fV];rfl)
 exact⟨a,ha,hv⟩
theorem rz(ho:OwnS f sz t M h s (P++x::Q))(y:α){a:Addr}(ha:s.a=some a){i:Nat}(hi:i=P.length){G:ad→Prop}(hk:∀h',OwnS f sz t M h' s (P++y::Q)→Upd M h h'→G h'):
  uc h (some (adr a (i*sz))) 0 (f y)∧At (jA h (adr a (i*sz)) 0 (f y)) G:=by
 obtain⟨a',ha',hM,hw,ho',hu⟩:=OwnS.setAt ho (k:=i) (by rw[hi,ac,ax];omega) y;rw[ha]at ha';cases ha';refine⟨hw,bj (hk _ ?_ (hu.mono fun b hb=>.inl (by have hb:b=a.block:=hb;rw[hb];exact hM)))⟩
 subst hi;have e1:(P++x::Q).take P.length=P:=List.take_left;have e2:(P++x::Q).drop (P.length+1)=Q:=by rw[←List.drop_drop,List.drop_left];rfl
 rw[e1,e2]at ho';exact ho'
end
theorem ve{α:Type}{f:α→List Value}{sz:Nat}{t:TypeId}{M:Nat→Prop}{h:ad}{s:SliceV}{xs:List α}{x:α}(ho:OwnS f sz t M h s xs){i:Nat}(hi:xs[i]? =some x):∃a,s.a=some a∧∀j v,(f x)[j]? =some v→aN h (adr (adr a (i*sz)) j)=some v:=by
 obtain⟨a,ha,_,hv⟩:=(ho.sl (W:=No) fun _ _ _ h=>h).at hi
 exact⟨a,ha,hv⟩
theorem Ny{α:Type}{A U X:List α}{i:Nat}(hi:A.length+U.length≤i):(A++(U++X))[i]? =X[i-A.length-U.length]?:=by
 rw[aQ (by omega),aQ (by omega)]
theorem Nz{α:Type}{A U V B:List α}{i k:Nat}{x:α}(hi:A.length+U.length+k=i)(hk:V[k]? =some x):(A++(U++(V++B)))[i]? =some x:=by
 rw[Ny (by omega),show i-A.length-U.length=k by omega,bX (bl.1 hk).1];exact hk
theorem KL{α:Type}{A U X:List α}{i k:Nat}{x:α}(hi:A.length+k=i)(hk:U[k]? =some x):(A++(U++X))[i]? =some x:=by
 rw[aQ (by omega),show i-A.length=k by omega,bX (bl.1 hk).1];exact hk
theorem AU{i j:Nat}(h:i+j≤4000000000):IntKind.wrap .i64 (Int.fdiv (IntKind.wrap .u64 (IntKind.wrap .i64 ((i:Int)+(j:Int)))) (2^(min (1:Int).toNat (IntKind.bits .u64))))=(((i+j)/2:Nat):Int):=by
 have e3:(2^(min (1:Int).toNat (IntKind.bits .u64)):Int)=2:=rfl;rw[e3,jm (x:=(i:Int)+(j:Int)) (by omega),Go.IntWalk.u64_in _ (by omega),Int.fdiv_eq_ediv_of_nonneg _ (by omega),jm (by omega)];omega
theorem pu{α:Type}{lt:α→α→Bool}(w:WO lt){l:List α}(h:Srt lt l){i j:Nat}(hij:i≤j){x y:α}(hx:l[i]? =some x) (hy:l[j]? =some y):lt y x=false:=by
 obtain⟨hi,rfl⟩:=bl.1 hx;obtain⟨hj,rfl⟩:=bl.1 hy;rcases Nat.lt_or_ge i j with h1|h1
 ·exact List.pairwise_iff_getElem.1 h i j hi hj h1
 ·have:i=j:=by omega
  subst this;exact w.irr _
theorem Fg{α:Type}(l:List α):l= []∨∃l' y,l=l'++ [y]:=by
 rcases List.eq_nil_or_concat l with h|⟨l',y,h⟩
 ·exact .inl h
 ·exact .inr ⟨l',y,by rw[h,List.concat_eq_append]⟩
structure Cmp{α:Type}(lt:α→α→Bool)(f:α→List Value)(M:Nat→Prop)(Iv:ad→Prop)(V:Value):Prop where
 call:∀(a b:α) {h:ad} {K:Int→ad→Prop},Iv h→(∀h' e,Upd No h h'→decide (e<0)=lt a b→K e h')→HV PG V [.agg (f a).toArray,.agg (f b).toArray] [.c (.int .i64)] K h
 step:∀{h h':ad},Upd M h h'→Iv h→Iv h'
end Go.Proofs
namespace Go.Proofs
theorem Ns:∀{n x:Nat},x<2^n→0<x→∃c,c<n∧x.testBit c=true∧∀j,j<c→x.testBit j=false
 |0,x,h,h'=>by simp at h;omega
 |n+1,x,h,h'=>by
  by_cases e:x%2=1
  ·exact⟨0,by omega,by rw[jE];simpa using e,fun j hj=>absurd hj (Nat.not_lt_zero _)⟩
  ·obtain⟨c,h1,h2,h3⟩:=Ns (n:=n) (x:=x/2) (by rw[Nat.pow_succ]at h;omega) (by omega)
   refine⟨c+1,by omega,by rw[gq];exact h2,fun j hj=>?_⟩
   cases j with
   |zero=>rw[jE];simpa using e
   |succ j=>rw[gq];exact h3 j (by omega)
theorem BC:∀{c x:Nat},x.testBit c=true→(∀j,j<c→x.testBit j=false)→∀i,(x-1).testBit i=if i<c then true else if i=c then false else x.testBit i
 |0,x,h,_,i=>by
  have h:x%2=1:=by rw[jE]at h;simpa using h
  cases i with
  |zero=>rw[jE,if_neg (by omega),if_pos rfl];simp;omega
  |succ i=>rw[gq,gq,if_neg (by omega),if_neg (by omega)];congr 1;omega
 |c+1,x,h,hl,i=>by
  have h0:=hl 0 (by omega);rw[jE]at h0;have h1:¬x%2=1:=by simpa using h0
  have h0:x%2=0:=by omega
  rw[gq]at h;have hpos:0<x/2:=by
   rcases eh (x/2)with e|e
   ·rw[e,ip]at h;cases h
   ·exact e
  cases i with
  |zero=>rw[jE,if_pos (by omega)];simp;omega
  |succ i=>
   have:=BC (x:=x/2) h (fun j hj=>by have:=hl (j+1) (by omega);rwa [gq]at this) i
   rw[gq,gq,show(x-1)/2=x/2-1 by omega,this]
   simp only[Nat.add_lt_add_iff_right,Nat.add_right_cancel_iff]
theorem O3{c x:Nat}(h:x.testBit c=true)(hl:∀j,j<c→x.testBit j=false)(hc:c<32)(hx:x<4294967296):x&&&(4294967296-x)=2^c:=by
 have hp:0<x:=by
  rcases eh x with e|e
  ·rw[e,ip]at h;cases h
  ·exact e
 refine Nat.eq_of_testBit_eq fun i=>?_
 have e:4294967296-x=2^32-((x-1)+1):=by omega
 rw[gY,e,Nat.testBit_two_pow_sub_succ (by omega),BC h hl,Nat.testBit_two_pow];by_cases h1:i<c
 ·rw[if_pos h1,hl i h1];simp;omega
 ·rw[if_neg h1]
  by_cases h2:i=c
  ·subst h2;simp[h,hc]
  ·rw[if_neg h2]
   cases x.testBit i<;>simp<;>omega
theorem L1{c x:Nat}(h:x.testBit c=true)(hl:∀j,j<c→x.testBit j=false)(i:Nat):(x&&&(x-1)).testBit i=(x.testBit i&&decide (c<i)):=by
 rw[gY,BC h hl];by_cases h1:i<c
 ·rw[if_pos h1,hl i h1];rfl
 ·rw[if_neg h1]
  by_cases h2:i=c
  ·subst h2;simp
  ·rw[if_neg h2]
   have:c<i:=by omega
   simp[this]
end Go.Proofs
namespace Go.Proofs
open Go Go.Lift
theorem Bs{W:Nat→Prop}{h:ad}{b:Nat}{sl:ByteArray}{w:Option ByteArray}{F:Fo}(r:RxN W h b sl w F){K:ByteArray→ad→Prop}(hk:K sl h):HC PG jW [.pointer (some ⟨b,0,none⟩)] [.c .str] K h:=by
 refine xd _ ?_;unfold qB bC;obtain⟨val,s,ow,ks,hb,_⟩:=r;exact al.2 ⟨_,rfl,sl,eH (i:=0) hb,hk⟩
theorem Bp{W:Nat→Prop}{h:ad}{b:Nat}{sl:ByteArray}{w:Option ByteArray}{F:Fo}(r:RxN W h b sl w F){K:ByteArray×Bool→ad→Prop}(hk:∀v,(∀u,w=some u→v=u)→K (v,w.isSome) h):HC PG jV [.pointer (some ⟨b,0,none⟩)] [.c .str,.c .bool] K h:=by
 refine xa _ ?_;unfold qz bC ge;obtain⟨val,s,ow,ks,hb,hv,_⟩:=r;exact al.2 ⟨_,rfl,val,eH (i:=2) hb,_,rfl,w.isSome,eH (i:=1) hb,hk val (vw hv)⟩
theorem DF{W:Nat→Prop}{h:ad}{b:Nat}{sl:ByteArray}{w:Option ByteArray}{F:Fo}(r:RxN W h b sl w F)(hn:F.toL.length≤256){K:SliceV→ad→Prop}(hk:∀s' h' ks,OwnS ul 1 bQ (fun y=>h.size≤y) h' s' ks→RxL W h' ks F.toL→Upd No h h'→K s' h'):HC PG kH [.pointer (some ⟨b,0,none⟩)] [.c .slice] K h:=by
 refine yf _ ?_;unfold re bG;obtain⟨val,s,ow,ks,hb,hv,hs,_,hF⟩:=r;have hL:=nr.1 hF;refine al.2 ⟨_,rfl,s,eH (i:=3) hb,?_⟩;refine El hs (by rw[hL.1];omega) fun s' h' ho hu=>hk s' h' ks ho (hL.upd0 hu) hu
theorem GJ(x:List UInt8):Op.bytesLess x []=false:=by cases x<;>rfl
theorem GG:(⟨#[]⟩:ByteArray).toList= []:=by rw[ByteArray.toList_eq]
theorem OU{k:ByteArray}{h:ad}{K:Bool→ad→Prop}(hk:∀h',Upd No h h'→K false h'):HC PG oC [.agg #[.string ⟨#[]⟩,.string ⟨#[]⟩,.bool true],.string k] [.c .bool] K h:=by
 refine zm (⟨#[]⟩,⟨#[]⟩,true) k ?_;unfold su jx av oz Oj;refine aG fun h1 b1 k1=>?_
 refine Join.intro (fun t h'=>t=false∧h'=h1) (fun R hR=>⟨true,vc b1 2,al.2 (hR _ _ ⟨rfl,rfl⟩)⟩) ?_
 rintro t h' ⟨rfl,rfl⟩;refine al.2 ⟨_,vc b1 0,?_⟩;rw[GG,GJ];exact al.2 (hk h' k1)
theorem GT{k:ByteArray}{h:ad}{K:Bool→ad→Prop}(hk:∀h',Upd No h h'→K true h'):HC PG pB [.agg #[.string ⟨#[]⟩,.string ⟨#[]⟩,.bool true],.string k] [.c .bool] K h:=by
 refine Aw (⟨#[]⟩,⟨#[]⟩,true) k ?_;unfold tR av oz Oj;refine aG fun h1 b1 k1=>⟨_,vc b1 0,?_⟩
 rw[GG,GJ];exact aw.2 ⟨true,vc b1 2,aw.2 (hk h1 k1)⟩
def It.Ok(W:Nat→Prop)(h:ad)(i:It):Prop:=RxN W h i.b i.sl i.w i.F∧gi i.F∧i.key.length≤10000∧∀p∈ma i.w i.F,i.key.length+p.1.length≤10000
theorem It.Ok.updM{W M:Nat→Prop}{h h':ad}(k:Upd M h h')(hm:∀b,M b→W b∨h.size≤b){i:It}(o:It.Ok W h i):It.Ok W h' i:=⟨o.1.updM k hm,o.2⟩
theorem KG{W:Nat→Prop}{h:ad}(ah:ByteArray):∀{ks:List (Option Addr)} {L:List Bn},RxL W h ks L→∃its:List It,its.map It.raw=ks.map (fun k=>(k,ah,false))∧its.map (fun i=>(i.sl.data.toList,i.w,i.F))=L∧∀i∈its,i.ah=ah∧i.own=false∧RxN W h i.b i.sl i.w i.F
 | [],[],_=>⟨[],rfl,rfl,by simp⟩
 | [],_::_,r=>absurd r.1 (by simp)
 |_::_,[],r=>absurd r.1 (by simp)
 |k::ks,n::L,r=>by
  obtain⟨its,h1,h2,h3⟩:=KG ah (ks:=ks) (L:=L) ⟨by simpa using r.1,fun p hp=>r.2 p (by rw[fE];exact aL _ hp)⟩
  obtain⟨b,sl,e1,e2,e3⟩:=r.2 (k,n) (by rw[fE];exact ar ..);simp only at e1 e2 e3;refine⟨⟨b,ah,false,sl,n.2.1,n.2.2⟩::its,?_,?_,?_⟩
  ·rw[co,co,h1,e1];rfl
  ·rw[co,h2];simp only[e2]
  ·intro i hi
   rcases aA.1 hi with rfl|hi
   ·exact⟨rfl,rfl,e3⟩
   ·exact h3 i hi
theorem DQ(lab:List UInt8)(w:Option ByteArray)(kids rest:Fo):vu (.cons lab w kids rest)=((w.map fun v=>(([]:List UInt8),v)).toList++vu kids).map (fun p=>(lab++p.1,p.2))++vu rest:=rfl
theorem LY(lab:List UInt8)(w:Option ByteArray)(kids rest:Fo):xX (.cons lab w kids rest)=1+xX kids+xX rest:=rfl
theorem Gz{ah:ByteArray}{key:List UInt8}(hk:ah.data.toList=key):∀{F:Fo} {its:List It},its.map (fun i=>(i.sl.data.toList,i.w,i.F))=F.toL→(∀i∈its,i.ah=ah∧i.own=false)→its.flatMap It.prs=(vu F).map fun p=>(key++p.1,p.2)
 | .nil,its,h,_=>by
  have:its= []:=by simpa[Fo.toL]using h
  rw[this];rfl
 | .cons lab w kids rest,[],h,_=>by simp[Fo.toL]at h
 | .cons lab w kids rest,i::its,h,ha=>by
  rw[Fo.toL_cons,co,fp.injEq]at h;obtain⟨h1,h2⟩:=h;simp only[nV.injEq]at h1;obtain⟨e1,e2,e3⟩:=h1;rw[aO,Gz hk h2 fun j hj=>ha j (aL _ hj)]
  obtain⟨a1,a2⟩:=ha i (ar ..);rw[DQ,cd,List.map_map];congr 1
  unfold It.prs It.key ma;rw[a2,a1,hk,e1,e2,e3];simp only[dG,if_false,aq,cd,Function.comp_def]
theorem Hb:∀{F:Fo} {its:List It},its.map (fun i=>(i.sl.data.toList,i.w,i.F))=F.toL→(∀i∈its,i.own=false)→jO its=2*xX F
 | .nil,its,h,_=>by
  have:its= []:=by simpa[Fo.toL]using h
  rw[this];rfl
 | .cons lab w kids rest,[],h,_=>by simp[Fo.toL]at h
 | .cons lab w kids rest,i::its,h,ha=>by
  rw[Fo.toL_cons,co,fp.injEq]at h;obtain⟨h1,h2⟩:=h;simp only[nV.injEq]at h1;have e:=Hb h2 fun j hj=>ha j (aL _ hj)
  unfold jO at e⊢;rw[co,jl,e];rw[LY];unfold It.cost;rw[ha i (ar ..),h1.2.2];simp only[dG,if_false];omega
theorem BL:∀l:List It,l.length≤jO l
 | []=>ao _
 |i::l=>by
  have:=BL l;unfold jO at this⊢;rw[co,jl,ax];have:1≤i.cost:=by unfold It.cost;split<;>omega
  omega
abbrev Pg(s:SliceV):Array Value:= #[sv s,.string (⟨#[]⟩:ByteArray),.string (⟨#[]⟩:ByteArray),.bool true,.bool false]
structure Cur(W:Nat→Prop)(h:ad)(cb:Nat)(C:Nat→Prop)(items:List It):Prop where
 ex:∃s,h[cb]? =some (.cells (Pg s) vM (0,0))∧OwnS La 3 dS C h s (items.map It.raw)
 ok:∀i∈items,It.Ok W h i
theorem Qh{W:Nat→Prop}{h h':ad}{i:It}(io:It.Ok W h i)(ho:i.own=false){its:List It}(e:its.map (fun i=>(i.sl.data.toList,i.w,i.F))=i.F.toL){ah:ByteArray}(ha:ah.data.toList=i.key)(hi:∀j∈its,j.ah=ah∧j.own=false∧RxN W h' j.b j.sl j.w j.F):∀j∈its,It.Ok W h' j:=by
 intro j hj;obtain⟨a1,a2,a3⟩:=hi j hj;have hm:(j.sl.data.toList,j.w,j.F)∈i.F.toL:=by rw[←e];exact gz.2 ⟨j,hj,rfl⟩
 have hcn:=(gf.1 io.2.1).2 _ hm;have hall:∀p∈ma j.w j.F,j.key.length+p.1.length≤10000:=fun p hp=>by
  have hin:tE i.F (j.sl.data.toList++p.1) p.2:=iH.2 ⟨_,hm,p.1,rfl,mq.1 (show(p.1,p.2)∈_ from hp)⟩
  have:=io.2.2.2 (j.sl.data.toList++p.1,p.2) (mq.2 (.inr hin));unfold It.key at this⊢;rw[a1,ha];unfold It.key;simp only[ac]at this⊢;omega
 obtain⟨r,v,hr⟩:=nA io.2.1 _ hm;have:=hall (r,v) (mq.2 hr);exact⟨a3,hcn.2.2,by simp only at this;omega,hall⟩
set_option maxHeartbeats 1000000 in
theorem OO{W C:Nat→Prop}{h:ad}{cb:Nat}{items:List It}{i:It}(cur:Cur W h cb C items)(io:It.Ok W h i)(ho:i.own=false)(hC:∀b,h.size≤b→C b)(hCW:∀b,C b→W b)(hcbW:W cb)(hcb:¬C cb)(hcost:jO items+i.cost≤100000000){K:Unit→ad→Prop}
  (hk:∀h' kids,Cur W h' cb C (items++kids)→sO kids=i.prs→jO kids<i.cost→Upd (fun b=>C b∨b=cb) h h'→K () h'):HC PG mU [.pointer (some ⟨cb,0,none⟩),.agg #[.pointer (some ⟨i.b,0,none⟩),.string i.ah,.bool i.own]] [] K h:=by
 refine wY (some ⟨cb,0,none⟩) i.raw ?_;unfold qt cf dd au bC av dL ge bG Px CW HL QV;obtain⟨s,aN,hst⟩:=cur.ex;refine aG fun h1 b1 k1=>?_
 have zc:=aJ aN;have s1:=k1.size;refine⟨i.ah,vc b1 1,_,vc b1 0,?_⟩;have io1:=io.updM (k1.wide (M:=C)) fun b hb=>.inl (hCW b hb)
 refine Bs io1.1 ⟨vc b1 1,?_,?_⟩
 ·have:=io.2.2.1
  unfold It.key at this;rw[ac]at this;have e1:i.ah.data.toList.length=i.ah.size:=by simp
  have e2:i.sl.data.toList.length=i.sl.size:=by simp
  omega
 have c1:=k1.get0 aN;refine⟨_,rfl,_,oh c1 1 0,_,oh c1 1 1,true,oh c1 1 2,?_⟩;refine OU fun h2 k2=>al.2 ⟨_,vc (k2.get0 b1) 0,i.ah,vc (k2.get0 b1) 1,?_⟩
 have k02:=k1.tr k2;refine aG fun h3 b3 k3=>⟨_,vc (k3.get0 (k2.get0 b1)) 0,?_⟩
 have k03:=k02.tr k3;have z3:=aJ b3;have s2:=k02.size;have io3:=io.updM (k03.wide (M:=C)) fun b hb=>.inl (hCW b hb)
 have hn:=kM io.2.1;refine DF io3.1 hn fun s4 h4 ks ho4 hL4 k4=>?_
 have k04:=k03.tr k4;have hs4:Sl ul 1 (fun b=>h2.size≤b∧b<h3.size∨h4.size≤b) h4 s4 ks:=ho4.sl fun b hb hlt hx=>by rcases hx with hx|hx<;>omega
 have hlk:ks.length≤256:=by rw[hL4.1];exact hn
 have hlen4:=hs4.len;have s34:=k4.size;let own:It:=⟨i.b,i.ah,true,i.sl,i.w,i.F⟩
 have o3:OwnS La 3 dS (fun b=>h2.size≤b∧b<h3.size∨h4.size≤b) h4 ⟨some (az h2),1,1⟩ [own.raw]:=⟨rfl,EA,ao _,.inr ⟨h2.size,[],rfl,.inl ⟨ao _,z3⟩,k4.get0 b3,rfl⟩⟩
 have eah:(i.ah++i.sl).data.toList=i.key:=by unfold It.key;rw[ByteArray.data_append,Array.toList_append]
 obtain⟨its,e1,e2,e3⟩:=KG (i.ah++i.sl) hL4;have hst4:=(hst.within.upd k04 fun _ _ h=>h)
 have c4:=k04.get0 aN;have hM:∀b,h4.size≤b→(h2.size≤b∧b<h3.size∨h4.size≤b):=fun b hb=>.inr hb
 refine LoopP.ghost (fun(n:Nat) (t:SliceV×Int) h'=>t.2=(n:Int)∧n≤ks.length∧OwnS La 3 dS (fun b=>h2.size≤b∧b<h3.size∨h4.size≤b) h' t.1 (own.raw::(ks.take n).map fun k=>(k,i.ah++i.sl,false))∧Upd (fun b=>h2.size≤b∧b<h3.size∨h4.size≤b) h4 h') (fun n=>ks.length-n) 0 ⟨rfl,aR _,by simpa using o3,Upd.refl _ _⟩ ?_
 rintro I n ⟨so,ti⟩ h' ⟨et,hnk,hso,hu⟩ hI;simp only at et hso;subst et;have hsz:=hu.size;refine aE (fun hlt=>?_) fun hge=>?_
 ·have hlt:n<ks.length:=by have:(n:Int)<(s4.len:Int):=hlt;omega
  obtain⟨a,ha,_,hv⟩:=(hs4.upd hu fun b hb=>.inl hb).at0 (af hlt)
  refine Join.intro (fun t h2'=>OwnS La 3 dS (fun b=>h2.size≤b∧b<h3.size∨h4.size≤b) h2' t (own.raw::(ks.take (n+1)).map fun k=>(k,i.ah++i.sl,false))∧Upd (fun b=>h2.size≤b∧b<h3.size∨h4.size≤b) h4 h2') (fun R hR=>⟨⟨by simp only;omega,by simp only;omega⟩,a,ha,ks[n],hv,aG fun h5 b5 k5=>?_⟩) ?_
  ·have o5:OwnS La 3 dS (fun _=>True) h5 ⟨some (az h'),1,1⟩ [(ks[n],i.ah++i.sl,false)]:=⟨rfl,EA,ao _,.inr ⟨h'.size,[],rfl,trivial,b5,rfl⟩⟩
   refine⟨_,(o5.sl (W:=No) fun _ _ _ h=>h).srow,?_⟩
   have s5:=k5.size;refine AppP.own (ys:= [(ks[n],i.ah++i.sl,false)]) (hso.upd k5 fun _ _ h=>h) rfl rfl rfl rfl (by omega) (by rw[ax,bF,List.length_take,aC];omega) (.inr (by omega)) fun s6 h6 ho6 hu6=>hR _ _ ⟨?_,(hu.tr k5.wide).tr hu6⟩
   rw[List.take_succ_eq_append_getElem hlt,cd];exact ho6
  ·rintro t h2' ⟨ho2,hu2⟩
   rw[cp hlt (by omega)];exact hI (n+1) _ _ ⟨rfl,hlt,ho2,hu2⟩ (by omega)
 ·have hnl:n=ks.length:=by have:¬(n:Int)<(s4.len:Int):=hge;omega
  subst hnl;rw[List.take_length,←e1]at hso;have hsub:∀b,(h2.size≤b∧b<h3.size∨h4.size≤b)→h.size≤b:=fun b hb=>by rcases hb with hb|hb<;>omega
  have hlits:its.length=ks.length:=by have:=congrArg dT e1;simpa using this
  refine Join.intro (fun _ h2'=>OwnS La 3 dS (fun b=>h2.size≤b∧b<h3.size∨h4.size≤b) h2' so (own.raw::its.map It.raw).reverse∧Upd (fun b=>h2.size≤b∧b<h3.size∨h4.size≤b) h4 h2') (fun R hR=>?_) ?_
  ·have c5:=hu.get c4 (fun hb=>by have:=hsub _ hb;omega)
   refine⟨_,rfl,false,vc c5 4,aw.2 ?_⟩;exact Ii hso (by rw[ax,bF];omega) fun h6 ho6 hu6=>hR _ _ ⟨ho6,hu.tr hu6⟩
  ·rintro _ h6 ⟨ho6,hu6⟩
   have c6:=hu6.get c4 (fun hb=>by have:=hsub _ hb;omega)
   have hst6:=hst4.upd hu6 fun b hb hx=>by have:=hsub _ hx;omega
   refine⟨_,rfl,s,vc c6 0,?_⟩;have s6:=hu6.size;refine⟨_,(ho6.sl (W:=No) fun _ _ _ h=>h).srow,?_⟩
   have hrl:=ho6.len;have hil:=BL items;have hmap:(own.raw::its.map It.raw).reverse=(its.reverse++ [own]).map It.raw:=by rw[List.reverse_cons,cd,List.map_reverse];rfl
   refine AppP.own (M:=C) (ys:=(own.raw::its.map It.raw).reverse) (hst6.more fun b hb=>hb.1) hrl rfl (Kv _) rfl (by omega) (by rw[List.length_reverse,ax,bF,bF];omega) (hC _ (by omega)) fun s7 h7 ho7 hu7=>?_
   have c7:=hu7.get c6 hcb;refine⟨_,rfl,?_⟩;refine rQ (i:=0) (c':=Pg s7) c7 (show 0<5 by decide) rfl fun h8 c8 hu8=>?_
   have ho8:=ho7.upd hu8 fun b hb e=>hcb (by have e:b=cb:=e;rw[←e];exact hb)
   rw[hmap,←cd]at ho8;have huC:Upd (fun b=>C b∨b=cb) h h8:=(((k04.wide (M:=C)).trans hu6 fun b hb=>.inr (hsub b hb)).tr hu7).mono (fun b hb=>.inl (.inl hb))|>.trans hu8 fun b hb=>.inl (.inr hb)
   have hupd:∀{j:It},It.Ok W h4 j→It.Ok W h8 j:=fun oj=>((oj.updM hu6 fun b hb=>.inl (hCW b (hC b (hsub b hb)))).updM hu7 fun b hb=>.inl (hCW b hb)).updM hu8 fun b hb=>.inl (by have hb:b=cb:=hb;rw[hb];exact hcbW)
   refine hk h8 (its.reverse++ [own]) ⟨⟨s7,c8,ho8⟩,fun j hj=>?_⟩ ?_ ?_ huC
   ·rcases bV.1 hj with hj|hj
    ·exact(cur.ok j hj).updM huC fun b hb=>.inl (hb.elim (hCW b) fun e=>e▸hcbW)
    ·rcases bV.1 hj with hj|hj
     ·exact hupd (Qh io ho e2 eah e3 j (List.mem_reverse.1 hj))
     ·rw[aB.1 hj]
      exact It.Ok.updM (i:=own) huC (fun b hb=>.inl (hb.elim (hCW b) fun e=>e▸hcbW)) ⟨io.1,io.2⟩
   ·rw[DI]
    unfold sO;rw[List.reverse_reverse,Gz eah e2 fun j hj=>⟨(e3 j hj).1,(e3 j hj).2.1⟩]
    show(i.w.map fun v=>(own.key,v)).toList++_=It.prs i
    have hke:own.key=i.key:=rfl;unfold It.prs ma;rw[ho,hke];simp only[dG,if_false,cd];congr 1
    cases i.w with
    |none=>rfl
    |some v=>simp
   ·rw[vn]
    have hc1:jO its.reverse=jO its:=by unfold jO;rw[List.map_reverse,List.sum_reverse]
    rw[hc1,Hb e2 fun j hj=>(e3 j hj).2.1]
    have:jO [own]=1:=rfl;rw[this];unfold It.cost;rw[ho];simp only[dG,if_false];omega
end Go.Proofs
namespace Go.Proofs
open Go Go.Lift
theorem Cur.upd{W C M:Nat→Prop}{h h':ad}{cb:Nat}{items:List It}(c:Cur W h cb C items)(k:Upd M h h')(hW:∀b,M b→W b∨h.size≤b)(hCm:∀b,C b→b<h.size→¬M b)(hcb:¬M cb):Cur W h' cb C items:=by
 obtain⟨s,h1,h2⟩:=c.ex;exact⟨⟨s,k.get h1 hcb,(h2.within.upd k fun b hb=>hCm b hb.1 hb.2).more fun b hb=>hb.1⟩,fun i hi=>(c.ok i hi).updM k hW⟩
theorem Cur.sub{W C C':Nat→Prop}{h:ad}{cb:Nat}{items:List It}(c:Cur W h cb C items)(hs:∀b,C b→b<h.size→C' b):Cur W h cb C' items:=by
 obtain⟨s,h1,h2⟩:=c.ex;exact⟨⟨s,h1,h2.within.more fun b hb=>hs b hb.1 hb.2⟩,c.ok⟩
set_option maxHeartbeats 1000000 in
theorem O0{W C:Nat→Prop}{h:ad}{cb:Nat}{items:List It}(cur:Cur W h cb C items)(hC:∀b,h.size≤b→C b)(hCW:∀b,C b→W b)(hcbW:W cb)(hcb:¬C cb)(hcost:jO items≤100000000){K:(ByteArray×ByteArray)×Bool→ad→Prop}
  (hn:∀h',sO items= []→Upd (fun b=>C b∨b=cb) h h'→K (((⟨#[]⟩:ByteArray),(⟨#[]⟩:ByteArray)),false) h')
  (hs:∀h' items' k v R,sO items=(k,v)::R→sO items'=R→jO items'≤jO items→Cur W h' cb C items'→Upd (fun b=>C b∨b=cb) h h'→K ((⟨k.toArray⟩,v),true) h'):
  HC PG mV [.pointer (some ⟨cb,0,none⟩)] [.agg [.str,.str],.c .bool] K h:=by
 refine wZ (some ⟨cb,0,none⟩) ?_;unfold qu cf dd au cJ jx bC av kU dL BR ge bG oz Px CW HL QL;refine aG fun h1 b1 k1=>al.2 ?_
 have z1:=aJ b1;obtain⟨s0,hc0,_⟩:=cur.ex;have zc:=aJ hc0;have s1:=k1.size;have hC1:∀b,h1.size≤b→C b∧b≠h.size:=fun b hb=>⟨hC b (by omega),by omega⟩
 have cur1:Cur W h1 cb (fun b=>C b∧b≠h.size) items:=(cur.sub fun b hb hlt=>(⟨hb,by omega⟩:C b∧b≠h.size)).upd k1 (fun _ h=>h.elim) (fun _ _ _ h=>h) fun h=>h
 refine LoopP.ghost (fun(its:List It) (_:Unit) h'=>Cur W h' cb (fun b=>C b∧b≠h.size) its∧sO its=sO items∧jO its≤jO items∧h'[h.size]? =some (.cells zPrL.toArray ag (0,0))∧Upd (fun b=>C b∨b=cb) h h'∧h1.size≤h'.size) jO items ⟨cur1,rfl,ao _,b1,k1.wide,ao _⟩ ?_
 rintro I its ⟨⟩ h' ⟨cu,hrem,hco,bz,hu,hsz⟩ hI;obtain⟨s,aN,hst⟩:=cu.ex;have hlen:=hst.len;rw[bF]at hlen;refine⟨_,rfl,s,vc aN 0,?_⟩;refine aE (fun hpos=>?_) fun hnp=>?_
 ·have hpos:0<its.length:=by omega
  obtain⟨its',i,rfl⟩:∃its' i,its=its'++ [i]:=⟨its.dropLast,its.getLast (by intro e;rw[e]at hpos;simp at hpos),(List.dropLast_concat_getLast _).symm⟩;rw[cd]at hst;rw[ac,aC]at hlen;have hil:=BL (its'++ [i]);rw[ac,aC]at hil;have eidx:IntKind.wrap .i64 ((s.len:Int)-1)=((its'.length:Nat):Int):=by rw[jm (by omega)];omega
  have sl:=hst.sl (W:=No) fun _ _ _ h=>h
  obtain⟨a,ha,_,hv⟩:=sl.at (i:=its'.length) (x:=i.raw) (by rw[aQ (by rw[bF];omega),bF,fV];rfl);have hio:=cu.ok i (List.mem_append_right _ (aB.2 rfl));refine⟨_,rfl,s,vc aN 0,_,rfl,s,vc aN 0,?_⟩;rw[eidx];refine⟨⟨by omega,by omega⟩,a,ha,some ⟨i.b,0,none⟩,hv 0 _ rfl,i.ah,hv 1 _ rfl,i.own,hv 2 _ rfl,?_⟩
  refine aG fun h2 b2 k2=>?_
  have sl2:=sl.upd k2 fun _ h=>h.elim
  obtain⟨a',ha',_,hv2⟩:=sl2.at (i:=its'.length) (x:=i.raw) (by rw[aQ (by rw[bF];omega),bF,fV];rfl);rw[ha]at ha';cases ha';have c2:=k2.get0 aN;refine⟨⟨hv2 0 _ rfl,hv2 1 _ rfl,hv2 2 _ rfl⟩,vc c2 0,vc c2 0,?_⟩;refine bo (c:= [.pointer none,.string (⟨#[]⟩:ByteArray),.bool false]) (vs:= [.pointer (some ⟨i.b,0,none⟩),.string i.ah,.bool i.own]) b2 rfl fun h3 b3 hu3=>?_
  have k3:Upd No h' h3:=k2.own hu3 (ao _);have c3:=k3.get0 aN;have zcb:=aJ aN;have z3:=aJ b3;have s3:=k3.size;refine⟨_,rfl,s,vc c3 0,_,rfl,s,vc c3 0,?_⟩;rw[eidx];have hcap:=hst.cap;refine⟨⟨by omega,by omega⟩,?_⟩
  simp only[Bd];refine⟨_,rfl,?_⟩;refine rQ (i:=0) (c':=Pg ⟨aY s.a 0 s.cap 3,its'.length,s.cap⟩) c3 (show 0<5 by decide) rfl fun h4 c4 hu4=>?_
  have b4:=hu4.oth b3 (by omega);have bz4:=hu4.oth (k3.get0 bz) (by omega);have hpop:=OwnS.pop hst;have hst4:=((hpop.upd k3 fun _ _ h=>h).upd hu4 fun b hb e=>hcb (by have e:b=cb:=e;rw[←e];exact hb.1))
  rw[bF]at hst4;have huW:∀{j},It.Ok W h' j→It.Ok W h4 j:=fun oj=>(oj.updM k3 fun _ h=>h.elim).updM hu4 fun b hb=>.inl (by have hb:b=cb:=hb;rw[hb];exact hcbW)
  have cu4:Cur W h4 cb (fun b=>C b∧b≠h.size) its':=⟨⟨_,c4,hst4⟩,fun j hj=>huW (cu.ok j (List.mem_append_left _ hj))⟩
  have hio4:=huW hio;have hu04:Upd (fun b=>C b∨b=cb) h h4:=(hu.tr k3.wide).trans hu4 fun b hb=>.inl (.inr hb)
  have s4:=hu4.size;have hcs:jO (its'++ [i])=jO its'+i.cost:=by rw[vn];rfl
  have hrs:=DI its' i;have hic:1≤i.cost:=by unfold It.cost;split<;>omega
  refine⟨i.own,vc b4 2,?_⟩;cases how:i.own with
  |false=>
   refine aw.2 ⟨_,vc b4 0,i.ah,vc b4 1,i.own,vc b4 2,?_⟩;refine OO cu4 hio4 how (fun b hb=>hC1 b (by omega)) (fun b hb=>hCW b hb.1) hcbW (fun hx=>hcb hx.1) (by omega) fun h5 kids cu5 hr5 hc5 hu5=>?_
   have hu5':Upd (fun b=>C b∨b=cb) h4 h5:=hu5.mono fun b hb=>.inl (hb.imp (fun h=>h.1) id)
   refine hI (its'++kids) () h5 ⟨cu5,?_,?_,hu5.get bz4 (fun hx=>by rcases hx with hx|hx;exact hx.2 rfl;omega),hu04.tr hu5',by have:=hu5.size;omega⟩ ?_
   ·rw[M5,hr5,←hrem,hrs]
   ·rw[vn];omega
   ·rw[vn];omega
  |true=>
   refine al.2 ⟨i.ah,vc b4 1,_,vc b4 0,?_⟩;refine Bs hio4.1 ⟨vc b4 1,?_,?_⟩
   ·have:=hio.2.2.1
    unfold It.key at this;rw[ac]at this;have e1:i.ah.data.toList.length=i.ah.size:=by simp
    have e2:i.sl.data.toList.length=i.sl.size:=by simp
    omega
   refine⟨_,vc b4 0,Bp hio4.1 fun v hvw=>?_⟩
   have hpr:i.prs=(i.w.map fun v=>(i.key,v)).toList:=by unfold It.prs;rw[how];rfl
   have ekey:(⟨i.key.toArray⟩:ByteArray)=i.ah++i.sl:=by rw[←wT,ByteArray.data_append,Array.toList_append];rfl
   refine Join.intro (fun t h5=>t=i.w.isSome∧Upd No h4 h5) (fun R hR=>?_) ?_
   ·cases hw:i.w with
    |none=>exact al.2 (hR _ _ ⟨by rw[hw];rfl,Upd.refl _ _⟩)
    |some u=>exact aw.2 ⟨_,rfl,_,oh c4 1 0,_,oh c4 1 1,true,oh c4 1 2,GT fun h5 k5=>hR _ _ ⟨by rw[hw];rfl,k5⟩⟩
   ·rintro t h5 ⟨rfl,k5⟩
    have cu5:Cur W h5 cb (fun b=>C b∧b≠h.size) its':=cu4.upd k5 (fun _ h=>h.elim) (fun _ _ _ h=>h) fun h=>h
    have bz5:=k5.get0 bz4;have hu05:=hu04.tr (k5.wide (M:=fun b=>C b∨b=cb))
    have s5:=k5.size;cases hw:i.w with
    |none=>
     refine al.2 (hI its' () h5 ⟨cu5,?_,by omega,bz5,hu05,by omega⟩ (by omega))
     rw[←hrem,hrs,hpr,hw];rfl
    |some u=>
     have hvu:=hvw u hw;subst hvu;refine aw.2 ?_;refine bo (c:=zPrL) (vs:= [.string (i.ah++i.sl),.string v]) bz5 rfl fun h6 b6 hu6=>?_
     refine⟨_,vc b6 0,_,vc b6 1,?_⟩;rw[←ekey];refine hs h6 its' i.key v (sO its') (by rw[←hrem,hrs,hpr,hw];rfl) rfl (by omega) ?_ (hu05.trans hu6 fun b hb=>.inr (eg (Eq.symm hb)))
     exact(cu5.upd hu6 (fun b hb=>.inl (hCW b (hC b (eg (Eq.symm hb))))) (fun b hb _ e=>hb.2 e) (by show ¬cb=h.size;omega)).sub fun b hb _=>hb.1
 ·have h0:its= []:=List.length_eq_zero_iff.1 (by omega)
  subst h0;refine bo (c:=zPrL) (vs:=zPrL) bz rfl fun h6 b6 hu6=>?_
  refine⟨_,vc b6 0,_,vc b6 1,hn h6 hrem.symm (hu.trans hu6 fun b hb=>.inr (eg (Eq.symm hb)))⟩
end Go.Proofs
