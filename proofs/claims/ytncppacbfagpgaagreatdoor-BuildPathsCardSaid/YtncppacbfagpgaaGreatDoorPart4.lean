/- A part of the proof that the named laws of this program answer true, whatever the input. -/
import Derived.Test.YtncppacbfagpgaaGreatDoorPart3
import Derived.Test.YtncppacbfagpgaaGreatDoorLift3
import Derived.Test.YtncppacbfagpgaaGreatDoorPart0
open ByteArray renaming mk→lu
open Int renaming tmod→eX
open List renaming mem_cons→ay,append_assoc→al,length_append→ac,length_singleton→aD,cons→eL,length_cons→aq,flatMap_cons→aQ,getElem?_eq_getElem→ai,length_set→gn,flatMap_append→bL,getElem?_append_right→av,getElem?_append_left→aY,getElem?_eq_some_iff→aV
open Nat renaming le_refl→ao,zero_add→aF,lt_of_lt_of_le→aL,zero_le→bi,mul_le_mul_right→dM
namespace Go.Proofs
open Go Go.Lift
theorem ox{p q:Pr}:∀{l:List Pr},cW l→(q∈g6 p l↔q=p∨(q∈l∧q.1≠p.1))
 | [],_=>by simp[g6]
 |r::l,hr=>by
  have hr:=List.pairwise_cons.1 hr;rw[gH];by_cases h1:kl r.1 p.1
  ·have hne:r.1≠p.1:=fun e=>by rw[e]at h1;exact cI _ h1
   rw[if_pos h1,ay,ay,ox hr.2];constructor
   ·rintro(rfl|h|⟨h,h'⟩)
    ·exact .inr ⟨.inl rfl,hne⟩
    ·exact .inl h
    ·exact .inr ⟨.inr h,h'⟩
   ·rintro(h|⟨h|h,h'⟩)
    ·exact .inr (.inl h)
    ·exact .inl h
    ·exact .inr (.inr ⟨h,h'⟩)
  ·rw[if_neg h1]
   by_cases h2:r.1=p.1
   ·rw[if_pos h2,ay,ay]
    constructor
    ·rintro(h|h)
     ·exact .inl h
     ·refine .inr ⟨.inr h,fun e=>?_⟩
      have:=hr.1 q h;rw[e,h2]at this;exact cI _ this
    ·rintro(h|⟨rfl|h,h'⟩)
     ·exact .inl h
     ·exact absurd h2 h'
     ·exact .inr h
   ·rw[if_neg h2,ay,ay]
    have h3:=rW h1 h2;constructor
    ·rintro(h|rfl|h)
     ·exact .inl h
     ·exact .inr ⟨.inl rfl,h2⟩
     ·refine .inr ⟨.inr h,fun e=>?_⟩
      have:=jD h3 (hr.1 q h);rw[e]at this;exact cI _ this
    ·rintro(h|⟨rfl|h,h'⟩)
     ·exact .inl h
     ·exact .inr (.inl rfl)
     ·exact .inr (.inr h)
def RadRoot(W:Nat→Prop)(h:ae)(r:Option Addr)(l:List Pr):Prop:=(r=none∧l= [])∨∃b,r=some ⟨b,0,none⟩∧RadAt W h b l
theorem RadRoot.upd0{W:Nat→Prop}{h h':ae}{r:Option Addr}{l:List Pr}(k:Upd No h h')(t:RadRoot W h r l):RadRoot W h' r l:=t.imp id fun⟨b,e,t⟩=>⟨b,e,t.upd0 k⟩
theorem nI{a b:ByteArray}:a.data.toList=b.data.toList↔a=b:=by
 constructor
 ·intro h;cases a;cases b;exact congrArg lu (Array.toList_inj.1 h)
 ·rintro rfl;rfl
theorem AX{W:Nat→Prop}{h:ae}(hW:∀y,W y→y<h.size){K:Option Addr→ae→Prop}(hk:∀h' b,RadAt W h' b []→Upd No h h'→K (some ⟨b,0,none⟩) h'):HC PG oa [] [.c .ptr] K h:=by
 refine CH ?_;unfold uQ;refine aX (hk _ h.size ⟨none,.nil,⟨⟨#[]⟩,⟨none,0,0⟩,none,[],bK h Ng bj,rfl,Sl.nil kw,⟨ao _,fun hx=>Nat.lt_irrefl _ (hW _ hx)⟩,rfl⟩,trivial,fun k v=>?_⟩ (Upd.hnew No h _ _))
 simp[rS,vf]
theorem Dp{W:Nat→Prop}{h:ae}{r:Option Addr}{l:List Pr}(t:RadRoot W h r l)(hW:∀y,W y→y<h.size){K:Option Addr→ae→Prop}(hk:∀h' b,RadAt W h' b l→Upd No h h'→(r=some ⟨b,0,none⟩∨r=none)→K (some ⟨b,0,none⟩) h'):HC PG ph [.pointer r] [.c .ptr] K h:=by
 refine E2 r ?_;unfold xk;rcases t with⟨rfl,rfl⟩|⟨b,rfl,t⟩
 ·exact ax.2 (AX hW fun h' b t hu=>hk h' b t hu (.inr rfl))
 ·exact ak.2 (hk h b t (Upd.refl _ _) (.inl rfl))
theorem FM{W:Nat→Prop}{h:ae}{r:Option Addr}{l:List Pr}(t:RadRoot W h r l)(hW:∀y,W y→y<h.size)(hr:cW l)(p:Pr)(hp:p.1.size≤1000000){K:Option Addr×Bool→ae→Prop}
  (hk:∀h' b' added,Upd No h h'→RadAt W h' b' (g6 p l)→(p∈l→r=some ⟨b',0,none⟩∨r=none)→K (some ⟨b',0,none⟩,added) h'):
  HC PG tu [.pointer none,.pointer r,.agg #[.string p.1,.string p.2]] [.c .ptr,.c .bool] K h:=by
 refine GG none r p ?_;unfold zB af;have k1:=Upd.hnew No h [.string p.1,.string p.2] aj;have b1:=bK h [.string p.1,.string p.2] aj;refine aX ?_;simp only[cq h];generalize hnew h [.string p.1,.string p.2] aj=h1 at k1 b1;have w1:∀{h':ae},Upd No h1 h'→∀i,aE h' (adr ⟨h.size,0,none⟩ i)=(#[.string p.1,.string p.2]:Array Value)[i]?:=fun k i=>by rw[bQ,aS (k.get0 b1),aF]
 have r0:=Upd.refl No h1;refine⟨p.1,w1 r0 0,p.2,w1 r0 1,Dp (t.upd0 k1) (fun y hy=>aL (hW y hy) k1.size) fun h2 b t2 hu2 hb=>⟨w1 hu2 1,w1 hu2 0,?_⟩⟩
 obtain⟨w,F,r1,r2,r3⟩:=t2.ex;refine Li (p.1.size+1) p.1 p.2 (by omega) hp r1 (fun y hy=>aL (hW y hy) (k1.tr hu2).size) r2 fun h3 b3 w' F' added ch hu3 rn3 hc3 hp3 hsm hch=>?_
 refine hk h3 b3 added ((k1.tr hu2).tr hu3) ⟨w',F',rn3,hc3,fun k v=>?_⟩ fun hm=>?_
 ·rw[ij,hp3 k v,←ij,r3 k v]
  constructor
  ·rintro(⟨rfl,rfl⟩|⟨hne,q,hq,rfl,rfl⟩)
   ·exact⟨p,(ox hr).2 (.inl rfl),rfl,rfl⟩
   ·exact⟨q,(ox hr).2 (.inr ⟨hq,fun e=>hne (by rw[e])⟩),rfl,rfl⟩
  ·rintro⟨q,hq,rfl,rfl⟩
   rcases(ox hr).1 hq with rfl|⟨hq,hne⟩
   ·exact .inl ⟨rfl,rfl⟩
   ·exact .inr ⟨fun e=>hne (nI.1 e),q,hq,rfl,rfl⟩
 ·have:=hch (ij.1 ((r3 _ _).2 ⟨p,hm,rfl,rfl⟩))
  rw[(hsm this).1];exact hb
def KG(l:List Pr)(xs:List UInt8):Prop:=∃w F,eS F∧rS w F=Cj l∧xs=mc ([],w,F)
theorem wC{w:Option ByteArray}{F:Fo}{l:List Pr}(hc:eS F)(hp:rS w F=Cj l)(hf:Fit l):GL F∧∀v,w=some v→v.size≤10000:=by
 have hm:∀k v,oZ w F k v→k.length≤10000∧v.size≤10000:=fun k v hi=>by
  have:=ij.2 hi;rw[hp]at this;obtain⟨q,hq,e⟩:=List.mem_map.1 this;cases e;have:=hf q hq;exact⟨by simpa using this.1,this.2⟩
 exact⟨H0 hc fun k v hi=>hm k v (.inr hi),fun v hv=>(hm [] v (.inl ⟨rfl,hv⟩)).2⟩
theorem MA{l l':List Pr}{xs xs':List UInt8}(h:KG l xs)(h':KG l' xs')(hf:Fit l)(hf':Fit l'):xs=xs'↔l=l':=by
 obtain⟨w,F,c,e,rfl⟩:=h;obtain⟨w',F',c',e',rfl⟩:=h';have f1:=wC c e hf;have f2:=wC c' e' hf';constructor
 ·intro hx
  have hx:mc ([],w,F)++ []=mc ([],w',F')++ []:=by rw[hx]
  unfold mc at hx;simp only[al]at hx;obtain⟨_,e2,e3,hx⟩:=DF (bi _) (bi _) f1.2 f2.2 (iL c) (iL c') hx;obtain⟨e4,_⟩:=u7 f1.1 f2.1 e3 hx;exact Ec (by rw[←e,←e',e2,e4])
 ·rintro rfl
  obtain⟨e2,e4⟩:=Lm c c' (e.trans e'.symm);rw[e2,e4]
theorem FN{l:List Pr}{xs:List UInt8}(h:KG l xs)(hf:Fit l):xs.length≤20010+2*l.length*20010:=by
 obtain⟨w,F,c,e,rfl⟩:=h;have f1:=wC c e hf;have h1:=DE (lab:= []) (n:=F.toL.length) (bi _) f1.2;have h2:=u6 f1.1;have h3:=Aq c;have h4:=congrArg List.length e;unfold rS Cj at h4;rw[ac,List.length_map]at h4;have h5:wG F*20010≤2*l.length*20010:=dM _ (by omega);unfold mc;rw[ac];simp only;omega
theorem FO{W:Nat→Prop}{h:ae}{b:Nat}{l:List Pr}(t:RadAt W h b l)(hr:cW l)(hf:Fit l)(hn:l.length≤60000){K:SliceV→ae→Prop}
  (hk:∀s' h' xs,KG l xs→OwnS q9 1 dQ (fun y=>h.size≤y) h' s' xs→Upd No h h'→K s' h'):HC PG qM [.pointer (some ⟨b,0,none⟩)] [.c .slice] K h:=by
 refine CG _ ?_;unfold uP;refine ak.2 ?_;obtain⟨w,F,r1,r2,r3⟩:=t.ex;have hp:=IZ r2 hr r3;have f1:=wC r2 hp hf;have hv:KG l (mc ([],w,F)):=⟨w,F,r2,hp,rfl⟩;have hl:=FN hv hf;exact Le (lab:= []) (bi _) f1.2 (iL r2) (Ei f1.1) (s:=⟨none,0,0⟩) (xs:= []) (M:=fun y=>h.size≤y) r1 rfl (Upd.refl _ _) (fun _ h=>h) (OwnS.nil yn) (fun _ h=>h) (by rw[List.length_nil];omega) fun s' h' ho hu=>hk s' h' _ hv ho (hu.mono fun y hy=>.inr hy)
end Go.Proofs
namespace Go.Proofs
open Go Go.Lift
theorem bH{h:ae}{cs:List Value}{t:TypeId}{k:ae→Prop}(hk:∀h',h'[h.size]? =some (.cells cs.toArray t (0,0))→Upd No h h'→k h'):At (hnew h cs t) k:=
 aX (hk _ (bK h cs t) (Upd.hnew No h cs t))
theorem vc{h:ae}{b:Nat}{c:Array Value}{t:TypeId}(hb:h[b]? =some (.cells c t (0,0))) (i:Nat):aE h (adr ⟨b,0,none⟩ i)=c[i]?:=by rw[bQ,aF];exact aS hb
theorem yY{h:ae}{b:Nat}{c:Array Value}{t:TypeId}(hb:h[b]? =some (.cells c t (0,0))) (i j:Nat):aE h (adr (adr ⟨b,0,none⟩ i) j)=c[i+j]?:=by rw[bQ,bQ,aF];exact aS hb
theorem AD{h:ae}{b i:Nat}{c c':Array Value}{t:TypeId}{v:Value}{k:ae→Prop}(hb:h[b]? =some (.cells c t (0,0))) (hi:i<c.size) (e:c.setIfInBounds i v=c') (hk:∀h',h'[b]? =some (.cells c' t (0,0))→Upd (· =b) h h'→k h'):Wr h (adr ⟨b,0,none⟩ i)∧At (hset h (adr ⟨b,0,none⟩ i) v) k:=by
 rw[bQ,aF];exact⟨gN hb hi,sh hb fun h' hb' hu=>hk h' (e▸hb') hu⟩
theorem _root_.Go.Lift.Upd.own{h h1 h2:ae}{b:Nat}(k:Upd No h h1)(hu:Upd (· =b) h1 h2)(hb:h.size≤b):Upd No h h2:=k.trans hu fun x hx=>.inr (by have hx:x=b:=hx;omega)
theorem _root_.Go.Lift.Upd.oth{h h':ae}{b c:Nat}{o:Obj}(hu:Upd (· =b) h h')(hc:h[c]? =some o) (hne:c≠b):h'[c]? =some o:=hu.get hc hne
abbrev Tr:=Int×Int×Int×Int×(Option Addr)×(Option Addr)
abbrev nR(t:Tr):List Value:= [.int .i64 t.1,.int .u64 t.2.1,.int .u64 t.2.2.1,.int .u64 t.2.2.2.1,.pointer t.2.2.2.2.1,.pointer t.2.2.2.2.2]
abbrev Mf(t:Tr):Value:=.agg #[.int .i64 t.1,.int .u64 t.2.1,.int .u64 t.2.2.1,.int .u64 t.2.2.2.1,.pointer t.2.2.2.2.1,.pointer t.2.2.2.2.2]
def Pro(W:Nat→Prop)(h h2:ae)(y:Nat):Prop:=W y∨(h.size≤y∧y<h2.size)
theorem Pro.lt{W:Nat→Prop}{h h2:ae}(hW:∀y,W y→y<h.size)(k:Upd No h h2):∀y,Pro W h h2 y→y<h2.size:=fun y hy=>hy.elim (fun h=>aL (hW y h) k.size) fun h=>h.2
theorem Pro.hm{W:Nat→Prop}{h h2:ae}:∀y,Pro W h h2 y→W y∨h.size≤y:=fun _ hy=>hy.imp id fun h=>h.1
theorem Pro.sub{W:Nat→Prop}{h h2 h3:ae}:∀y,W y→Pro W h h2 y∨h3.size≤y:=fun _ hy=>.inl (.inl hy)
theorem RootAt.less{W W':Nat→Prop}{x:Hs}{h:ae}(hm:∀b,W' b→W b∨h.size≤b){r:Option Addr}{l:List Pr}(t:RootAt W x h r l):RootAt W' x h r l:=t.imp id fun⟨b,e,t⟩=>⟨b,e,TrieAt.less hm t⟩
theorem RadRoot.less{W W':Nat→Prop}{h:ae}(hm:∀b,W' b→W b∨h.size≤b){r:Option Addr}{l:List Pr}(t:RadRoot W h r l):RadRoot W' h r l:=t.imp id fun⟨b,e,t⟩=>⟨b,e,t.less hm⟩
def TreeIs(W:Nat→Prop)(h:ae)(kind:Int)(x:Hs)(t:Tr)(l:List Pr):Prop:=(kind=0∧∃b,t=(0,x.k0,x.k1,x.mask,some ⟨b,0,none⟩,none)∧TrieAt W x h 13 b l)∨(kind=1∧∃b,t=(1,0,0,0,none,some ⟨b,0,none⟩)∧RadAt W h b l)
theorem TreeIs.upd0{W:Nat→Prop}{h h':ae}{kind:Int}{x:Hs}{t:Tr}{l:List Pr}(k:Upd No h h')(i:TreeIs W h kind x t l):TreeIs W h' kind x t l:=
 i.imp (fun⟨e,b,e2,t⟩=>⟨e,b,e2,TrieAt.upd0 k t⟩) fun⟨e,b,e2,t⟩=>⟨e,b,e2,t.upd0 k⟩
theorem TreeIs.less{W W':Nat→Prop}{h:ae}(hm:∀b,W' b→W b∨h.size≤b){kind:Int}{x:Hs}{t:Tr}{l:List Pr}(i:TreeIs W h kind x t l):TreeIs W' h kind x t l:=
 i.imp (fun⟨e,b,e2,t⟩=>⟨e,b,e2,TrieAt.less hm t⟩) fun⟨e,b,e2,t⟩=>⟨e,b,e2,t.less hm⟩
theorem TreeIs.updM{W M:Nat→Prop}{h h':ae}(k:Upd M h h')(hm:∀b,M b→W b∨h.size≤b){kind:Int}{x:Hs}{t:Tr}{l:List Pr}(i:TreeIs W h kind x t l):TreeIs W h' kind x t l:=
 i.imp (fun⟨e,b,e2,t⟩=>⟨e,b,e2,TrieAt.updM k hm t⟩) fun⟨e,b,e2,t⟩=>⟨e,b,e2,t.updM k hm⟩
theorem TreeIs.pro{W:Nat→Prop}{h h2:ae}(k:Upd No h h2){kind:Int}{x:Hs}{t:Tr}{l:List Pr}(i:TreeIs W h kind x t l):TreeIs (Pro W h h2) h2 kind x t l:=(i.less Pro.hm).upd0 k
theorem Cx{W:Nat→Prop}{x:Hs}{h:ae}(hW:∀y,W y→y<h.size){K:Option Addr→ae→Prop}(hk:∀h' b,TrieAt W x h' 13 b []→Upd No h h'→K (some ⟨b,0,none⟩) h'):HC PG lQ [] [.c .ptr] K h:=by
 refine uI ?_;unfold qX;exact mI hW fun h' b nd hu=>hk h' b (FA nd) hu
abbrev G5:Tr:=(0,0,0,0,none,none)
theorem y7{W:Nat→Prop}{x:Hs}{h:ae}{r:Option Addr}{l:List Pr}(t:RootAt W x h r l)(hW:∀y,W y→y<h.size){K:Tr→ae→Prop}(hk:∀h' t,TreeIs W h' 0 x t l→Upd No h h'→K t h'):HC PG mP [.agg #[.int .u64 x.k0,.int .u64 x.k1,.int .u64 x.mask],.pointer r] [.agg [.int .i64,.int .u64,.int .u64,.int .u64,.ptr,.ptr]] K h:=by
 refine BL (x.k0,x.k1,x.mask) r ?_;unfold tG af;refine bH fun h1 b1 k1=>bH fun h2 b2 k2=>?_
 have z1:=bD b1;have z2:=bD b2;have k02:=k1.tr k2;refine Join.intro (fun t h'=>Upd No h2 h'∧∃b,t=some ⟨b,0,none⟩∧TrieAt (Pro W h h2) x h' 13 b l) (fun R hR=>?_) ?_
 ·rcases t with⟨rfl,rfl⟩|⟨b,rfl,t⟩
  ·exact ax.2 (Cx (Pro.lt hW k02) fun h3 b t hu3=>hR _ _ ⟨hu3,b,rfl,t⟩)
  ·exact ak.2 (hR _ _ ⟨Upd.refl _ _,b,rfl,TrieAt.upd0 k02 (TrieAt.less Pro.hm t)⟩)
 ·rintro t3 h3 ⟨hu3,b,rfl,t3⟩
  have c1:=hu3.get0 (k2.get0 b1);refine⟨_,vc c1 0,_,vc c1 1,_,vc c1 2,?_⟩;refine f7 (c:=nR G5) (vs:=nR (0,x.k0,x.k1,x.mask,some ⟨b,0,none⟩,none)) (hu3.get0 b2) rfl fun h4 b4 hu4=>?_
  refine⟨_,vc b4 0,_,vc b4 1,_,vc b4 2,_,vc b4 3,_,vc b4 4,_,vc b4 5,?_⟩;have hb1:h.size≤h1.size:=k1.size;exact hk h4 _ (.inl ⟨rfl,b,rfl,TrieAt.less Pro.sub (TrieAt.updM hu4 (fun y hy=>.inl (.inr (by have hy:y=h1.size:=hy;omega))) t3)⟩) ((k02.tr hu3).own hu4 hb1)
theorem y6{W:Nat→Prop}{x:Hs}{h:ae}{r:Option Addr}{l:List Pr}(t:RadRoot W h r l)(hW:∀y,W y→y<h.size){K:Tr→ae→Prop}(hk:∀h' t,TreeIs W h' 1 x t l→Upd No h h'→K t h'):HC PG mO [.pointer r] [.agg [.int .i64,.int .u64,.int .u64,.int .u64,.ptr,.ptr]] K h:=by
 refine BK r ?_;unfold tF af;refine bH fun h2 b2 k02=>?_
 have z2:=bD b2;refine Join.intro (fun t h'=>Upd No h2 h'∧∃b,t=some ⟨b,0,none⟩∧RadAt (Pro W h h2) h' b l) (fun R hR=>?_) ?_
 ·rcases t with⟨rfl,rfl⟩|⟨b,rfl,t⟩
  ·exact ax.2 (AX (Pro.lt hW k02) fun h3 b t hu3=>hR _ _ ⟨hu3,b,rfl,t⟩)
  ·exact ak.2 (hR _ _ ⟨Upd.refl _ _,b,rfl,(t.less Pro.hm).upd0 k02⟩)
 ·rintro t3 h3 ⟨hu3,b,rfl,t3⟩
  refine f7 (c:=nR G5) (vs:=nR (1,0,0,0,none,some ⟨b,0,none⟩)) (hu3.get0 b2) rfl fun h4 b4 hu4=>?_
  refine⟨_,vc b4 0,_,vc b4 1,_,vc b4 2,_,vc b4 3,_,vc b4 4,_,vc b4 5,?_⟩;exact hk h4 _ (.inr ⟨rfl,b,rfl,(t3.updM hu4 (fun y hy=>.inl (.inr (by have hy:y=h.size:=hy;omega)))).less Pro.sub⟩) ((k02.tr hu3).own hu4 (ao _))
theorem IV{W:Nat→Prop}{x:Hs}{h:ae}(hW:∀y,W y→y<h.size){kind:Int}(hkd:kind=0∨kind=1){K:Tr×Int→ae→Prop}(hk:∀h' t,TreeIs W h' kind x t []→Upd No h h'→K (t,0) h'):HC PG rZ [.int .i64 kind,.agg #[.int .u64 x.k0,.int .u64 x.k1,.int .u64 x.mask]] [.agg [.int .i64,.int .u64,.int .u64,.int .u64,.ptr,.ptr],.c (.int .i64)] K h:=by
 refine Im kind (x.k0,x.k1,x.mask) ?_;unfold BT af;refine bH fun h1 b1 k1=>bH fun h2 b2 k2=>?_
 have z1:=bD b1;have z2:=bD b2;have k02:=k1.tr k2;have hb1:h.size≤h1.size:=k1.size;have c1:=k2.get0 b1;rcases hkd with rfl|rfl
 ·refine ax.2 ⟨_,vc c1 0,_,vc c1 1,_,vc c1 2,?_⟩
  refine y7 (W:=Pro W h h2) (x:=x) (l:= []) (.inl ⟨rfl,rfl⟩) (Pro.lt hW k02) fun h3 t i3 hu3=>?_
  refine f7 (c:=nR G5) (vs:=nR t) (hu3.get0 b2) rfl fun h4 b4 hu4=>?_
  refine⟨_,vc b4 0,_,vc b4 1,_,vc b4 2,_,vc b4 3,_,vc b4 4,_,vc b4 5,?_⟩;exact hk h4 t ((i3.updM hu4 (fun y hy=>.inl (.inr (by have hy:y=h1.size:=hy;omega)))).less Pro.sub) ((k02.tr hu3).own hu4 hb1)
 ·refine ak.2 (ax.2 ?_)
  refine y6 (W:=Pro W h h2) (x:=x) (l:= []) (.inl ⟨rfl,rfl⟩) (Pro.lt hW k02) fun h3 t i3 hu3=>?_
  refine f7 (c:=nR G5) (vs:=nR t) (hu3.get0 b2) rfl fun h4 b4 hu4=>?_
  refine⟨_,vc b4 0,_,vc b4 1,_,vc b4 2,_,vc b4 3,_,vc b4 4,_,vc b4 5,?_⟩;exact hk h4 t ((i3.updM hu4 (fun y hy=>.inl (.inr (by have hy:y=h1.size:=hy;omega)))).less Pro.sub) ((k02.tr hu3).own hu4 hb1)
theorem yd{k v:ByteArray}(h1:k.size≤256)(h2:v.size≤4096){h:ae}{K:Int→ae→Prop}(hk:K 0 h):HC PG mU [.string k,.string v] [.c (.int .i64)] K h:=by
 refine E7 k v ?_;unfold xq;refine aA (fun h=>absurd h (by omega)) fun _=>aA (fun h=>absurd h (by omega)) fun _=>hk
theorem AL{W:Nat→Prop}{x:Hs}{h:ae}{kind:Int}{t:Tr}{l:List Pr}(i:TreeIs W h kind x t l)(hW:∀y,W y→y<h.size)(hr:cW l)(hn:l.length≤1000000)(p:Pr)(hp1:p.1.size≤256)(hp2:p.2.size≤4096){K:Tr×Int→ae→Prop}
  (hk:∀h' t',TreeIs W h' kind x t' (g6 p l)→(p∈l→t'=t)→Upd No h h'→K (t',0) h'):HC PG iR [Mf t,.pointer none,.agg #[.string p.1,.string p.2]] [.agg [.int .i64,.int .u64,.int .u64,.int .u64,.ptr,.ptr],.c (.int .i64)] K h:=by
 refine yv t none p ?_;unfold rx af;refine bH fun h1 b1 k1=>bH fun h2 b2 k2=>bH fun h3 b3 k3=>?_
 have z1:=bD b1;have z2:=bD b2;have z3:=bD b3;have s1:h.size≤h1.size:=k1.size;have s2:h1.size≤h2.size:=k2.size;have s3:=k3.size;have k03:=(k1.tr k2).tr k3;have v1:=k3.get0 (k2.get0 b1);have v2:=k3.get0 b2;have i3:=i.pro k03;have hW3:=Pro.lt hW k03;refine⟨_,vc v2 0,_,vc v2 1,yd hp1 hp2 (ak.2 ?_)⟩;rcases i3 with⟨rfl,b,rfl,t3⟩|⟨rfl,b,rfl,t3⟩
 ·refine⟨_,vc v1 0,ak.2 ⟨_,yY v1 1 0,_,yY v1 1 1,_,yY v1 1 2,_,vc v1 4,p.1,vc v2 0,p.2,vc v2 1,?_⟩⟩
  refine Gw (.inr ⟨b,rfl,t3⟩) hW3 hr hn p fun h4 b4 hu4 t4 hsame=>?_
  refine AD (i:=4) (c':=(nR (0,x.k0,x.k1,x.mask,some ⟨b4,0,none⟩,none)).toArray) (hu4.get0 v1) (show 4<6 by decide) rfl fun h5 v5 hu5=>?_
  refine⟨_,vc v5 0,_,vc v5 1,_,vc v5 2,_,vc v5 3,_,vc v5 4,_,vc v5 5,?_⟩;refine f7 (c:=nR G5) (vs:=nR (0,x.k0,x.k1,x.mask,some ⟨b4,0,none⟩,none)) (hu5.oth (hu4.get0 b3) (by omega)) rfl fun h6 v6 hu6=>?_
  refine⟨_,vc v6 0,_,vc v6 1,_,vc v6 2,_,vc v6 3,_,vc v6 4,_,vc v6 5,?_⟩;refine hk h6 _ (.inl ⟨rfl,b4,rfl,TrieAt.less Pro.sub (TrieAt.updM hu6 (fun y hy=>.inl (.inr (by have hy:y=h2.size:=hy;omega))) (TrieAt.updM hu5 (fun y hy=>.inl (.inr (by have hy:y=h.size:=hy;omega))) t4))⟩) (fun hm=>?_) (((k03.tr hu4).own hu5 (ao _)).own hu6 (by omega))
  rcases hsame hm with e|e
  ·rw[e]
  ·cases e
 ·refine⟨_,vc v1 0,ax.2 ⟨_,vc v1 5,p.1,vc v2 0,p.2,vc v2 1,?_⟩⟩
  refine FM (.inr ⟨b,rfl,t3⟩) hW3 hr p (by omega) fun h4 b4 added hu4 t4 hsame=>?_
  refine AD (i:=5) (c':=(nR (1,0,0,0,none,some ⟨b4,0,none⟩)).toArray) (hu4.get0 v1) (show 5<6 by decide) rfl fun h5 v5 hu5=>?_
  refine⟨_,vc v5 0,_,vc v5 1,_,vc v5 2,_,vc v5 3,_,vc v5 4,_,vc v5 5,?_⟩;refine f7 (c:=nR G5) (vs:=nR (1,0,0,0,none,some ⟨b4,0,none⟩)) (hu5.oth (hu4.get0 b3) (by omega)) rfl fun h6 v6 hu6=>?_
  refine⟨_,vc v6 0,_,vc v6 1,_,vc v6 2,_,vc v6 3,_,vc v6 4,_,vc v6 5,?_⟩;refine hk h6 _ (.inr ⟨rfl,b4,rfl,((t4.updM hu5 (fun y hy=>.inl (.inr (by have hy:y=h.size:=hy;omega)))).updM hu6 (fun y hy=>.inl (.inr (by have hy:y=h2.size:=hy;omega)))).less Pro.sub⟩) (fun hm=>?_) (((k03.tr hu4).own hu5 (ao _)).own hu6 (by omega))
  rcases hsame hm with e|e
  ·rw[e]
  ·cases e
end Go.Proofs
namespace Go.Proofs
open Go Go.Lift
def tc(t u:Tr):Bool:=(t.1==u.1)&&((((t.2.1==u.2.1)&&((t.2.2.1==u.2.2.1)&&true)))&&((t.2.2.2.1==u.2.2.2.1)&&true))
theorem Lc{t u:Tr}{h:ae}{K:Bool→ae→Prop}(hk:∀h',Upd No h h'→K (tc t u) h'):HC PG tp [Mf t,Mf u] [.c .bool] K h:=by
 refine GE t u ?_;unfold zy af;refine bH fun h1 b1 k1=>bH fun h2 b2 k2=>?_
 have c1:=k2.get0 b1;refine⟨_,vc c1 0,_,vc b2 0,?_⟩;have:=hk h2 (k1.tr k2);unfold tc at this;rcases hb:(t.1==u.1)with _|_
 ·rw[hb]at this
  exact ak.2 this
 ·rw[hb]at this
  exact ax.2 ⟨_,yY c1 1 0,_,yY c1 1 1,_,yY c1 1 2,_,yY b2 1 0,_,yY b2 1 1,_,yY b2 1 2,this⟩
theorem Dj{W:Nat→Prop}{x:Hs}{h:ae}{b:Nat}{l:List Pr}(t:TrieAt W x h 13 b l){K:Option Addr→ae→Prop}(hk:∀h',Upd No h h'→K (some ⟨b,0,none⟩) h'):HC PG j2 [Mf (0,x.k0,x.k1,x.mask,some ⟨b,0,none⟩,none)] [.c .ptr] K h:=by
 refine wT (0,x.k0,x.k1,x.mask,some ⟨b,0,none⟩,none) ?_;unfold qq af;refine bH fun h1 b1 k1=>?_
 refine Join.intro (fun t h'=>t=false∧h'=h1) (fun R hR=>⟨_,vc b1 0,ax.2 ⟨_,vc b1 4,hR _ _ ⟨rfl,rfl⟩⟩⟩) ?_
 rintro t h' ⟨rfl,rfl⟩;exact ak.2 ⟨_,vc b1 4,hk h' k1⟩
def Jx(kind:Int)(x:Hs)(l:List Pr)(xs:List UInt8):Prop:=(kind=0∧xs=0::jm x 13 l)∨(kind=1∧∃ys,KG l ys∧xs=1::ys)
theorem M0{h h1:ae}{b:UInt8}(hb:h1[h.size]? =some (.cells #[.int .u8 (b.toNat:Int)] dQ (0,0))):OwnS q9 1 dQ (fun y=>h.size≤y) h1 ⟨some ⟨h.size,0,none⟩,1,1⟩ [b]:=⟨rfl,yn,ao _,.inr ⟨h.size,[],rfl,ao _,hb,rfl⟩⟩
theorem Di{W:Nat→Prop}{x:Hs}{h:ae}{kind:Int}{t:Tr}{l:List Pr}(i:TreeIs W h kind x t l)(hr:cW l)(hf:Fit l)(hn:l.length≤60000){K:SliceV→ae→Prop}
  (hk:∀s' h' xs,Jx kind x l xs→OwnS q9 1 dQ (fun y=>h.size≤y) h' s' xs→Upd No h h'→K s' h'):HC PG j1 [Mf t] [.c .slice] K h:=by
 refine wR t ?_;unfold qo af;refine bH fun h1 b1 k1=>?_
 have z1:=k1.size;have app:∀{b:UInt8} {h2 h3:ae} {s:SliceV} {xs:List UInt8},h2[h1.size]? =some (.cells #[.int .u8 (b.toNat:Int)] dQ (0,0))→Upd No h1 h2→OwnS q9 1 dQ (fun y=>h2.size≤y) h3 s xs→Upd No h2 h3→xs.length≤70000000000000→Jx kind x l (b::xs)→
   ∃xs7,SRow h3 s.a (s.len*1) xs7∧AppP (some [.int .u8 0]) 1 1 dQ (some (ag h1)) 1 1 s.len xs7 h3 (fun s8 h9=>K s8 h9):=fun{b h2 h3 s xs} hb k2 ho k3 hl hv=>by
  refine⟨_,(ho.sl (W:=No) fun _ _ _ h=>h).srow,?_⟩
  have k13:=k2.tr k3;have hz:=bD hb;have o1:OwnS q9 1 dQ (fun y=>h.size≤y) h3 ⟨some ⟨h1.size,0,none⟩,1,1⟩ [b]:=((M0 hb).upd k3 fun _ _ h=>h).more fun y hy=>by omega
  refine AppP.own (ys:=xs) o1 ho.len rfl (Ah _) rfl (by omega) (by simp only[aD];omega) (by have:=k13.size;omega) fun s' h' ho' hu'=>?_
  exact hk s' h' _ hv ho' ((k1.tr k13).trans hu' fun y hy=>.inr hy)
 rcases i with⟨rfl,b,rfl,t⟩|⟨rfl,b,rfl,t⟩
 ·refine⟨_,vc b1 0,ak.2 (bH fun h2 b2 k2=>?_)⟩
  have c1:=k2.get0 b1;refine⟨_,vc c1 0,_,vc c1 1,_,vc c1 2,_,vc c1 3,_,vc c1 4,_,vc c1 5,?_⟩;refine Dj (TrieAt.upd0 (k1.tr k2) t) fun h3 k3=>?_
  refine My (TrieAt.upd0 ((k1.tr k2).tr k3) t) hf hn fun s4 h4 ho4 k4=>?_
  have z3:=k3.size;have hlen:=rO (x:=x) 13 hf;have hb:l.length*(20004+9*(13+1))≤60000*(20004+9*(13+1)):=dM _ hn;exact app (b:=0) b2 k2 (ho4.more fun y hy=>by omega) (k3.tr k4) (by omega) (.inl ⟨rfl,rfl⟩)
 ·refine⟨_,vc b1 0,ax.2 (bH fun h2 b2 k2=>?_)⟩
  have c1:=k2.get0 b1;refine⟨_,vc c1 5,?_⟩;refine FO (t.upd0 (k1.tr k2)) hr hf hn fun s4 h4 xs hv ho4 k4=>?_
  have hlen:=FN hv hf;have hb:2*l.length*20010≤2*60000*20010:=dM _ (by omega);exact app (b:=1) b2 k2 ho4 k4 (by omega) (.inr ⟨rfl,xs,hv,rfl⟩)
theorem Ke{W W':Nat→Prop}{h h':ae}{kind kind':Int}{x x':Hs}{t u:Tr}{l l':List Pr}(i:TreeIs W h kind x t l)(i':TreeIs W' h' kind' x' u l')(hl:tc t u=true):kind=kind'∧(kind=0→x=x'):=by
 rcases i with⟨rfl,b,rfl,_⟩|⟨rfl,b,rfl,_⟩<;>rcases i' with⟨rfl,b',rfl,_⟩|⟨rfl,b',rfl,_⟩
 ·refine⟨rfl,fun _=>?_⟩
  unfold tc at hl;simp only[Bool.and_eq_true,beq_iff_eq,Bool.and_true,true_and]at hl;cases x;cases x';simp only at hl;simp only[Hs.mk.injEq];exact⟨hl.1.1,hl.1.2,hl.2⟩
 ·simp[tc]at hl
 ·simp[tc]at hl
 ·exact⟨rfl,fun h=>by cases h⟩
theorem K7{kind:Int}{x x':Hs}(hx:kind=0→x=x'){l l':List Pr}{xs xs':List UInt8}(hv:Jx kind x l xs)(hv':Jx kind x' l' xs')(hf:Fit l)(hf':Fit l')(hn:l.length≤60000)(hn':l'.length≤60000)(hr:cW l)(hr':cW l'):xs=xs'↔l=l':=by
 rcases hv with⟨rfl,rfl⟩|⟨rfl,ys,hv,rfl⟩<;>rcases hv' with⟨e,rfl⟩|⟨e,ys',hv',rfl⟩
 ·rw[hx rfl]
  constructor
  ·intro h
   have h:jm x' 13 l++ []=jm x' 13 l'++ []:=by rw[(eL.inj h).2]
   exact(AQ 13 hf hf' hn hn' hr hr' h).1
  ·rintro rfl;rfl
 ·cases e
 ·cases e
 ·rw[eL.injEq,←MA hv hv' hf hf']
  exact⟨fun h=>h.2,fun h=>⟨rfl,h⟩⟩
theorem FC{W W':Nat→Prop}{x x':Hs}{h:ae}{kind kind':Int}{t u:Tr}{l l':List Pr}(i:TreeIs W h kind x t l)(i':TreeIs W' h kind' x' u l')(hr:cW l)(hf:Fit l)(hn:l.length≤60000)(hr':cW l')(hf':Fit l')(hn':l'.length≤60000){K:Bool→ae→Prop}
  (hk:∀h',Upd No h h'→K (tc t u&&decide (l=l')) h'):HC PG qg [Mf t,Mf u] [.c .bool] K h:=by
 refine GD t u ?_;unfold zx af;refine bH fun h1 b1 k1=>bH fun h2 b2 k2=>?_
 have c1:=k2.get0 b1;refine⟨_,vc c1 0,_,vc c1 1,_,vc c1 2,_,vc c1 3,_,vc c1 4,_,vc c1 5,_,vc b2 0,_,vc b2 1,_,vc b2 2,_,vc b2 3,_,vc b2 4,_,vc b2 5,?_⟩;refine Lc fun h3 k3=>?_
 have k03:=(k1.tr k2).tr k3;have c3:=k3.get0 c1;have b3:=k3.get0 b2;rcases hl:tc t u with _|_
 ·rw[hl]at hk
  exact ak.2 (hk h3 k03)
 ·rw[hl]at hk
  refine ax.2 ⟨_,vc c3 0,_,vc c3 1,_,vc c3 2,_,vc c3 3,_,vc c3 4,_,vc c3 5,_,vc b3 0,_,vc b3 1,_,vc b3 2,_,vc b3 3,_,vc b3 4,_,vc b3 5,?_⟩;refine Di (i.upd0 k03) hr hf hn fun s4 h4 xs hv ho4 k4=>?_
  have b4:=k4.get0 b3;refine⟨⟨vc b4 0,vc b4 1,vc b4 2,vc b4 3,vc b4 4,vc b4 5⟩,?_⟩;refine Di (i'.upd0 (k03.tr k4)) hr' hf' hn' fun s5 h5 ys hv' ho5 k5=>?_
  have ho4':=ho4.upd k5 fun _ _ h=>h
  refine Ia (W:=No) (W':=No) (ho4'.sl fun _ _ _ h=>h) (ho5.sl fun _ _ _ h=>h) ?_
  obtain⟨rfl,hx⟩:=Ke i i' hl;have:=hk h5 ((k03.tr k4).tr k5);rw[decide_eq_decide.2 (K7 hx hv hv' hf hf' hn hn' hr hr')];exact this
theorem TreeIs.plain{W:Nat→Prop}{h:ae}{kind:Int}{x:Hs}{t:Tr}{l:List Pr}(i:TreeIs W h kind x t l):(∀a,t.2.2.2.2.1=some a→ig h a)∧(∀a,t.2.2.2.2.2=some a→ig h a):=by
 rcases i with⟨rfl,b,rfl,t⟩|⟨rfl,b,rfl,t⟩
 ·obtain⟨s,nd,_⟩:=t
  obtain⟨d,n,sp,sk,ow,hb,_⟩:=nd.ex;refine⟨fun a ha=>?_,fun a ha=>(by cases ha)⟩
  cases ha;exact⟨_,_,hb,show 0<6 by decide⟩
 ·obtain⟨w,F,⟨val,s,ow,ks,hb,_⟩,_⟩:=t.ex
  refine⟨fun a ha=>(by cases ha),fun a ha=>?_⟩
  cases ha;exact⟨_,_,hb,show 0<5 by decide⟩
end Go.Proofs
namespace Go.Proofs
open Go Go.Lift
abbrev zPrL:List Value:= [.string (⟨#[]⟩:ByteArray),.string (⟨#[]⟩:ByteArray)]
theorem zk{h:ae}{t:TypeId}{p:Pr}{k:ae→Prop}(hk:∀h',h'[h.size]? =some (.cells #[.string p.1,.string p.2] t (0,0))→Upd No h h'→k h'):
  At (hnew h [.string (⟨#[]⟩:ByteArray),.string (⟨#[]⟩:ByteArray)] t) fun h8=>fV h8 (some (ag h)) 0 [.string p.1,.string p.2]∧At (bP h8 (ag h) 0 [.string p.1,.string p.2]) k:=by
 refine bH fun h1 b1 k1=>?_
 exact f7 (c:=zPrL) (vs:= [.string p.1,.string p.2]) b1 rfl fun h2 b2 hu2=>hk h2 b2 (k1.own hu2 (ao _))
theorem GA{t:TypeId}{M:Nat→Prop}{h:ae}{so:SliceV}{out:List Pr}{p:Pr}{K:SliceV→ae→Prop}(ho:OwnS eG 2 t M h so out)(hM:∀b,h.size≤b→M b)(hn:out.length+1≤1000000000)
  (hk:∀s' h',OwnS eG 2 t M h' s' (out++ [p])→Upd M h h'→K s' h'):
  ∃xs,SRow (hnew h [.string p.1,.string p.2] t) (some (ag h)) (1*2) xs∧AppP (some [.string (⟨#[]⟩:ByteArray),.string (⟨#[]⟩:ByteArray)]) 2 32 t so.a so.len so.cap 1 xs (hnew h [.string p.1,.string p.2] t) K:=by
 have k:=Upd.hnew No h [.string p.1,.string p.2] t;have h1:OwnS eG 2 t (fun _=>True) (hnew h [.string p.1,.string p.2] t) ⟨some (ag h),1,1⟩ [p]:=⟨rfl,jo,ao _,.inr ⟨h.size,[],rfl,trivial,bK ..,rfl⟩⟩
 refine⟨_,(h1.sl (W:=No) fun _ _ _ h=>h).srow,?_⟩
 refine AppP.own (ys:= [p]) (ho.upd k fun _ _ h=>h) rfl rfl rfl rfl (by omega) (by simp only[aD];omega) (hM _ (by rw[ge];omega)) fun s' h' ho' hu=>?_
 exact hk s' h' ho' ((Upd.hnew M h _ _).tr hu)
theorem Gg{p:Pr}:∀{A B:List Pr},(∀r∈A,kl r.1 p.1)→g6 p (A++B)=A++g6 p B
 | [],_,_=>rfl
 |r::A,B,h=>by
  rw[List.cons_append,gH,if_pos (h r (List.mem_cons_self ..)),Gg fun q hq=>h q (List.mem_cons_of_mem _ hq)];rfl
theorem rM{i n:Nat}(h:i<n)(hn:n≤9223372036854775807):IntKind.wrap .i64 ((i:Int)+1)=((i+1:Nat):Int):=by rw[Go.IntWalk.i64_in _ (by omega)];omega
theorem yf(p:Pr):∀{l:List Pr},(g6 p l).length≤l.length+1
 | []=>ao _
 |q::l=>by
  rw[gH];split
  ·have:=yf p (l:=l);simp only[aq];omega
  ·split<;>simp
theorem DH{W W':Nat→Prop}{h h':ae}{kind:Int}{x:Hs}{t u:Tr}{l l':List Pr}(i:TreeIs W h kind x t l)(i':TreeIs W' h' kind x u l'):tc t u=true:=by
 rcases i with⟨rfl,b,rfl,_⟩|⟨rfl,b,rfl,_⟩<;>rcases i' with⟨e,b',rfl,_⟩|⟨e,b',rfl,_⟩
 ·simp[tc]
 ·cases e
 ·cases e
 ·simp[tc]
theorem N9{k:Int}(h0:0≤k)(h1:k≤255):IntKind.wrap .i64 (eX k 2)=0∨IntKind.wrap .i64 (eX k 2)=1:=by
 have:eX k 2=k%2:=Int.tmod_eq_emod_of_nonneg h0;rw[this,fl (by omega)];omega
end Go.Proofs
namespace Go.Proofs
open Go Go.Lift
abbrev Wk:=Option Addr×ByteArray×Bool
abbrev JB(x:Wk):List Value:= [.pointer x.1,.string x.2.1,.bool x.2.2]
theorem D8(x:Wk):(JB x).length=3∧0<3:=⟨rfl,by omega⟩
theorem Ja:∀xs:List Wk,bS (xs.flatMap JB)=true
 | []=>rfl
 |x::xs=>by rw[aQ];exact ii rfl (Ja xs)
theorem Lg{α:Type}{l:List α}{i:Nat}(hi:i<l.length)(x:α):l.take i++x::l.drop (i+1)=l.set i x:=by rw[List.set_eq_take_append_cons_drop,if_pos hi]
theorem Ho{M:Nat→Prop}{h:ae}{s:SliceV}{xs:List Wk}(ho:OwnS JB 3 du M h s xs)(hn:xs.length≤1000000000){K:Unit→ae→Prop}(hk:∀h',OwnS JB 3 du M h' s xs.reverse→Upd M h h'→K () h'):HC PG ed [.slice s.a s.len s.cap] [] K h:=by
 refine kJ s ?_;unfold ga af cQ;have hlen:=ho.len;have ej:IntKind.wrap .i64 ((s.len:Int)-1)=(xs.length:Int)-1-((0:Nat):Int):=by rw[fl (by omega)];omega
 rw[ej];refine LoopP.ghost (fun(i:Nat) (t:Int×Int) h'=>t.1=(i:Int)∧t.2=(xs.length:Int)-1-(i:Int)∧i≤xs.length∧(∃ys,OwnS JB 3 du M h' s ys∧ys.length=xs.length∧∀k,k<xs.length→ys[k]? =if k<i∨xs.length-i≤k then xs[xs.length-1-k]? else xs[k]?)∧Upd M h h') (fun i=>xs.length-i) 0
  ⟨rfl,rfl,bi _,⟨xs,ho,rfl,fun k hk=>by rw[if_neg (by omega)]⟩,Upd.refl _ _⟩ ?_
 rintro I i ⟨ti,tj⟩ h' ⟨e1,e2,hi,⟨ys,hy,hyl,hys⟩,hu⟩ hI;simp only at e1 e2;subst e1 e2;refine aA (fun hlt=>?_) fun hge=>?_
 ·have hlt:2*i+1<xs.length:=by have:(i:Int)<(xs.length:Int)-1-(i:Int):=hlt;omega
  obtain⟨j,hj⟩:∃j:Nat,(xs.length:Int)-1-(i:Int)=(j:Int):=⟨xs.length-1-i,by omega⟩
  have hjn:j=xs.length-1-i:=by omega
  simp only;rw[hj];have hiy:i<ys.length:=by omega
  have hjy:j<ys.length:=by omega
  have sl:=hy.sl (W:=No) fun _ _ _ h=>h
  obtain⟨a,ha,_,hv⟩:=sl.at (ai hjy);obtain⟨a',ha',_,hv'⟩:=sl.at (ai hiy);rw[ha]at ha';cases ha';refine⟨⟨by omega,by omega⟩,a,ha,ys[j].1,hv 0 _ rfl,ys[j].2.1,hv 1 _ rfl,ys[j].2.2,hv 2 _ rfl,⟨by omega,by omega⟩,a,ha,ys[i].1,hv' 0 _ rfl,ys[i].2.1,hv' 1 _ rfl,ys[i].2.2,hv' 2 _ rfl,⟨by omega,by omega⟩,?_⟩
  obtain⟨b,hb,hbM,hw,ho1,hu1⟩:=OwnS.setAt hy hiy ys[j];rw[ha]at hb;cases hb;rw[Lg hiy]at ho1;refine⟨a,ha,hw,aX ⟨⟨by omega,by omega⟩,a,ha,?_⟩⟩
  obtain⟨b,hb,_,hw2,ho2,hu2⟩:=OwnS.setAt ho1 (k:=j) (by rw[gn];omega) ys[i];rw[ha]at hb;cases hb;rw[Lg (by rw[gn];omega)]at ho2;refine⟨hw2,aX ?_⟩;rw[eu (n:=xs.length) (by omega) (by omega)];have ej2:IntKind.wrap .i64 ((j:Int)-1)=(xs.length:Int)-1-((i+1:Nat):Int):=by rw[fl (by omega)];omega
  rw[ej2];refine hI (i+1) _ _ ⟨rfl,rfl,by omega,⟨_,ho2,by rw[gn,gn];exact hyl,fun k hk=>?_⟩,?_⟩ (by omega)
  ·rw[List.getElem?_set,gn]
   have ei:=hys i (by omega);have ejj:=hys j (by omega);rw[if_neg (by omega),ai hiy]at ei;rw[if_neg (by omega),ai hjy]at ejj;by_cases h1:j=k
   ·rw[if_pos h1,if_pos hjy,if_pos (by omega),ei]
    congr 1;omega
   ·rw[if_neg h1,List.getElem?_set]
    by_cases h2:i=k
    ·rw[if_pos h2,if_pos hiy,if_pos (by omega),ejj]
     congr 1;omega
    ·rw[if_neg h2,hys k hk]
     by_cases h3:k<i∨xs.length-i≤k
     ·rw[if_pos h3,if_pos (by omega)]
     ·rw[if_neg h3,if_neg (by omega)]
  ·exact(hu.trans hu1 fun y hy=>.inl (by have hy:y=a.block:=hy;rw[hy];exact hbM)).trans hu2 fun y hy=>.inl (by have hy:y=a.block:=hy;rw[hy];exact hbM)
 ·have hge:xs.length≤2*i+1:=by have:¬(i:Int)<(xs.length:Int)-1-(i:Int):=hge;omega
  have e:ys=xs.reverse:=by
   apply List.ext_getElem?;intro k;by_cases hk:k<xs.length
   ·rw[hys k hk,List.getElem?_reverse hk]
    by_cases h3:k<i∨xs.length-i≤k
    ·rw[if_pos h3]
    ·rw[if_neg h3];congr 1;omega
   ·rw[List.getElem?_eq_none (by omega),List.getElem?_eq_none (by rw[List.length_reverse];omega)]
  subst e;exact hk _ hy hu
theorem OwnS.pop{α:Type}{f:α→List Value}{sz:Nat}{t:TypeId}{M:Nat→Prop}{h:ae}{s:SliceV}{xs:List α}{x:α}(ho:OwnS f sz t M h s (xs++ [x])):OwnS f sz t M h ⟨aN s.a 0 s.cap sz,xs.length,s.cap⟩ xs:=by
 have hl:=ho.len;have hc:=ho.cap;rw[ac,aD]at hl;refine⟨rfl,ho.ne,by simp only;omega,ho.blk.imp id fun⟨b,rest,ha,hb,aE,hr⟩=>⟨b,f x++rest,?_,hb,?_,?_⟩⟩
 ·simp only;rw[ha,sub_zero]
 ·rw[aE,bL,aQ,List.flatMap_nil,List.append_nil,al]
 ·rw[ac,(ho.ne x).1,hr]
  simp only;have:s.cap-xs.length=(s.cap-s.len)+1:=by omega
  rw[this,Nat.add_mul];omega
structure It where
 b:Nat
 ah:ByteArray
 own:Bool
 sl:ByteArray
 w:Option ByteArray
 F:Fo
def It.raw(i:It):Wk:=(some ⟨i.b,0,none⟩,i.ah,i.own)
def It.key(i:It):List UInt8:=i.ah.data.toList++i.sl.data.toList
def It.prs(i:It):List (List UInt8×ByteArray):=if i.own then(i.w.map fun v=>(i.key,v)).toList else(rS i.w i.F).map fun p=>(i.key++p.1,p.2)
def It.cost(i:It):Nat:=if i.own then 1 else 2+2*wG i.F
def rR(l:List It):List (List UInt8×ByteArray):=l.reverse.flatMap It.prs
def jj(l:List It):Nat:=(l.map It.cost).sum
theorem Du(l:List It)(i:It):rR (l++ [i])=i.prs++rR l:=by unfold rR;rw[List.reverse_append];rfl
theorem ua(l m:List It):jj (l++m)=jj l+jj m:=by unfold jj;rw[List.map_append,List.sum_append]
theorem Lp(l m:List It):rR (l++m)=rR m++rR l:=by unfold rR;rw[List.reverse_append,bL]
end Go.Proofs
namespace Go.Proofs
open Go Go.Lift
abbrev oK(z:Hs)(p:Pr):List Value:= [.string p.1,.string p.2,.int .u64 (dA z p.1)]
theorem EF(z:Hs)(p:Pr):(oK z p).length=3∧0<3:=⟨rfl,by omega⟩
theorem Jb(z:Hs):∀xs:List Pr,bS (xs.flatMap (oK z))=true
 | []=>rfl
 |x::xs=>by rw[aQ];exact ii rfl (Jb z xs)
section
variable {α:Type} {f:α→List Value} {sz:Nat} {t:TypeId} {M:Nat→Prop} {h:ae} {s:SliceV} {P Q:List α} {x:α}
theorem fi(ho:OwnS f sz t M h s (P++x::Q)){i:Nat}(hi:i=P.length):∃a,s.a=some a∧∀j v,(f x)[j]? =some v→aE h (adr (adr a (i*sz)) j)=some v:=by
 obtain⟨a,ha,_,hv⟩:=(ho.sl (W:=No) fun _ _ _ h=>h).at (i:=i) (x:=x) (by rw[hi,av (ao _),Nat.sub_self];rfl)
 exact⟨a,ha,hv⟩
theorem jN(ho:OwnS f sz t M h s (P++x::Q))(y:α){a:Addr}(ha:s.a=some a){i:Nat}(hi:i=P.length){G:ae→Prop}(hk:∀h',OwnS f sz t M h' s (P++y::Q)→Upd M h h'→G h'):
  fV h (some (adr a (i*sz))) 0 (f y)∧At (bP h (adr a (i*sz)) 0 (f y)) G:=by
 obtain⟨a',ha',hM,hw,ho',hu⟩:=OwnS.setAt ho (k:=i) (by rw[hi,ac,aq];omega) y;rw[ha]at ha';cases ha';refine⟨hw,aX (hk _ ?_ (hu.mono fun b hb=>.inl (by have hb:b=a.block:=hb;rw[hb];exact hM)))⟩
 subst hi;have e1:(P++x::Q).take P.length=P:=List.take_left;have e2:(P++x::Q).drop (P.length+1)=Q:=by rw[←List.drop_drop,List.drop_left];rfl
 rw[e1,e2]at ho';exact ho'
end
theorem nU{α:Type}{f:α→List Value}{sz:Nat}{t:TypeId}{M:Nat→Prop}{h:ae}{s:SliceV}{xs:List α}{x:α}(ho:OwnS f sz t M h s xs){i:Nat}(hi:xs[i]? =some x):∃a,s.a=some a∧∀j v,(f x)[j]? =some v→aE h (adr (adr a (i*sz)) j)=some v:=by
 obtain⟨a,ha,_,hv⟩:=(ho.sl (W:=No) fun _ _ _ h=>h).at hi
 exact⟨a,ha,hv⟩
theorem LF{α:Type}{A U X:List α}{i:Nat}(hi:A.length+U.length≤i):(A++(U++X))[i]? =X[i-A.length-U.length]?:=by
 rw[av (by omega),av (by omega)]
theorem EH{α:Type}{A U V B:List α}{i k:Nat}{x:α}(hi:A.length+U.length+k=i)(hk:V[k]? =some x):(A++(U++(V++B)))[i]? =some x:=by
 rw[LF (by omega),show i-A.length-U.length=k by omega,aY (aV.1 hk).1];exact hk
theorem Am{α:Type}{A U X:List α}{i k:Nat}{x:α}(hi:A.length+k=i)(hk:U[k]? =some x):(A++(U++X))[i]? =some x:=by
 rw[av (by omega),show i-A.length=k by omega,aY (aV.1 hk).1];exact hk
theorem qe{i j:Nat}(h:i+j≤4000000000):IntKind.wrap .i64 (Int.fdiv (IntKind.wrap .u64 (IntKind.wrap .i64 ((i:Int)+(j:Int)))) (2^(min (1:Int).toNat (IntKind.bits .u64))))=(((i+j)/2:Nat):Int):=by
 have e3:(2^(min (1:Int).toNat (IntKind.bits .u64)):Int)=2:=rfl;rw[e3,fl (x:=(i:Int)+(j:Int)) (by omega),Go.IntWalk.u64_in _ (by omega),Int.fdiv_eq_ediv_of_nonneg _ (by omega),fl (by omega)];omega
theorem gr{α:Type}{lt:α→α→Bool}(w:WO lt){l:List α}(h:Srt lt l){i j:Nat}(hij:i≤j){x y:α}(hx:l[i]? =some x) (hy:l[j]? =some y):lt y x=false:=by
 obtain⟨hi,rfl⟩:=aV.1 hx;obtain⟨hj,rfl⟩:=aV.1 hy;rcases Nat.lt_or_ge i j with h1|h1
 ·exact List.pairwise_iff_getElem.1 h i j hi hj h1
 ·have:i=j:=by omega
  subst this;exact w.irr _
theorem Ao{α:Type}(l:List α):l= []∨∃l' y,l=l'++ [y]:=by
 rcases List.eq_nil_or_concat l with h|⟨l',y,h⟩
 ·exact .inl h
 ·exact .inr ⟨l',y,by rw[h,List.concat_eq_append]⟩
structure Cmp{α:Type}(lt:α→α→Bool)(f:α→List Value)(M:Nat→Prop)(Iv:ae→Prop)(V:Value):Prop where
 call:∀(a b:α) {h:ae} {K:Int→ae→Prop},Iv h→(∀h' e,Upd No h h'→decide (e<0)=lt a b→K e h')→HV PG V [.agg (f a).toArray,.agg (f b).toArray] [.c (.int .i64)] K h
 step:∀{h h':ae},Upd M h h'→Iv h→Iv h'
end Go.Proofs
