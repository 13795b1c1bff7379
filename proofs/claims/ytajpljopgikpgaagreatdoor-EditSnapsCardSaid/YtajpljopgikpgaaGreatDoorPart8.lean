/- A part of the proof that the named laws of this program answer true, whatever the input. -/
import Derived.Test.YtajpljopgikpgaaGreatDoorPart7
import Derived.Test.YtajpljopgikpgaaGreatDoorPart6
open Int renaming tmod→gL
open List renaming mem_singleton→aj,mem_of_getElem?→aw,getElem?_of_mem→fE,getElem?_eq_some_iff→aP,getElem?_set_ne→jF,mem_append→bN,length_singleton→bq,range→bX,map_nil→mh,mem_cons→aq
open List.Pairwise renaming nil→fO
open Nat renaming lt_of_lt_of_le→bI,le_refl→au,le_trans→bB
namespace Go.Proofs
open Go Go.Lift
set_option maxHeartbeats 1000000 in
theorem IM{W S:Nat→Prop}{h:ad}{eb pb tb:Nat}{ti:Int}{f:Int}{x:Hs}{tu:Tr}{lu:List Pr}(e:EdO W S h eb pb tb ti f x tu lu)(N:lu.length≤1000000)(k:ByteArray){K:Int→ad→Prop}
  (w:∀o b t,EdO W t o eb pb tb ti f x b (oK lu k)→Upd (fun y=>S y∨y=eb) h o→(∀y,t y→(S y∨h.size≤y)∧y<o.size)→K (Dt lu k) o):HC PG jV [.pointer (some ⟨eb,0,none⟩),.string k] [.c (.int .i64)] K h:=by
 refine x9 _ k ?_;unfold qY;refine aX fun X b1 k1=>aX fun Z b2 C=>?_
 have z1:=aF b1;have z2:=aF b2;have s1:=k1.size;have s2:=C.size;have c1:=C.get0 b1;have d:=k1.tr C;refine⟨_,vc c1 0,tH (e.ed.upd d id) (e.tk.upd d id) (ah.2 ⟨_,vc c1 0,?_⟩)⟩;refine yD (e.ed.upd d id) (vz _ _ _ ?_);unfold pc rR bo af cE eK aA gC yi rd qv;refine aX fun h3 b3 B=>?_
 have I:=aF b3;have a:=d.tr B;have j:=e.ed.upd a id;have M:=B.get0 b2;have G:=B.get0 c1;refine⟨_,vc G 0,_,rfl,_,nO j 2 0,_,nO j 2 1,_,nO j 2 2,_,nO j 2 3,_,nO j 2 4,_,nO j 2 5,k,vc M 0,?_⟩;have s:∀y,S y→y<h.size:=fun y O=>e.lt y (.inr O)
 refine vO (e.iu.pro a) (e.can.pro a) e.up e.fit N k fun h4 b t n H v P=>?_
 have Y:=n.size;refine⟨vc (n.get G fun u=>by have:=s _ u;omega) 0,?_⟩
 refine fc (c:=gm zJ) (vs:=gm b) (n.get b3 fun u=>by have:=s _ u;omega) rfl fun T m i=>?_
 refine⟨_,vc m 0,_,vc m 1,_,vc m 2,_,vc m 3,_,vc m 4,_,vc m 5,?_⟩;have J:EdAt T eb pb tb tu:=(j.upd n fun u=>e.ap _ u e.we).upd i (by have:=e.lt _ (.inl e.we);omega)
 have g:Fit (oK lu k):=by
  unfold oK;split
  ·exact e.fit
  ·exact fun q Q=>e.fit q (zl.1 Q).1
 have p:cp (oK lu k):=by
  unfold oK;split
  ·exact e.up
  ·exact Cb e.up
 refine⟨J,fun R A=>⟨fun hz o L E=>?_,fun hz=>?_⟩⟩
 ·obtain⟨D,z,F⟩:=e.fin a n H v i (by omega) I A L E p g
  have hz:Dt lu k=0:=hz;rw[hz]at w;exact w o b t D z F
 ·have hz:Dt lu k≠0:=hz
  have V:=P hz;subst V;obtain⟨D,z,F⟩:=e.fin a n H v i (by omega) I A (J.upd A id) (Upd.refl _ _) p g;exact w R b t D z F
theorem HG{h:ad}{eb pb tb cb cap:Nat}{ids:List Int}{tu:Tr}{ti:Int}{a:Bool}(e:EdAt h eb pb tb tu)(k:TokAt h tb pb ti a)(p:PoolAt h pb cb cap ids):eb≠cb∧eb≠tb∧tb≠cb:=by
 obtain⟨n,b,s,r,hc⟩:=p;refine⟨fun h=>?_,fun h=>?_,fun h=>?_⟩
 ·subst h;have:=e.symm.trans hc;simp at this
 ·subst h;have:=e.symm.trans k;simp at this
 ·subst h;have:=k.symm.trans hc;simp at this
theorem AI{h:ad}{pb cb cap:Nat}{i:Int}{ids:List Int}(p:PoolAt h pb cb cap (i::ids))(t:Tr){K:Option Addr×Int→ad→Prop}(e:∀h' eb tb,Upd (· =cb) h h'→PoolAt h' pb cb cap ids→TokAt h' tb pb i true→EdAt h' eb pb tb t→h.size≤eb→h.size≤tb→K (some ⟨eb,0,none⟩,0) h'):HC PG l4 [.pointer (some ⟨pb,0,none⟩),FA t] [.c .ptr,.c (.int .i64)] K h:=by
 refine DT _ t ?_;unfold w9 bo af aA qv vl7;refine aX fun f b1 k1=>?_
 have n:=aF b1;have o:cb<h.size:=by obtain⟨_,_,_,_,hc⟩:=p;exact aF hc
 have s1:=k1.size;refine yw (p.upd0 k1) fun m b d g=>ah.2 ?_
 have a:=b.get b1 (show ¬h.size=cb by omega)
 have s3:=b.size;refine⟨_,vc a 0,_,vc a 1,_,vc a 2,_,vc a 3,_,vc a 4,_,vc a 5,aX fun k j c=>?_⟩
 exact e k m.size f.size ((k1.wide.tr b).tr c.wide) (d.upd0 c) (g.upd c fun h=>h) j (by omega) s1
theorem AH{h:ad}{eb pb tb cb cap:Nat}{ids:List Int}{tu:Tr}{ti:Int}(e:EdAt h eb pb tb tu)(k:TokAt h tb pb ti true)(p:PoolAt h pb cb cap ids)(o:ids.length<cap){K:Tr×Int→ad→Prop}(j:∀h',Upd (fun y=>y=cb∨y=tb) h h'→PoolAt h' pb cb cap (ids++ [ti])→TokAt h' tb pb ti false→EdAt h' eb pb tb tu→K (tu,0) h'):iH (some ⟨eb,0,none⟩) K h:=by
 obtain⟨A,v,B⟩:=HG e k p;unfold iH rR bo af cE eK aA gC rd vI rO;refine aX fun s b1 k1=>?_
 have w:cb<h.size:=by obtain⟨_,_,_,_,hc⟩:=p;exact aF hc
 have z:=aF k;have s1:=k1.size;have f:=e.upd k1 fun h=>h
 refine tH f (k.upd k1 fun h=>h) (ah.2 ⟨_,rfl,_,vc f 0,_,rfl,_,vc f 1,?_⟩)
 refine F7 (p.upd0 k1) (k.upd k1 fun h=>h) o fun u d n q=>?_
 have b:=f.upd d (by omega);refine⟨_,rfl,_,nO b 2 0,_,nO b 2 1,_,nO b 2 2,_,nO b 2 3,_,nO b 2 4,_,nO b 2 5,?_⟩;refine fc (c:=gm zJ) (vs:=gm tu) (d.get b1 (by omega)) rfl fun m b3 a=>?_
 refine⟨_,vc b3 0,_,vc b3 1,_,vc b3 2,_,vc b3 3,_,vc b3 4,_,vc b3 5,?_⟩;have s2:=d.size;have x:=aF e;obtain⟨_,g,_⟩:=id p;have t:=aF g;exact j m ((k1.wide.tr d).trans a fun y i=>.inr (by have i:y=h.size:=i;omega)) (n.upd a (by omega) (by omega)) (q.upd a (by omega)) (b.upd a (by omega))
theorem yC{h:ad}{eb pb tb cb cap:Nat}{ids:List Int}{tu:Tr}{ti:Int}(e:EdAt h eb pb tb tu)(k:TokAt h tb pb ti true)(p:PoolAt h pb cb cap ids)(b:ids.length<cap){K:Tr×Int→ad→Prop}(a:∀h',Upd (fun y=>y=cb∨y=tb) h h'→PoolAt h' pb cb cap (ids++ [ti])→TokAt h' tb pb ti false→EdAt h' eb pb tb tu→K (tu,0) h'):HC PG fo [.pointer (some ⟨eb,0,none⟩)] JC K h:=
 oU _ (AH e k p b a)
theorem KO{h:ad}{eb pb tb:Nat}{tu:Tr}{ti:Int}(e:EdAt h eb pb tb tu)(k:TokAt h tb pb ti false)(p:Pr){K:Int→ad→Prop}(c:∀h',Upd No h h'→K 5 h'):HC PG fP [.pointer (some ⟨eb,0,none⟩),.agg #[.string p.1,.string p.2]] [.c (.int .i64)] K h:=by
 refine r6 _ p ?_;unfold nK ui;refine aX fun f b1 k1=>aX fun d b2 b=>?_
 have a:=k1.tr b;exact⟨_,vc (b.get0 b1) 0,tH (e.upd a fun h=>h) (k.upd a fun h=>h) (az.2 (c d a))⟩
end Go.Proofs
namespace Go.Proofs
open Go Go.Lift
theorem J0{x:Hs}{h:ad}{K:Int×Int×Int→ad→Prop}(e:∀h',Upd No h h'→K (x.k0,x.k1,x.mask) h'):HC PG xD [.agg #[.int .u64 x.k0,.int .u64 x.k1,.int .u64 x.mask]] [.agg [.int .u64,.int .u64,.int .u64]] K h:=by
 refine Jd (x.k0,x.k1,x.mask) ?_;unfold CL af cE gC Ai zl0 vl0;refine aX fun g b1 k1=>aX fun i b2 d=>?_
 have c1:=d.get0 b1;refine⟨_,nO c1 0 0,_,nO c1 0 1,_,vc c1 2,?_⟩;refine fc (c:= [.int .u64 0,.int .u64 0,.int .u64 0]) (vs:= [.int .u64 x.k0,.int .u64 x.k1,.int .u64 x.mask]) b2 rfl fun f a b=>?_
 exact⟨_,vc a 0,_,vc a 1,_,vc a 2,e f ((k1.tr d).own b k1.size)⟩
theorem EdO.end_{W S:Nat→Prop}{h d:ad}{eb pb tb cb:Nat}{ti:Int}{b:Int}{x:Hs}{tu:Tr}{lu:List Pr}(e:EdO W S h eb pb tb ti b x tu lu)(c:W cb)(k:Upd (fun y=>y=cb∨y=tb) h d)(t:TokAt d tb pb ti false):TreeIs No d b x tu lu:=
 (e.iu.upd k (fun y f=>e.lt y (.inr f)) fun y f=>by
  rcases f with rfl|rfl
  ·exact .inl ⟨.inl c,fun h=>e.ap _ h c⟩
  ·exact .inl ⟨.inl e.wt,fun h=>e.ap _ h e.wt⟩).freeze (W':=No) (fun _ h=>h.elim) (fun a h=>by cases h;exact⟨id,_,_,t,by simp⟩) fun _ _ h=>h
theorem EdO.upd0{W S:Nat→Prop}{h b:ad}{eb pb tb:Nat}{ti:Int}{a:Int}{x:Hs}{tu:Tr}{lu:List Pr}(e:EdO W S h eb pb tb ti a x tu lu)(k:Upd No h b):EdO W S b eb pb tb ti a x tu lu:=
 ⟨e.ed.upd k fun h=>h,e.tk.upd k fun h=>h,e.iu.upd0 k,fun y c=>bI (e.lt y c) k.size,e.we,e.wt,e.ap,e.up,e.fit⟩
theorem IL{W:Nat→Prop}{h:ad}{eb pb tb:Nat}{ti:Int}{a:Int}{x:Hs}{t:Tr}{l:List Pr}(e:EdAt h eb pb tb t)(k:TokAt h tb pb ti true)(i:TreeIs W h a x t l)(lt:∀y,W y→y<h.size)(we:W eb)(wt:W tb)(up:cp l)(fit:Fit l):EdO W No h eb pb tb ti a x t l:=
 ⟨e,k,sB (i.less fun y b=>.inl (b.elim id fun h=>h.elim)),fun y b=>b.elim (lt y) fun h=>h.elim,we,wt,fun _ h=>h.elim,up,fit⟩
set_option maxRecDepth 100000 in
theorem GK{h:ad}{K:Bool→ad→Prop}(hk:∀q,Upd No h q→K true q):HC PG sY [] [.c .bool] K h:=by
 refine Fg ?_;unfold yP bo af aA nv yi rd qv rP zg0;refine Am (n:=1) (au _) (by omega) fun u k2 H=>?_
 have H:PoolAt u (h.size+1) h.size 1 [1]:=H;have z2:=aF H.2.1;refine Hh (W:=fun y=>y<u.size) (x:=⟨0,0,0⟩) (fun _ h=>h) (.inl rfl) fun I t i4 M=>uT (t:=t) fun h6 o G=>?_
 have z6:=aF o;have s4:=M.size;refine⟨_,vc o 0,_,vc o 1,_,vc o 2,_,vc o 3,_,vc o 4,_,vc o 5,?_⟩;refine AI (H.upd0 (M.tr G)) t fun k eb tb m p14 C D he ht=>?_
 have s14:=m.size;have ze:=aF D;have zt:=aF C;let W:Nat→Prop:=fun y=>y<u.size∨h6.size≤y∧y<k.size
 have w:TreeIs W k 0 ⟨0,0,0⟩ t []:=((((i4.less (W':=fun y=>y<u.size∨I.size≤y) fun _ h=>h).upd0 G).updM m fun y a=>.inl (.inl (by have a:y=h.size:=a;omega))).less fun y a=>.inl (a.imp id fun h=>by omega))
 have i6:TreeIs (fun y=>y=h.size) h6 0 ⟨0,0,0⟩ t []:=(i4.less (W':=fun y=>y=h.size) fun y a=>.inl (by have a:y=h.size:=a;show y<u.size;omega)).upd0 G
 have e:=IL (W:=W) D C w (fun y a=>by rcases a with h|h<;>omega) (.inr ⟨he,ze⟩) (.inr ⟨ht,zt⟩) fO (fun p F=>by cases F)
 refine Join.intro (fun b q=>b=false∧∃tu S,EdO W S q eb (h.size+1) tb 1 0 ⟨0,0,0⟩ tu [(⟨#[97]⟩,⟨#[]⟩)]∧Upd (fun y=>S y∨y=eb) k q∧∀y,S y→k.size≤y∧y<q.size) (fun R hR=>?_) ?_
 ·refine ah.2 (ah.2 ?_)
  refine EY e (by simp) (⟨#[97]⟩,⟨#[]⟩) (fun q tu' S' e' k' B=>?_) (fun p F=>?_)
  ·have er:C0 (⟨#[97]⟩,⟨#[]⟩)=0:=rfl
   rw[er];refine hR _ _ ⟨rfl,tu',S',e',k'.mono fun y a=>a.elim (fun h=>h.elim) fun h=>.inl (.inr h),fun y a=>⟨(B y a).1.elim (fun h=>h.elim) id,(B y a).2⟩⟩
  ·have:p=(⟨#[97]⟩,⟨#[]⟩):=by
    have hw:oy [] ((⟨#[97]⟩,⟨#[]⟩):Pr)= [(⟨#[97]⟩,⟨#[]⟩)]:=rfl;rw[hw]at F;exact aj.1 F
   rw[this];exact⟨by decide,by decide⟩
 ·rintro _ h17 ⟨rfl,tu,S,s,j,hS⟩
  refine ah.2 ?_;have Z:∀{z},z<k.size→¬S z:=fun hz h=>by have:=(hS _ h).1;omega
  have hne:h.size+1≠eb∧h.size≠eb:=by omega
  have O:=p14.upd j (fun h=>h.elim (Z (by omega)) fun h=>by omega) (fun h=>h.elim (Z (by omega)) fun h=>by omega)
  refine yC s.ed s.tk O (by simp) fun h21 i p21 A J=>?_
  have Y:=s.end_ (cb:=h.size) (.inl (by omega)) i A;have z17:=j.size;have z21:=i.size;have N:=m.get o (show ¬I.size=h.size by omega)
  have V:=i.get (j.get N (fun h=>h.elim (Z (by omega)) fun h=>by omega)) (show ¬(I.size=h.size∨I.size=tb) by omega)
  have v:Upd No h h21:=(((k2.tr (M.tr G)).trans m fun y a=>.inr (by have a:y=h.size:=a;omega)).trans j fun y a=>.inr (a.elim (fun h=>by have:=(hS _ h).1;omega) fun h=>by omega)).trans i fun y a=>.inr (by rcases a with h|h<;>omega)
  refine uT (t:=tu) fun h23 f E=>az.2 ⟨_,vc f 0,_,vc f 1,_,vc f 2,_,vc f 3,_,vc f 4,_,vc f 5,?_⟩
  refine Hi (Y.upd0 E) (List.pairwise_singleton _ _) (by simp) fun h31 T=>az.2 ?_
  have c:=E.tr T;refine KO (J.upd c fun h=>h) (A.upd c fun h=>h) (⟨#[98]⟩,⟨#[]⟩) fun L P=>az.2 ?_
  have d:=c.tr P;have g:=d.get0 V;refine⟨_,vc g 0,_,vc g 1,_,vc g 2,_,vc g 3,_,vc g 4,_,vc g 5,?_⟩;have X:TreeIs No L 0 ⟨0,0,0⟩ t []:=((((w.updM j fun y a=>a.elim (fun h=>.inr (hS y h).1) fun h=>.inl (.inr ⟨by omega,by omega⟩)).less (W':=W) fun y a=>.inl a).updM i fun y a=>.inl (a.elim (fun h=>.inl (by omega)) fun h=>.inr ⟨by omega,by omega⟩)).less fun _ h=>h.elim).upd0 d
  refine Hi X fO (by simp) fun h41 Q=>hk h41 (v.tr (d.tr Q))
end Go.Proofs
namespace Go.Proofs
open Go Go.Lift
def Mv(U:Nat→Prop)(h:ad)(a:Nat→Prop)(b:ad):Prop:=Upd U h b∧∀y,a y→U y∨h.size≤y
section
variable {U U' U1 U2 M:Nat→Prop} {h h' h1 h2:ad}
theorem Mv.refl(U:Nat→Prop)(h:ad):Mv U h U h:=⟨Upd.refl _ _,fun _ h=>.inl h⟩
theorem Mv.tr(a:Mv U h U1 h1)(b:Mv U1 h1 U2 h2):Mv U h U2 h2:=⟨a.1.trans b.1 a.2,fun y c=>(b.2 y c).elim (a.2 y) fun h=>.inr (bB a.1.size h)⟩
theorem Mv.of0(k:Upd No h h'):Mv U h U h':=⟨k.wide,fun _ h=>.inl h⟩
theorem Mv.up0(a:Mv U h U1 h1)(k:Upd No h1 h2):Mv U h U1 h2:=a.tr (.of0 k)
theorem Mv.new(a:∀y,U' y→U y∨h.size≤y):Mv U h U' h:=⟨Upd.refl _ _,a⟩
theorem Mv.upM(k:Upd M h h')(hm:∀y,M y→U y∨h.size≤y):Mv U h U h':=⟨k.mono hm,fun _ h=>.inl h⟩
theorem Mv.get(a:Mv U h U' h'){b:Nat}{o:Obj}(c:h[b]? =some o) (d:¬U b):h'[b]? =some o:=a.1.get c d
theorem Mv.not(a:Mv U h U' h'){b:Nat}{o:Obj}(c:h[b]? =some o) (d:¬U b):¬U' b:=fun e=>(a.2 b e).elim d fun h=>by have:=aF c;omega
theorem TreeIs.mv{a:Int}{x:Hs}{t:Tr}{l:List Pr}(i:TreeIs U h a x t l)(m:Mv U h U' h'):TreeIs U' h' a x t l:=
 ((i.less (W':=fun y=>U y∨h.size≤y) fun _ h=>h).updM m.1 fun _ b=>.inl (.inl b)).less fun y b=>.inl (m.2 y b)
theorem RefIs.mv{a:Int}{x:Hs}{t:Rt}{l:List Pr}(i:RefIs U h a x t l)(m:Mv U h U' h'):RefIs U' h' a x t l:=
 ((i.less (W':=fun y=>U y∨h.size≤y) fun _ h=>h).updM m.1 fun _ b=>.inl (.inl b)).less fun y b=>.inl (m.2 y b)
end
structure Ed where
 eb:Nat
 tb:Nat
 ti:Int
 lv:Bool
 tu:Tr
 lu:List Pr
 S:Nat→Prop
def Un(A:Nat→Prop)(cb:Nat)(es:List Ed)(y:Nat):Prop:=A y∨y=cb∨∃e∈es,y=e.eb∨(e.lv=true∧y=e.tb)∨e.S y
def tok(e:Ed):Option Addr:=if e.lv then some ⟨e.tb,0,none⟩else none
structure EdW(U:Nat→Prop)(h:ad)(pb:Nat)(kind:Int)(x:Hs)(n:Nat)(e:Ed):Prop where
 ed:EdAt h e.eb pb e.tb e.tu
 tk:TokAt h e.tb pb e.ti e.lv
 iu:TreeO (tok e) U h kind x e.tu e.lu e.S
 up:cp e.lu
 fit:Fit e.lu
 len:e.lu.length≤n
def pt:List Ed→Nat
 | []=>0
 |e::es=>(if e.lv then 1 else 0)+pt es
structure Wo(A:Nat→Prop)(h:ad)(pb cb cap:Nat)(ids:List Int)(kind:Int)(x:Hs)(n:Nat)(es:List Ed):Prop where
 pl:PoolAt h pb cb cap ids
 rm:ids.length+pt es=cap
 lt:∀y,A y→y<h.size
 ac:¬A cb
 pv:¬Un A cb es pb
 ew:∀e∈es,EdW (Un A cb es) h pb kind x n e
 av:∀e∈es,¬A e.eb∧¬A e.tb∧(∀y,e.S y→¬A y∧y≠cb∧(∀f∈es,y≠f.eb∧y≠f.tb)∧y<h.size)∧(e.lv=false→¬Un A cb es e.tb)
 pw:∀(i j:Nat) (a b:Ed),es[i]? =some a→es[j]? =some b→i≠j→a.eb≠b.eb∧a.tb≠b.tb∧∀y,a.S y→¬b.S y
def Me(A:Nat→Prop)(cb:Nat)(es:List Ed)(h:ad)(a:List Ed)(b:ad):Prop:=Mv (Un A cb es) h (Un A cb a) b∧Upd (fun y=>¬A y) h b
section
variable {A A' M:Nat→Prop} {h h':ad} {pb cb cap n m:Nat} {ids ids':List Int} {kind:Int} {x:Hs} {es:List Ed}
theorem Wo.ult(w:Wo A h pb cb cap ids kind x n es):∀y,Un A cb es y→y<h.size:=by
 rintro y (b|rfl|⟨e,a,rfl|⟨_,rfl⟩|b⟩)
 ·exact w.lt y b
 ·obtain⟨_,_,_,_,hc⟩:=w.pl;exact aF hc
 ·exact aF (w.ew e a).ed
 ·exact aF (w.ew e a).tk
 ·exact((w.av e a).2.2.1 y b).2.2.2
theorem EdW.mono{U:Nat→Prop}{e:Ed}(w:EdW U h pb kind x n e)(hm:n≤m):EdW U h pb kind x m e:=⟨w.ed,w.tk,w.iu,w.up,w.fit,bB w.len hm⟩
theorem Wo.mono(w:Wo A h pb cb cap ids kind x n es)(hm:n≤m):Wo A h pb cb cap ids kind x m es:=⟨w.pl,w.rm,w.lt,w.ac,w.pv,fun e a=>(w.ew e a).mono hm,w.av,w.pw⟩
theorem Wo.cb_ne(w:Wo A h pb cb cap ids kind x n es):cb<h.size∧pb<h.size∧∀e∈es,cb≠e.eb∧cb≠e.tb∧∀f∈es,e.eb≠f.tb:=by
 refine⟨w.ult _ (.inr (.inl rfl)),aF w.pl.2.1,fun e c=>?_⟩
 obtain⟨d,k,i⟩:=HG (w.ew e c).ed (w.ew e c).tk w.pl;refine⟨Ne.symm d,Ne.symm i,fun f g j=>?_⟩
 have a:=(w.ew e c).ed;have b:=(w.ew f g).tk;rw[←j]at b;have:=a.symm.trans b;simp at this
theorem Wo.own(w:Wo A h pb cb cap ids kind x n es)(k:Upd M h h')(hm:∀y,M y→A y∨h.size≤y)(g:∀y,A' y→(A y∨h.size≤y)∧y<h'.size):Wo A' h' pb cb cap ids kind x n es∧Mv (Un A cb es) h (Un A' cb es) h':=by
 have mv:Mv (Un A cb es) h (Un A' cb es) h':=⟨k.mono fun y a=>(hm y a).imp .inl id,fun y a=>a.elim (fun h=>(g y h).1.imp .inl id) fun h=>.inl (.inr h)⟩
 have un:∀{y},y<h.size→¬A y→¬A' y:=fun i d h=>(g _ h).1.elim d fun h=>by omega
 have c:∀{y},y<h.size→¬A y→¬M y:=fun i d h=>(hm _ h).elim d fun h=>by omega
 obtain⟨hc,j,_⟩:=w.cb_ne;have p:=k.size;refine⟨⟨w.pl.upd k (c j fun h=>w.pv (.inl h)) (c hc w.ac),w.rm,fun y a=>(g y a).2,un hc w.ac,fun f=>(mv.2 _ f).elim w.pv fun h=>by omega,fun e b=>?_,fun e b=>?_,w.pw⟩,mv⟩
 ·have v:=w.av e b
  have q:=w.ew e b;exact⟨q.ed.upd k (c (aF q.ed) v.1),q.tk.upd k (c (aF q.tk) v.2.1),((q.iu.less (W':=fun y=>Un A cb es y∨h.size≤y) fun _ h=>h).upd k (fun y a=>(v.2.2.1 y a).2.2.2) fun y a=>(hm y a).imp (fun h=>⟨.inl (.inl h),fun o=>(v.2.2.1 y o).1 h⟩) id).less fun y a=>.inl (mv.2 y a),q.up,q.fit,q.len⟩
 ·have v:=w.av e b
  have q:=w.ew e b;exact⟨un (aF q.ed) v.1,un (aF q.tk) v.2.1,fun y a=>⟨un (v.2.2.1 y a).2.2.2 (v.2.2.1 y a).1,(v.2.2.1 y a).2.1,(v.2.2.1 y a).2.2.1,by have:=(v.2.2.1 y a).2.2.2;omega⟩,fun m f=>(mv.2 _ f).elim (v.2.2.2 m) fun h=>by have:=aF q.tk;omega⟩
theorem Wo.up0(w:Wo A h pb cb cap ids kind x n es)(k:Upd No h h'):Wo A h' pb cb cap ids kind x n es:=(w.own k (fun _ h=>h.elim) fun y a=>⟨.inl a,by have:=w.lt y a;have:=k.size;omega⟩).1
def Ot(A:Nat→Prop)(cb:Nat)(es:List Ed)(i:Nat)(y:Nat):Prop:=A y∨y=cb∨(∃e∈es,y=e.eb∨(e.lv=true∧y=e.tb))∨∃j b,es[j]? =some b∧j≠i∧b.S y
theorem Ot.un{i:Nat}{e:Ed}(d:es[i]? =some e) (y:Nat):(Ot A cb es i y∨e.S y)↔Un A cb es y:=by
 constructor
 ·rintro((h|h|⟨f,a,h⟩|⟨j,b,g,_,h⟩)|h)
  ·exact .inl h
  ·exact .inr (.inl h)
  ·exact .inr (.inr ⟨f,a,h.imp id .inl⟩)
  ·exact .inr (.inr ⟨b,aw g,.inr (.inr h)⟩)
  ·exact .inr (.inr ⟨e,aw d,.inr (.inr h)⟩)
 ·rintro(h|h|⟨f,a,h|h|h⟩)
  ·exact .inl (.inl h)
  ·exact .inl (.inr (.inl h))
  ·exact .inl (.inr (.inr (.inl ⟨f,a,.inl h⟩)))
  ·exact .inl (.inr (.inr (.inl ⟨f,a,.inr h⟩)))
  ·obtain⟨j,c⟩:=fE a
   by_cases e:j=i
   ·subst e;rw[d]at c;cases c;exact .inr h
   ·exact .inl (.inr (.inr (.inr ⟨j,f,c,e,h⟩)))
theorem Wo.edO(w:Wo A h pb cb cap ids kind x n es){i:Nat}{e:Ed}(c:es[i]? =some e) (d:e.lv=true):EdO (Ot A cb es i) e.S h e.eb pb e.tb e.ti kind x e.tu e.lu:=by
 have hm:=aw c;have q:=w.ew e hm;have v:=w.av e hm;have k:tok e=some ⟨e.tb,0,none⟩:=by unfold tok;rw[d];rfl
 refine⟨q.ed,d▸q.tk,(k▸q.iu).less fun y a=>.inl ((Ot.un c y).1 a),fun y a=>w.ult y ((Ot.un c y).1 a),.inr (.inr (.inl ⟨e,hm,.inl rfl⟩)),.inr (.inr (.inl ⟨e,hm,.inr ⟨d,rfl⟩⟩)),fun y a=>?_,q.up,q.fit⟩
 rintro(h|h|⟨f,g,h⟩|⟨j,b,o,m,h⟩)
 ·exact(v.2.2.1 y a).1 h
 ·exact(v.2.2.1 y a).2.1 h
 ·exact h.elim ((v.2.2.1 y a).2.2.1 f g).1 fun h=>((v.2.2.1 y a).2.2.1 f g).2 h.2
 ·exact(w.pw i j e b c o (Ne.symm m)).2.2 y a h
theorem Cn{e e':Ed}:∀{es:List Ed} {i:Nat},es[i]? =some e→pt (es.set i e')+(if e.lv then 1 else 0)=pt es+(if e'.lv then 1 else 0)
 |a::es,0,h=>by cases h;simp only[List.set_cons_zero,pt];omega
 |a::es,i+1,h=>by
  simp only[List.set_cons_succ,pt];have:=Cn (e':=e') (es:=es) (i:=i) (by simpa using h);omega
 | [],i,h=>by simp at h
theorem Co{e:Ed}:∀{es:List Ed},pt (es++ [e])=pt es+if e.lv then 1 else 0
 | []=>by simp only[List.nil_append,pt];omega
 |a::es=>by simp only[List.cons_append,pt,Co (es:=es)];omega
theorem Dh{α:Type}{l:List α}{i:Nat}{a b:α}(h:b∈l.set i a):b=a∨∃j,j≠i∧l[j]? =some b:=by
 obtain⟨j,c⟩:=fE h;rw[List.getElem?_set]at c;split at c
 ·split at c
  ·cases c;exact .inl rfl
  ·cases c
 ·exact .inr ⟨j,by omega,c⟩
theorem Wo.repl{P0:Prop}(w:Wo A h pb cb cap ids kind x n es){i:Nat}{e e':Ed}(R:es[i]? =some e) (X:e.lv=true) (u:e'.eb=e.eb) (k:Upd M h h') (hM:∀y,M y→y=cb∨y=e.tb∨y=e.eb∨e.S y) (p:PoolAt h' pb cb cap ids') (hcap:ids'.length+(if e'.lv then 1 else 0)=ids.length+1)
  (z:e'.tb=e.tb∨h.size≤e'.tb) (Q:∀y,e'.S y→(e.S y∨(h.size≤y∧y≠e'.tb))∧y<h'.size) (ed:EdAt h' e'.eb pb e'.tb e'.tu) (tk:TokAt h' e'.tb pb e'.ti e'.lv) (hn:n≤m) (up:cp e'.lu) (fit:Fit e'.lu) (len:e'.lu.length≤m)
  (O:Mv (Un A cb es) h (Un A cb (es.set i e')) h'→(∀y,Un A cb (es.set i e') y↔(Ot A cb (es.set i e') i y∨e'.S y))→(∀y,e.S y→¬Ot A cb (es.set i e') i y)→((e'.lv=false∨e'.tb≠e.tb)→¬Un A cb (es.set i e') e.tb)→TreeO (tok e') (Un A cb (es.set i e')) h' kind x e'.tu e'.lu e'.S∧P0):
  Wo A h' pb cb cap ids' kind x m (es.set i e')∧Me A cb es h (es.set i e') h'∧P0:=by
 have c:=aw R;have hi:i<es.length:=(aP.1 R).1;have v:=w.av e c;have q:=w.ew e c;have hz:=k.size;obtain⟨hc,hp,F⟩:=w.cb_ne;have lb:=aF q.tk;have L:(es.set i e')[i]? =some e':=List.getElem?_set_self hi;have oth:∀{f},f∈es.set i e'→f=e'∨∃j,j≠i∧es[j]? =some f∧f∈es∧f.eb≠e.eb∧f.tb≠e.tb∧(∀y,f.S y→¬e.S y)∧f.eb<h.size∧f.tb<h.size:=fun t=>(Dh t).imp id fun⟨j,D,t⟩=>by
  have pw:=w.pw j i _ e t R D;have hm:=aw t;exact⟨j,D,t,hm,pw.1,pw.2.1,pw.2.2,aF (w.ew _ hm).ed,aF (w.ew _ hm).tk⟩
 have mv:Mv (Un A cb es) h (Un A cb (es.set i e')) h':=by
  refine⟨k.mono fun y d=>.inl ?_,?_⟩
  ·rcases hM y d with rfl|rfl|rfl|d
   ·exact .inr (.inl rfl)
   ·exact .inr (.inr ⟨e,c,.inr (.inl ⟨X,rfl⟩)⟩)
   ·exact .inr (.inr ⟨e,c,.inl rfl⟩)
   ·exact .inr (.inr ⟨e,c,.inr (.inr d)⟩)
  ·rintro y (d|d|⟨f,t,d⟩)
   ·exact .inl (.inl d)
   ·exact .inl (.inr (.inl d))
   ·rcases oth t with rfl|⟨j,D,J,o,_⟩
    ·rcases d with rfl|⟨_,rfl⟩|d
     ·rw[u];exact .inl (.inr (.inr ⟨e,c,.inl rfl⟩))
     ·rcases z with h|h
      ·rw[h];exact .inl (.inr (.inr ⟨e,c,.inr (.inl ⟨X,rfl⟩)⟩))
      ·exact .inr h
     ·exact(Q y d).1.imp (fun h=>.inr (.inr ⟨e,c,.inr (.inr h)⟩)) And.left
    ·exact .inl (.inr (.inr ⟨f,o,d⟩))
 have nM:∀{y},y≠cb→y≠e.tb→y≠e.eb→¬e.S y→¬M y:=fun s C h3 h4 h=>by rcases hM _ h with h|h|h|h<;>contradiction
 have K:∀{f},f∈es→∀{y},y=f.eb∨y=f.tb→¬e.S y:=fun t y d B=>by
  have:=(v.2.2.1 y B).2.2.1 _ t;exact d.elim this.1 this.2
 have sep:∀y,e.S y→¬Ot A cb (es.set i e') i y:=by
  rintro y B (h|h|⟨f,t,h⟩|⟨j,b,I,D,h⟩)
  ·exact(v.2.2.1 y B).1 h
  ·exact(v.2.2.1 y B).2.1 h
  ·have d:=(v.2.2.1 y B).2.2.2
   rcases oth t with rfl|⟨j,D,J,o,_⟩
   ·rcases h with h|⟨_,h⟩
    ·exact K c (.inl (h.trans u)) B
    ·rcases z with S|S
     ·exact K c (.inr (h.trans S)) B
     ·omega
   ·exact K o (h.imp id And.right) B
  ·rw[jF (Ne.symm D)]at I
   exact(w.pw i j e b R I (Ne.symm D)).2.2 y B h
 have V:(e'.lv=false∨e'.tb≠e.tb)→¬Un A cb (es.set i e') e.tb:=by
  rintro H (h|h|⟨f,t,h⟩)
  ·exact v.2.1 h
  ·exact(F e c).2.1 h.symm
  ·rcases oth t with rfl|⟨j,D,J,o,S,Y,e3,_⟩
   ·rcases h with h|⟨s,h⟩|h
    ·exact(F e c).2.2 e c (u.symm.trans h.symm)
    ·rcases H with H|H
     ·rw[H]at s;cases s
     ·exact H h.symm
    ·exact(Q _ h).1.elim (fun h=>K c (.inr rfl) h) fun h=>by omega
   ·rcases h with h|⟨_,h⟩|h
    ·exact(F f o).2.2 e c h.symm
    ·exact Y h.symm
    ·exact((w.av f o).2.2.1 _ h).2.2.1 e c|>.2 rfl
 obtain⟨O,hP0⟩:=O mv (fun y=>(Ot.un L y).symm) sep V
 refine⟨⟨p,?_,fun y d=>by have:=w.lt y d;omega,w.ac,fun P=>(mv.2 _ P).elim w.pv fun h=>by omega,fun f t=>?_,fun f t=>?_,fun i' j' a b G I hij=>?_⟩,⟨mv,k.mono fun y d=>.inl ?_⟩,hP0⟩
 ·have:=Cn (e':=e') R
  have:=w.rm;rw[X]at*;simp only[if_true]at*;omega
 ·rcases oth t with rfl|⟨j,D,J,o,S,Y,e3,e4,e5⟩
  ·exact⟨ed,tk,O,up,fit,len⟩
  ·have g:=w.ew f o
   have E:=w.av f o;have cf:=F f o;refine⟨g.ed.upd k (nM (Ne.symm cf.1) (cf.2.2 e c) S (K o (.inl rfl))),g.tk.upd k (nM (Ne.symm cf.2.1) Y (Ne.symm ((F e c).2.2 f o)) (K o (.inr rfl))),((g.iu.less (W':=fun y=>Un A cb es y∨h.size≤y) fun _ h=>h).upd k (fun y d=>(E.2.2.1 y d).2.2.2) fun y d=>.inl ⟨?_,fun B=>?_⟩).less fun y d=>.inl (mv.2 y d),g.up,g.fit,bB g.len hn⟩
   ·rcases hM y d with rfl|rfl|rfl|d
    ·exact .inl (.inr (.inl rfl))
    ·exact .inl (.inr (.inr ⟨e,c,.inr (.inl ⟨X,rfl⟩)⟩))
    ·exact .inl (.inr (.inr ⟨e,c,.inl rfl⟩))
    ·exact .inl (.inr (.inr ⟨e,c,.inr (.inr d)⟩))
   ·have a:=E.2.2.1 y B
    rcases hM y d with h|h|h|h
    ·exact a.2.1 h
    ·exact(a.2.2.1 e c).2 h
    ·exact(a.2.2.1 e c).1 h
    ·exact e3 y B h
 ·rcases oth t with rfl|⟨j,D,J,o,S,Y,e3,e4,e5⟩
  ·refine⟨u▸v.1,?_,fun y d=>?_,fun H P=>?_⟩
   ·rcases z with h|h
    ·rw[h];exact v.2.1
    ·exact fun G=>by have:=w.lt _ G;omega
   ·have T:=(Q y d).1
    refine⟨fun G=>?_,fun Z=>?_,fun g hg=>?_,(Q y d).2⟩
    ·exact T.elim (fun h=>(v.2.2.1 y h).1 G) fun h=>by have:=w.lt y G;omega
    ·exact T.elim (fun h=>(v.2.2.1 y h).2.1 Z) fun h=>by omega
    ·rcases oth hg with rfl|⟨_,_,_,N,_,_,_,e4,e5⟩
     ·refine⟨fun h=>?_,fun h=>?_⟩
      ·exact T.elim (K c (.inl (h.trans u))) fun s=>by have:=aF q.ed;omega
      ·refine T.elim (fun B=>?_) fun s=>s.2 h
       rcases z with C|C
       ·exact K c (.inr (h.trans C)) B
       ·have:=(v.2.2.1 y B).2.2.2;omega
     ·exact T.elim (fun h=>(v.2.2.1 y h).2.2.1 g N) fun h=>⟨by omega,by omega⟩
   ·rcases z with h|h
    ·rw[h]at P;exact V (.inl H) P
    ·rcases P with s|s|⟨f,t,s⟩
     ·have:=w.lt _ s;omega
     ·omega
     ·rcases oth t with rfl|⟨_,_,_,o,_,_,_,e4,e5⟩
      ·rcases s with s|⟨s,_⟩|s
       ·rw[u]at s;have:=aF q.ed;omega
       ·rw[H]at s;cases s
       ·exact(Q _ s).1.elim (fun C=>by have:=(v.2.2.1 _ C).2.2.2;omega) fun C=>C.2 rfl
      ·rcases s with s|⟨_,s⟩|s
       ·omega
       ·omega
       ·have:=((w.av f o).2.2.1 _ s).2.2.2;omega
  ·have E:=w.av f o
   refine⟨E.1,E.2.1,fun y d=>⟨(E.2.2.1 y d).1,(E.2.2.1 y d).2.1,fun g hg=>?_,by have:=(E.2.2.1 y d).2.2.2;omega⟩,fun H P=>(mv.2 _ P).elim (E.2.2.2 H) fun h=>by omega⟩
   have hy2:=(E.2.2.1 y d).2.2.2;rcases oth hg with rfl|⟨_,_,_,N,_⟩
   ·have a:=(E.2.2.1 y d).2.2.1 e c
    refine⟨fun h=>a.1 (h.trans u),fun h=>?_⟩
    rcases z with C|C
    ·exact a.2 (h.trans C)
    ·omega
   ·exact(E.2.2.1 y d).2.2.1 g N
 ·have val:∀{j a},(es.set i e')[j]? =some a→(j≠i∧es[j]? =some a)∨(j=i∧a=e'):=fun{j a} G=>by
   by_cases ej:j=i
   ·subst ej
    rw[L]at G;cases G;exact .inr ⟨rfl,rfl⟩
   ·rw[jF (Ne.symm ej)]at G
    exact .inl ⟨ej,G⟩
  have one:∀{j b},es[j]? =some b→j≠i→e'.eb≠b.eb∧e'.tb≠b.tb∧∀y,e'.S y→¬b.S y:=fun{j b} I D=>by
   have pw:=w.pw i j e b R I (Ne.symm D);have W:=aw I;have lt:=aF (w.ew b W).tk;refine⟨u▸pw.1,?_,fun y d I=>?_⟩
   ·rcases z with h|h
    ·rw[h];exact pw.2.1
    ·omega
   ·have:=((w.av b W).2.2.1 y I).2.2.2
    exact(Q y d).1.elim (fun h=>pw.2.2 y h I) fun h=>by omega
  rcases val G with⟨s,qa⟩|⟨s,rfl⟩<;>rcases val I with⟨C,qb⟩|⟨C,rfl⟩
  ·exact w.pw i' j' a b qa qb hij
  ·obtain⟨p1,p2,p3⟩:=one qa s
   exact⟨Ne.symm p1,Ne.symm p2,fun y d h=>p3 y h d⟩
  ·exact one qb C
  ·omega
 ·rcases hM y d with rfl|rfl|rfl|d
  ·exact w.ac
  ·exact v.2.1
  ·exact v.1
  ·exact(v.2.2.1 y d).1
theorem Wo.goes(w:Wo A h pb cb cap ids kind x n es){i:Nat}{e:Ed}(z:es[i]? =some e) (p:e.lv=true) {g:Nat→Prop} {d:Tr} {c:List Pr} (e':EdO (Ot A cb es i) g h' e.eb pb e.tb e.ti kind x d c) (k:Upd (fun y=>e.S y∨y=e.eb) h h') (B:∀y,g y→(e.S y∨h.size≤y)∧y<h'.size) (G:n≤m) (hm:c.length≤m):
  Wo A h' pb cb cap ids kind x m (es.set i {e with tu:=d,lu:=c,S:=g})∧Me A cb es h (es.set i {e with tu:=d,lu:=c,S:=g}) h':=by
 have a:=aw z;have v:=w.av e a;have q:=w.ew e a;obtain⟨hc,H,t⟩:=w.cb_ne;refine(fun r=>⟨r.1,r.2.1⟩) (w.repl (P0:=True) (e':={e with tu:=d,lu:=c,S:=g}) z p rfl k (fun y o=>o.elim (fun h=>.inr (.inr (.inr h))) fun h=>.inr (.inr (.inl h))) (w.pl.upd k (fun h=>w.pv ?_) (fun h=>?_)) (by simp[p]) (.inl rfl) (fun y o=>⟨(B y o).1.imp id fun h=>⟨h,by have:=aF q.tk;show y≠e.tb;omega⟩,(B y o).2⟩) e'.ed (p▸e'.tk) G e'.up e'.fit hm fun mv un E F=>⟨?_,trivial⟩)
 ·rcases h with h|h
  ·exact .inr (.inr ⟨e,a,.inr (.inr h)⟩)
  ·exact .inr (.inr ⟨e,a,.inl h⟩)
 ·rcases h with h|h
  ·exact(v.2.2.1 _ h).2.1 rfl
  ·exact(t e a).1 h
 ·have D:tok {e with tu:=d,lu:=c,S:=g}=some ⟨e.tb,0,none⟩:=by unfold tok;rw[p];rfl
  rw[D];refine e'.iu.less fun y o=>.inl (((un y).1 o).imp (fun h=>?_) id)
  rcases h with h|h|⟨f,s,h⟩|⟨j,b,C,u,h⟩
  ·exact .inl h
  ·exact .inr (.inl h)
  ·rcases Dh s with rfl|⟨j,u,s⟩
   ·exact .inr (.inr (.inl ⟨e,a,h⟩))
   ·exact .inr (.inr (.inl ⟨f,aw s,h⟩))
  ·rw[jF (Ne.symm u)]at C
   exact .inr (.inr (.inr ⟨j,b,C,u,h⟩))
theorem Wo.turn(w:Wo A h pb cb cap ids kind x n es){i:Nat}{e:Ed}(z:es[i]? =some e) (g:e.lv=true) {tb':Nat} {ti':Int} {lv' t:Bool} (k:Upd (fun y=>y=cb∨y=e.tb∨y=e.eb) h h') (p:PoolAt h' pb cb cap ids') (f:ids'.length+(if lv' then 1 else 0)=ids.length+1)
  (ed:EdAt h' e.eb pb tb' e.tu) (tk:TokAt h' tb' pb ti' lv') (j:TokAt h' e.tb pb e.ti t) (d:(tb'=e.tb∧lv'=false)∨h.size≤tb'):
  Wo A h' pb cb cap ids' kind x n (es.set i {e with tb:=tb',ti:=ti',lv:=lv',S:=No})∧Me A cb es h (es.set i {e with tb:=tb',ti:=ti',lv:=lv',S:=No}) h'∧TreeIs (Un A cb (es.set i {e with tb:=tb',ti:=ti',lv:=lv',S:=No})) h' kind x e.tu e.lu:=by
 have c:=aw z;have v:=w.av e c;have q:=w.ew e c;have E:=aF q.tk;have r:=w.repl (e':={e with tb:=tb',ti:=ti',lv:=lv',S:=No}) (m:=n) (P0:=TreeIs (Un A cb (es.set i {e with tb:=tb',ti:=ti',lv:=lv',S:=No})) h' kind x e.tu e.lu) z g rfl k (fun y b=>b.imp id fun h=>h.imp id .inl) p f (d.imp And.left id) (fun y b=>b.elim) ed tk (au _) q.up q.fit q.len fun mv un u o=>?_
 ·exact⟨r.1,r.2.1,r.2.2⟩
 ·have C:tok e=some ⟨e.tb,0,none⟩:=by unfold tok;rw[g];rfl
  have s:∀y,(y=cb∨y=e.tb∨y=e.eb)→(Un A cb es y∨h.size≤y)∧¬e.S y:=fun y b=>by
   refine⟨?_,fun F=>?_⟩
   ·rcases b with rfl|rfl|rfl
    ·exact .inl (.inr (.inl rfl))
    ·exact .inl (.inr (.inr ⟨e,c,.inr (.inl ⟨g,rfl⟩)⟩))
    ·exact .inl (.inr (.inr ⟨e,c,.inl rfl⟩))
   ·have a:=v.2.2.1 y F
    rcases b with h|h|h
    ·exact a.2.1 h
    ·exact(a.2.2.1 e c).2 h
    ·exact(a.2.2.1 e c).1 h
  have i1:=((C▸q.iu).less (W':=fun y=>Un A cb es y∨h.size≤y) fun _ h=>h).upd k (fun y b=>(v.2.2.1 y b).2.2.2) fun y b=>.inl (s y b)
  have B:TreeIs (Un A cb (es.set i {e with tb:=tb',ti:=ti',lv:=lv',S:=No})) h' kind x e.tu e.lu:=i1.freeze (fun y b=>mv.2 y b) (fun a h=>by
   cases h
   exact⟨o (d.symm.imp (fun h=>by show tb'≠e.tb;omega) And.right).symm,_,_,j,by simp⟩) fun y b D=>((un y).1 D).elim (u y b) fun h=>h
  exact⟨sB B,B⟩
theorem Wo.begin(w:Wo A h pb cb cap ids kind x n es){i:Int}{eb tb:Nat}{tu:Tr}{lu:List Pr}(s:ids=i::ids')(k:Upd (· =cb) h h')(p:PoolAt h' pb cb cap ids')(t:TokAt h' tb pb i true)(ed:EdAt h' eb pb tb tu)(G:h.size≤eb)(I:h.size≤tb)(J:TreeIs (Un A cb es) h kind x tu lu)(up:cp lu)(fit:Fit lu)(len:lu.length≤n):
  Wo A h' pb cb cap ids' kind x n (es++ [⟨eb,tb,i,true,tu,lu,No⟩])∧Me A cb es h (es++ [⟨eb,tb,i,true,tu,lu,No⟩]) h':=by
 obtain⟨hc,N,o⟩:=w.cb_ne;have hz:=k.size;have H:eb≠tb:=(HG ed t p).2.1;have mem:∀{f},f∈es++ [⟨eb,tb,i,true,tu,lu,No⟩]→f∈es∨f=⟨eb,tb,i,true,tu,lu,No⟩:=fun d=>(bN.1 d).imp id aj.1
 have mv:Mv (Un A cb es) h (Un A cb (es++ [⟨eb,tb,i,true,tu,lu,No⟩])) h':=by
  refine⟨k.mono fun y c=>.inl (.inr (.inl c)),?_⟩
  rintro y (c|c|⟨f,d,c⟩)
  ·exact .inl (.inl c)
  ·exact .inl (.inr (.inl c))
  ·rcases mem d with d|rfl
   ·exact .inl (.inr (.inr ⟨f,d,c⟩))
   ·rcases c with rfl|⟨_,rfl⟩|c
    ·exact .inr G
    ·exact .inr I
    ·exact c.elim
 have q:∀{f},f∈es→f.eb<h.size∧f.tb<h.size:=fun d=>⟨aF (w.ew _ d).ed,aF (w.ew _ d).tk⟩
 refine⟨⟨p,?_,fun y c=>by have:=w.lt y c;omega,w.ac,fun D=>(mv.2 _ D).elim w.pv fun h=>by omega,fun f d=>?_,fun f d=>?_,fun F L a b e C B=>?_⟩,mv,k.mono fun y c=>.inl (c▸w.ac)⟩
 ·have:=w.rm
  rw[s]at this;rw[Co];simp only[List.length_cons,if_true]at*;omega
 ·rcases mem d with d|rfl
  ·have g:=w.ew f d
   have m:=w.av f d;exact⟨g.ed.upd k (Ne.symm (o f d).1),g.tk.upd k (Ne.symm (o f d).2.1),((g.iu.less (W':=fun y=>Un A cb es y∨h.size≤y) fun _ h=>h).upd k (fun y c=>(m.2.2.1 y c).2.2.2) fun y c=>.inl ⟨.inl (.inr (.inl c)),fun M=>(m.2.2.1 y M).2.1 c⟩).less fun y c=>.inl (mv.2 y c),g.up,g.fit,g.len⟩
  ·exact⟨ed,t,sB (J.mv mv),up,fit,len⟩
 ·rcases mem d with d|rfl
  ·have m:=w.av f d
   refine⟨m.1,m.2.1,fun y c=>⟨(m.2.2.1 y c).1,(m.2.2.1 y c).2.1,fun g E=>?_,by have:=(m.2.2.1 y c).2.2.2;omega⟩,fun u D=>(mv.2 _ D).elim (m.2.2.2 u) fun h=>by have:=(q d).2;omega⟩
   have K:=(m.2.2.1 y c).2.2.2;rcases mem E with E|rfl
   ·exact(m.2.2.1 y c).2.2.1 g E
   ·exact⟨by show y≠eb;omega,by show y≠tb;omega⟩
  ·exact⟨fun e=>by have:=w.lt _ e;simp only at this;omega,fun e=>by have:=w.lt _ e;simp only at this;omega,fun y c=>c.elim,fun u=>by cases u⟩
 ·have val:∀{j a},(es++ [⟨eb,tb,i,true,tu,lu,No⟩])[j]? =some a→es[j]? =some a∨(j=es.length∧a=⟨eb,tb,i,true,tu,lu,No⟩):=fun{j a} e=>by
   rw[List.getElem?_append]at e;split at e
   ·exact .inl e
   ·have:j-es.length=0:=by
     have:=(aP.1 e).1;simp only[bq]at this;omega
    rw[this]at e;cases e;exact .inr ⟨by omega,rfl⟩
  have one:∀{j:Nat} {b:Ed},es[j]? =some b→eb≠b.eb∧tb≠b.tb:=fun{j b} C=>by
   have:=q (aw C);exact⟨by omega,by omega⟩
  rcases val e with v|⟨O,rfl⟩<;>rcases val C with z|⟨P,rfl⟩
  ·exact w.pw F L a b v z B
  ·exact⟨Ne.symm (one v).1,Ne.symm (one v).2,fun y _ h=>h.elim⟩
  ·exact⟨(one z).1,(one z).2,fun y h=>h.elim⟩
  ·omega
end
end Go.Proofs
namespace Go.Proofs
open Go Go.Lift
end Go.Proofs
namespace Go.Proofs
open Go Go.Lift
end Go.Proofs
namespace Go.Proofs
open Go Go.Lift
end Go.Proofs
namespace Go.Proofs
open Go Go.Lift
end Go.Proofs
namespace Go.Proofs
open Go Go.Lift
end Go.Proofs
namespace Go.Proofs
open Go Go.Lift
end Go.Proofs
namespace Go.Proofs
open Go Go.Lift
end Go.Proofs
namespace Go.Proofs
open Go Go.Lift
theorem IK{h:ad}{eb pb tb cb cap:Nat}{i ti:Int}{ids ids2:List Int}{tu:Tr}(e:EdAt h eb pb tb tu)(k:TokAt h tb pb ti true)(p:PoolAt h pb cb cap ids)(L:ids.length<cap)(hi:ids++ [ti]=i::ids2){K:Tr×Int→ad→Prop}
  (G:∀h' tb',Upd (fun y=>y=cb∨y=tb∨y=eb) h h'→PoolAt h' pb cb cap ids2→TokAt h' tb pb ti false→TokAt h' tb' pb i true→EdAt h' eb pb tb' tu→h.size≤tb'→K (tu,0) h'):HC PG jU [.pointer (some ⟨eb,0,none⟩)] JC K h:=by
 obtain⟨R,n2,V⟩:=HG e k p;have ze:=aF e;have zt:=aF k;obtain⟨Z,q,_,_,hc⟩:=id p;have Y:=aF q;have zc:=aF hc;have W:pb≠tb:=fun h=>by subst h;have:=q.symm.trans k;simp at this
 have O:pb≠eb:=fun h=>by subst h;have:=q.symm.trans e;simp at this
 refine x8 _ ?_;unfold qX bo af eK aA gC nv rd vI qv c8;refine aX fun H b1 k1=>yC (e.upd k1 id) (k.upd k1 id) (p.upd0 k1) L fun I u J S M=>uT (t:=tu) fun E T j=>Join.plain (az.2 ?_)
 have s1:=k1.size;have z1:=aF b1;have s3:=u.size;have s5:=j.size;have F:=M.upd j id;have D:=J.upd0 j;have P:=S.upd j id;rw[hi]at D;refine⟨_,rfl,_,vc F 0,yw D fun o d z n=>?_⟩
 have N:=aF n;have s10:=d.size;have A:=F.upd d R;refine⟨_,rfl,vH A (i:=1) (by simp) rfl fun x w a=>?_⟩
 have X:=j.get0 (u.get b1 (by omega));have m:=a.oth (d.get T (by omega)) (by omega);refine⟨_,vc m 0,_,vc m 1,_,vc m 2,_,vc m 3,_,vc m 4,_,vc m 5,?_⟩;refine fc (c:=gm zJ) (vs:=gm tu) (a.oth (d.get X (by omega)) (by omega)) rfl fun C b f=>?_
 refine⟨_,vc b 0,_,vc b 1,_,vc b 2,_,vc b 3,_,vc b 4,_,vc b 5,?_⟩;have s:=(z.upd a (by omega) (by omega)).upd f (by omega) (by omega);refine G C E.size ?_ s (((P.upd d V).upd a (by omega)).upd f (by omega)) ((n.upd a (by omega)).upd f (by omega)) ((EdAt.upd (t:=tu) w (Upd.refl (fun _=>False) _) id).upd f (by omega)) (by omega)
 have Q:Upd (fun y=>y=cb∨y=tb∨y=eb) H I:=u.mono fun y g=>.inl (g.imp id .inl)
 have v:Upd (fun y=>y=cb∨y=tb∨y=eb) E o:=d.mono fun y g=>.inl (.inl g)
 have B:Upd (fun y=>y=cb∨y=tb∨y=eb) o x:=a.mono fun y g=>.inl (.inr (.inr g))
 exact((((k1.wide.tr Q).tr j.wide).tr v).tr B).trans f fun y g=>.inr (by have g:y=h.size:=g;omega)
theorem xw{e:Ed}:∀{es:List Ed} {i:Nat},es[i]? =some e→e.lv=true→1≤pt es
 |a::es,0,h,hl=>by cases h;simp only[pt];rw[if_pos hl];omega
 |a::es,i+1,h,hl=>by
  have:=xw (es:=es) (i:=i) (by simpa using h) hl;simp only[pt];omega
 | [],i,h,hl=>by simp at h
section
variable {A:Nat→Prop} {h:ad} {pb cb cap n:Nat} {ids:List Int} {kind:Int} {x:Hs} {es:List Ed} {i:Nat} {e:Ed}
theorem NC(w:Wo A h pb cb cap ids kind x n es)(d:es[i]? =some e) (f:e.lv=true) (o:n≤1000) (p:Pr) (j:p.1.size≤5030∧p.2.size≤5030) {K:Int→ad→Prop}
  (g:∀b a c,Wo A b pb cb cap ids kind x (n+1) (es.set i {e with tu:=a,lu:=oy e.lu p,S:=c})→Me A cb es h (es.set i {e with tu:=a,lu:=oy e.lu p,S:=c}) b→K (C0 p) b):HC PG fP [.pointer (some ⟨e.eb,0,none⟩),.agg #[.string p.1,.string p.2]] [.c (.int .i64)] K h:=by
 have q:=w.ew e (aw d);have wl:=Jt q.up q.fit q.len j;exact EY (w.edO d f) (by have:=q.len;omega) p (fun b a c e' k m=>let r:=w.goes d f e' k m (Nat.le_succ n) wl.2.2;g b a c r.1 r.2) wl.2.1
theorem My(w:Wo A h pb cb cap ids kind x n es)(d:es[i]? =some e) (f:e.lv=true) (m:n≤1000) (k:ByteArray) {K:Int→ad→Prop}
  (g:∀b a c,Wo A b pb cb cap ids kind x (n+1) (es.set i {e with tu:=a,lu:=oK e.lu k,S:=c})→Me A cb es h (es.set i {e with tu:=a,lu:=oK e.lu k,S:=c}) b→K (Dt e.lu k) b):HC PG jV [.pointer (some ⟨e.eb,0,none⟩),.string k] [.c (.int .i64)] K h:=by
 have q:=w.ew e (aw d);have wl:=Km (k:=k) q.up q.fit q.len;exact IM (w.edO d f) (by have:=q.len;omega) k (fun b a c e' k j=>let r:=w.goes d f e' k j (Nat.le_succ n) wl.2.2;g b a c r.1 r.2)
theorem HU(w:Wo A h pb cb cap ids kind x n es)(c:es[i]? =some e) (b:e.lv=true) {K:Tr×Int→ad→Prop}
  (d:∀a,Wo A a pb cb cap (ids++ [e.ti]) kind x n (es.set i {e with lv:=false,S:=No})→Me A cb es h (es.set i {e with lv:=false,S:=No}) a→TreeIs (Un A cb (es.set i {e with lv:=false,S:=No})) a kind x e.tu e.lu→K (e.tu,0) a):iH (some ⟨e.eb,0,none⟩) K h:=by
 have q:=w.ew e (aw c);have hv:=xw c b;refine AH q.ed (b▸q.tk) w.pl (by have:=w.rm;omega) fun a k p t ed=>?_
 have r:=w.turn (tb':=e.tb) (ti':=e.ti) (lv':=false) c b (k.mono fun y f=>.inl (f.imp id .inl)) p (by simp) ed t t (.inl ⟨rfl,rfl⟩)
 exact d a r.1 r.2.1 r.2.2
theorem Jq(w:Wo A h pb cb cap ids kind x n es)(c:es[i]? =some e) (b:e.lv=true) {K:Tr×Int→ad→Prop}
  (a:∀h',Wo A h' pb cb cap (ids++ [e.ti]) kind x n (es.set i {e with lv:=false,S:=No})→Me A cb es h (es.set i {e with lv:=false,S:=No}) h'→TreeIs (Un A cb (es.set i {e with lv:=false,S:=No})) h' kind x e.tu e.lu→K (e.tu,0) h'):HC PG fo [.pointer (some ⟨e.eb,0,none⟩)] JC K h:=
 oU _ (HU w c b a)
theorem Mx(w:Wo A h pb cb cap ids kind x n es)(d:es[i]? =some e) (c:e.lv=true) {j:Int} {ids2:List Int} (hi:ids++ [e.ti]=j::ids2) {K:Tr×Int→ad→Prop}
  (f:∀a tb',Wo A a pb cb cap ids2 kind x n (es.set i {e with tb:=tb',ti:=j,lv:=true,S:=No})→Me A cb es h (es.set i {e with tb:=tb',ti:=j,lv:=true,S:=No}) a→TreeIs (Un A cb (es.set i {e with tb:=tb',ti:=j,lv:=true,S:=No})) a kind x e.tu e.lu→K (e.tu,0) a):HC PG jU [.pointer (some ⟨e.eb,0,none⟩)] JC K h:=by
 have q:=w.ew e (aw d);have hv:=xw d c;refine IK q.ed (c▸q.tk) w.pl (by have:=w.rm;omega) hi fun a tb' k p t g ed m=>?_
 have b:ids.length+1=ids2.length+1:=by have:=congrArg List.length hi;simpa using this
 have r:=w.turn (tb':=tb') (ti':=j) (lv':=true) d c k p (by simpa using b.symm) ed g t (.inr m);exact f a tb' r.1 r.2.1 r.2.2
theorem Lr(w:Wo A h pb cb cap ids kind x n es){j:Int}{ids2:List Int}(hi:ids=j::ids2){t:Tr}{l:List Pr}(e:TreeIs (Un A cb es) h kind x t l)(up:cp l)(fit:Fit l)(len:l.length≤n){K:Option Addr×Int→ad→Prop}
  (b:∀a eb tb,Wo A a pb cb cap ids2 kind x n (es++ [⟨eb,tb,j,true,t,l,No⟩])→Me A cb es h (es++ [⟨eb,tb,j,true,t,l,No⟩]) a→K (some ⟨eb,0,none⟩,0) a):HC PG l4 [.pointer (some ⟨pb,0,none⟩),FA t] [.c .ptr,.c (.int .i64)] K h:=by
 subst hi;refine AI w.pl t fun a eb tb k p tk ed c d=>?_
 have r:=w.begin rfl k p tk ed c d e up fit len;exact b a eb tb r.1 r.2
theorem MG{U:Nat→Prop}(q:EdW U h pb kind x n e):By h (some ⟨e.tb,0,none⟩) (tok e):=q.tk.by_
theorem EdW.is{U:Nat→Prop}(q:EdW U h pb kind x n e):TreeIs No h kind x e.tu e.lu:=q.iu.read (MG q)
end
end Go.Proofs
namespace Go.Proofs
open Go Go.Lift
def sb(s:SliceV)(y:Nat):Prop:=s.cap≠0∧∃a,s.a=some a∧y=a.block
section
variable {α:Type} {f:α→List Value} {sz:Nat} {ty:TypeId} {M:Nat→Prop} {h:ad} {s so:SliceV} {xs out:List α}
theorem _root_.Go.Lift.OwnS.sub(o:OwnS f sz ty M h s xs):∀y,sb s y→M y∧y<h.size:=fun y ⟨hc,a,i,c⟩=>by
 rcases o.blk with g|⟨b,d,e,hm,j,_⟩
 ·exact absurd g hc
 ·rw[i]at e
  cases e;exact⟨c▸hm,c▸aF j⟩
theorem _root_.Go.Lift.OwnS.its(o:OwnS f sz ty M h s xs):OwnS f sz ty (sb s) h s xs:=by
 refine⟨o.len,o.ne,o.cap,?_⟩;by_cases hc:s.cap=0
 ·exact .inl hc
 ·rcases o.blk with e|⟨b,a,c,hm,g,d⟩
  ·exact absurd e hc
  ·exact .inr ⟨b,a,c,⟨hc,_,c,rfl⟩,g,d⟩
theorem oA{a:Option Addr}{n:Nat}:∀y,¬sb ⟨a,n,0⟩ y:=fun _ h=>h.1 rfl
theorem _root_.Go.Lift.OwnS.one{x:α}{b:Nat}(a:∀x,(f x).length=sz∧0<sz)(c:h[b]? =some (.cells (f x).toArray ty (0,0))):OwnS f sz ty (sb ⟨some ⟨b,0,none⟩,1,1⟩) h ⟨some ⟨b,0,none⟩,1,1⟩ [x]:=
 ⟨rfl,a,au _,.inr ⟨b,[],rfl,⟨by simp,_,rfl,rfl⟩,by simpa using c,by simp⟩⟩
theorem GN{a:Nat}{z:List Value}{t:α}{b:Nat}{K:SliceV→ad→Prop}(j:OwnS f sz ty (sb so) h so out)(o:h[b]? =some (.cells (f t).toArray ty (0,0))) (e:bH (f t)=true) (hz:z.length=sz) (g:0<a∧a≤64) (n:out.length+1≤1000000)
  (k:∀s' c,OwnS f sz ty (sb s') c s' (out++ [t])→Upd (sb so) h c→(∀y,sb s' y→(sb so y∨h.size≤y)∧y<c.size)→K s' c):
  ∃xs,SRow h (some ⟨b,0,none⟩) (1*sz) xs∧AppP (some z) sz a ty so.a so.len so.cap 1 xs h K:=by
 refine⟨_,((OwnS.one j.ne o).sl (W:=No) fun _ _ _ h=>h).srow,?_⟩
 refine AppP.own (M:=fun y=>sb so y∨h.size≤y) (ys:= [t]) (j.more fun y i=>.inl i) rfl rfl (by simpa using e) hz g.1 ?_ (.inr (au _)) fun s' c d m=>k s' c d.its (m.mono fun y i=>i) d.sub
 simp only[bq];calc (out.length+1)*a≤1000000*64:=Nat.mul_le_mul n g.2
  _≤140737488355328:=by omega
end
abbrev i1(n:Int):List Value:= [.int .i64 n]
abbrev OM(b:Bool):List Value:= [.bool b]
theorem HA(n:Int):(i1 n).length=1∧0<1:=⟨rfl,by omega⟩
theorem K6(n:Bool):(OM n).length=1∧0<1:=⟨rfl,by omega⟩
abbrev On(n:Int)(s1 s2 s3:SliceV):List Value:= [.int .i64 n,.slice s1.a s1.len s1.cap,.slice s2.a s2.len s2.cap,.slice s3.a s3.len s3.cap]
structure R4(h:ad)(rb:Nat)(s1 s2 s3:SliceV)(ids:List Int)(lv:List Bool)(is:List Int):Prop where
 bl:∃n,h[rb]? =some (.cells (On n s1 s2 s3).toArray re (0,0))
 o1:OwnS i1 1 lK (sb s1) h s1 ids
 o2:OwnS OM 1 oz (sb s2) h s2 lv
 o3:OwnS i1 1 lK (sb s3) h s3 is
theorem Im{n:Nat}(M:n≤1000){h:ad}{K:Option Addr→ad→Prop}(C:∀a s1,R4 a h.size s1 ⟨none,0,0⟩ ⟨none,0,0⟩ ((bX n).map fun j=>((j:Nat):Int)+1) [] []→Upd No h a→(∀y,sb s1 y→h.size<y)→K (some ⟨h.size,0,none⟩) a):HC PG xC [.int .i64 n] [.c .ptr] K h:=by
 refine Jc _ ?_;unfold CJ bL c8;refine aX fun J b1 k1=>?_
 have Q:=aF b1;refine LoopP.ghost (fun(g:Nat×SliceV) (t:Int) a=>t=(g.1:Int)+1∧g.1≤n∧a[h.size]? =some (.cells (On n g.2 ⟨none,0,0⟩ ⟨none,0,0⟩).toArray re (0,0))∧OwnS i1 1 lK (sb g.2) a g.2 ((bX g.1).map fun j=>((j:Nat):Int)+1)∧Upd No h a∧∀y,sb g.2 y→h.size<y) (fun g=>n-g.1) (0,⟨none,0,0⟩) ⟨rfl,Nat.zero_le _,b1,OwnS.nil HA,k1,fun y c=>absurd c (oA y)⟩ ?_
 rintro I ⟨i,s⟩ t B ⟨rfl,hi,m,x,o,d⟩ H;simp only at hi m x o d⊢;refine bj (fun u=>?_) fun E=>?_
 ·have u:i<n:=by omega
  refine Join.plain ⟨_,rfl,s,vc m 1,aX fun O D p=>?_⟩
  have L:=o.size;have N:=aF m;refine GN (f:=i1) (t:=(i:Int)+1) (b:=B.size) (x.upd p fun _ _ h=>h) D rfl rfl ⟨by omega,by omega⟩ (by simp;omega) fun s' a G k' w=>?_
  refine⟨_,rfl,vH (k'.get (p.get0 m) fun h=>by have:=d _ h;omega) (i:=1) (by simp) rfl fun F v k=>?_⟩
  rw[show IntKind.wrap .i64 ((i:Int)+1+1)=((i+1:Nat):Int)+1 by rw[nA (by omega)];omega]
  have P:=p.size;have z:∀y,sb s' y→h.size<y:=fun y c=>(w y c).1.elim (d y) fun h=>by omega
  refine H (i+1,s') _ _ ⟨rfl,by omega,v,?_,((o.tr p).trans k' fun y c=>.inr (by have:=d y c;omega)).own k (au _),z⟩ (by show n-(i+1)<n-i;omega)
  have e:((bX (i+1)).map fun j=>((j:Nat):Int)+1)=((bX i).map fun j=>((j:Nat):Int)+1)++ [(i:Int)+1]:=by rw[List.range_succ,List.map_append];rfl
  rw[e];exact G.upd k fun y c A=>by have:=z y c;have A:y=h.size:=A;omega
 ·have q:i=n:=by omega
  subst q;exact C B s ⟨⟨_,m⟩,x,OwnS.nil K6,OwnS.nil HA⟩ o d
theorem E2{s:ByteArray}{h:ad}{K:ByteArray→ad→Prop}(a:K (um s) h):HC PG rD [.string s,.int .i64 0] [.c .str] K h:=by
 refine GY s 0 ?_;unfold Bb;have e:(if 30<(s.size:Int)then(30:Int)else(s.size:Int))=((min s.size 30:Nat):Int):=by split<;>omega
 rw[e];refine⟨⟨by omega,by omega⟩,?_⟩
 simp only[Bd];rw[Int.toNat_natCast];refine ah.2 ?_;unfold um at a;exact a
end Go.Proofs
namespace Go.Proofs
open Go Go.Lift
abbrev ND(sl sm se sx:SliceV)(pb rb:Option Addr):List Value:= [.slice sl.a sl.len sl.cap,.slice sm.a sm.len sm.cap,.slice se.a se.len se.cap,.slice sx.a sx.len sx.cap,.pointer pb,.pointer rb]
abbrev s0:SliceV:=⟨none,0,0⟩
abbrev FI(b:Nat):SliceV:=⟨some ⟨b,0,none⟩,1,1⟩
abbrev pA(b:Nat):Option Addr:=some ⟨b,0,none⟩
def Ih(c:Nat):List Int:=(bX c).map fun j=>((j:Nat):Int)+1
def Nu(wb b1 b2 rb:Nat)(s1:SliceV)(y:Nat):Prop:=y=wb∨y=b1∨y=b2∨y=rb∨sb s1 y
structure Made(h h':ad)(kk:Int)(x:Hs)(c:Nat)(t:Tr)(r:Rt)(wb b1 b2 pb cb rb:Nat)(s1:SliceV):Prop where
 cw:h'[wb]? =some (.cells (ND (FI b1) (FI b2) s0 s0 (pA pb) (pA rb)).toArray lD (0,0))
 c1:h'[b1]? =some (.cells (gm t).toArray ax (0,0))
 c2:h'[b2]? =some (.cells (FQ r).toArray gN (0,0))
 r4:R4 h' rb s1 s0 s0 (Ih c) [] []
 wo:Wo (Nu wb b1 b2 rb s1) h' pb cb c (Ih c) kk x 0 []
 it:TreeIs (Un (Nu wb b1 b2 rb s1) cb []) h' kk x t []
 ir:RefIs (Un (Nu wb b1 b2 rb s1) cb []) h' kk x r []
 od:wb<b1∧wb<b2∧b1≠b2∧b1<cb∧b2<cb∧pb=cb+1∧pb<rb∧∀y,sb s1 y→rb<y
 mv:Mv No h (Un (Nu wb b1 b2 rb s1) cb []) h'
set_option maxRecDepth 100000 in
set_option maxHeartbeats 1000000 in
theorem IB{h:ad}{k n kk:Int}{x:Hs}(hkk:kk=0∨kk=1)(ek:IntKind.wrap .i64 (gL k 2)=kk){c:Nat}(ec:IntKind.wrap .i64 (1+IntKind.wrap .i64 (gL n 4))=(c:Int))(h1c:1≤c)(h2c:c≤4){K:Option Addr→ad→Prop}
  (hk:∀V t r wb b1 b2 pb cb rb s1,Made h V kk x c t r wb b1 b2 pb cb rb s1→K (pA wb) V):HC PG u1 [.int .u8 k,.agg #[.int .u64 x.k0,.int .u64 x.k1,.int .u64 x.mask],.int .u8 n] [.c .ptr] K h:=by
 refine GX k (x.k0,x.k1,x.mask) n ?_;unfold Ba bo af aA nv Ai vE rd vI qv Iu sH c8 zl5 NA pl6 N8;rw[ek,ec];refine aX fun q b1 k1=>aX fun h2 b2 k2=>?_
 have z1:=aF b1;have z2:=aF b2;have g1:=k2.get0 b1;refine⟨by decide,_,vc g1 0,_,vc g1 1,_,vc g1 2,?_⟩;refine Hh (W:=fun y=>y<h2.size) (x:=x) (fun _ h=>h) hkk fun h7 t i7 k7=>uT (t:=t) fun h9 b9 k9=>?_
 have z9:=aF b9;have g9:=(k7.tr k9).get0 g1;refine⟨by decide,_,vc g9 0,_,vc g9 1,_,vc g9 2,J0 fun Z k14=>?_⟩
 have s7:=k7.size;have s14:=k14.size;refine LI (W:=fun y=>y<Z.size) (x:=x) hkk fun h16 r j16 k16=>NU (r:=r) fun d v k18=>?_
 have s16:=k16.size;have z18:=aF v;have g:=k14.tr (k16.tr k18);have s:=g.get0 b9;have w18:=((k7.tr k9).tr g).get0 b2;have n1:q.size≠h7.size∧q.size≠h16.size∧h7.size≠h16.size:=by omega
 have s1:=k1.size;refine Join.intro (fun _ V=>∃b1 b2,V[q.size]? =some (.cells (ND (FI b1) (FI b2) s0 s0 none none).toArray lD (0,0))∧V[b1]? =some (.cells (gm t).toArray ax (0,0))∧V[b2]? =some (.cells (FQ r).toArray gN (0,0))∧d.size≤b1∧d.size≤b2∧b1≠b2∧Upd (· =q.size) d V) (fun R hR=>?_) ?_
 ·refine⟨_,vc s 0,_,vc s 1,_,vc s 2,_,vc s 3,_,vc s 4,_,vc s 5,_,vc v 0,_,vc v 1,_,vc v 2,_,vc v 3,r.2.2.2.2,vc v 4,⟨?_,?_⟩⟩
  ·refine aX fun h31 b31 G=>?_
   have z31:=aF b31;have B:=G.get0 v;have w31:=G.get0 w18;refine⟨⟨vc B 0,vc B 1,vc B 2,vc B 3,vc B 4⟩,_,rfl,?_,?_⟩
   ·refine aX fun h33 b33 k33=>?_
    have z33:=aF b33;refine vH (k33.get0 w31) (i:=0) (by simp) rfl fun h34 P p=>⟨_,rfl,vH P (i:=1) (by simp) rfl fun h36 w36 M=>?_⟩
    exact hR _ _ ⟨d.size,h31.size,w36,M.oth (p.oth (k33.get0 b31) (by omega)) (by omega),M.oth (p.oth b33 (by omega)) (by omega),au _,by omega,by omega,((G.tr k33).wide.tr p).tr M⟩
   ·refine vH w31 (i:=0) (by simp) rfl fun h34 P p=>?_
    have F:=p.oth B (by omega);refine⟨⟨vc F 0,vc F 1,vc F 2,vc F 3,vc F 4⟩,aX fun h38 b38 L=>⟨_,rfl,vH (L.get0 P) (i:=1) (by simp) rfl fun h40 w40 O=>?_⟩⟩
    have z38:=aF b38;have s34:=p.size;exact hR _ _ ⟨d.size,h34.size,w40,O.oth (L.get0 (p.oth b31 (by omega))) (by omega),O.oth b38 (by omega),au _,by omega,by omega,((G.wide.tr p).tr L.wide).tr O⟩
  ·refine aX fun h41 b41 Q=>?_
   have z41:=aF b41;have z:=Q.get0 s;refine⟨⟨vc z 0,vc z 1,vc z 2,vc z 3,vc z 4,vc z 5⟩,aX fun h42 b42 T=>⟨_,rfl,vH (T.get0 (Q.get0 w18)) (i:=0) (by simp) rfl fun h44 w44 N=>⟨_,rfl,vH w44 (i:=1) (by simp) rfl fun h46 w46 Y=>?_⟩⟩⟩
   have z42:=aF b42;exact hR _ _ ⟨h41.size,d.size,w46,Y.oth (N.oth b42 (by omega)) (by omega),Y.oth (N.oth (T.get0 b41) (by omega)) (by omega),by omega,au _,by omega,((Q.tr T).wide.tr N).tr Y⟩
 rintro _ A ⟨S,X,w48,c1,c2,hb1,hb2,hne,H⟩;have zb1:=aF c1;have zb2:=aF c2;have s48:=H.size;refine⟨by decide,Am h1c (by omega) fun h50 C p50=>?_⟩
 have zp:=aF p50.2.1;have w50:=C.get0 w48;refine⟨_,rfl,vH w50 (i:=4) (by simp) rfl fun J w52 w=>⟨by decide,Im (by omega) fun h54 E r4 o D=>?_⟩⟩
 have s52:=w.size;have zr:=aF r4.bl.choose_spec;refine⟨_,rfl,vH (o.get0 w52) (i:=5) (by simp) rfl fun u w56 m=>?_⟩
 have s54:=o.size;have s56:=m.size;have kw:Upd (· =q.size) h2 u:=((((((k7.tr k9).tr g).wide.tr H).tr C.wide).tr w).tr o.wide).tr m
 have ns:∀{y},sb E y→y≠q.size:=fun f=>by have:=D _ f;omega
 have lts:∀{y},sb E y→y<u.size:=fun f=>by have:=(r4.o1.sub _ f).2;omega
 have un:∀y,Un (Nu q.size S X J.size E) A.size [] y→y=q.size∨d.size≤y:=by
  rintro y ((h|h|h|h|h)|h|⟨e,I,_⟩)
  ·exact .inl h
  ·exact .inr (by omega)
  ·exact .inr (by omega)
  ·exact .inr (by omega)
  ·exact .inr (by have:=D y h;omega)
  ·exact .inr (by omega)
  ·cases I
 have unl:∀y,Un (Nu q.size S X J.size E) A.size [] y→y<u.size:=by
  rintro y ((h|h|h|h|h)|h|⟨e,I,_⟩)
  ·omega
  ·omega
  ·omega
  ·omega
  ·exact lts h
  ·omega
  ·cases I
 have pl:PoolAt u (A.size+1) A.size c (Ih c):=((p50.upd w (by omega) (by omega)).upd0 o).upd m (by omega) (by omega);refine hk u t r q.size S X (A.size+1) A.size J.size E ⟨w56,?_,?_,⟨⟨_,m.oth r4.bl.choose_spec (by omega)⟩,r4.o1.upd m fun y f h=>ns f h,OwnS.nil K6,OwnS.nil HA⟩,⟨pl,by simp[Ih,pt],fun y f=>unl y (.inl f),?_,?_,fun e I=>by(cases I),fun e I=>by(cases I),fun i j a b ha=>by(simp at ha)⟩,?_,?_,⟨by omega,by omega,hne,by omega,by omega,rfl,by omega,D⟩,⟨(k1.tr k2).trans kw fun y f=>.inr (by have f:y=q.size:=f;omega),fun y f=>.inr (by rcases un y f with h|h<;>omega)⟩⟩
 ·exact m.oth (o.get0 (w.oth (C.get0 c1) (by omega))) (by omega)
 ·exact m.oth (o.get0 (w.oth (C.get0 c2) (by omega))) (by omega)
 ·rintro(h|h|h|h|h)
  ·omega
  ·omega
  ·omega
  ·omega
  ·have:=D _ h;omega
 ·rintro((h|h|h|h|h)|h|⟨e,I,_⟩)
  ·omega
  ·omega
  ·omega
  ·omega
  ·have:=D _ h;omega
  ·omega
  ·cases I
 ·have i9:TreeIs (fun y=>y<h2.size∨d.size≤y) d kk x t []:=((i7.upd0 k9).upd0 g).less fun y f=>f
  have kr:Upd (· =q.size) d u:=(((H.tr C.wide).tr w).tr o.wide).tr m
  exact(i9.updM kr fun y f=>.inl (.inl (by have f:y=q.size:=f;omega))).less fun y f=>.inl ((un y f).imp (fun h=>by show y<h2.size;omega) id)
 ·have i9:RefIs (fun y=>y<Z.size∨d.size≤y) d kk x r []:=(j16.upd0 k18).less fun y f=>f
  have kr:Upd (· =q.size) d u:=(((H.tr C.wide).tr w).tr o.wide).tr m
  exact(i9.updM kr fun y f=>.inl (.inl (by have f:y=q.size:=f;omega))).less fun y f=>.inl ((un y f).imp (fun h=>by show y<Z.size;omega) id)
end Go.Proofs
namespace Go.Proofs
open Go Go.Lift
theorem Wo.w0{A:Nat→Prop}{h:ad}{pb cb cap n:Nat}{ids:List Int}{a:Int}{x:Hs}{es:List Ed}(w:Wo A h pb cb cap ids a x n es){b:Nat}(d:h.size≤b):¬Un A cb es b:=fun c=>by have:=w.ult b c;omega
end Go.Proofs
namespace Go.Proofs
open Go Go.Lift
structure Sp where
 T:Nat→Prop
 Q:ad→Prop
 loc:∀{M:Nat→Prop} {h h':ad},Q h→Upd M h h'→(∀y,T y→¬M y)→Q h'
def rV(b:Nat)(cs:List Value)(t:TypeId):Sp:=⟨(· =b),fun h=>h[b]? =some (.cells cs.toArray t (0,0)),fun q k a=>k.get q (a _ rfl)⟩
def gP{α:Type}(f:α→List Value)(a:Nat)(ty:TypeId)(s:SliceV)(xs:List α):Sp:=⟨sb s,fun h=>OwnS f a ty (sb s) h s xs,fun q k b=>q.upd k b⟩
def AL(Ss:List Sp)(y:Nat):Prop:=∃s∈Ss,s.T y
structure Own(Ss:List Sp)(h:ad):Prop where
 q:∀s∈Ss,s.Q h
 lt:∀s∈Ss,∀y,s.T y→y<h.size
 pd:∀(i j:Nat) (a b:Sp),Ss[i]? =some a→Ss[j]? =some b→i≠j→∀y,a.T y→¬b.T y
section
variable {Ss:List Sp} {h h':ad} {M:Nat→Prop} {s s':Sp} {i:Nat}
theorem Own.get(o:Own Ss h)(hi:Ss[i]? =some s):s.Q h:=o.q s (aw hi)
theorem Own.away(o:Own Ss h)(k:Upd M h h')(hm:∀y,AL Ss y→¬M y):Own Ss h':=
 ⟨fun s a=>s.loc (o.q s a) k fun y b=>hm y ⟨s,a,b⟩,fun s a y b=>bI (o.lt s a y b) k.size,o.pd⟩
theorem Own.nil:Own [] h:=⟨(fun _ h=>by cases h),(fun _ h=>by cases h),(fun i j a b h=>by simp at h)⟩
theorem Own.set(o:Own Ss h)(hi:Ss[i]? =some s) (k:Upd M h m) (hm:∀y,M y→s.T y∨h.size≤y) (q:s'.Q m) (z:∀y,s'.T y→(s.T y∨h.size≤y)∧y<m.size):Own (Ss.set i s') m:=by
 have A:i<Ss.length:=(aP.1 hi).1;have val:∀{j:Nat} {a:Sp},(Ss.set i s')[j]? =some a→(j=i∧a=s')∨(j≠i∧Ss[j]? =some a):=fun{j a} c=>by
  by_cases e:j=i
  ·subst e;rw[List.getElem?_set_self A]at c;cases c;exact .inl ⟨rfl,rfl⟩
  ·rw[jF (Ne.symm e)]at c;exact .inr ⟨e,c⟩
 have one:∀{j:Nat} {a:Sp},j≠i→Ss[j]? =some a→∀y,a.T y→¬s'.T y:=fun{j a} f c y d m=>
  (z y m).1.elim (o.pd j i a s c hi f y d) fun h=>by have:=o.lt a (aw c) y d;omega
 refine⟨fun a c=>?_,fun a c y d=>?_,fun p j a b c B n y d g=>?_⟩
 ·obtain⟨j,f⟩:=fE c
  rcases val f with⟨_,rfl⟩|⟨v,f⟩
  ·exact q
  ·refine a.loc (o.get f) k fun y d hM=>?_
   rcases hm y hM with h|h
   ·exact o.pd j i a s f hi v y d h
   ·have:=o.lt a (aw f) y d;omega
 ·obtain⟨j,f⟩:=fE c
  rcases val f with⟨_,rfl⟩|⟨v,f⟩
  ·exact(z y d).2
  ·exact bI (o.lt a (aw f) y d) k.size
 ·rcases val c with⟨t,rfl⟩|⟨t,w⟩<;>rcases val B with⟨u,rfl⟩|⟨u,x⟩
  ·exact n (t.trans u.symm)
  ·exact one u x y g d
  ·exact one t w y d g
  ·exact o.pd p j a b w x n y d g
theorem Own.push(o:Own Ss h)(k:Upd No h h')(q:s'.Q h')(g:∀y,s'.T y→h.size≤y∧y<h'.size):Own (Ss++ [s']) h':=by
 have val:∀{j:Nat} {a:Sp},(Ss++ [s'])[j]? =some a→(j=Ss.length∧a=s')∨Ss[j]? =some a:=fun{j a} c=>by
  rw[List.getElem?_append]at c;split at c
  ·exact .inr c
  ·have:j-Ss.length=0:=by have:=(aP.1 c).1;simp only[bq]at this;omega
   rw[this]at c;cases c;exact .inl ⟨by omega,rfl⟩
 have mem:∀{a},a∈Ss++ [s']→a∈Ss∨a=s':=fun h=>(bN.1 h).imp id aj.1
 refine⟨fun a c=>?_,fun a c y e=>?_,fun p j a b c n f y e d=>?_⟩
 ·rcases mem c with c|rfl
  ·exact a.loc (o.q a c) k fun _ _ h=>h
  ·exact q
 ·rcases mem c with c|rfl
  ·exact bI (o.lt a c y e) k.size
  ·exact(g y e).2
 ·rcases val c with⟨s,rfl⟩|i<;>rcases val n with⟨t,rfl⟩|m
  ·omega
  ·have:=o.lt b (aw m) y d;have:=(g y e).1;omega
  ·have:=o.lt a (aw i) y e;have:=(g y d).1;omega
  ·exact o.pd p j a b i m f y e d
theorem Nt(hi:Ss[i]? =some s) {z:Nat} (c:∀y,s'.T y→s.T y∨z≤y):∀y,AL (Ss.set i s') y→AL Ss y∨z≤y:=fun y ⟨a,d,b⟩=>by
 rcases Dh d with rfl|⟨j,_,e⟩
 ·exact(c y b).imp (fun h=>⟨s,aw hi,h⟩) id
 ·exact .inl ⟨a,aw e,b⟩
end
structure Ws(Ss:List Sp)(h:ad)(pb cb cap:Nat)(ids:List Int)(kind:Int)(x:Hs)(n:Nat)(es:List Ed):Prop where
 own:Own Ss h
 wo:Wo (AL Ss) h pb cb cap ids kind x n es
section
variable {Ss:List Sp} {h h':ad} {pb cb cap n m:Nat} {ids ids':List Int} {kind:Int} {x:Hs} {es es':List Ed} {s s':Sp} {i:Nat} {M:Nat→Prop}
theorem Ws.up0(w:Ws Ss h pb cb cap ids kind x n es)(k:Upd No h h'):Ws Ss h' pb cb cap ids kind x n es:=⟨w.own.away k fun _ _ h=>h,w.wo.up0 k⟩
theorem Ws.set(w:Ws Ss h pb cb cap ids kind x n es)(hi:Ss[i]? =some s) (k:Upd M h h') (hm:∀y,M y→s.T y∨h.size≤y) (q:s'.Q h') (c:∀y,s'.T y→(s.T y∨h.size≤y)∧y<h'.size):Ws (Ss.set i s') h' pb cb cap ids kind x n es∧Mv (Un (AL Ss) cb es) h (Un (AL (Ss.set i s')) cb es) h':=by
 have o:=w.own.set hi k hm q c;have r:=w.wo.own (A':=AL (Ss.set i s')) k (fun y b=>(hm y b).imp (fun h=>⟨s,aw hi,h⟩) id) fun y b=>⟨Nt hi (fun y b=>(c y b).1) y b,let⟨a,d,b⟩:=b;o.lt a d y b⟩
 exact⟨⟨o,r.1⟩,r.2⟩
theorem Ws.push(w:Ws Ss h pb cb cap ids kind x n es)(k:Upd No h h')(q:s'.Q h')(d:∀y,s'.T y→h.size≤y∧y<h'.size):Ws (Ss++ [s']) h' pb cb cap ids kind x n es∧Mv (Un (AL Ss) cb es) h (Un (AL (Ss++ [s'])) cb es) h':=by
 have o:=w.own.push k q d;have r:=w.wo.own (A':=AL (Ss++ [s'])) k (fun _ h=>h.elim) fun y ⟨a,b,c⟩=>⟨?_,o.lt a b y c⟩
 ·exact⟨⟨o,r.1⟩,r.2⟩
 ·rcases bN.1 b with b|b
  ·exact .inl ⟨a,b,c⟩
  ·rw[aj.1 b]at c;exact .inr (d y c).1
theorem Ws.cell(w:Ws Ss h pb cb cap ids kind x n es){b:Nat}{cs a:List Value}{t c:TypeId}(hi:Ss[i]? =some (rV b cs t)) (k:Upd (· =b) h h') (q:h'[b]? =some (.cells a.toArray c (0,0))):Ws (Ss.set i (rV b a c)) h' pb cb cap ids kind x n es∧Mv (Un (AL Ss) cb es) h (Un (AL (Ss.set i (rV b a c))) cb es) h':=
 w.set (s':=rV b a c) hi k (fun _ h=>.inl h) q fun y d=>⟨.inl d,(show y=b from d)▸aF q⟩
theorem Ws.slice(w:Ws Ss h pb cb cap ids kind x n es){α:Type}{f:α→List Value}{b:Nat}{ty:TypeId}{c a:SliceV}{xs ys:List α}(hi:Ss[i]? =some (gP f b ty c xs)) (k:Upd (sb c) h h') (q:OwnS f b ty (sb a) h' a ys) (d:∀y,sb a y→(sb c y∨h.size≤y)∧y<h'.size):Ws (Ss.set i (gP f b ty a ys)) h' pb cb cap ids kind x n es∧Mv (Un (AL Ss) cb es) h (Un (AL (Ss.set i (gP f b ty a ys))) cb es) h':=
 w.set (s':=gP f b ty a ys) hi k (fun _ h=>.inl h) q d
theorem Ws.ed(w:Ws Ss h pb cb cap ids kind x n es)(wo:Wo (AL Ss) h' pb cb cap ids' kind x m es')(k:Me (AL Ss) cb es h es' h'):Ws Ss h' pb cb cap ids' kind x m es':=⟨w.own.away k.2 fun _ a h=>h a,wo⟩
theorem Ws.mono(w:Ws Ss h pb cb cap ids kind x n es)(hm:n≤m):Ws Ss h pb cb cap ids kind x m es:=⟨w.own,w.wo.mono hm⟩
theorem Ws.unl(w:Ws Ss h pb cb cap ids kind x n es):∀y,Un (AL Ss) cb es y→y<h.size:=w.wo.ult
end
end Go.Proofs
namespace Go.Proofs
open Go Go.Lift
abbrev p1(a:Option Addr):List Value:= [.pointer a]
theorem Ml(a:Option Addr):(p1 a).length=1∧0<1:=⟨rfl,by omega⟩
structure Xd where
 b:Nat
 k:Nat
 ru:Rt
 fz:Bool
abbrev xL(r:Rt)(k:Nat)(fz:Bool):List Value:=FQ r++ [.int .i64 (k:Int),.bool fz]
structure WC where
 wb:Nat
 rb:Nat
 pb:Nat
 cb:Nat
 cap:Nat
 N:Int
 kk:Int
 x:Hs
structure WG where
 sl:SliceV
 sm:SliceV
 se:SliceV
 sx:SliceV
 s1:SliceV
 s2:SliceV
 s3:SliceV
 lt:List Tr
 lr:List Rt
 le:List (Option Addr)
 lx:List (Option Addr)
 ids:List Int
 lv:List Bool
 is:List Int
 xs:List Xd
def SW(c:WC)(g:WG):List Sp:=rV c.wb (ND g.sl g.sm g.se g.sx (pA c.pb) (pA c.rb)) lD::rV c.rb (On c.N g.s1 g.s2 g.s3) re::gP gm 6 ax g.sl g.lt::gP FQ 5 gN g.sm g.lr::gP p1 1 qf g.se g.le::gP p1 1 t_P_r16_Edit g.sx g.lx::
 gP i1 1 lK g.s1 g.ids::gP OM 1 oz g.s2 g.lv::gP i1 1 lK g.s3 g.is::g.xs.map fun y=>rV y.b (xL y.ru y.k y.fz) t_r16_Edit
abbrev WC.U(c:WC)(Ss:List Sp)(es:List Ed):Nat→Prop:=Un (AL Ss) c.cb es
def g0(b1 b2:Nat)(s1:SliceV)(t:Tr)(r:Rt)(n:Nat):WG:=⟨FI b1,FI b2,s0,s0,s1,s0,s0,[t],[r],[],[],Ih n,[],[],[]⟩
theorem Made.ws{h p:ad}{kk:Int}{x:Hs}{n:Nat}{t:Tr}{r:Rt}{wb b1 b2 pb cb rb:Nat}{s1:SliceV}(md:Made h p kk x n t r wb b1 b2 pb cb rb s1):∃N,∀c,c=WC.mk wb rb pb cb n N kk x→
  Ws (SW c (g0 b1 b2 s1 t r n)) p pb cb n (Ih n) kk x 0 []∧TreeIs (c.U (SW c (g0 b1 b2 s1 t r n)) []) p kk x t []∧RefIs (c.U (SW c (g0 b1 b2 s1 t r n)) []) p kk x r []∧Mv No h (c.U (SW c (g0 b1 b2 s1 t r n)) []) p:=by
 obtain⟨N,B⟩:=md.r4.bl;refine⟨N,fun c hc=>?_⟩
 subst hc;obtain⟨G,I,H,E,K,J,D,A⟩:=md.od;have z:∀y,AL (SW ⟨wb,rb,pb,cb,n,N,kk,x⟩ (g0 b1 b2 s1 t r n)) y→Nu wb b1 b2 rb s1 y:=by
  rintro y ⟨s,o,f⟩;simp only[SW,g0,mh,aq,List.not_mem_nil,or_false]at o;rcases o with rfl|rfl|rfl|rfl|rfl|rfl|rfl|rfl|rfl
  ·exact .inl f
  ·exact .inr (.inr (.inr (.inl f)))
  ·obtain⟨_,a,d,e⟩:=f;cases d;exact .inr (.inl e)
  ·obtain⟨_,a,d,e⟩:=f;cases d;exact .inr (.inr (.inl e))
  ·exact absurd f (oA y)
  ·exact absurd f (oA y)
  ·exact .inr (.inr (.inr (.inr f)))
  ·exact absurd f (oA y)
  ·exact absurd f (oA y)
 have r:=md.wo.own (A':=AL (SW ⟨wb,rb,pb,cb,n,N,kk,x⟩ (g0 b1 b2 s1 t r n))) (Upd.refl No p) (fun _ h=>h.elim) fun y f=>⟨.inl (z y f),md.wo.lt y (z y f)⟩
 have sl:∀{b y},sb (FI b) y→y=b:=fun⟨_,a,d,e⟩=>by cases d;exact e
 have C:Own [] p:=Own.nil;have pd:∀(i j:Nat) (a b:Sp),(SW ⟨wb,rb,pb,cb,n,N,kk,x⟩ (g0 b1 b2 s1 t ‹Rt›n))[i]? =some a→(SW ⟨wb,rb,pb,cb,n,N,kk,x⟩ (g0 b1 b2 s1 t ‹Rt›n))[j]? =some b→i<j→∀y,a.T y→¬b.T y:=by
  intro i j a b d q w y f g;have hi:i<9:=by have:=(aP.1 d).1;exact this
  have F:j<9:=by have:=(aP.1 q).1;exact this
  have m:∀(i:Nat) (a:Sp),(SW ⟨wb,rb,pb,cb,n,N,kk,x⟩ (g0 b1 b2 s1 t ‹Rt›n))[i]? =some a→a.T y→(i=0∧y=wb)∨(i=1∧y=rb)∨(i=2∧y=b1)∨(i=3∧y=b2)∨(i=6∧rb<y):=fun i a d f=>by
   match i,d with
   |0,d=>cases d;exact .inl ⟨rfl,f⟩
   |1,d=>cases d;exact .inr (.inl ⟨rfl,f⟩)
   |2,d=>cases d;exact .inr (.inr (.inl ⟨rfl,sl f⟩))
   |3,d=>cases d;exact .inr (.inr (.inr (.inl ⟨rfl,sl f⟩)))
   |4,d=>cases d;exact absurd f (oA y)
   |5,d=>cases d;exact absurd f (oA y)
   |6,d=>cases d;exact .inr (.inr (.inr (.inr ⟨rfl,A y f⟩)))
   |7,d=>cases d;exact absurd f (oA y)
   |8,d=>cases d;exact absurd f (oA y)
   |k+9,d=>exact absurd d (by simp[SW,g0])
  rcases m i a d f with⟨h,e⟩|⟨h,e⟩|⟨h,e⟩|⟨h,e⟩|⟨h,e⟩<;>rcases m j b q g with⟨u,v⟩|⟨u,v⟩|⟨u,v⟩|⟨u,v⟩|⟨u,v⟩<;>omega
 refine⟨⟨⟨fun s o=>?_,fun s o y f=>md.wo.lt y (z y ⟨s,o,f⟩),fun i j a b d q w y f g=>?_⟩,r.1⟩,md.it.mv r.2,md.ir.mv r.2,md.mv.tr r.2⟩
 ·simp only[SW,g0,mh,aq,List.not_mem_nil,or_false]at o
  rcases o with rfl|rfl|rfl|rfl|rfl|rfl|rfl|rfl|rfl
  ·exact md.cw
  ·exact B
  ·exact OwnS.one FB md.c1
  ·exact OwnS.one MN md.c2
  ·exact OwnS.nil Ml
  ·exact OwnS.nil Ml
  ·exact md.r4.o1
  ·exact OwnS.nil K6
  ·exact OwnS.nil HA
 ·rcases Nat.lt_or_ge i j with h|h
  ·exact pd i j a b d q h y f g
  ·exact pd j i b a q d (by omega) y g f
end Go.Proofs
