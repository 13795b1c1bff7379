/- A part of the proof that the named laws of this program answer true, whatever the input. -/
import Derived.Test.YtajpljopgikpgaaGreatDoorPart7
import Derived.Test.YtajpljopgikpgaaGreatDoorPart6
open Int renaming tmod→gL
open List renaming mem_singleton→aj,mem_of_getElem?→aw,getElem?_of_mem→fE,getElem?_eq_some_iff→aP,getElem?_set_ne→jF,mem_append→bN,length_singleton→bq,range→bX,map_nil→mh,mem_cons→aq
open List.Pairwise renaming nil→fO
open Nat renaming lt_of_lt_of_le→bI,le_refl→au,le_trans→bB
namespace Go.Proofs
open Go Go.Lift
set_option maxHeartbeats 1000000 in
theorem IQ{W S:Nat→Prop}{h:ad}{eb pb tb:Nat}{ti:Int}{g:Int}{x:Hs}{tu:Tr}{lu:List Pr}(e:EdO W S h eb pb tb ti g x tu lu)(N:lu.length≤1000000)(k:ByteArray){K:Int→ad→Prop}
  (w:∀o b s,EdO W s o eb pb tb ti g x b (oK lu k)→Upd (fun y=>S y∨y=eb) h o→(∀y,s y→(S y∨h.size≤y)∧y<o.size)→K (Du lu k) o):HC PG jV [.pointer (some ⟨eb,0,none⟩),.string k] [.c (.int .i64)] K h:=by
 refine x9 _ k ?_;unfold qY;refine aX fun h1 b1 k1=>aX fun h2 b2 C=>?_
 have X:=aF b1;have z2:=aF b2;have s1:=k1.size;have s2:=C.size;have c1:=C.get0 b1;have d:=k1.tr C;refine⟨_,vc c1 0,tH (e.ed.upd d id) (e.tk.upd d id) (ah.2 ⟨_,vc c1 0,?_⟩)⟩;refine yD (e.ed.upd d id) (vz _ _ _ ?_);unfold pc rR bo af cE eK aA gC yi rd qv;refine aX fun Z b3 F=>?_
 have J:=aF b3;have a:=d.tr F;have j:=e.ed.upd a id;have P:=F.get0 b2;have G:=F.get0 c1;refine⟨_,vc G 0,_,rfl,_,nO j 2 0,_,nO j 2 1,_,nO j 2 2,_,nO j 2 3,_,nO j 2 4,_,nO j 2 5,k,vc P 0,?_⟩;have t:∀y,S y→y<h.size:=fun y M=>e.lt y (.inr M)
 refine vO (e.iu.pro a) (e.can.pro a) e.up e.fit N k fun h4 b s n I v Q=>?_
 have Y:=n.size;refine⟨vc (n.get G fun u=>by have:=t _ u;omega) 0,?_⟩
 refine fc (c:=gm zJ) (vs:=gm b) (n.get b3 fun u=>by have:=t _ u;omega) rfl fun T m i=>?_
 refine⟨_,vc m 0,_,vc m 1,_,vc m 2,_,vc m 3,_,vc m 4,_,vc m 5,?_⟩;have H:EdAt T eb pb tb tu:=(j.upd n fun u=>e.ap _ u e.we).upd i (by have:=e.lt _ (.inl e.we);omega)
 have f:Fit (oK lu k):=by
  unfold oK;split
  ·exact e.fit
  ·exact fun q O=>e.fit q (zl.1 O).1
 have p:cp (oK lu k):=by
  unfold oK;split
  ·exact e.up
  ·exact Cb e.up
 refine⟨H,fun L B=>⟨fun hz o V A=>?_,fun hz=>?_⟩⟩
 ·obtain⟨z,E,D⟩:=e.fin a n I v i (by omega) J B V A p f
  have hz:Du lu k=0:=hz;rw[hz]at w;exact w o b s z E D
 ·have hz:Du lu k≠0:=hz
  have R:=Q hz;subst R;obtain⟨z,E,D⟩:=e.fin a n I v i (by omega) J B (H.upd B id) (Upd.refl _ _) p f;exact w L b s z E D
theorem HI{h:ad}{eb pb tb cb cap:Nat}{ids:List Int}{tu:Tr}{ti:Int}{a:Bool}(e:EdAt h eb pb tb tu)(k:TokAt h tb pb ti a)(p:PoolAt h pb cb cap ids):eb≠cb∧eb≠tb∧tb≠cb:=by
 obtain⟨n,b,s,r,hc⟩:=p;refine⟨fun h=>?_,fun h=>?_,fun h=>?_⟩
 ·subst h;have:=e.symm.trans hc;simp at this
 ·subst h;have:=e.symm.trans k;simp at this
 ·subst h;have:=k.symm.trans hc;simp at this
theorem AI{h:ad}{pb cb cap:Nat}{i:Int}{ids:List Int}(p:PoolAt h pb cb cap (i::ids))(t:Tr){K:Option Addr×Int→ad→Prop}(g:∀h' eb tb,Upd (· =cb) h h'→PoolAt h' pb cb cap ids→TokAt h' tb pb i true→EdAt h' eb pb tb t→h.size≤eb→h.size≤tb→K (some ⟨eb,0,none⟩,0) h'):HC PG l4 [.pointer (some ⟨pb,0,none⟩),FB t] [.c .ptr,.c (.int .i64)] K h:=by
 refine DU _ t ?_;unfold w9 bo af aA qv vl7;refine aX fun k b1 k1=>?_
 have n:=aF b1;have o:cb<h.size:=by obtain⟨_,_,_,_,hc⟩:=p;exact aF hc
 have s1:=k1.size;refine yw (p.upd0 k1) fun m b e f=>ah.2 ?_
 have a:=b.get b1 (show ¬h.size=cb by omega)
 have s3:=b.size;refine⟨_,vc a 0,_,vc a 1,_,vc a 2,_,vc a 3,_,vc a 4,_,vc a 5,aX fun d j c=>?_⟩
 exact g d m.size k.size ((k1.wide.tr b).tr c.wide) (e.upd0 c) (f.upd c fun h=>h) j (by omega) s1
theorem AH{h:ad}{eb pb tb cb cap:Nat}{ids:List Int}{tu:Tr}{ti:Int}(e:EdAt h eb pb tb tu)(k:TokAt h tb pb ti true)(p:PoolAt h pb cb cap ids)(m:ids.length<cap){K:Tr×Int→ad→Prop}(j:∀h',Upd (fun y=>y=cb∨y=tb) h h'→PoolAt h' pb cb cap (ids++ [ti])→TokAt h' tb pb ti false→EdAt h' eb pb tb tu→K (tu,0) h'):iH (some ⟨eb,0,none⟩) K h:=by
 obtain⟨x,u,A⟩:=HI e k p;unfold iH rR bo af cE eK aA gC rd vI rO;refine aX fun v b1 k1=>?_
 have z:cb<h.size:=by obtain⟨_,_,_,_,hc⟩:=p;exact aF hc
 have B:=aF k;have s1:=k1.size;have f:=e.upd k1 fun h=>h
 refine tH f (k.upd k1 fun h=>h) (ah.2 ⟨_,rfl,_,vc f 0,_,rfl,_,vc f 1,?_⟩)
 refine F9 (p.upd0 k1) (k.upd k1 fun h=>h) m fun t d q o=>?_
 have b:=f.upd d (by omega);refine⟨_,rfl,_,nO b 2 0,_,nO b 2 1,_,nO b 2 2,_,nO b 2 3,_,nO b 2 4,_,nO b 2 5,?_⟩;refine fc (c:=gm zJ) (vs:=gm tu) (d.get b1 (by omega)) rfl fun n b3 a=>?_
 refine⟨_,vc b3 0,_,vc b3 1,_,vc b3 2,_,vc b3 3,_,vc b3 4,_,vc b3 5,?_⟩;have s2:=d.size;have w:=aF e;obtain⟨_,g,_⟩:=id p;have s:=aF g;exact j n ((k1.wide.tr d).trans a fun y i=>.inr (by have i:y=h.size:=i;omega)) (q.upd a (by omega) (by omega)) (o.upd a (by omega)) (b.upd a (by omega))
theorem yC{h:ad}{eb pb tb cb cap:Nat}{ids:List Int}{tu:Tr}{ti:Int}(e:EdAt h eb pb tb tu)(k:TokAt h tb pb ti true)(p:PoolAt h pb cb cap ids)(a:ids.length<cap){K:Tr×Int→ad→Prop}(b:∀h',Upd (fun y=>y=cb∨y=tb) h h'→PoolAt h' pb cb cap (ids++ [ti])→TokAt h' tb pb ti false→EdAt h' eb pb tb tu→K (tu,0) h'):HC PG fo [.pointer (some ⟨eb,0,none⟩)] JE K h:=
 oU _ (AH e k p a b)
theorem KQ{h:ad}{eb pb tb:Nat}{tu:Tr}{ti:Int}(e:EdAt h eb pb tb tu)(k:TokAt h tb pb ti false)(p:Pr){K:Int→ad→Prop}(c:∀h',Upd No h h'→K 5 h'):HC PG fP [.pointer (some ⟨eb,0,none⟩),.agg #[.string p.1,.string p.2]] [.c (.int .i64)] K h:=by
 refine r6 _ p ?_;unfold nK ui;refine aX fun f b1 k1=>aX fun d b2 b=>?_
 have a:=k1.tr b;exact⟨_,vc (b.get0 b1) 0,tH (e.upd a fun h=>h) (k.upd a fun h=>h) (az.2 (c d a))⟩
end Go.Proofs
namespace Go.Proofs
open Go Go.Lift
theorem Ka{x:Hs}{h:ad}{K:Int×Int×Int→ad→Prop}(f:∀h',Upd No h h'→K (x.k0,x.k1,x.mask) h'):HC PG xD [.agg #[.int .u64 x.k0,.int .u64 x.k1,.int .u64 x.mask]] [.agg [.int .u64,.int .u64,.int .u64]] K h:=by
 refine Jf (x.k0,x.k1,x.mask) ?_;unfold CL af cE gC Ai zl0 vl0;refine aX fun g b1 k1=>aX fun i b2 d=>?_
 have c1:=d.get0 b1;refine⟨_,nO c1 0 0,_,nO c1 0 1,_,vc c1 2,?_⟩;refine fc (c:= [.int .u64 0,.int .u64 0,.int .u64 0]) (vs:= [.int .u64 x.k0,.int .u64 x.k1,.int .u64 x.mask]) b2 rfl fun e a b=>?_
 exact⟨_,vc a 0,_,vc a 1,_,vc a 2,f e ((k1.tr d).own b k1.size)⟩
theorem EdO.end_{W S:Nat→Prop}{h d:ad}{eb pb tb cb:Nat}{ti:Int}{b:Int}{x:Hs}{tu:Tr}{lu:List Pr}(e:EdO W S h eb pb tb ti b x tu lu)(c:W cb)(k:Upd (fun y=>y=cb∨y=tb) h d)(t:TokAt d tb pb ti false):TreeIs No d b x tu lu:=
 (e.iu.upd k (fun y f=>e.lt y (.inr f)) fun y f=>by
  rcases f with rfl|rfl
  ·exact .inl ⟨.inl c,fun h=>e.ap _ h c⟩
  ·exact .inl ⟨.inl e.wt,fun h=>e.ap _ h e.wt⟩).freeze (W':=No) (fun _ h=>h.elim) (fun a h=>by cases h;exact⟨id,_,_,t,by simp⟩) fun _ _ h=>h
theorem EdO.upd0{W S:Nat→Prop}{h b:ad}{eb pb tb:Nat}{ti:Int}{a:Int}{x:Hs}{tu:Tr}{lu:List Pr}(e:EdO W S h eb pb tb ti a x tu lu)(k:Upd No h b):EdO W S b eb pb tb ti a x tu lu:=
 ⟨e.ed.upd k fun h=>h,e.tk.upd k fun h=>h,e.iu.upd0 k,fun y c=>bI (e.lt y c) k.size,e.we,e.wt,e.ap,e.up,e.fit⟩
theorem IP{W:Nat→Prop}{h:ad}{eb pb tb:Nat}{ti:Int}{a:Int}{x:Hs}{t:Tr}{l:List Pr}(e:EdAt h eb pb tb t)(k:TokAt h tb pb ti true)(i:TreeIs W h a x t l)(lt:∀y,W y→y<h.size)(we:W eb)(wt:W tb)(up:cp l)(fit:Fit l):EdO W No h eb pb tb ti a x t l:=
 ⟨e,k,sB (i.less fun y b=>.inl (b.elim id fun h=>h.elim)),fun y b=>b.elim (lt y) fun h=>h.elim,we,wt,fun _ h=>h.elim,up,fit⟩
set_option maxRecDepth 100000 in
theorem GM{h:ad}{K:Bool→ad→Prop}(hk:∀q,Upd No h q→K true q):HC PG sY [] [.c .bool] K h:=by
 refine Fh ?_;unfold yP bo af aA nv yi rd qv rP zg0;refine Am (n:=1) (au _) (by omega) fun w k2 I=>?_
 have I:PoolAt w (h.size+1) h.size 1 [1]:=I;have z2:=aF I.2.1;refine Hj (W:=fun y=>y<w.size) (x:=⟨0,0,0⟩) (fun _ h=>h) (.inl rfl) fun G t i4 Y=>uT (t:=t) fun h6 o F=>?_
 have z6:=aF o;have s4:=Y.size;refine⟨_,vc o 0,_,vc o 1,_,vc o 2,_,vc o 3,_,vc o 4,_,vc o 5,?_⟩;refine AI (I.upd0 (Y.tr F)) t fun j eb tb m V C u he ht=>?_
 have s14:=m.size;have ze:=aF u;have zt:=aF C;let W:Nat→Prop:=fun y=>y<w.size∨h6.size≤y∧y<j.size
 have v:TreeIs W j 0 ⟨0,0,0⟩ t []:=((((i4.less (W':=fun y=>y<w.size∨G.size≤y) fun _ h=>h).upd0 F).updM m fun y a=>.inl (.inl (by have a:y=h.size:=a;omega))).less fun y a=>.inl (a.imp id fun h=>by omega))
 have i6:TreeIs (fun y=>y=h.size) h6 0 ⟨0,0,0⟩ t []:=(i4.less (W':=fun y=>y=h.size) fun y a=>.inl (by have a:y=h.size:=a;show y<w.size;omega)).upd0 F
 have e:=IP (W:=W) u C v (fun y a=>by rcases a with h|h<;>omega) (.inr ⟨he,ze⟩) (.inr ⟨ht,zt⟩) fO (fun p H=>by cases H)
 refine Join.intro (fun b q=>b=false∧∃tu S,EdO W S q eb (h.size+1) tb 1 0 ⟨0,0,0⟩ tu [(⟨#[97]⟩,⟨#[]⟩)]∧Upd (fun y=>S y∨y=eb) j q∧∀y,S y→j.size≤y∧y<q.size) (fun R hR=>?_) ?_
 ·refine ah.2 (ah.2 ?_)
  refine EZ e (by simp) (⟨#[97]⟩,⟨#[]⟩) (fun q tu' S' e' k' E=>?_) (fun p H=>?_)
  ·have er:C1 (⟨#[97]⟩,⟨#[]⟩)=0:=rfl
   rw[er];refine hR _ _ ⟨rfl,tu',S',e',k'.mono fun y a=>a.elim (fun h=>h.elim) fun h=>.inl (.inr h),fun y a=>⟨(E y a).1.elim (fun h=>h.elim) id,(E y a).2⟩⟩
  ·have:p=(⟨#[97]⟩,⟨#[]⟩):=by
    have hw:oy [] ((⟨#[97]⟩,⟨#[]⟩):Pr)= [(⟨#[97]⟩,⟨#[]⟩)]:=rfl;rw[hw]at H;exact aj.1 H
   rw[this];exact⟨by decide,by decide⟩
 ·rintro _ h17 ⟨rfl,tu,S,s,k,P⟩
  refine ah.2 ?_;have T:∀{z},z<j.size→¬S z:=fun hz h=>by have:=(P _ h).1;omega
  have hne:h.size+1≠eb∧h.size≠eb:=by omega
  have X:=V.upd k (fun h=>h.elim (T (by omega)) fun h=>by omega) (fun h=>h.elim (T (by omega)) fun h=>by omega)
  refine yC s.ed s.tk X (by simp) fun h21 i p21 D Q=>?_
  have i21:=s.end_ (cb:=h.size) (.inl (by omega)) i D;have z17:=k.size;have z21:=i.size;have Z:=m.get o (show ¬G.size=h.size by omega)
  have M:=i.get (k.get Z (fun h=>h.elim (T (by omega)) fun h=>by omega)) (show ¬(G.size=h.size∨G.size=tb) by omega)
  have B:Upd No h h21:=(((k2.tr (Y.tr F)).trans m fun y a=>.inr (by have a:y=h.size:=a;omega)).trans k fun y a=>.inr (a.elim (fun h=>by have:=(P _ h).1;omega) fun h=>by omega)).trans i fun y a=>.inr (by rcases a with h|h<;>omega)
  refine uT (t:=tu) fun h23 f A=>az.2 ⟨_,vc f 0,_,vc f 1,_,vc f 2,_,vc f 3,_,vc f 4,_,vc f 5,?_⟩
  refine Hk (i21.upd0 A) (List.pairwise_singleton _ _) (by simp) fun h31 L=>az.2 ?_
  have c:=A.tr L;refine KQ (Q.upd c fun h=>h) (D.upd c fun h=>h) (⟨#[98]⟩,⟨#[]⟩) fun O k33=>az.2 ?_
  have d:=c.tr k33;have g:=d.get0 M;refine⟨_,vc g 0,_,vc g 1,_,vc g 2,_,vc g 3,_,vc g 4,_,vc g 5,?_⟩;have i33:TreeIs No O 0 ⟨0,0,0⟩ t []:=((((v.updM k fun y a=>a.elim (fun h=>.inr (P y h).1) fun h=>.inl (.inr ⟨by omega,by omega⟩)).less (W':=W) fun y a=>.inl a).updM i fun y a=>.inl (a.elim (fun h=>.inl (by omega)) fun h=>.inr ⟨by omega,by omega⟩)).less fun _ h=>h.elim).upd0 d
  refine Hk i33 fO (by simp) fun J N=>hk J (B.tr (d.tr N))
end Go.Proofs
namespace Go.Proofs
open Go Go.Lift
def Mv(U:Nat→Prop)(h:ad)(b:Nat→Prop)(a:ad):Prop:=Upd U h a∧∀y,b y→U y∨h.size≤y
section
variable {U U' U1 U2 M:Nat→Prop} {h h' h1 h2:ad}
theorem Mv.refl(U:Nat→Prop)(h:ad):Mv U h U h:=⟨Upd.refl _ _,fun _ h=>.inl h⟩
theorem Mv.tr(a:Mv U h U1 h1)(b:Mv U1 h1 U2 h2):Mv U h U2 h2:=⟨a.1.trans b.1 a.2,fun y c=>(b.2 y c).elim (a.2 y) fun h=>.inr (bB a.1.size h)⟩
theorem Mv.of0(k:Upd No h h'):Mv U h U h':=⟨k.wide,fun _ h=>.inl h⟩
theorem Mv.up0(a:Mv U h U1 h1)(k:Upd No h1 h2):Mv U h U1 h2:=a.tr (.of0 k)
theorem Mv.new(a:∀y,U' y→U y∨h.size≤y):Mv U h U' h:=⟨Upd.refl _ _,a⟩
theorem Mv.upM(k:Upd M h h')(hm:∀y,M y→U y∨h.size≤y):Mv U h U h':=⟨k.mono hm,fun _ h=>.inl h⟩
theorem Mv.get(a:Mv U h U' h'){b:Nat}{o:Obj}(d:h[b]? =some o) (c:¬U b):h'[b]? =some o:=a.1.get d c
theorem Mv.not(a:Mv U h U' h'){b:Nat}{o:Obj}(d:h[b]? =some o) (c:¬U b):¬U' b:=fun e=>(a.2 b e).elim c fun h=>by have:=aF d;omega
theorem TreeIs.mv{a:Int}{x:Hs}{t:Tr}{l:List Pr}(i:TreeIs U h a x t l)(m:Mv U h U' h'):TreeIs U' h' a x t l:=
 ((i.less (W':=fun y=>U y∨h.size≤y) fun _ h=>h).updM m.1 fun _ b=>.inl (.inl b)).less fun y b=>.inl (m.2 y b)
theorem RefIs.mv{a:Int}{x:Hs}{t:Rt}{l:List Pr}(i:RefIs U h a x t l)(m:Mv U h U' h'):RefIs U' h' a x t l:=
 ((i.less (W':=fun y=>U y∨h.size≤y) fun _ h=>h).updM m.1 fun _ b=>.inl (.inl b)).less fun y b=>.inl (m.2 y b)
end
structure Ed where
 eb:Nat
 tb:Nat
 ti:Int
 lv:Bool
 tu:Tr
 lu:List Pr
 S:Nat→Prop
def Un(A:Nat→Prop)(cb:Nat)(es:List Ed)(y:Nat):Prop:=A y∨y=cb∨∃e∈es,y=e.eb∨(e.lv=true∧y=e.tb)∨e.S y
def tok(e:Ed):Option Addr:=if e.lv then some ⟨e.tb,0,none⟩else none
structure EdW(U:Nat→Prop)(h:ad)(pb:Nat)(kind:Int)(x:Hs)(n:Nat)(e:Ed):Prop where
 ed:EdAt h e.eb pb e.tb e.tu
 tk:TokAt h e.tb pb e.ti e.lv
 iu:TreeO (tok e) U h kind x e.tu e.lu e.S
 up:cp e.lu
 fit:Fit e.lu
 len:e.lu.length≤n
def pt:List Ed→Nat
 | []=>0
 |e::es=>(if e.lv then 1 else 0)+pt es
structure Wo(A:Nat→Prop)(h:ad)(pb cb cap:Nat)(ids:List Int)(kind:Int)(x:Hs)(n:Nat)(es:List Ed):Prop where
 pl:PoolAt h pb cb cap ids
 rm:ids.length+pt es=cap
 lt:∀y,A y→y<h.size
 ac:¬A cb
 pv:¬Un A cb es pb
 ew:∀e∈es,EdW (Un A cb es) h pb kind x n e
 av:∀e∈es,¬A e.eb∧¬A e.tb∧(∀y,e.S y→¬A y∧y≠cb∧(∀f∈es,y≠f.eb∧y≠f.tb)∧y<h.size)∧(e.lv=false→¬Un A cb es e.tb)
 pw:∀(i j:Nat) (a b:Ed),es[i]? =some a→es[j]? =some b→i≠j→a.eb≠b.eb∧a.tb≠b.tb∧∀y,a.S y→¬b.S y
def Me(A:Nat→Prop)(cb:Nat)(es:List Ed)(h:ad)(a:List Ed)(b:ad):Prop:=Mv (Un A cb es) h (Un A cb a) b∧Upd (fun y=>¬A y) h b
section
variable {A A' M:Nat→Prop} {h h':ad} {pb cb cap n m:Nat} {ids ids':List Int} {kind:Int} {x:Hs} {es:List Ed}
theorem Wo.ult(w:Wo A h pb cb cap ids kind x n es):∀y,Un A cb es y→y<h.size:=by
 rintro y (a|rfl|⟨e,b,rfl|⟨_,rfl⟩|a⟩)
 ·exact w.lt y a
 ·obtain⟨_,_,_,_,hc⟩:=w.pl;exact aF hc
 ·exact aF (w.ew e b).ed
 ·exact aF (w.ew e b).tk
 ·exact((w.av e b).2.2.1 y a).2.2.2
theorem EdW.mono{U:Nat→Prop}{e:Ed}(w:EdW U h pb kind x n e)(hm:n≤m):EdW U h pb kind x m e:=⟨w.ed,w.tk,w.iu,w.up,w.fit,bB w.len hm⟩
theorem Wo.mono(w:Wo A h pb cb cap ids kind x n es)(hm:n≤m):Wo A h pb cb cap ids kind x m es:=⟨w.pl,w.rm,w.lt,w.ac,w.pv,fun e a=>(w.ew e a).mono hm,w.av,w.pw⟩
theorem Wo.cb_ne(w:Wo A h pb cb cap ids kind x n es):cb<h.size∧pb<h.size∧∀e∈es,cb≠e.eb∧cb≠e.tb∧∀f∈es,e.eb≠f.tb:=by
 refine⟨w.ult _ (.inr (.inl rfl)),aF w.pl.2.1,fun e c=>?_⟩
 obtain⟨g,k,j⟩:=HI (w.ew e c).ed (w.ew e c).tk w.pl;refine⟨Ne.symm g,Ne.symm j,fun f i d=>?_⟩
 have a:=(w.ew e c).ed;have b:=(w.ew f i).tk;rw[←d]at b;have:=a.symm.trans b;simp at this
theorem Wo.own(w:Wo A h pb cb cap ids kind x n es)(k:Upd M h h')(hm:∀y,M y→A y∨h.size≤y)(f:∀y,A' y→(A y∨h.size≤y)∧y<h'.size):Wo A' h' pb cb cap ids kind x n es∧Mv (Un A cb es) h (Un A' cb es) h':=by
 have mv:Mv (Un A cb es) h (Un A' cb es) h':=⟨k.mono fun y a=>(hm y a).imp .inl id,fun y a=>a.elim (fun h=>(f y h).1.imp .inl id) fun h=>.inl (.inr h)⟩
 have un:∀{y},y<h.size→¬A y→¬A' y:=fun m g h=>(f _ h).1.elim g fun h=>by omega
 have c:∀{y},y<h.size→¬A y→¬M y:=fun m g h=>(hm _ h).elim g fun h=>by omega
 obtain⟨hc,i,_⟩:=w.cb_ne;have p:=k.size;refine⟨⟨w.pl.upd k (c i fun h=>w.pv (.inl h)) (c hc w.ac),w.rm,fun y a=>(f y a).2,un hc w.ac,fun d=>(mv.2 _ d).elim w.pv fun h=>by omega,fun e b=>?_,fun e b=>?_,w.pw⟩,mv⟩
 ·have v:=w.av e b
  have q:=w.ew e b;exact⟨q.ed.upd k (c (aF q.ed) v.1),q.tk.upd k (c (aF q.tk) v.2.1),((q.iu.less (W':=fun y=>Un A cb es y∨h.size≤y) fun _ h=>h).upd k (fun y a=>(v.2.2.1 y a).2.2.2) fun y a=>(hm y a).imp (fun h=>⟨.inl (.inl h),fun o=>(v.2.2.1 y o).1 h⟩) id).less fun y a=>.inl (mv.2 y a),q.up,q.fit,q.len⟩
 ·have v:=w.av e b
  have q:=w.ew e b;exact⟨un (aF q.ed) v.1,un (aF q.tk) v.2.1,fun y a=>⟨un (v.2.2.1 y a).2.2.2 (v.2.2.1 y a).1,(v.2.2.1 y a).2.1,(v.2.2.1 y a).2.2.1,by have:=(v.2.2.1 y a).2.2.2;omega⟩,fun j d=>(mv.2 _ d).elim (v.2.2.2 j) fun h=>by have:=aF q.tk;omega⟩
theorem Wo.up0(w:Wo A h pb cb cap ids kind x n es)(k:Upd No h h'):Wo A h' pb cb cap ids kind x n es:=(w.own k (fun _ h=>h.elim) fun y a=>⟨.inl a,by have:=w.lt y a;have:=k.size;omega⟩).1
def Ot(A:Nat→Prop)(cb:Nat)(es:List Ed)(i:Nat)(y:Nat):Prop:=A y∨y=cb∨(∃e∈es,y=e.eb∨(e.lv=true∧y=e.tb))∨∃j b,es[j]? =some b∧j≠i∧b.S y
theorem Ot.un{i:Nat}{e:Ed}(d:es[i]? =some e) (y:Nat):(Ot A cb es i y∨e.S y)↔Un A cb es y:=by
 constructor
 ·rintro((h|h|⟨f,a,h⟩|⟨j,b,g,_,h⟩)|h)
  ·exact .inl h
  ·exact .inr (.inl h)
  ·exact .inr (.inr ⟨f,a,h.imp id .inl⟩)
  ·exact .inr (.inr ⟨b,aw g,.inr (.inr h)⟩)
  ·exact .inr (.inr ⟨e,aw d,.inr (.inr h)⟩)
 ·rintro(h|h|⟨f,a,h|h|h⟩)
  ·exact .inl (.inl h)
  ·exact .inl (.inr (.inl h))
  ·exact .inl (.inr (.inr (.inl ⟨f,a,.inl h⟩)))
  ·exact .inl (.inr (.inr (.inl ⟨f,a,.inr h⟩)))
  ·obtain⟨j,c⟩:=fE a
   by_cases e:j=i
   ·subst e;rw[d]at c;cases c;exact .inr h
   ·exact .inl (.inr (.inr (.inr ⟨j,f,c,e,h⟩)))
theorem Wo.edO(w:Wo A h pb cb cap ids kind x n es){i:Nat}{e:Ed}(c:es[i]? =some e) (d:e.lv=true):EdO (Ot A cb es i) e.S h e.eb pb e.tb e.ti kind x e.tu e.lu:=by
 have hm:=aw c;have q:=w.ew e hm;have v:=w.av e hm;have m:tok e=some ⟨e.tb,0,none⟩:=by unfold tok;rw[d];rfl
 refine⟨q.ed,d▸q.tk,(m▸q.iu).less fun y a=>.inl ((Ot.un c y).1 a),fun y a=>w.ult y ((Ot.un c y).1 a),.inr (.inr (.inl ⟨e,hm,.inl rfl⟩)),.inr (.inr (.inl ⟨e,hm,.inr ⟨d,rfl⟩⟩)),fun y a=>?_,q.up,q.fit⟩
 rintro(h|h|⟨f,g,h⟩|⟨j,b,k,o,h⟩)
 ·exact(v.2.2.1 y a).1 h
 ·exact(v.2.2.1 y a).2.1 h
 ·exact h.elim ((v.2.2.1 y a).2.2.1 f g).1 fun h=>((v.2.2.1 y a).2.2.1 f g).2 h.2
 ·exact(w.pw i j e b c k (Ne.symm o)).2.2 y a h
theorem Cn{e e':Ed}:∀{es:List Ed} {i:Nat},es[i]? =some e→pt (es.set i e')+(if e.lv then 1 else 0)=pt es+(if e'.lv then 1 else 0)
 |a::es,0,h=>by cases h;simp only[List.set_cons_zero,pt];omega
 |a::es,i+1,h=>by
  simp only[List.set_cons_succ,pt];have:=Cn (e':=e') (es:=es) (i:=i) (by simpa using h);omega
 | [],i,h=>by simp at h
theorem Co{e:Ed}:∀{es:List Ed},pt (es++ [e])=pt es+if e.lv then 1 else 0
 | []=>by simp only[List.nil_append,pt];omega
 |a::es=>by simp only[List.cons_append,pt,Co (es:=es)];omega
theorem Di{α:Type}{l:List α}{i:Nat}{a b:α}(h:b∈l.set i a):b=a∨∃j,j≠i∧l[j]? =some b:=by
 obtain⟨j,c⟩:=fE h;rw[List.getElem?_set]at c;split at c
 ·split at c
  ·cases c;exact .inl rfl
  ·cases c
 ·exact .inr ⟨j,by omega,c⟩
theorem Wo.repl{P0:Prop}(w:Wo A h pb cb cap ids kind x n es){i:Nat}{e e':Ed}(R:es[i]? =some e) (X:e.lv=true) (u:e'.eb=e.eb) (k:Upd M h h') (hM:∀y,M y→y=cb∨y=e.tb∨y=e.eb∨e.S y) (p:PoolAt h' pb cb cap ids') (hcap:ids'.length+(if e'.lv then 1 else 0)=ids.length+1)
  (z:e'.tb=e.tb∨h.size≤e'.tb) (Q:∀y,e'.S y→(e.S y∨(h.size≤y∧y≠e'.tb))∧y<h'.size) (ed:EdAt h' e'.eb pb e'.tb e'.tu) (tk:TokAt h' e'.tb pb e'.ti e'.lv) (hn:n≤m) (up:cp e'.lu) (fit:Fit e'.lu) (len:e'.lu.length≤m)
  (P:Mv (Un A cb es) h (Un A cb (es.set i e')) h'→(∀y,Un A cb (es.set i e') y↔(Ot A cb (es.set i e') i y∨e'.S y))→(∀y,e.S y→¬Ot A cb (es.set i e') i y)→((e'.lv=false∨e'.tb≠e.tb)→¬Un A cb (es.set i e') e.tb)→TreeO (tok e') (Un A cb (es.set i e')) h' kind x e'.tu e'.lu e'.S∧P0):
  Wo A h' pb cb cap ids' kind x m (es.set i e')∧Me A cb es h (es.set i e') h'∧P0:=by
 have c:=aw R;have hi:i<es.length:=(aP.1 R).1;have v:=w.av e c;have q:=w.ew e c;have hz:=k.size;obtain⟨hc,hp,G⟩:=w.cb_ne;have lb:=aF q.tk;have K:(es.set i e')[i]? =some e':=List.getElem?_set_self hi;have oth:∀{f},f∈es.set i e'→f=e'∨∃j,j≠i∧es[j]? =some f∧f∈es∧f.eb≠e.eb∧f.tb≠e.tb∧(∀y,f.S y→¬e.S y)∧f.eb<h.size∧f.tb<h.size:=fun t=>(Di t).imp id fun⟨j,D,t⟩=>by
  have pw:=w.pw j i _ e t R D;have hm:=aw t;exact⟨j,D,t,hm,pw.1,pw.2.1,pw.2.2,aF (w.ew _ hm).ed,aF (w.ew _ hm).tk⟩
 have mv:Mv (Un A cb es) h (Un A cb (es.set i e')) h':=by
  refine⟨k.mono fun y d=>.inl ?_,?_⟩
  ·rcases hM y d with rfl|rfl|rfl|d
   ·exact .inr (.inl rfl)
   ·exact .inr (.inr ⟨e,c,.inr (.inl ⟨X,rfl⟩)⟩)
   ·exact .inr (.inr ⟨e,c,.inl rfl⟩)
   ·exact .inr (.inr ⟨e,c,.inr (.inr d)⟩)
  ·rintro y (d|d|⟨f,t,d⟩)
   ·exact .inl (.inl d)
   ·exact .inl (.inr (.inl d))
   ·rcases oth t with rfl|⟨j,D,J,o,_⟩
    ·rcases d with rfl|⟨_,rfl⟩|d
     ·rw[u];exact .inl (.inr (.inr ⟨e,c,.inl rfl⟩))
     ·rcases z with h|h
      ·rw[h];exact .inl (.inr (.inr ⟨e,c,.inr (.inl ⟨X,rfl⟩)⟩))
      ·exact .inr h
     ·exact(Q y d).1.imp (fun h=>.inr (.inr ⟨e,c,.inr (.inr h)⟩)) And.left
    ·exact .inl (.inr (.inr ⟨f,o,d⟩))
 have nM:∀{y},y≠cb→y≠e.tb→y≠e.eb→¬e.S y→¬M y:=fun s C h3 h4 h=>by rcases hM _ h with h|h|h|h<;>contradiction
 have L:∀{f},f∈es→∀{y},y=f.eb∨y=f.tb→¬e.S y:=fun t y d B=>by
  have:=(v.2.2.1 y B).2.2.1 _ t;exact d.elim this.1 this.2
 have sep:∀y,e.S y→¬Ot A cb (es.set i e') i y:=by
  rintro y B (h|h|⟨f,t,h⟩|⟨j,b,H,D,h⟩)
  ·exact(v.2.2.1 y B).1 h
  ·exact(v.2.2.1 y B).2.1 h
  ·have d:=(v.2.2.1 y B).2.2.2
   rcases oth t with rfl|⟨j,D,J,o,_⟩
   ·rcases h with h|⟨_,h⟩
    ·exact L c (.inl (h.trans u)) B
    ·rcases z with S|S
     ·exact L c (.inr (h.trans S)) B
     ·omega
   ·exact L o (h.imp id And.right) B
  ·rw[jF (Ne.symm D)]at H
   exact(w.pw i j e b R H (Ne.symm D)).2.2 y B h
 have T:(e'.lv=false∨e'.tb≠e.tb)→¬Un A cb (es.set i e') e.tb:=by
  rintro I (h|h|⟨f,t,h⟩)
  ·exact v.2.1 h
  ·exact(G e c).2.1 h.symm
  ·rcases oth t with rfl|⟨j,D,J,o,S,Y,e3,_⟩
   ·rcases h with h|⟨s,h⟩|h
    ·exact(G e c).2.2 e c (u.symm.trans h.symm)
    ·rcases I with I|I
     ·rw[I]at s;cases s
     ·exact I h.symm
    ·exact(Q _ h).1.elim (fun h=>L c (.inr rfl) h) fun h=>by omega
   ·rcases h with h|⟨_,h⟩|h
    ·exact(G f o).2.2 e c h.symm
    ·exact Y h.symm
    ·exact((w.av f o).2.2.1 _ h).2.2.1 e c|>.2 rfl
 obtain⟨P,hP0⟩:=P mv (fun y=>(Ot.un K y).symm) sep T
 refine⟨⟨p,?_,fun y d=>by have:=w.lt y d;omega,w.ac,fun N=>(mv.2 _ N).elim w.pv fun h=>by omega,fun f t=>?_,fun f t=>?_,fun i' j' a b F H hij=>?_⟩,⟨mv,k.mono fun y d=>.inl ?_⟩,hP0⟩
 ·have:=Cn (e':=e') R
  have:=w.rm;rw[X]at*;simp only[if_true]at*;omega
 ·rcases oth t with rfl|⟨j,D,J,o,S,Y,e3,e4,e5⟩
  ·exact⟨ed,tk,P,up,fit,len⟩
  ·have g:=w.ew f o
   have E:=w.av f o;have cf:=G f o;refine⟨g.ed.upd k (nM (Ne.symm cf.1) (cf.2.2 e c) S (L o (.inl rfl))),g.tk.upd k (nM (Ne.symm cf.2.1) Y (Ne.symm ((G e c).2.2 f o)) (L o (.inr rfl))),((g.iu.less (W':=fun y=>Un A cb es y∨h.size≤y) fun _ h=>h).upd k (fun y d=>(E.2.2.1 y d).2.2.2) fun y d=>.inl ⟨?_,fun B=>?_⟩).less fun y d=>.inl (mv.2 y d),g.up,g.fit,bB g.len hn⟩
   ·rcases hM y d with rfl|rfl|rfl|d
    ·exact .inl (.inr (.inl rfl))
    ·exact .inl (.inr (.inr ⟨e,c,.inr (.inl ⟨X,rfl⟩)⟩))
    ·exact .inl (.inr (.inr ⟨e,c,.inl rfl⟩))
    ·exact .inl (.inr (.inr ⟨e,c,.inr (.inr d)⟩))
   ·have a:=E.2.2.1 y B
    rcases hM y d with h|h|h|h
    ·exact a.2.1 h
    ·exact(a.2.2.1 e c).2 h
    ·exact(a.2.2.1 e c).1 h
    ·exact e3 y B h
 ·rcases oth t with rfl|⟨j,D,J,o,S,Y,e3,e4,e5⟩
  ·refine⟨u▸v.1,?_,fun y d=>?_,fun I N=>?_⟩
   ·rcases z with h|h
    ·rw[h];exact v.2.1
    ·exact fun F=>by have:=w.lt _ F;omega
   ·have W:=(Q y d).1
    refine⟨fun F=>?_,fun hc'=>?_,fun g Z=>?_,(Q y d).2⟩
    ·exact W.elim (fun h=>(v.2.2.1 y h).1 F) fun h=>by have:=w.lt y F;omega
    ·exact W.elim (fun h=>(v.2.2.1 y h).2.1 hc') fun h=>by omega
    ·rcases oth Z with rfl|⟨_,_,_,O,_,_,_,e4,e5⟩
     ·refine⟨fun h=>?_,fun h=>?_⟩
      ·exact W.elim (L c (.inl (h.trans u))) fun s=>by have:=aF q.ed;omega
      ·refine W.elim (fun B=>?_) fun s=>s.2 h
       rcases z with C|C
       ·exact L c (.inr (h.trans C)) B
       ·have:=(v.2.2.1 y B).2.2.2;omega
     ·exact W.elim (fun h=>(v.2.2.1 y h).2.2.1 g O) fun h=>⟨by omega,by omega⟩
   ·rcases z with h|h
    ·rw[h]at N;exact T (.inl I) N
    ·rcases N with s|s|⟨f,t,s⟩
     ·have:=w.lt _ s;omega
     ·omega
     ·rcases oth t with rfl|⟨_,_,_,o,_,_,_,e4,e5⟩
      ·rcases s with s|⟨s,_⟩|s
       ·rw[u]at s;have:=aF q.ed;omega
       ·rw[I]at s;cases s
       ·exact(Q _ s).1.elim (fun C=>by have:=(v.2.2.1 _ C).2.2.2;omega) fun C=>C.2 rfl
      ·rcases s with s|⟨_,s⟩|s
       ·omega
       ·omega
       ·have:=((w.av f o).2.2.1 _ s).2.2.2;omega
  ·have E:=w.av f o
   refine⟨E.1,E.2.1,fun y d=>⟨(E.2.2.1 y d).1,(E.2.2.1 y d).2.1,fun g Z=>?_,by have:=(E.2.2.1 y d).2.2.2;omega⟩,fun I N=>(mv.2 _ N).elim (E.2.2.2 I) fun h=>by omega⟩
   have hy2:=(E.2.2.1 y d).2.2.2;rcases oth Z with rfl|⟨_,_,_,O,_⟩
   ·have a:=(E.2.2.1 y d).2.2.1 e c
    refine⟨fun h=>a.1 (h.trans u),fun h=>?_⟩
    rcases z with C|C
    ·exact a.2 (h.trans C)
    ·omega
   ·exact(E.2.2.1 y d).2.2.1 g O
 ·have val:∀{j a},(es.set i e')[j]? =some a→(j≠i∧es[j]? =some a)∨(j=i∧a=e'):=fun{j a} F=>by
   by_cases ej:j=i
   ·subst ej
    rw[K]at F;cases F;exact .inr ⟨rfl,rfl⟩
   ·rw[jF (Ne.symm ej)]at F
    exact .inl ⟨ej,F⟩
  have one:∀{j b},es[j]? =some b→j≠i→e'.eb≠b.eb∧e'.tb≠b.tb∧∀y,e'.S y→¬b.S y:=fun{j b} H D=>by
   have pw:=w.pw i j e b R H (Ne.symm D);have V:=aw H;have lt:=aF (w.ew b V).tk;refine⟨u▸pw.1,?_,fun y d H=>?_⟩
   ·rcases z with h|h
    ·rw[h];exact pw.2.1
    ·omega
   ·have:=((w.av b V).2.2.1 y H).2.2.2
    exact(Q y d).1.elim (fun h=>pw.2.2 y h H) fun h=>by omega
  rcases val F with⟨s,qa⟩|⟨s,rfl⟩<;>rcases val H with⟨C,qb⟩|⟨C,rfl⟩
  ·exact w.pw i' j' a b qa qb hij
  ·obtain⟨p1,p2,p3⟩:=one qa s
   exact⟨Ne.symm p1,Ne.symm p2,fun y d h=>p3 y h d⟩
  ·exact one qb C
  ·omega
 ·rcases hM y d with rfl|rfl|rfl|d
  ·exact w.ac
  ·exact v.2.1
  ·exact v.1
  ·exact(v.2.2.1 y d).1
theorem Wo.goes(w:Wo A h pb cb cap ids kind x n es){i:Nat}{e:Ed}(C:es[i]? =some e) (p:e.lv=true) {o:Nat→Prop} {d:Tr} {a:List Pr} (e':EdO (Ot A cb es i) o h' e.eb pb e.tb e.ti kind x d a) (k:Upd (fun y=>e.S y∨y=e.eb) h h') (B:∀y,o y→(e.S y∨h.size≤y)∧y<h'.size) (F:n≤m) (hm:a.length≤m):
  Wo A h' pb cb cap ids kind x m (es.set i {e with tu:=d,lu:=a,S:=o})∧Me A cb es h (es.set i {e with tu:=d,lu:=a,S:=o}) h':=by
 have c:=aw C;have v:=w.av e c;have q:=w.ew e c;obtain⟨hc,H,t⟩:=w.cb_ne;refine(fun r=>⟨r.1,r.2.1⟩) (w.repl (P0:=True) (e':={e with tu:=d,lu:=a,S:=o}) C p rfl k (fun y g=>g.elim (fun h=>.inr (.inr (.inr h))) fun h=>.inr (.inr (.inl h))) (w.pl.upd k (fun h=>w.pv ?_) (fun h=>?_)) (by simp[p]) (.inl rfl) (fun y g=>⟨(B y g).1.imp id fun h=>⟨h,by have:=aF q.tk;show y≠e.tb;omega⟩,(B y g).2⟩) e'.ed (p▸e'.tk) F e'.up e'.fit hm fun mv un G E=>⟨?_,trivial⟩)
 ·rcases h with h|h
  ·exact .inr (.inr ⟨e,c,.inr (.inr h)⟩)
  ·exact .inr (.inr ⟨e,c,.inl h⟩)
 ·rcases h with h|h
  ·exact(v.2.2.1 _ h).2.1 rfl
  ·exact(t e c).1 h
 ·have D:tok {e with tu:=d,lu:=a,S:=o}=some ⟨e.tb,0,none⟩:=by unfold tok;rw[p];rfl
  rw[D];refine e'.iu.less fun y g=>.inl (((un y).1 g).imp (fun h=>?_) id)
  rcases h with h|h|⟨f,u,h⟩|⟨j,b,z,s,h⟩
  ·exact .inl h
  ·exact .inr (.inl h)
  ·rcases Di u with rfl|⟨j,s,u⟩
   ·exact .inr (.inr (.inl ⟨e,c,h⟩))
   ·exact .inr (.inr (.inl ⟨f,aw u,h⟩))
  ·rw[jF (Ne.symm s)]at z
   exact .inr (.inr (.inr ⟨j,b,z,s,h⟩))
theorem Wo.turn(w:Wo A h pb cb cap ids kind x n es){i:Nat}{e:Ed}(z:es[i]? =some e) (u:e.lv=true) {tb':Nat} {ti':Int} {lv' s:Bool} (k:Upd (fun y=>y=cb∨y=e.tb∨y=e.eb) h h') (p:PoolAt h' pb cb cap ids') (d:ids'.length+(if lv' then 1 else 0)=ids.length+1)
  (ed:EdAt h' e.eb pb tb' e.tu) (tk:TokAt h' tb' pb ti' lv') (g:TokAt h' e.tb pb e.ti s) (f:(tb'=e.tb∧lv'=false)∨h.size≤tb'):
  Wo A h' pb cb cap ids' kind x n (es.set i {e with tb:=tb',ti:=ti',lv:=lv',S:=No})∧Me A cb es h (es.set i {e with tb:=tb',ti:=ti',lv:=lv',S:=No}) h'∧TreeIs (Un A cb (es.set i {e with tb:=tb',ti:=ti',lv:=lv',S:=No})) h' kind x e.tu e.lu:=by
 have c:=aw z;have v:=w.av e c;have q:=w.ew e c;have E:=aF q.tk;have r:=w.repl (e':={e with tb:=tb',ti:=ti',lv:=lv',S:=No}) (m:=n) (P0:=TreeIs (Un A cb (es.set i {e with tb:=tb',ti:=ti',lv:=lv',S:=No})) h' kind x e.tu e.lu) z u rfl k (fun y b=>b.imp id fun h=>h.imp id .inl) p d (f.imp And.left id) (fun y b=>b.elim) ed tk (au _) q.up q.fit q.len fun mv un o j=>?_
 ·exact⟨r.1,r.2.1,r.2.2⟩
 ·have C:tok e=some ⟨e.tb,0,none⟩:=by unfold tok;rw[u];rfl
  have t:∀y,(y=cb∨y=e.tb∨y=e.eb)→(Un A cb es y∨h.size≤y)∧¬e.S y:=fun y b=>by
   refine⟨?_,fun F=>?_⟩
   ·rcases b with rfl|rfl|rfl
    ·exact .inl (.inr (.inl rfl))
    ·exact .inl (.inr (.inr ⟨e,c,.inr (.inl ⟨u,rfl⟩)⟩))
    ·exact .inl (.inr (.inr ⟨e,c,.inl rfl⟩))
   ·have a:=v.2.2.1 y F
    rcases b with h|h|h
    ·exact a.2.1 h
    ·exact(a.2.2.1 e c).2 h
    ·exact(a.2.2.1 e c).1 h
  have i1:=((C▸q.iu).less (W':=fun y=>Un A cb es y∨h.size≤y) fun _ h=>h).upd k (fun y b=>(v.2.2.1 y b).2.2.2) fun y b=>.inl (t y b)
  have B:TreeIs (Un A cb (es.set i {e with tb:=tb',ti:=ti',lv:=lv',S:=No})) h' kind x e.tu e.lu:=i1.freeze (fun y b=>mv.2 y b) (fun a h=>by
   cases h
   exact⟨j (f.symm.imp (fun h=>by show tb'≠e.tb;omega) And.right).symm,_,_,g,by simp⟩) fun y b D=>((un y).1 D).elim (o y b) fun h=>h
  exact⟨sB B,B⟩
theorem Wo.begin(w:Wo A h pb cb cap ids kind x n es){i:Int}{eb tb:Nat}{tu:Tr}{lu:List Pr}(o:ids=i::ids')(k:Upd (· =cb) h h')(p:PoolAt h' pb cb cap ids')(t:TokAt h' tb pb i true)(ed:EdAt h' eb pb tb tu)(J:h.size≤eb)(F:h.size≤tb)(K:TreeIs (Un A cb es) h kind x tu lu)(up:cp lu)(fit:Fit lu)(len:lu.length≤n):
  Wo A h' pb cb cap ids' kind x n (es++ [⟨eb,tb,i,true,tu,lu,No⟩])∧Me A cb es h (es++ [⟨eb,tb,i,true,tu,lu,No⟩]) h':=by
 obtain⟨hc,P,s⟩:=w.cb_ne;have hz:=k.size;have L:eb≠tb:=(HI ed t p).2.1;have mem:∀{f},f∈es++ [⟨eb,tb,i,true,tu,lu,No⟩]→f∈es∨f=⟨eb,tb,i,true,tu,lu,No⟩:=fun d=>(bN.1 d).imp id aj.1
 have mv:Mv (Un A cb es) h (Un A cb (es++ [⟨eb,tb,i,true,tu,lu,No⟩])) h':=by
  refine⟨k.mono fun y c=>.inl (.inr (.inl c)),?_⟩
  rintro y (c|c|⟨f,d,c⟩)
  ·exact .inl (.inl c)
  ·exact .inl (.inr (.inl c))
  ·rcases mem d with d|rfl
   ·exact .inl (.inr (.inr ⟨f,d,c⟩))
   ·rcases c with rfl|⟨_,rfl⟩|c
    ·exact .inr J
    ·exact .inr F
    ·exact c.elim
 have q:∀{f},f∈es→f.eb<h.size∧f.tb<h.size:=fun d=>⟨aF (w.ew _ d).ed,aF (w.ew _ d).tk⟩
 refine⟨⟨p,?_,fun y c=>by have:=w.lt y c;omega,w.ac,fun C=>(mv.2 _ C).elim w.pv fun h=>by omega,fun f d=>?_,fun f d=>?_,fun G I a b e u B=>?_⟩,mv,k.mono fun y c=>.inl (c▸w.ac)⟩
 ·have:=w.rm
  rw[o]at this;rw[Co];simp only[List.length_cons,if_true]at*;omega
 ·rcases mem d with d|rfl
  ·have g:=w.ew f d
   have m:=w.av f d;exact⟨g.ed.upd k (Ne.symm (s f d).1),g.tk.upd k (Ne.symm (s f d).2.1),((g.iu.less (W':=fun y=>Un A cb es y∨h.size≤y) fun _ h=>h).upd k (fun y c=>(m.2.2.1 y c).2.2.2) fun y c=>.inl ⟨.inl (.inr (.inl c)),fun H=>(m.2.2.1 y H).2.1 c⟩).less fun y c=>.inl (mv.2 y c),g.up,g.fit,g.len⟩
  ·exact⟨ed,t,sB (K.mv mv),up,fit,len⟩
 ·rcases mem d with d|rfl
  ·have m:=w.av f d
   refine⟨m.1,m.2.1,fun y c=>⟨(m.2.2.1 y c).1,(m.2.2.1 y c).2.1,fun g v=>?_,by have:=(m.2.2.1 y c).2.2.2;omega⟩,fun E C=>(mv.2 _ C).elim (m.2.2.2 E) fun h=>by have:=(q d).2;omega⟩
   have M:=(m.2.2.1 y c).2.2.2;rcases mem v with v|rfl
   ·exact(m.2.2.1 y c).2.2.1 g v
   ·exact⟨by show y≠eb;omega,by show y≠tb;omega⟩
  ·exact⟨fun e=>by have:=w.lt _ e;simp only at this;omega,fun e=>by have:=w.lt _ e;simp only at this;omega,fun y c=>c.elim,fun E=>by cases E⟩
 ·have val:∀{j a},(es++ [⟨eb,tb,i,true,tu,lu,No⟩])[j]? =some a→es[j]? =some a∨(j=es.length∧a=⟨eb,tb,i,true,tu,lu,No⟩):=fun{j a} e=>by
   rw[List.getElem?_append]at e;split at e
   ·exact .inl e
   ·have:j-es.length=0:=by
     have:=(aP.1 e).1;simp only[bq]at this;omega
    rw[this]at e;cases e;exact .inr ⟨by omega,rfl⟩
  have one:∀{j:Nat} {b:Ed},es[j]? =some b→eb≠b.eb∧tb≠b.tb:=fun{j b} u=>by
   have:=q (aw u);exact⟨by omega,by omega⟩
  rcases val e with D|⟨N,rfl⟩<;>rcases val u with z|⟨O,rfl⟩
  ·exact w.pw G I a b D z B
  ·exact⟨Ne.symm (one D).1,Ne.symm (one D).2,fun y _ h=>h.elim⟩
  ·exact⟨(one z).1,(one z).2,fun y h=>h.elim⟩
  ·omega
end
end Go.Proofs
namespace Go.Proofs
open Go Go.Lift
end Go.Proofs
namespace Go.Proofs
open Go Go.Lift
end Go.Proofs
namespace Go.Proofs
open Go Go.Lift
end Go.Proofs
namespace Go.Proofs
open Go Go.Lift
end Go.Proofs
namespace Go.Proofs
open Go Go.Lift
end Go.Proofs
namespace Go.Proofs
open Go Go.Lift
end Go.Proofs
namespace Go.Proofs
open Go Go.Lift
end Go.Proofs
namespace Go.Proofs
open Go Go.Lift
theorem IM{h:ad}{eb pb tb cb cap:Nat}{i ti:Int}{ids ids2:List Int}{tu:Tr}(e:EdAt h eb pb tb tu)(k:TokAt h tb pb ti true)(p:PoolAt h pb cb cap ids)(H:ids.length<cap)(hi:ids++ [ti]=i::ids2){K:Tr×Int→ad→Prop}
  (G:∀h' tb',Upd (fun y=>y=cb∨y=tb∨y=eb) h h'→PoolAt h' pb cb cap ids2→TokAt h' tb pb ti false→TokAt h' tb' pb i true→EdAt h' eb pb tb' tu→h.size≤tb'→K (tu,0) h'):HC PG jU [.pointer (some ⟨eb,0,none⟩)] JE K h:=by
 obtain⟨P,n2,S⟩:=HI e k p;have ze:=aF e;have zt:=aF k;obtain⟨pn,x,_,_,hc⟩:=id p;have Z:=aF x;have zc:=aF hc;have M:pb≠tb:=fun h=>by subst h;have:=x.symm.trans k;simp at this
 have L:pb≠eb:=fun h=>by subst h;have:=x.symm.trans e;simp at this
 refine x8 _ ?_;unfold qX bo af eK aA gC nv rd vI qv c8;refine aX fun O b1 k1=>yC (e.upd k1 id) (k.upd k1 id) (p.upd0 k1) H fun I C J N T=>uT (t:=tu) fun F R j=>Join.plain (az.2 ?_)
 have s1:=k1.size;have Y:=aF b1;have s3:=C.size;have s5:=j.size;have E:=T.upd j id;have D:=J.upd0 j;have Q:=N.upd j id;rw[hi]at D;refine⟨_,rfl,_,vc E 0,yw D fun n d u o=>?_⟩
 have X:=aF o;have s10:=d.size;have w:=E.upd d P;refine⟨_,rfl,vH w (i:=1) (by simp) rfl fun B q b=>?_⟩
 have V:=j.get0 (C.get b1 (by omega));have m:=b.oth (d.get R (by omega)) (by omega);refine⟨_,vc m 0,_,vc m 1,_,vc m 2,_,vc m 3,_,vc m 4,_,vc m 5,?_⟩;refine fc (c:=gm zJ) (vs:=gm tu) (b.oth (d.get V (by omega)) (by omega)) rfl fun z a f=>?_
 refine⟨_,vc a 0,_,vc a 1,_,vc a 2,_,vc a 3,_,vc a 4,_,vc a 5,?_⟩;have A:=(u.upd b (by omega) (by omega)).upd f (by omega) (by omega);refine G z F.size ?_ A (((Q.upd d S).upd b (by omega)).upd f (by omega)) ((o.upd b (by omega)).upd f (by omega)) ((EdAt.upd (t:=tu) q (Upd.refl (fun _=>False) _) id).upd f (by omega)) (by omega)
 have W:Upd (fun y=>y=cb∨y=tb∨y=eb) O I:=C.mono fun y g=>.inl (g.imp id .inl)
 have v:Upd (fun y=>y=cb∨y=tb∨y=eb) F n:=d.mono fun y g=>.inl (.inl g)
 have s:Upd (fun y=>y=cb∨y=tb∨y=eb) n B:=b.mono fun y g=>.inl (.inr (.inr g))
 exact((((k1.wide.tr W).tr j.wide).tr v).tr s).trans f fun y g=>.inr (by have g:y=h.size:=g;omega)
theorem xw{e:Ed}:∀{es:List Ed} {i:Nat},es[i]? =some e→e.lv=true→1≤pt es
 |a::es,0,h,hl=>by cases h;simp only[pt];rw[if_pos hl];omega
 |a::es,i+1,h,hl=>by
  have:=xw (es:=es) (i:=i) (by simpa using h) hl;simp only[pt];omega
 | [],i,h,hl=>by simp at h
section
variable {A:Nat→Prop} {h:ad} {pb cb cap n:Nat} {ids:List Int} {kind:Int} {x:Hs} {es:List Ed} {i:Nat} {e:Ed}
theorem NF(w:Wo A h pb cb cap ids kind x n es)(d:es[i]? =some e) (f:e.lv=true) (o:n≤1000) (p:Pr) (g:p.1.size≤5030∧p.2.size≤5030) {K:Int→ad→Prop}
  (j:∀b a c,Wo A b pb cb cap ids kind x (n+1) (es.set i {e with tu:=a,lu:=oy e.lu p,S:=c})→Me A cb es h (es.set i {e with tu:=a,lu:=oy e.lu p,S:=c}) b→K (C1 p) b):HC PG fP [.pointer (some ⟨e.eb,0,none⟩),.agg #[.string p.1,.string p.2]] [.c (.int .i64)] K h:=by
 have q:=w.ew e (aw d);have wl:=Jv q.up q.fit q.len g;exact EZ (w.edO d f) (by have:=q.len;omega) p (fun b a c e' k m=>let r:=w.goes d f e' k m (Nat.le_succ n) wl.2.2;j b a c r.1 r.2) wl.2.1
theorem MA(w:Wo A h pb cb cap ids kind x n es)(d:es[i]? =some e) (f:e.lv=true) (m:n≤1000) (k:ByteArray) {K:Int→ad→Prop}
  (g:∀b a c,Wo A b pb cb cap ids kind x (n+1) (es.set i {e with tu:=a,lu:=oK e.lu k,S:=c})→Me A cb es h (es.set i {e with tu:=a,lu:=oK e.lu k,S:=c}) b→K (Du e.lu k) b):HC PG jV [.pointer (some ⟨e.eb,0,none⟩),.string k] [.c (.int .i64)] K h:=by
 have q:=w.ew e (aw d);have wl:=Kp (k:=k) q.up q.fit q.len;exact IQ (w.edO d f) (by have:=q.len;omega) k (fun b a c e' k j=>let r:=w.goes d f e' k j (Nat.le_succ n) wl.2.2;g b a c r.1 r.2)
theorem HX(w:Wo A h pb cb cap ids kind x n es)(b:es[i]? =some e) (c:e.lv=true) {K:Tr×Int→ad→Prop}
  (f:∀a,Wo A a pb cb cap (ids++ [e.ti]) kind x n (es.set i {e with lv:=false,S:=No})→Me A cb es h (es.set i {e with lv:=false,S:=No}) a→TreeIs (Un A cb (es.set i {e with lv:=false,S:=No})) a kind x e.tu e.lu→K (e.tu,0) a):iH (some ⟨e.eb,0,none⟩) K h:=by
 have q:=w.ew e (aw b);have hv:=xw b c;refine AH q.ed (c▸q.tk) w.pl (by have:=w.rm;omega) fun a k p t ed=>?_
 have r:=w.turn (tb':=e.tb) (ti':=e.ti) (lv':=false) b c (k.mono fun y d=>.inl (d.imp id .inl)) p (by simp) ed t t (.inl ⟨rfl,rfl⟩)
 exact f a r.1 r.2.1 r.2.2
theorem Js(w:Wo A h pb cb cap ids kind x n es)(a:es[i]? =some e) (b:e.lv=true) {K:Tr×Int→ad→Prop}
  (c:∀h',Wo A h' pb cb cap (ids++ [e.ti]) kind x n (es.set i {e with lv:=false,S:=No})→Me A cb es h (es.set i {e with lv:=false,S:=No}) h'→TreeIs (Un A cb (es.set i {e with lv:=false,S:=No})) h' kind x e.tu e.lu→K (e.tu,0) h'):HC PG fo [.pointer (some ⟨e.eb,0,none⟩)] JE K h:=
 oU _ (HX w a b c)
theorem Mz(w:Wo A h pb cb cap ids kind x n es)(c:es[i]? =some e) (d:e.lv=true) {j:Int} {ids2:List Int} (hi:ids++ [e.ti]=j::ids2) {K:Tr×Int→ad→Prop}
  (g:∀a tb',Wo A a pb cb cap ids2 kind x n (es.set i {e with tb:=tb',ti:=j,lv:=true,S:=No})→Me A cb es h (es.set i {e with tb:=tb',ti:=j,lv:=true,S:=No}) a→TreeIs (Un A cb (es.set i {e with tb:=tb',ti:=j,lv:=true,S:=No})) a kind x e.tu e.lu→K (e.tu,0) a):HC PG jU [.pointer (some ⟨e.eb,0,none⟩)] JE K h:=by
 have q:=w.ew e (aw c);have hv:=xw c d;refine IM q.ed (d▸q.tk) w.pl (by have:=w.rm;omega) hi fun a tb' k p t m ed f=>?_
 have b:ids.length+1=ids2.length+1:=by have:=congrArg List.length hi;simpa using this
 have r:=w.turn (tb':=tb') (ti':=j) (lv':=true) c d k p (by simpa using b.symm) ed m t (.inr f);exact g a tb' r.1 r.2.1 r.2.2
theorem Lu(w:Wo A h pb cb cap ids kind x n es){j:Int}{ids2:List Int}(hi:ids=j::ids2){t:Tr}{l:List Pr}(d:TreeIs (Un A cb es) h kind x t l)(up:cp l)(fit:Fit l)(len:l.length≤n){K:Option Addr×Int→ad→Prop}
  (b:∀a eb tb,Wo A a pb cb cap ids2 kind x n (es++ [⟨eb,tb,j,true,t,l,No⟩])→Me A cb es h (es++ [⟨eb,tb,j,true,t,l,No⟩]) a→K (some ⟨eb,0,none⟩,0) a):HC PG l4 [.pointer (some ⟨pb,0,none⟩),FB t] [.c .ptr,.c (.int .i64)] K h:=by
 subst hi;refine AI w.pl t fun a eb tb k p tk ed c e=>?_
 have r:=w.begin rfl k p tk ed c e d up fit len;exact b a eb tb r.1 r.2
theorem MI{U:Nat→Prop}(q:EdW U h pb kind x n e):By h (some ⟨e.tb,0,none⟩) (tok e):=q.tk.by_
theorem EdW.is{U:Nat→Prop}(q:EdW U h pb kind x n e):TreeIs No h kind x e.tu e.lu:=q.iu.read (MI q)
end
end Go.Proofs
namespace Go.Proofs
open Go Go.Lift
def sb(s:SliceV)(y:Nat):Prop:=s.cap≠0∧∃a,s.a=some a∧y=a.block
section
variable {α:Type} {f:α→List Value} {sz:Nat} {ty:TypeId} {M:Nat→Prop} {h:ad} {s so:SliceV} {xs out:List α}
theorem _root_.Go.Lift.OwnS.sub(o:OwnS f sz ty M h s xs):∀y,sb s y→M y∧y<h.size:=fun y ⟨hc,a,g,c⟩=>by
 rcases o.blk with j|⟨b,e,d,hm,i,_⟩
 ·exact absurd j hc
 ·rw[g]at d
  cases d;exact⟨c▸hm,c▸aF i⟩
theorem _root_.Go.Lift.OwnS.its(o:OwnS f sz ty M h s xs):OwnS f sz ty (sb s) h s xs:=by
 refine⟨o.len,o.ne,o.cap,?_⟩;by_cases hc:s.cap=0
 ·exact .inl hc
 ·rcases o.blk with g|⟨b,a,c,hm,e,d⟩
  ·exact absurd g hc
  ·exact .inr ⟨b,a,c,⟨hc,_,c,rfl⟩,e,d⟩
theorem oA{a:Option Addr}{n:Nat}:∀y,¬sb ⟨a,n,0⟩ y:=fun _ h=>h.1 rfl
theorem _root_.Go.Lift.OwnS.one{x:α}{b:Nat}(a:∀x,(f x).length=sz∧0<sz)(c:h[b]? =some (.cells (f x).toArray ty (0,0))):OwnS f sz ty (sb ⟨some ⟨b,0,none⟩,1,1⟩) h ⟨some ⟨b,0,none⟩,1,1⟩ [x]:=
 ⟨rfl,a,au _,.inr ⟨b,[],rfl,⟨by simp,_,rfl,rfl⟩,by simpa using c,by simp⟩⟩
theorem GP{a:Nat}{z:List Value}{t:α}{b:Nat}{K:SliceV→ad→Prop}(j:OwnS f sz ty (sb so) h so out)(k:h[b]? =some (.cells (f t).toArray ty (0,0))) (g:bH (f t)=true) (hz:z.length=sz) (e:0<a∧a≤64) (o:out.length+1≤1000000)
  (m:∀s' c,OwnS f sz ty (sb s') c s' (out++ [t])→Upd (sb so) h c→(∀y,sb s' y→(sb so y∨h.size≤y)∧y<c.size)→K s' c):
  ∃xs,SRow h (some ⟨b,0,none⟩) (1*sz) xs∧AppP (some z) sz a ty so.a so.len so.cap 1 xs h K:=by
 refine⟨_,((OwnS.one j.ne k).sl (W:=No) fun _ _ _ h=>h).srow,?_⟩
 refine AppP.own (M:=fun y=>sb so y∨h.size≤y) (ys:= [t]) (j.more fun y i=>.inl i) rfl rfl (by simpa using g) hz e.1 ?_ (.inr (au _)) fun s' c d n=>m s' c d.its (n.mono fun y i=>i) d.sub
 simp only[bq];calc (out.length+1)*a≤1000000*64:=Nat.mul_le_mul o e.2
  _≤140737488355328:=by omega
end
abbrev i1(n:Int):List Value:= [.int .i64 n]
abbrev OO(b:Bool):List Value:= [.bool b]
theorem HF(n:Int):(i1 n).length=1∧0<1:=⟨rfl,by omega⟩
theorem K8(n:Bool):(OO n).length=1∧0<1:=⟨rfl,by omega⟩
abbrev Oq(n:Int)(s1 s2 s3:SliceV):List Value:= [.int .i64 n,.slice s1.a s1.len s1.cap,.slice s2.a s2.len s2.cap,.slice s3.a s3.len s3.cap]
structure R4(h:ad)(rb:Nat)(s1 s2 s3:SliceV)(ids:List Int)(lv:List Bool)(is:List Int):Prop where
 bl:∃n,h[rb]? =some (.cells (Oq n s1 s2 s3).toArray re (0,0))
 o1:OwnS i1 1 lK (sb s1) h s1 ids
 o2:OwnS OO 1 oz (sb s2) h s2 lv
 o3:OwnS i1 1 lK (sb s3) h s3 is
theorem Iq{n:Nat}(M:n≤1000){h:ad}{K:Option Addr→ad→Prop}(C:∀a s1,R4 a h.size s1 ⟨none,0,0⟩ ⟨none,0,0⟩ ((bX n).map fun j=>((j:Nat):Int)+1) [] []→Upd No h a→(∀y,sb s1 y→h.size<y)→K (some ⟨h.size,0,none⟩) a):HC PG xC [.int .i64 n] [.c .ptr] K h:=by
 refine Je _ ?_;unfold CJ bL c8;refine aX fun O b1 k1=>?_
 have J:=aF b1;refine LoopP.ghost (fun(g:Nat×SliceV) (t:Int) a=>t=(g.1:Int)+1∧g.1≤n∧a[h.size]? =some (.cells (Oq n g.2 ⟨none,0,0⟩ ⟨none,0,0⟩).toArray re (0,0))∧OwnS i1 1 lK (sb g.2) a g.2 ((bX g.1).map fun j=>((j:Nat):Int)+1)∧Upd No h a∧∀y,sb g.2 y→h.size<y) (fun g=>n-g.1) (0,⟨none,0,0⟩) ⟨rfl,Nat.zero_le _,b1,OwnS.nil HF,k1,fun y c=>absurd c (oA y)⟩ ?_
 rintro I ⟨i,s⟩ t A ⟨rfl,hi,m,w,p,d⟩ F;simp only at hi m w p d⊢;refine bj (fun v=>?_) fun E=>?_
 ·have v:i<n:=by omega
  refine Join.plain ⟨_,rfl,s,vc m 1,aX fun Q G o=>?_⟩
  have L:=p.size;have N:=aF m;refine GP (f:=i1) (t:=(i:Int)+1) (b:=A.size) (w.upd o fun _ _ h=>h) G rfl rfl ⟨by omega,by omega⟩ (by simp;omega) fun s' a H k' x=>?_
  refine⟨_,rfl,vH (k'.get (o.get0 m) fun h=>by have:=d _ h;omega) (i:=1) (by simp) rfl fun D q k=>?_⟩
  rw[show IntKind.wrap .i64 ((i:Int)+1+1)=((i+1:Nat):Int)+1 by rw[nA (by omega)];omega]
  have P:=o.size;have B:∀y,sb s' y→h.size<y:=fun y c=>(x y c).1.elim (d y) fun h=>by omega
  refine F (i+1,s') _ _ ⟨rfl,by omega,q,?_,((p.tr o).trans k' fun y c=>.inr (by have:=d y c;omega)).own k (au _),B⟩ (by show n-(i+1)<n-i;omega)
  have e:((bX (i+1)).map fun j=>((j:Nat):Int)+1)=((bX i).map fun j=>((j:Nat):Int)+1)++ [(i:Int)+1]:=by rw[List.range_succ,List.map_append];rfl
  rw[e];exact H.upd k fun y c z=>by have:=B y c;have z:y=h.size:=z;omega
 ·have u:i=n:=by omega
  subst u;exact C A s ⟨⟨_,m⟩,w,OwnS.nil K8,OwnS.nil HF⟩ p d
theorem E3{s:ByteArray}{h:ad}{K:ByteArray→ad→Prop}(a:K (um s) h):HC PG rD [.string s,.int .i64 0] [.c .str] K h:=by
 refine G0 s 0 ?_;unfold Bb;have e:(if 30<(s.size:Int)then(30:Int)else(s.size:Int))=((min s.size 30:Nat):Int):=by split<;>omega
 rw[e];refine⟨⟨by omega,by omega⟩,?_⟩
 simp only[Bd];rw[Int.toNat_natCast];refine ah.2 ?_;unfold um at a;exact a
end Go.Proofs
namespace Go.Proofs
open Go Go.Lift
abbrev NG(sl sm se sx:SliceV)(pb rb:Option Addr):List Value:= [.slice sl.a sl.len sl.cap,.slice sm.a sm.len sm.cap,.slice se.a se.len se.cap,.slice sx.a sx.len sx.cap,.pointer pb,.pointer rb]
abbrev s0:SliceV:=⟨none,0,0⟩
abbrev FK(b:Nat):SliceV:=⟨some ⟨b,0,none⟩,1,1⟩
abbrev pA(b:Nat):Option Addr:=some ⟨b,0,none⟩
def Ij(c:Nat):List Int:=(bX c).map fun j=>((j:Nat):Int)+1
def Nw(wb b1 b2 rb:Nat)(s1:SliceV)(y:Nat):Prop:=y=wb∨y=b1∨y=b2∨y=rb∨sb s1 y
structure Made(h h':ad)(kk:Int)(x:Hs)(c:Nat)(t:Tr)(r:Rt)(wb b1 b2 pb cb rb:Nat)(s1:SliceV):Prop where
 cw:h'[wb]? =some (.cells (NG (FK b1) (FK b2) s0 s0 (pA pb) (pA rb)).toArray lD (0,0))
 c1:h'[b1]? =some (.cells (gm t).toArray ax (0,0))
 c2:h'[b2]? =some (.cells (FS r).toArray gN (0,0))
 r4:R4 h' rb s1 s0 s0 (Ij c) [] []
 wo:Wo (Nw wb b1 b2 rb s1) h' pb cb c (Ij c) kk x 0 []
 it:TreeIs (Un (Nw wb b1 b2 rb s1) cb []) h' kk x t []
 ir:RefIs (Un (Nw wb b1 b2 rb s1) cb []) h' kk x r []
 od:wb<b1∧wb<b2∧b1≠b2∧b1<cb∧b2<cb∧pb=cb+1∧pb<rb∧∀y,sb s1 y→rb<y
 mv:Mv No h (Un (Nw wb b1 b2 rb s1) cb []) h'
set_option maxRecDepth 100000 in
set_option maxHeartbeats 1000000 in
theorem IE{h:ad}{k n kk:Int}{x:Hs}(hkk:kk=0∨kk=1)(ek:IntKind.wrap .i64 (gL k 2)=kk){c:Nat}(ec:IntKind.wrap .i64 (1+IntKind.wrap .i64 (gL n 4))=(c:Int))(h1c:1≤c)(h2c:c≤4){K:Option Addr→ad→Prop}
  (hk:∀N t r wb b1 b2 pb cb rb s1,Made h N kk x c t r wb b1 b2 pb cb rb s1→K (pA wb) N):HC PG u1 [.int .u8 k,.agg #[.int .u64 x.k0,.int .u64 x.k1,.int .u64 x.mask],.int .u8 n] [.c .ptr] K h:=by
 refine GZ k (x.k0,x.k1,x.mask) n ?_;unfold Ba bo af aA nv Ai vE rd vI qv Iw sH c8 zl5 NC pl6 Oa;rw[ek,ec];refine aX fun q b1 k1=>aX fun h2 b2 k2=>?_
 have z1:=aF b1;have z2:=aF b2;have g1:=k2.get0 b1;refine⟨by decide,_,vc g1 0,_,vc g1 1,_,vc g1 2,?_⟩;refine Hj (W:=fun y=>y<h2.size) (x:=x) (fun _ h=>h) hkk fun h7 t i7 k7=>uT (t:=t) fun h9 b9 k9=>?_
 have z9:=aF b9;have g9:=(k7.tr k9).get0 g1;refine⟨by decide,_,vc g9 0,_,vc g9 1,_,vc g9 2,Ka fun h14 k14=>?_⟩
 have s7:=k7.size;have s14:=k14.size;refine LK (W:=fun y=>y<h14.size) (x:=x) hkk fun h16 r j16 k16=>NW (r:=r) fun d u k18=>?_
 have s16:=k16.size;have z18:=aF u;have g:=k14.tr (k16.tr k18);have s:=g.get0 b9;have w18:=((k7.tr k9).tr g).get0 b2;have n1:q.size≠h7.size∧q.size≠h16.size∧h7.size≠h16.size:=by omega
 have s1:=k1.size;refine Join.intro (fun _ N=>∃b1 b2,N[q.size]? =some (.cells (NG (FK b1) (FK b2) s0 s0 none none).toArray lD (0,0))∧N[b1]? =some (.cells (gm t).toArray ax (0,0))∧N[b2]? =some (.cells (FS r).toArray gN (0,0))∧d.size≤b1∧d.size≤b2∧b1≠b2∧Upd (· =q.size) d N) (fun R hR=>?_) ?_
 ·refine⟨_,vc s 0,_,vc s 1,_,vc s 2,_,vc s 3,_,vc s 4,_,vc s 5,_,vc u 0,_,vc u 1,_,vc u 2,_,vc u 3,r.2.2.2.2,vc u 4,⟨?_,?_⟩⟩
  ·refine aX fun h31 S G=>?_
   have z31:=aF S;have B:=G.get0 u;have w31:=G.get0 w18;refine⟨⟨vc B 0,vc B 1,vc B 2,vc B 3,vc B 4⟩,_,rfl,?_,?_⟩
   ·refine aX fun h33 b33 k33=>?_
    have z33:=aF b33;refine vH (k33.get0 w31) (i:=0) (by simp) rfl fun h34 Q o=>⟨_,rfl,vH Q (i:=1) (by simp) rfl fun h36 w36 X=>?_⟩
    exact hR _ _ ⟨d.size,h31.size,w36,X.oth (o.oth (k33.get0 S) (by omega)) (by omega),X.oth (o.oth b33 (by omega)) (by omega),au _,by omega,by omega,((G.tr k33).wide.tr o).tr X⟩
   ·refine vH w31 (i:=0) (by simp) rfl fun h34 Q o=>?_
    have F:=o.oth B (by omega);refine⟨⟨vc F 0,vc F 1,vc F 2,vc F 3,vc F 4⟩,aX fun h38 b38 V=>⟨_,rfl,vH (V.get0 Q) (i:=1) (by simp) rfl fun h40 w40 P=>?_⟩⟩
    have z38:=aF b38;have s34:=o.size;exact hR _ _ ⟨d.size,h34.size,w40,P.oth (V.get0 (o.oth S (by omega))) (by omega),P.oth b38 (by omega),au _,by omega,by omega,((G.wide.tr o).tr V.wide).tr P⟩
  ·refine aX fun h41 b41 L=>?_
   have z41:=aF b41;have z:=L.get0 s;refine⟨⟨vc z 0,vc z 1,vc z 2,vc z 3,vc z 4,vc z 5⟩,aX fun h42 b42 J=>⟨_,rfl,vH (J.get0 (L.get0 w18)) (i:=0) (by simp) rfl fun h44 w44 O=>⟨_,rfl,vH w44 (i:=1) (by simp) rfl fun h46 w46 M=>?_⟩⟩⟩
   have z42:=aF b42;exact hR _ _ ⟨h41.size,d.size,w46,M.oth (O.oth b42 (by omega)) (by omega),M.oth (O.oth (J.get0 b41) (by omega)) (by omega),by omega,au _,by omega,((L.tr J).wide.tr O).tr M⟩
 rintro _ C ⟨Y,T,w48,c1,c2,hb1,hb2,hne,H⟩;have zb1:=aF c1;have zb2:=aF c2;have s48:=H.size;refine⟨by decide,Am h1c (by omega) fun h50 A p50=>?_⟩
 have zp:=aF p50.2.1;have w50:=A.get0 w48;refine⟨_,rfl,vH w50 (i:=4) (by simp) rfl fun Z w52 v=>⟨by decide,Iq (by omega) fun h54 E r4 p D=>?_⟩⟩
 have s52:=v.size;have zr:=aF r4.bl.choose_spec;refine⟨_,rfl,vH (p.get0 w52) (i:=5) (by simp) rfl fun w w56 m=>?_⟩
 have s54:=p.size;have s56:=m.size;have kw:Upd (· =q.size) h2 w:=((((((k7.tr k9).tr g).wide.tr H).tr A.wide).tr v).tr p.wide).tr m
 have ns:∀{y},sb E y→y≠q.size:=fun f=>by have:=D _ f;omega
 have lts:∀{y},sb E y→y<w.size:=fun f=>by have:=(r4.o1.sub _ f).2;omega
 have un:∀y,Un (Nw q.size Y T Z.size E) C.size [] y→y=q.size∨d.size≤y:=by
  rintro y ((h|h|h|h|h)|h|⟨e,I,_⟩)
  ·exact .inl h
  ·exact .inr (by omega)
  ·exact .inr (by omega)
  ·exact .inr (by omega)
  ·exact .inr (by have:=D y h;omega)
  ·exact .inr (by omega)
  ·cases I
 have unl:∀y,Un (Nw q.size Y T Z.size E) C.size [] y→y<w.size:=by
  rintro y ((h|h|h|h|h)|h|⟨e,I,_⟩)
  ·omega
  ·omega
  ·omega
  ·omega
  ·exact lts h
  ·omega
  ·cases I
 have pl:PoolAt w (C.size+1) C.size c (Ij c):=((p50.upd v (by omega) (by omega)).upd0 p).upd m (by omega) (by omega);refine hk w t r q.size Y T (C.size+1) C.size Z.size E ⟨w56,?_,?_,⟨⟨_,m.oth r4.bl.choose_spec (by omega)⟩,r4.o1.upd m fun y f h=>ns f h,OwnS.nil K8,OwnS.nil HF⟩,⟨pl,by simp[Ij,pt],fun y f=>unl y (.inl f),?_,?_,fun e I=>by(cases I),fun e I=>by(cases I),fun i j a b ha=>by(simp at ha)⟩,?_,?_,⟨by omega,by omega,hne,by omega,by omega,rfl,by omega,D⟩,⟨(k1.tr k2).trans kw fun y f=>.inr (by have f:y=q.size:=f;omega),fun y f=>.inr (by rcases un y f with h|h<;>omega)⟩⟩
 ·exact m.oth (p.get0 (v.oth (A.get0 c1) (by omega))) (by omega)
 ·exact m.oth (p.get0 (v.oth (A.get0 c2) (by omega))) (by omega)
 ·rintro(h|h|h|h|h)
  ·omega
  ·omega
  ·omega
  ·omega
  ·have:=D _ h;omega
 ·rintro((h|h|h|h|h)|h|⟨e,I,_⟩)
  ·omega
  ·omega
  ·omega
  ·omega
  ·have:=D _ h;omega
  ·omega
  ·cases I
 ·have i9:TreeIs (fun y=>y<h2.size∨d.size≤y) d kk x t []:=((i7.upd0 k9).upd0 g).less fun y f=>f
  have kr:Upd (· =q.size) d w:=(((H.tr A.wide).tr v).tr p.wide).tr m
  exact(i9.updM kr fun y f=>.inl (.inl (by have f:y=q.size:=f;omega))).less fun y f=>.inl ((un y f).imp (fun h=>by show y<h2.size;omega) id)
 ·have i9:RefIs (fun y=>y<h14.size∨d.size≤y) d kk x r []:=(j16.upd0 k18).less fun y f=>f
  have kr:Upd (· =q.size) d w:=(((H.tr A.wide).tr v).tr p.wide).tr m
  exact(i9.updM kr fun y f=>.inl (.inl (by have f:y=q.size:=f;omega))).less fun y f=>.inl ((un y f).imp (fun h=>by show y<h14.size;omega) id)
end Go.Proofs
namespace Go.Proofs
open Go Go.Lift
theorem Wo.w0{A:Nat→Prop}{h:ad}{pb cb cap n:Nat}{ids:List Int}{a:Int}{x:Hs}{es:List Ed}(w:Wo A h pb cb cap ids a x n es){b:Nat}(d:h.size≤b):¬Un A cb es b:=fun c=>by have:=w.ult b c;omega
end Go.Proofs
namespace Go.Proofs
open Go Go.Lift
structure Sp where
 T:Nat→Prop
 Q:ad→Prop
 loc:∀{M:Nat→Prop} {h h':ad},Q h→Upd M h h'→(∀y,T y→¬M y)→Q h'
def rV(b:Nat)(cs:List Value)(t:TypeId):Sp:=⟨(· =b),fun h=>h[b]? =some (.cells cs.toArray t (0,0)),fun q k a=>k.get q (a _ rfl)⟩
def gP{α:Type}(f:α→List Value)(b:Nat)(ty:TypeId)(s:SliceV)(xs:List α):Sp:=⟨sb s,fun h=>OwnS f b ty (sb s) h s xs,fun q k a=>q.upd k a⟩
def AL(Ss:List Sp)(y:Nat):Prop:=∃s∈Ss,s.T y
structure Own(Ss:List Sp)(h:ad):Prop where
 q:∀s∈Ss,s.Q h
 lt:∀s∈Ss,∀y,s.T y→y<h.size
 pd:∀(i j:Nat) (a b:Sp),Ss[i]? =some a→Ss[j]? =some b→i≠j→∀y,a.T y→¬b.T y
section
variable {Ss:List Sp} {h h':ad} {M:Nat→Prop} {s s':Sp} {i:Nat}
theorem Own.get(o:Own Ss h)(hi:Ss[i]? =some s):s.Q h:=o.q s (aw hi)
theorem Own.away(o:Own Ss h)(k:Upd M h h')(hm:∀y,AL Ss y→¬M y):Own Ss h':=
 ⟨fun s a=>s.loc (o.q s a) k fun y b=>hm y ⟨s,a,b⟩,fun s a y b=>bI (o.lt s a y b) k.size,o.pd⟩
theorem Own.nil:Own [] h:=⟨(fun _ h=>by cases h),(fun _ h=>by cases h),(fun i j a b h=>by simp at h)⟩
theorem Own.set(o:Own Ss h)(hi:Ss[i]? =some s) (k:Upd M h h') (hm:∀y,M y→s.T y∨h.size≤y) (q:s'.Q h') (u:∀y,s'.T y→(s.T y∨h.size≤y)∧y<h'.size):Own (Ss.set i s') h':=by
 have A:i<Ss.length:=(aP.1 hi).1;have val:∀{j:Nat} {a:Sp},(Ss.set i s')[j]? =some a→(j=i∧a=s')∨(j≠i∧Ss[j]? =some a):=fun{j a} c=>by
  by_cases e:j=i
  ·subst e;rw[List.getElem?_set_self A]at c;cases c;exact .inl ⟨rfl,rfl⟩
  ·rw[jF (Ne.symm e)]at c;exact .inr ⟨e,c⟩
 have one:∀{j:Nat} {a:Sp},j≠i→Ss[j]? =some a→∀y,a.T y→¬s'.T y:=fun{j a} f c y d h'=>
  (u y h').1.elim (o.pd j i a s c hi f y d) fun h=>by have:=o.lt a (aw c) y d;omega
 refine⟨fun a c=>?_,fun a c y d=>?_,fun p j a b c z m y d g=>?_⟩
 ·obtain⟨j,f⟩:=fE c
  rcases val f with⟨_,rfl⟩|⟨w,f⟩
  ·exact q
  ·refine a.loc (o.get f) k fun y d hM=>?_
   rcases hm y hM with h|h
   ·exact o.pd j i a s f hi w y d h
   ·have:=o.lt a (aw f) y d;omega
 ·obtain⟨j,f⟩:=fE c
  rcases val f with⟨_,rfl⟩|⟨w,f⟩
  ·exact(u y d).2
  ·exact bI (o.lt a (aw f) y d) k.size
 ·rcases val c with⟨n,rfl⟩|⟨n,v⟩<;>rcases val z with⟨t,rfl⟩|⟨t,x⟩
  ·exact m (n.trans t.symm)
  ·exact one t x y g d
  ·exact one n v y d g
  ·exact o.pd p j a b v x m y d g
theorem Own.push(o:Own Ss h)(k:Upd No h h')(q:s'.Q h')(f:∀y,s'.T y→h.size≤y∧y<h'.size):Own (Ss++ [s']) h':=by
 have val:∀{j:Nat} {a:Sp},(Ss++ [s'])[j]? =some a→(j=Ss.length∧a=s')∨Ss[j]? =some a:=fun{j a} c=>by
  rw[List.getElem?_append]at c;split at c
  ·exact .inr c
  ·have:j-Ss.length=0:=by have:=(aP.1 c).1;simp only[bq]at this;omega
   rw[this]at c;cases c;exact .inl ⟨by omega,rfl⟩
 have mem:∀{a},a∈Ss++ [s']→a∈Ss∨a=s':=fun h=>(bN.1 h).imp id aj.1
 refine⟨fun a c=>?_,fun a c y e=>?_,fun p j a b c n g y e d=>?_⟩
 ·rcases mem c with c|rfl
  ·exact a.loc (o.q a c) k fun _ _ h=>h
  ·exact q
 ·rcases mem c with c|rfl
  ·exact bI (o.lt a c y e) k.size
  ·exact(f y e).2
 ·rcases val c with⟨s,rfl⟩|i<;>rcases val n with⟨t,rfl⟩|m
  ·omega
  ·have:=o.lt b (aw m) y d;have:=(f y e).1;omega
  ·have:=o.lt a (aw i) y e;have:=(f y d).1;omega
  ·exact o.pd p j a b i m g y e d
theorem Nv(hi:Ss[i]? =some s) {z:Nat} (e:∀y,s'.T y→s.T y∨z≤y):∀y,AL (Ss.set i s') y→AL Ss y∨z≤y:=fun y ⟨a,d,b⟩=>by
 rcases Di d with rfl|⟨j,_,c⟩
 ·exact(e y b).imp (fun h=>⟨s,aw hi,h⟩) id
 ·exact .inl ⟨a,aw c,b⟩
end
structure Ws(Ss:List Sp)(h:ad)(pb cb cap:Nat)(ids:List Int)(kind:Int)(x:Hs)(n:Nat)(es:List Ed):Prop where
 own:Own Ss h
 wo:Wo (AL Ss) h pb cb cap ids kind x n es
section
variable {Ss:List Sp} {h h':ad} {pb cb cap n m:Nat} {ids ids':List Int} {kind:Int} {x:Hs} {es es':List Ed} {s s':Sp} {i:Nat} {M:Nat→Prop}
theorem Ws.up0(w:Ws Ss h pb cb cap ids kind x n es)(k:Upd No h h'):Ws Ss h' pb cb cap ids kind x n es:=⟨w.own.away k fun _ _ h=>h,w.wo.up0 k⟩
theorem Ws.set(w:Ws Ss h pb cb cap ids kind x n es)(hi:Ss[i]? =some s) (k:Upd M h h') (hm:∀y,M y→s.T y∨h.size≤y) (q:s'.Q h') (c:∀y,s'.T y→(s.T y∨h.size≤y)∧y<h'.size):Ws (Ss.set i s') h' pb cb cap ids kind x n es∧Mv (Un (AL Ss) cb es) h (Un (AL (Ss.set i s')) cb es) h':=by
 have o:=w.own.set hi k hm q c;have r:=w.wo.own (A':=AL (Ss.set i s')) k (fun y b=>(hm y b).imp (fun h=>⟨s,aw hi,h⟩) id) fun y b=>⟨Nv hi (fun y b=>(c y b).1) y b,let⟨a,d,b⟩:=b;o.lt a d y b⟩
 exact⟨⟨o,r.1⟩,r.2⟩
theorem Ws.push(w:Ws Ss h pb cb cap ids kind x n es)(k:Upd No h h')(q:s'.Q h')(d:∀y,s'.T y→h.size≤y∧y<h'.size):Ws (Ss++ [s']) h' pb cb cap ids kind x n es∧Mv (Un (AL Ss) cb es) h (Un (AL (Ss++ [s'])) cb es) h':=by
 have o:=w.own.push k q d;have r:=w.wo.own (A':=AL (Ss++ [s'])) k (fun _ h=>h.elim) fun y ⟨a,b,c⟩=>⟨?_,o.lt a b y c⟩
 ·exact⟨⟨o,r.1⟩,r.2⟩
 ·rcases bN.1 b with b|b
  ·exact .inl ⟨a,b,c⟩
  ·rw[aj.1 b]at c;exact .inr (d y c).1
theorem Ws.cell(w:Ws Ss h pb cb cap ids kind x n es){b:Nat}{cs a:List Value}{t c:TypeId}(hi:Ss[i]? =some (rV b cs t)) (k:Upd (· =b) h h') (q:h'[b]? =some (.cells a.toArray c (0,0))):Ws (Ss.set i (rV b a c)) h' pb cb cap ids kind x n es∧Mv (Un (AL Ss) cb es) h (Un (AL (Ss.set i (rV b a c))) cb es) h':=
 w.set (s':=rV b a c) hi k (fun _ h=>.inl h) q fun y d=>⟨.inl d,(show y=b from d)▸aF q⟩
theorem Ws.slice(w:Ws Ss h pb cb cap ids kind x n es){α:Type}{f:α→List Value}{b:Nat}{ty:TypeId}{c a:SliceV}{xs ys:List α}(hi:Ss[i]? =some (gP f b ty c xs)) (k:Upd (sb c) h h') (q:OwnS f b ty (sb a) h' a ys) (d:∀y,sb a y→(sb c y∨h.size≤y)∧y<h'.size):Ws (Ss.set i (gP f b ty a ys)) h' pb cb cap ids kind x n es∧Mv (Un (AL Ss) cb es) h (Un (AL (Ss.set i (gP f b ty a ys))) cb es) h':=
 w.set (s':=gP f b ty a ys) hi k (fun _ h=>.inl h) q d
theorem Ws.ed(w:Ws Ss h pb cb cap ids kind x n es)(wo:Wo (AL Ss) h' pb cb cap ids' kind x m es')(k:Me (AL Ss) cb es h es' h'):Ws Ss h' pb cb cap ids' kind x m es':=⟨w.own.away k.2 fun _ a h=>h a,wo⟩
theorem Ws.mono(w:Ws Ss h pb cb cap ids kind x n es)(hm:n≤m):Ws Ss h pb cb cap ids kind x m es:=⟨w.own,w.wo.mono hm⟩
theorem Ws.unl(w:Ws Ss h pb cb cap ids kind x n es):∀y,Un (AL Ss) cb es y→y<h.size:=w.wo.ult
end
end Go.Proofs
namespace Go.Proofs
open Go Go.Lift
abbrev p1(a:Option Addr):List Value:= [.pointer a]
theorem Mn(a:Option Addr):(p1 a).length=1∧0<1:=⟨rfl,by omega⟩
structure Xd where
 b:Nat
 k:Nat
 ru:Rt
 fz:Bool
abbrev xL(r:Rt)(k:Nat)(fz:Bool):List Value:=FS r++ [.int .i64 (k:Int),.bool fz]
structure WC where
 wb:Nat
 rb:Nat
 pb:Nat
 cb:Nat
 cap:Nat
 N:Int
 kk:Int
 x:Hs
structure WG where
 sl:SliceV
 sm:SliceV
 se:SliceV
 sx:SliceV
 s1:SliceV
 s2:SliceV
 s3:SliceV
 lt:List Tr
 lr:List Rt
 le:List (Option Addr)
 lx:List (Option Addr)
 ids:List Int
 lv:List Bool
 is:List Int
 xs:List Xd
def SW(c:WC)(g:WG):List Sp:=rV c.wb (NG g.sl g.sm g.se g.sx (pA c.pb) (pA c.rb)) lD::rV c.rb (Oq c.N g.s1 g.s2 g.s3) re::gP gm 6 ax g.sl g.lt::gP FS 5 gN g.sm g.lr::gP p1 1 qf g.se g.le::gP p1 1 CT g.sx g.lx::
 gP i1 1 lK g.s1 g.ids::gP OO 1 oz g.s2 g.lv::gP i1 1 lK g.s3 g.is::g.xs.map fun y=>rV y.b (xL y.ru y.k y.fz) FE
abbrev WC.U(c:WC)(Ss:List Sp)(es:List Ed):Nat→Prop:=Un (AL Ss) c.cb es
def g0(b1 b2:Nat)(s1:SliceV)(t:Tr)(r:Rt)(n:Nat):WG:=⟨FK b1,FK b2,s0,s0,s1,s0,s0,[t],[r],[],[],Ij n,[],[],[]⟩
theorem Made.ws{h q:ad}{kk:Int}{x:Hs}{n:Nat}{t:Tr}{r:Rt}{wb b1 b2 pb cb rb:Nat}{s1:SliceV}(md:Made h q kk x n t r wb b1 b2 pb cb rb s1):∃N,∀c,c=WC.mk wb rb pb cb n N kk x→
  Ws (SW c (g0 b1 b2 s1 t r n)) q pb cb n (Ij n) kk x 0 []∧TreeIs (c.U (SW c (g0 b1 b2 s1 t r n)) []) q kk x t []∧RefIs (c.U (SW c (g0 b1 b2 s1 t r n)) []) q kk x r []∧Mv No h (c.U (SW c (g0 b1 b2 s1 t r n)) []) q:=by
 obtain⟨N,B⟩:=md.r4.bl;refine⟨N,fun c hc=>?_⟩
 subst hc;obtain⟨F,I,K,E,G,J,D,C⟩:=md.od;have z:∀y,AL (SW ⟨wb,rb,pb,cb,n,N,kk,x⟩ (g0 b1 b2 s1 t r n)) y→Nw wb b1 b2 rb s1 y:=by
  rintro y ⟨s,p,f⟩;simp only[SW,g0,mh,aq,List.not_mem_nil,or_false]at p;rcases p with rfl|rfl|rfl|rfl|rfl|rfl|rfl|rfl|rfl
  ·exact .inl f
  ·exact .inr (.inr (.inr (.inl f)))
  ·obtain⟨_,a,d,e⟩:=f;cases d;exact .inr (.inl e)
  ·obtain⟨_,a,d,e⟩:=f;cases d;exact .inr (.inr (.inl e))
  ·exact absurd f (oA y)
  ·exact absurd f (oA y)
  ·exact .inr (.inr (.inr (.inr f)))
  ·exact absurd f (oA y)
  ·exact absurd f (oA y)
 have g:=md.wo.own (A':=AL (SW ⟨wb,rb,pb,cb,n,N,kk,x⟩ (g0 b1 b2 s1 t r n))) (Upd.refl No q) (fun _ h=>h.elim) fun y f=>⟨.inl (z y f),md.wo.lt y (z y f)⟩
 have sl:∀{b y},sb (FK b) y→y=b:=fun⟨_,a,d,e⟩=>by cases d;exact e
 have L:Own [] q:=Own.nil;have pd:∀(i j:Nat) (a b:Sp),(SW ⟨wb,rb,pb,cb,n,N,kk,x⟩ (g0 b1 b2 s1 t r n))[i]? =some a→(SW ⟨wb,rb,pb,cb,n,N,kk,x⟩ (g0 b1 b2 s1 t r n))[j]? =some b→i<j→∀y,a.T y→¬b.T y:=by
  intro i j a b d u A y f m;have hi:i<9:=by have:=(aP.1 d).1;exact this
  have H:j<9:=by have:=(aP.1 u).1;exact this
  have o:∀(i:Nat) (a:Sp),(SW ⟨wb,rb,pb,cb,n,N,kk,x⟩ (g0 b1 b2 s1 t r n))[i]? =some a→a.T y→(i=0∧y=wb)∨(i=1∧y=rb)∨(i=2∧y=b1)∨(i=3∧y=b2)∨(i=6∧rb<y):=fun i a d f=>by
   match i,d with
   |0,d=>cases d;exact .inl ⟨rfl,f⟩
   |1,d=>cases d;exact .inr (.inl ⟨rfl,f⟩)
   |2,d=>cases d;exact .inr (.inr (.inl ⟨rfl,sl f⟩))
   |3,d=>cases d;exact .inr (.inr (.inr (.inl ⟨rfl,sl f⟩)))
   |4,d=>cases d;exact absurd f (oA y)
   |5,d=>cases d;exact absurd f (oA y)
   |6,d=>cases d;exact .inr (.inr (.inr (.inr ⟨rfl,C y f⟩)))
   |7,d=>cases d;exact absurd f (oA y)
   |8,d=>cases d;exact absurd f (oA y)
   |k+9,d=>exact absurd d (by simp[SW,g0])
  rcases o i a d f with⟨h,e⟩|⟨h,e⟩|⟨h,e⟩|⟨h,e⟩|⟨h,e⟩<;>rcases o j b u m with⟨v,w⟩|⟨v,w⟩|⟨v,w⟩|⟨v,w⟩|⟨v,w⟩<;>omega
 refine⟨⟨⟨fun s p=>?_,fun s p y f=>md.wo.lt y (z y ⟨s,p,f⟩),fun i j a b d u A y f m=>?_⟩,g.1⟩,md.it.mv g.2,md.ir.mv g.2,md.mv.tr g.2⟩
 ·simp only[SW,g0,mh,aq,List.not_mem_nil,or_false]at p
  rcases p with rfl|rfl|rfl|rfl|rfl|rfl|rfl|rfl|rfl
  ·exact md.cw
  ·exact B
  ·exact OwnS.one FC md.c1
  ·exact OwnS.one MP md.c2
  ·exact OwnS.nil Mn
  ·exact OwnS.nil Mn
  ·exact md.r4.o1
  ·exact OwnS.nil K8
  ·exact OwnS.nil HF
 ·rcases Nat.lt_or_ge i j with h|h
  ·exact pd i j a b d u h y f m
  ·exact pd j i b a u d (by omega) y m f
end Go.Proofs
