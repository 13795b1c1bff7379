/- A part of the proof that the named laws of this program answer true, whatever the input. -/
import Derived.Test.YtajpljopgikpgaaGreatDoorPart8
import Derived.Test.YtajpljopgikpgaaGreatDoorPart6
import Derived.Test.YtajpljopgikpgaaGreatDoorPart7
import Derived.Test.YtajpljopgikpgaaGreatDoorPart3
import Derived.Test.YtajpljopgikpgaaGreatDoorPart4
open Int renaming tdiv→lq,tdiv_eq_ediv_of_nonneg→eJ,toNat_natCast→aH
open List renaming getElem?_toArray→gj,length_map→gS,length_singleton→aK,filter_append→jY,filter_cons→cC,filter_nil→pL,append_nil→bP,length_take→aI,take_succ_eq_append_getElem→bI,getElem?_eq_getElem→af,take_length→bU,getElem_mem→aP,replicate→dE,length_append→ae,append_assoc→ar,zip_cons_cons→im,mem_cons→au,mem_cons_self→az,mem_cons_of_mem→aR,take_succ_cons→dw,cons→fi,mem_of_getLast?→lj,filter_eq_self→eY,pairwise_cons→bq,take_append_drop→aV,mem_map→jW,length_drop→aL,length_nil→cF,nil_append→gQ,drop_eq_getElem_cons→cU,length_cons→aN,flatMap_append→bA,flatMap_cons→aX
open List.Pairwise renaming nil→fX
open Nat renaming le_refl→ao,zero_add→aE,not_lt_zero→gP,zero_le→aU,lt_or_ge→bH,shiftRight_eq_div_pow→cn,shiftRight_le→gJ
open Option renaming some→bv
namespace Go.Proofs
open Go Go.Lift
def Kk(q:List Pr):Int:=if q.length=1 then 1 else if 2≤q.length then 2 else 0
def dF(a:Bool)(s:SliceV)(q:Nat→List Pr)(kk:Nat→Option Addr)(i:Nat):Value:=
 if i=0 then .bool a else if i=1 then sv s else if i<34 then .int .i64 (Kk (q (i-2)))else if i<98 then(if i%2=0 then .string (Aj (gk (q ((i-34)/2)))).1 else .string (Aj (gk (q ((i-34)/2)))).2)else .pointer (kk (i-98))
def dC(f:Nat→Value):List Value:=(List.range 130).map f
theorem Dk{f:Nat→Value}{i:Nat}(h:i<130):(dC f).toArray[i]? =some (f i):=by
 unfold dC;simp[h]
theorem Mj(f:Nat→Value):(dC f).toArray.size=130:=by simp[dC]
theorem SP{f:Nat→Value}{i:Nat}{v:Value}:(dC f).toArray.setIfInBounds i v=(dC fun j=>if j=i then v else f j).toArray:=by
 unfold dC;apply Array.ext_getElem?;intro j;rw[Array.getElem?_setIfInBounds];simp only[gj,List.getElem?_map,List.size_toArray,gS,List.length_range];by_cases e:i=j
 ·subst e
  by_cases h:i<130
  ·simp[h]
  ·simp[h]
 ·rw[if_neg e]
  by_cases h:j<130
  ·rw[List.getElem?_range h];simp only[Option.map_some];rw[if_neg fun e':j=i=>e e'.symm]
  ·rw[List.getElem?_eq_none (by rw[List.length_range];omega)];rfl
theorem GF{f g:Nat→Value}(h:∀i,i<130→f i=g i):(dC f).toArray=(dC g).toArray:=by
 unfold dC;rw[List.map_congr_left fun i hi=>h i (List.mem_range.1 hi)]
def DTrie(W:Nat→Prop)(x:Hs)(h:ad):Nat→Nat→List Pr→Prop
 |0,b,l=>¬W b∧∃s,h[b]? =some (.cells (dC (dF true s (fun _=> []) fun _=>none)).toArray gK (0,0))∧Sl fP 2 W h s l
 |m+1,b,l=>¬W b∧∃kk,h[b]? =some (.cells (dC (dF false ⟨none,0,0⟩ (fun c=>part x (12-m) c l) kk)).toArray gK (0,0))∧∀c,c<32→2≤(part x (12-m) c l).length→∃kb,kk c=some ⟨kb,0,none⟩∧DTrie W x h m kb (part x (12-m) c l)
theorem DTrie.upd{W M:Nat→Prop}{x:Hs}{h d:ad}(k:Upd M h d)(hm:∀b,M b→W b∨h.size≤b):∀{m b:Nat} {l:List Pr},DTrie W x h m b l→DTrie W x d m b l
 |0,b,_,⟨nw,s,h1,h2⟩=>⟨nw,s,k.get h1 fun a=>(hm b a).elim nw fun h=>by have:=aD h1;omega,h2.upd k hm⟩
 |_+1,b,_,⟨nw,kk,h1,h2⟩=>⟨nw,kk,k.get h1 fun a=>(hm b a).elim nw fun h=>by have:=aD h1;omega,fun c hc f=>let⟨i,g,e⟩:=h2 c hc f;⟨i,g,DTrie.upd k hm e⟩⟩
theorem DTrie.less{W W':Nat→Prop}{x:Hs}{h:ad}(hm:∀b,W' b→W b):∀{m b:Nat} {l:List Pr},DTrie W x h m b l→DTrie W' x h m b l
 |0,b,_,⟨nw,s,h1,h2⟩=>⟨fun a=>nw (hm b a),s,h1,h2.less fun b a=>.inl (hm b a)⟩
 |_+1,b,_,⟨nw,kk,h1,h2⟩=>⟨fun a=>nw (hm b a),kk,h1,fun c hc e=>let⟨g,f,d⟩:=h2 c hc e;⟨g,f,DTrie.less hm d⟩⟩
abbrev Ti(x:Hs)(p:Pr):List Value:= [.int .u64 (kX x p.1)]
theorem O4(x:Hs)(p:Pr):(Ti x p).length=1∧0<1:=⟨rfl,by omega⟩
def TwoS(x:Hs)(c a:Nat)(h:ad)(d e:SliceV)(L L':List Pr):Prop:=
 ∃A B:Nat→Prop,OwnS fP 2 bO A h d L∧OwnS (Ti x) 1 ny B h e L'∧(∀b,A b→c≤b∧b<a∧¬B b)∧∀b,B b→c≤b∧b<a
theorem TwoS.upd0{x:Hs}{c e:Nat}{h b:ad}{a d:SliceV}{L L':List Pr}(t:TwoS x c e h a d L L')(k:Upd No h b):TwoS x c e b a d L L':=by
 obtain⟨A,B,i,j,g,f⟩:=t;exact⟨A,B,i.upd k fun _ _ h=>h,j.upd k fun _ _ h=>h,g,f⟩
theorem Ta{x:Hs}{g i:Nat}{h:ad}{e k:SliceV}{L L':List Pr}{p:Pr}(t:TwoS x g i h e k L L')(w:g≤i)(o:i≤h.size)(y:L.length≤1000000){xs:List Value}(hx:xs=fP p){K:SliceV→ad→Prop}
  (u:∀s' c,TwoS x g c.size c s' k (L++ [p]) L'→Upd (fun b=>(g≤b∧b<i)∨h.size≤b) h c→K s' c):AppP (some [.string (⟨#[]⟩:ByteArray),.string (⟨#[]⟩:ByteArray)]) 2 32 bO e.a e.len e.cap 1 xs h K:=by
 subst hx;obtain⟨A,B,q,n,d,f⟩:=t;refine AppP.own (ys:= [p]) (q.more (M':=fun b=>A b∨h.size≤b) fun _ h=>.inl h) rfl rfl rfl rfl (by omega) (by simp only[aK];omega) (.inr (ao _)) fun s' c v j=>?_
 have s:=j.size;refine u s' c ⟨_,B,v.within,n.upd j fun b a hm=>hm.elim (fun hm=>(d b hm).2.2 a) fun hm=>by have:=(f b a).2;omega,fun b a=>⟨?_,a.2,fun m=>?_⟩,fun b a=>⟨(f b a).1,by have:=(f b a).2;omega⟩⟩ (j.mono fun b a=>a.elim (fun a=>.inl (.inl ⟨(d b a).1,(d b a).2.1⟩)) .inr)
 ·rcases a.1 with a|a
  ·exact(d b a).1
  ·omega
 ·rcases a.1 with a|a
  ·exact(d b a).2.2 m
  ·have:=(f b m).2;omega
theorem appB{x:Hs}{e g:Nat}{h:ad}{k f:SliceV}{L L':List Pr}{p:Pr}(t:TwoS x e g h k f L L')(w:e≤g)(o:g≤h.size)(y:L'.length≤1000000){xs:List Value}(hx:xs=Ti x p){K:SliceV→ad→Prop}
  (u:∀s' c,TwoS x e c.size c k s' L (L'++ [p])→Upd (fun b=>(e≤b∧b<g)∨h.size≤b) h c→K s' c):AppP (some [.int .u64 0]) 1 8 ny f.a f.len f.cap 1 xs h K:=by
 subst hx;obtain⟨A,B,q,n,d,m⟩:=t;refine AppP.own (ys:= [p]) (n.more (M':=fun b=>B b∨h.size≤b) fun _ h=>.inl h) rfl rfl rfl rfl (by omega) (by simp only[aK];omega) (.inr (ao _)) fun s' c v j=>?_
 have s:=j.size;refine u s' c ⟨A,_,q.upd j fun b a hm=>hm.elim (fun hm=>(d b a).2.2 hm) fun hm=>by have:=(d b a).2.1;omega,v.within,fun b a=>⟨(d b a).1,by have:=(d b a).2.1;omega,fun i=>?_⟩,fun b a=>⟨?_,a.2⟩⟩ (j.mono fun b a=>a.elim (fun a=>.inl (.inl (m b a))) .inr)
 ·rcases i.1 with i|i
  ·exact(d b a).2.2 i
  ·have:=(d b a).2.1;omega
 ·rcases a.1 with a|a
  ·exact(m b a).1
  ·omega
theorem Nc{x:Hs}{lev c:Nat}{l:List Pr}{p:Pr}:part x lev c (l++ [p])=if ck x lev p.1=c then part x lev c l++ [p]else part x lev c l:=by
 unfold part;rw[jY,cC,pL];by_cases h:ck x lev p.1=c
 ·rw[if_pos h,if_pos (decide_eq_true h)]
 ·rw[if_neg h,if_neg (by simpa using h),bP]
abbrev xh(x:Hs)(lev:Nat)(l:List Pr)(n:Nat)(c:Nat):List Pr:=if c<n then part x lev c l else[]
theorem FZ{x:Hs}{lev n c:Nat}{l:List Pr}(h:c≠n):xh x lev l (n+1) c=xh x lev l n c:=by
 unfold xh;by_cases hc:c<n
 ·rw[if_pos hc,if_pos (by omega)]
 ·rw[if_neg hc,if_neg (by omega)]
theorem F0{x:Hs}{lev n:Nat}{l:List Pr}:xh x lev l (n+1) n=part x lev n l:=if_pos (by omega)
theorem FY{x:Hs}{lev n:Nat}{l:List Pr}:xh x lev l n n= []:=if_neg (by omega)
structure DOf(W:Nat→Prop)(x:Hs)(lev m:Nat)(h0 h:ad)(l:List Pr)(n:Nat)(kk:Nat→Option Addr):Prop where
 blk:h[h0.size]? =some (.cells (dC (dF false ⟨none,0,0⟩ (xh x lev l n) kk)).toArray gK (0,0))
 upd:Upd No h0 h
 kid:∀c,c<n→2≤(part x lev c l).length→∃kb,kk c=some ⟨kb,0,none⟩∧DTrie (fun y=>W y∨y=h0.size) x h m kb (part x lev c l)
theorem TV{c:Bool}{s:SliceV}{q q':Nat→List Pr}{kk b:Nat→Option Addr}{i:Nat}(h:i<2):dF c s q kk i=dF c s q' b i:=by
 unfold dF;by_cases a:i=0
 ·rw[if_pos a,if_pos a]
 ·rw[if_neg a,if_neg a,if_pos (by omega),if_pos (by omega)]
section
variable {bu:Bool} {s:SliceV} {q q':Nat→List Pr} {kk kk':Nat→Option Addr} {i:Nat}
theorem Mi(h:2≤i)(a:i<34):dF bu s q kk i=.int .i64 (Kk (q (i-2))):=by
 unfold dF;rw[if_neg (by omega),if_neg (by omega),if_pos a]
theorem Iv(h:34≤i)(a:i<98)(e:i%2=0):dF bu s q kk i=.string (Aj (gk (q ((i-34)/2)))).1:=by
 unfold dF;rw[if_neg (by omega),if_neg (by omega),if_neg (by omega),if_pos a,if_pos e]
theorem It(h:34≤i)(a:i<98)(e:¬i%2=0):dF bu s q kk i=.string (Aj (gk (q ((i-34)/2)))).2:=by
 unfold dF;rw[if_neg (by omega),if_neg (by omega),if_neg (by omega),if_pos a,if_neg e]
theorem Iu(h:98≤i):dF bu s q kk i=.pointer (kk (i-98)):=by
 unfold dF;rw[if_neg (by omega),if_neg (by omega),if_neg (by omega),if_neg (by omega)]
theorem Mh{c:Nat}(hc:c<32)(b:∀j,j≠c→q' j=q j)(d:∀j,j≠c→kk' j=kk j)(i:Nat):
  dF bu s q' kk' i=if i=2+c then .int .i64 (Kk (q' c))else if i=34+c*2 then .string (Aj (gk (q' c))).1 else if i=34+c*2+1 then .string (Aj (gk (q' c))).2 else if i=98+c then .pointer (kk' c)else dF bu s q kk i:=by
 rcases(show i<2∨(2≤i∧i<34)∨(34≤i∧i<98)∨98≤i by omega)with h|h|h|h
 ·rw[if_neg (by omega),if_neg (by omega),if_neg (by omega),if_neg (by omega)];exact TV h
 ·by_cases e:i=2+c
  ·rw[if_pos e,Mi h.1 h.2,show i-2=c by omega]
  ·rw[if_neg e,if_neg (by omega),if_neg (by omega),if_neg (by omega),Mi h.1 h.2,Mi h.1 h.2,b _ (by omega)]
 ·rw[if_neg (show ¬i=2+c by omega)]
  by_cases e:(i-34)/2=c
  ·by_cases a:i%2=0
   ·rw[if_pos (by omega),Iv h.1 h.2 a,e]
   ·rw[if_neg (by omega),if_pos (by omega),It h.1 h.2 a,e]
  ·rw[if_neg (by omega),if_neg (by omega),if_neg (by omega)]
   by_cases a:i%2=0
   ·rw[Iv h.1 h.2 a,Iv h.1 h.2 a,b _ e]
   ·rw[It h.1 h.2 a,It h.1 h.2 a,b _ e]
 ·rw[if_neg (by omega),if_neg (by omega),if_neg (by omega)]
  by_cases e:i=98+c
  ·rw[if_pos e,Iu h,show i-98=c by omega]
  ·rw[if_neg e,Iu h,Iu h,d _ (by omega)]
end
theorem Pw{h:ad}{b i:Nat}{f:Nat→Value}{t:TypeId}{v:Value}{k:ad→Prop}(d:h[b]? =some (.cells (dC f).toArray t (0,0))) (hi:i<130) (g:∀a,a[b]? =some (.cells (dC fun j=>if j=i then v else f j).toArray t (0,0))→Upd (· =b) h a→k a):
  Wr h ⟨b,i,none⟩∧At (hset h ⟨b,i,none⟩ v) k:=
 ⟨ia d (by rw[Mj];exact hi),ui d fun a c e=>g a (SP▸c) e⟩
theorem TS{h:ad}{b i:Nat}{f:Nat→Value}{t:TypeId}{v w:Value}{k:ad→Prop}(g:h[b]? =some (.cells (dC f).toArray t (0,0))) (hi:i+1<130)
  (o:∀h',h'[b]? =some (.cells (dC fun j=>if j=i+1 then w else if j=i then v else f j).toArray t (0,0))→Upd (· =b) h h'→k h'):sS h (some ⟨b,i,none⟩) 0 [v,w]∧At (gT h ⟨b,i,none⟩ 0 [v,w]) k:=by
 refine⟨.inr ⟨_,rfl,fun j n=>by rw[bL];exact ia g (by rw[Mj];simp at n;omega)⟩,bT ?_⟩
 simp only[gT,bL,Nat.add_zero,aE];exact(Pw (k:=fun m=>k (hset m ⟨b,i+1,none⟩ w)) g (by omega) fun m a e=>(Pw (k:=k) a hi fun p d c=>o p d (e.tr c)).2).2
set_option maxRecDepth 4000 in
theorem Se{x:Hs}:∀(m:Nat),m≤13→∀{W:Nat→Prop} {h:ad} {s sh:SliceV} {l:List Pr},Sl fP 2 W h s l→(∀y,W y→y<h.size)→Sl (Ti x) 1 No h sh l→l.length≤60000→∀{K:Option Addr→ad→Prop},(∀o b,DTrie W x o m b l→Upd No h o→K (some ⟨b,0,none⟩) o)→
  HC PG yM [.slice s.a s.len s.cap,.slice sh.a sh.len sh.cap,.int .i64 ((13-m:Nat):Int)] [.c .ptr] K h:=by
 intro m;induction m with
 |zero=>
  intro _ W h s sh l hs hW Y hn K hk;refine IM s sh ((13-0:Nat):Int) ?_;unfold DN bQ dK bM aB D5 cV nv mo jw MF l9;refine aA.2 (aO fun v b1 k1=>?_)
  refine hk v h.size ⟨fun f=>by have:=hW _ f;omega,s,?_,hs.upd k1 fun _ h=>h.elim⟩ k1
  rw[b1];exact congrArg some (congrArg (fun c=>Obj.cells c gK (0,0)) (by kernel_rfl))
 |succ m ih=>
  intro hm W h s sh l hs hW Y hn K hk;have nwh:¬W h.size:=fun f=>by have:=hW _ f;omega
  refine IM s sh ((13-(m+1):Nat):Int) ?_;unfold DN bQ dK bM aB D5 cV nv mo jw MF l9;have e13:(((13-(m+1):Nat):Int)==(13:Int))=false:=by rw[beq_eq_false_iff_ne];omega
  rw[e13];refine aj.2 (aO fun v b1 k1=>?_)
  have b1':v[h.size]? =some (.cells (dC (dF false ⟨none,0,0⟩ (xh x (12-m) l 0) fun _=>none)).toArray gK (0,0)):=by
   have:xh x (12-m) l 0=fun _=> []:=by funext c;exact if_neg (by omega)
   rw[b1,this];exact congrArg some (congrArg (fun c=>Obj.cells c gK (0,0)) (by kernel_rfl))
  clear b1;have elev:(13-(m+1):Nat)=12-m:=by omega
  rw[elev];refine LoopP.ghost (fun(g:Nat×(Nat→Option Addr)) (t:Int) o=>t=(g.1:Int)∧g.1≤32∧DOf W x (12-m) m h o l g.1 g.2) (fun g=>32-g.1) (0,fun _=>none) ⟨rfl,by omega,b1',k1,fun c hc=>absurd hc (gP _)⟩ ?_
  rintro I ⟨c,kk⟩ t hc ⟨rfl,hc32,H⟩ hI;simp only at hc32 H;have s1:=H.upd.size;have zc:=aD H.blk;refine aG (fun C=>?_) fun hge=>?_
  ·have C:c<32:=by have:(c:Int)<32:=C;omega
   refine Join.intro (fun(_:Unit) o=>∃kk',DOf W x (12-m) m h o l (c+1) kk') (fun R hR=>?_) ?_
   ·
    refine LoopP.ghost (fun(i:Nat) (t:SliceV×SliceV×Int) o=>t.2.2=(i:Int)∧i≤l.length∧TwoS x hc.size o.size o t.1 t.2.1 (part x (12-m) c (l.take i)) (part x (12-m) c (l.take i))∧Upd No hc o) (fun i=>l.length-i) 0 ⟨rfl,aU _,⟨No,No,OwnS.nil gX,OwnS.nil (O4 x),fun _ h=>h.elim,fun _ h=>h.elim⟩,Upd.refl _ _⟩ ?_
    rintro I2 i ⟨so,ss,ti⟩ hi ⟨e1,hil,hT,hu⟩ hI2;simp only at e1 hT;subst e1;have hlen:=hs.len;have hlen2:=Y.len;have s2:=hu.size;have hsi:=(hs.upd H.upd fun _ h=>h.elim).upd hu fun _ h=>h.elim
    have hshi:=(Y.upd H.upd fun _ h=>h.elim).upd hu fun _ h=>h.elim
    refine aG (fun d=>?_) fun hge2=>?_
    ·have d:i<l.length:=by have:(i:Int)<(s.len:Int):=d;omega
     have hpl:(part x (12-m) c (l.take i)).length≤60000:=by
      have:=j3 (x:=x) (lev:=12-m) (c:=c) (l:=l.take i);rw[aI]at this;omega
     have S:part x (12-m) c (l.take (i+1))=if ck x (12-m) l[i].1=c then part x (12-m) c (l.take i)++ [l[i]]else part x (12-m) c (l.take i):=by rw[bI d,Nc]
     refine Join.intro (fun(t:SliceV×SliceV) o=>TwoS x hc.size o.size o t.1 t.2 (part x (12-m) c (l.take (i+1))) (part x (12-m) c (l.take (i+1)))∧Upd No hc o) (fun R2 D=>?_) ?_
     ·obtain⟨a,ha,_,hv⟩:=hsi.at (af d)
      refine⟨⟨by simp only;omega,by simp only;omega⟩,a,ha,_,hv 0 _ rfl,_,hv 1 _ rfl,wN (p:=l[i]) fun G b3 k3=>?_⟩
      obtain⟨a',ha',_,V⟩:=(hshi.upd k3 fun _ h=>h.elim).at0 (af d)
      refine⟨⟨by simp only;omega,by simp only;omega⟩,a',ha',_,V,TF (lev:=12-m) (by omega) ?_⟩
      have hT3:=hT.upd0 k3;have s3:=k3.size;refine CondP.intro (fun e=>?_) fun e=>?_
      ·have e:ck x (12-m) l[i].1=c:=by
        have:((ck x (12-m) l[i].1:Nat):Int)=(c:Int):=by simpa using e
        omega
       rw[if_pos e]at S;rw[S]at D;have uu:∀{o:ad},Upd (fun b=>hc.size≤b) G o→Upd No hc o:=fun k=>(hu.tr k3).trans k fun y f=>.inr f
       have hab:a'.block<h.size:=Y.lt (fun e=>by rw[e]at d;simp at d) ha'
       have sD:=H.upd.size;have wide:∀{n:Nat} {v u:ad},hc.size≤v.size→Upd (fun b=>(hc.size≤b∧b<n)∨v.size≤b) v u→Upd (fun b=>hc.size≤b) v u:=fun hz k=>k.mono fun y f=>.inl (f.elim (fun h=>h.1) fun h=>by omega)
       refine⟨_,vc b3 0,_,vc b3 1,⟨by simp only;omega,by simp only;omega⟩,a',ha',_,V,?_,?_⟩
       ·refine aO fun X b4 z=>⟨z.cell0 V,?_,?_⟩
        ·have s4:=z.size
         refine⟨_,jN b4,Ta (p:=l[i]) (hT3.upd0 z) (by omega) (by omega) (by omega) rfl fun s5 h5 M P=>⟨P.cell (z.cell0 V) (by rw[wi];omega),aO fun h6 b6 F=>?_⟩⟩
         have s5':=P.size;have s6:=F.size;refine⟨_,jN b6,appB (p:=l[i]) (M.upd0 F) (by omega) (by omega) (by omega) rfl fun s7 h7 L k7=>?_⟩
         exact D _ _ ⟨L,uu (((z.wide.tr (wide (by omega) P)).tr F.wide).tr (wide (by omega) k7))⟩
        ·refine aO fun h6 b6 F=>?_
         have s4:=z.size;have s6:=F.size;have z6:=aD b6;refine⟨_,jN (F.get0 b4),Ta (p:=l[i]) ((hT3.upd0 z).upd0 F) (by omega) (by omega) (by omega) rfl fun s5 h5 M P=>?_⟩
         have s5':=P.size;refine⟨_,jN (P.get b6 (by omega)),appB (p:=l[i]) M (by omega) (by omega) (by omega) rfl fun s7 h7 L k7=>?_⟩
         exact D _ _ ⟨L,uu (((z.wide.tr F.wide).tr (wide (by omega) P)).tr (wide (by omega) k7))⟩
       ·refine aO fun X b4 z=>⟨⟨vc (z.get0 b3) 0,vc (z.get0 b3) 1⟩,aO fun h6 b6 F=>?_⟩
        have s4:=z.size;have s6:=F.size;have z4:=aD b4;refine⟨_,jN b6,Ta (p:=l[i]) ((hT3.upd0 z).upd0 F) (by omega) (by omega) (by omega) rfl fun s5 h5 M P=>?_⟩
        have s5':=P.size;refine⟨_,jN (P.get (F.get0 b4) (by omega)),appB (p:=l[i]) M (by omega) (by omega) (by omega) rfl fun s7 h7 L k7=>?_⟩
        exact D _ _ ⟨L,uu (((z.wide.tr F.wide).tr (wide (by omega) P)).tr (wide (by omega) k7))⟩
      ·have e:¬ck x (12-m) l[i].1=c:=fun e'=>by
        have:¬((ck x (12-m) l[i].1:Nat):Int)=(c:Int):=by simpa using e
        omega
       rw[if_neg e]at S;rw[S]at D;obtain⟨A,B,w,Q,J,q4⟩:=hT3;exact D _ _ ⟨⟨A,B,w,Q,fun b hb=>⟨(J b hb).1,by have:=(J b hb).2.1;omega,(J b hb).2.2⟩,fun b hb=>⟨(q4 b hb).1,by have:=(q4 b hb).2;omega⟩⟩,hu.tr k3⟩
     ·rintro⟨so',ss'⟩ o ⟨hT',hu'⟩
      simp only;rw[cz d (by omega)];exact hI2 (i+1) _ _ ⟨rfl,d,hT',hu'⟩ (by omega)
    ·have hil':i=l.length:=by have:¬(i:Int)<(s.len:Int):=hge2;omega
     subst hil';rw[bU]at hT;have hDi:h.size<hi.size:=by omega
     have hbi:=hu.get0 H.blk;have hki:∀c',c'<c→2≤(part x (12-m) c' l).length→∃O,kk c'=some ⟨O,0,none⟩∧DTrie (fun y=>W y∨y=h.size) x hi m O (part x (12-m) c' l):=fun c' v u=>let⟨O,G,X⟩:=H.kid c' v u;⟨O,G,DTrie.upd hu (fun _ h=>h.elim) X⟩
     obtain⟨A,B,hA,hB,hA',hB'⟩:=hT;have T:Sl fP 2 (fun y=>W y∨y=h.size) hi so (part x (12-m) c l):=hA.sl fun y f _ hw=>by
      have:=(hA' y f).1;rcases hw with hw|hw
      ·have:=hW y hw;omega
      ·omega
     have hsB:Sl (Ti x) 1 No hi ss (part x (12-m) c l):=hB.sl fun _ _ _ h=>h
     have hq:=T.len;have hpl:(part x (12-m) c l).length≤l.length:=j3;have hU:=H.upd.tr hu;refine Join.plain ?_;refine CondP.intro (fun e=>?_) fun e=>?_
     ·
      have e:so.len=1:=by
       have:((so.len:Nat):Int)=1:=by simpa using e
       omega
      have hone:(part x (12-m) c l).length=1:=by omega
      obtain⟨p,hp⟩:=List.length_eq_one_iff.1 hone;rw[hp]at T;obtain⟨a,ha,_,hv⟩:=T.at (i:=0) (x:=p) rfl;refine⟨⟨by decide,by simp only;omega⟩,a,ha,_,hv 0 _ rfl,_,hv 1 _ rfl,_,rfl,⟨by omega,by omega⟩,_,rfl,?_⟩
      have ew:((c:Int).toNat*1)=c:=by omega
      have ew2:((c:Int).toNat*2)=c*2:=by omega
      simp only[ew,ew2,fR h,bL,aE];refine Pw hbi (by omega) fun G b3 u3=>⟨⟨by omega,by omega⟩,TS b3 (by omega) fun X b4 u4=>aG (fun hl=>by omega) fun _=>?_⟩
      have E:Upd (· =h.size) hi X:=u3.tr u4
      refine hR _ _ ⟨kk,?_,hU.own E (ao _),fun c' v u=>?_⟩
      ·rw[b4]
       refine congrArg some (congrArg (fun c=>Obj.cells c gK (0,0)) (GF fun j N=>?_))
       rw[Mh (q:=xh x (12-m) l c) (q':=xh x (12-m) l (c+1)) (kk:=kk) C (fun j N=>FZ N) (fun _ _=>rfl),F0,hp]
       have e1:Kk [p]=1:=rfl;have e2:Aj (gk [p])=p:=rfl;rw[e1,e2];by_cases w:j=2+c
       ·rw[if_neg (by omega),if_neg (by omega),if_pos w,if_pos w]
       ·by_cases Q:j=34+c*2
        ·rw[if_neg (by omega),if_pos Q,if_neg w,if_pos Q]
        ·by_cases J:j=34+c*2+1
         ·rw[if_pos J,if_neg w,if_neg Q,if_pos J]
         ·rw[if_neg J,if_neg Q,if_neg w,if_neg w,if_neg Q,if_neg J]
          by_cases q4:j=98+c
          ·rw[if_pos q4,Iu (by omega),show j-98=c by omega]
          ·rw[if_neg q4]
      ·rcases bH c' c with hh|hh
       ·obtain⟨O,h3',h4'⟩:=hki c' hh u
        exact⟨O,h3',DTrie.upd E (fun y f=>.inl (.inr f)) h4'⟩
       ·rw[show c'=c by omega,hone]at u;omega
     ·have e:¬so.len=1:=fun e'=>by
       have:¬((so.len:Nat):Int)=1:=by simpa using e
       omega
      refine aG (fun Z=>?_) fun hle=>?_
      ·
       have Z:2≤(part x (12-m) c l).length:=by have:(so.len:Int)>1:=Z;omega
       refine⟨_,rfl,_,rfl,?_⟩;have e14:IntKind.wrap .i64 (((12-m:Nat):Int)+1)=((13-m:Nat):Int):=by rw[oq (by omega)];omega
       rw[e14];refine ih (by omega) T (fun y f=>f.elim (fun f=>by have:=hW y f;omega) fun f=>by omega) hsB (by omega) fun u O tk k2=>⟨⟨by omega,by omega⟩,?_⟩
       have ew:((c:Int).toNat*1)=c:=by omega
       simp only[ew,fR h,bL,aE];refine Pw (k2.get0 hbi) (by omega) fun G b3 u3=>⟨⟨by omega,by omega⟩,Pw b3 (by omega) fun X b4 u4=>?_⟩
       have E:Upd (· =h.size) u X:=u3.tr u4
       refine hR _ _ ⟨fun j=>if j=c then some ⟨O,0,none⟩else kk j,?_,(hU.tr k2).own E (ao _),fun c' v u=>?_⟩
       ·rw[b4]
        refine congrArg some (congrArg (fun c=>Obj.cells c gK (0,0)) (GF fun j N=>?_))
        rw[Mh (q:=xh x (12-m) l c) (q':=xh x (12-m) l (c+1)) (kk:=kk) C (fun j N=>FZ N) (fun _ N=>if_neg N),F0]
        have e1:Kk (part x (12-m) c l)=2:=by unfold Kk;rw[if_neg (by omega),if_pos Z]
        have e2:gk (part x (12-m) c l)=none:=by
         match part x (12-m) c l,Z with
         |a::b::r,_=>rfl
        rw[e1,e2,if_pos rfl];by_cases w:j=2+c
        ·rw[if_neg (by omega),if_pos w,if_pos w]
        ·by_cases q4:j=98+c
         ·rw[if_pos q4,if_neg w,if_neg (by omega),if_neg (by omega),if_pos q4]
         ·rw[if_neg q4,if_neg w,if_neg w]
          by_cases Q:j=34+c*2
          ·rw[if_pos Q,Iv (by omega) (by omega) (by omega),show(j-34)/2=c by omega,FY];rfl
          ·rw[if_neg Q]
           by_cases J:j=34+c*2+1
           ·rw[if_pos J,It (by omega) (by omega) (by omega),show(j-34)/2=c by omega,FY];rfl
           ·rw[if_neg J,if_neg q4]
       ·rcases bH c' c with hh|hh
        ·obtain⟨kb',h3',h4'⟩:=hki c' hh u
         exact⟨kb',by rw[if_neg (by omega)];exact h3',DTrie.upd E (fun y f=>.inl (.inr f)) (DTrie.upd k2 (fun _ h=>h.elim) h4')⟩
        ·obtain rfl:c'=c:=by omega
         exact⟨O,if_pos rfl,DTrie.upd E (fun y f=>.inl (.inr f)) tk⟩
      ·
       have hnil:part x (12-m) c l= []:=List.length_eq_zero_iff.1 (by have:¬(so.len:Int)>1:=hle;omega);refine hR _ _ ⟨kk,?_,hU,fun c' v u=>?_⟩
       ·rw[hbi]
        refine congrArg some (congrArg (fun c=>Obj.cells c gK (0,0)) (GF fun j N=>?_))
        have:xh x (12-m) l (c+1)=xh x (12-m) l c:=by
         funext j;by_cases N:j=c
         ·rw[N,F0,FY,hnil]
         ·exact FZ N
        rw[this]
       ·rcases bH c' c with hh|hh
        ·exact hki c' hh u
        ·rw[show c'=c by omega,hnil]at u;simp at u
   ·rintro _ o ⟨kk',hD'⟩
    rw[cz C (by omega)];exact hI (c+1,kk') _ _ ⟨rfl,C,hD'⟩ (by simp only;omega)
  ·obtain rfl:c=32:=by have:¬(c:Int)<32:=hge;omega
   refine hk hc h.size ⟨nwh,kk,?_,fun c hc hp=>let⟨O,G,X⟩:=H.kid c hc hp;⟨O,G,DTrie.less (fun _ h=>.inl h) X⟩⟩ H.upd
   rw[H.blk];refine congrArg some (congrArg (fun c=>Obj.cells c gK (0,0)) (GF fun i hi=>?_))
   have:∀c,c<32→xh x (12-m) l 32 c=part x (12-m) c l:=fun c hc=>if_pos hc
   unfold dF;by_cases h0:i<34
   ·by_cases v:i=0
    ·rw[if_pos v,if_pos v]
    ·by_cases u:i=1
     ·rw[if_neg v,if_neg v,if_pos u,if_pos u]
     ·rw[if_neg v,if_neg v,if_neg u,if_neg u,if_pos h0,if_pos h0,this _ (by omega)]
   ·rw[if_neg (show ¬i=0 by omega),if_neg (show ¬i=0 by omega),if_neg (show ¬i=1 by omega),if_neg (show ¬i=1 by omega),if_neg h0,if_neg h0]
    by_cases G:i<98
    ·rw[if_pos G,if_pos G,this _ (by omega)]
    ·rw[if_neg G,if_neg G]
end Go.Proofs
namespace Go.Proofs
open Go Go.Lift
theorem OF{x:Hs}{h:ad}{s:SliceV}{l:List Pr}(D:Sl fP 2 No h s l)(E:l.length≤60000)(n:∀p∈l,p.1.size≤1000000){K:Option Addr→ad→Prop}(H:∀d b,DTrie No x d 13 b l→Upd No h d→K (some ⟨b,0,none⟩) d):
  HC PG Da [.agg #[.int .u64 x.k0,.int .u64 x.k1,.int .u64 x.mask],.slice s.a s.len s.cap,.int .i64 0] [.c .ptr] K h:=by
 refine P4 (x.k0,x.k1,x.mask) s 0 ?_;unfold IV dK ag bM aB nv Ae vM mo jw MF;refine aO fun u b1 k1=>?_
 have B:=D.len;refine LoopP.ghost (fun(i:Nat) (t:SliceV×Int) d=>t.2=(i:Int)∧i≤l.length∧OwnS (Ti x) 1 ny (fun b=>u.size≤b) d t.1 (l.take i)∧Upd No u d) (fun i=>l.length-i) 0 ⟨rfl,aU _,OwnS.nil (O4 x),Upd.refl _ _⟩ ?_
 rintro I i ⟨R,ti⟩ d ⟨z,hi,g,j⟩ F;simp only at z g;subst z;have e:=(D.upd k1 fun _ h=>h.elim).upd j fun _ h=>h.elim
 refine aG (fun c=>?_) fun q=>?_
 ·have c:i<l.length:=by have:(i:Int)<(s.len:Int):=c;omega
  refine Join.plain ?_;obtain⟨a,G,_,hv⟩:=e.at (af c);refine⟨⟨by simp only;omega,by simp only;omega⟩,a,G,_,hv 0 _ rfl,_,hv 1 _ rfl,wN (p:=l[i]) fun w b2 f=>?_⟩
  have c1:=f.get0 (j.get0 b1);refine⟨_,vc c1 0,_,vc c1 1,_,vc c1 2,_,vc b2 0,OG (by have:=n _ (aP c);omega) fun P C=>aO fun S N v=>⟨_,jN N,?_⟩⟩
  have A:=((j.tr f).tr C).tr v;refine AppP.own (M:=fun b=>u.size≤b) (ys:= [l[i]]) (((g.upd f fun _ _ h=>h).upd C fun _ _ h=>h).upd v fun _ _ h=>h) rfl rfl rfl rfl (by omega) (by simp only[aK,aI];omega) A.size fun Q O o k=>?_
  simp only;rw[cz c (by omega)];refine F (i+1) _ _ ⟨rfl,c,?_,A.trans k fun y L=>.inr L⟩ (by omega)
  rw[bI c];exact o
 ·have m:i=l.length:=by have:¬(i:Int)<(s.len:Int):=q;omega
  subst m;rw[bU]at g;exact Se 13 (ao _) e (fun _ h=>h.elim) (g.sl fun _ _ _ h=>h) E fun w b J f=>H w b J ((k1.tr j).tr f)
theorem EI(n:Nat):IntKind.wrap .u8 (n:Int)=((UInt8.ofNat n).toNat:Int):=by rw[IntKind.wrap_u8];simp
theorem BZ{n:Nat}(e:n≤1000000000){h:ad}{K:SliceV→ad→Prop}(b:∀s' h',OwnS nq 1 cp (fun y=>h.size≤y) h' s' (kW n 2)→Upd No h h'→K s' h'):HC PG qk [.int .i64 (n:Int)] [.c .slice] K h:=by
 refine NL (n:Int) ?_;unfold FK Qm;have d:lq (n:Int) 256=((n>>>(8*1):Nat):Int):=by rw[eJ (by omega),cn];rfl
 have a:n>>>(8*1)≤n:=gJ ..;rw[d,oq (by generalize n>>>(8*1)=y at a;omega),EI,EI];refine⟨by decide,aO fun c b1 k1=>b _ c ⟨rfl,pF,ao _,.inr ⟨h.size,[],rfl,ao _,b1,rfl⟩⟩ k1⟩
theorem HJ{n:Nat}(f:n<4294967296){h:ad}{K:SliceV→ad→Prop}(a:∀s' h',OwnS nq 1 cp (fun y=>h.size≤y) h' s' (kW n 4)→Upd No h h'→K s' h'):HC PG tY [.int .u32 (n:Int)] [.c .slice] K h:=by
 refine K9 (n:Int) ?_;unfold DL Tp;have q:∀k:Nat,((n>>>k:Nat):Int)<4294967296:=fun k=>by have:n>>>k≤n:=gJ ..;generalize n>>>k=y at this;omega
 have c:lq (n:Int) 256=((n>>>(8*1):Nat):Int):=by rw[eJ (by omega),cn];rfl
 have d:lq (n:Int) 65536=((n>>>(8*2):Nat):Int):=by rw[eJ (by omega),cn];rfl
 have e:lq (n:Int) 16777216=((n>>>(8*3):Nat):Int):=by rw[eJ (by omega),cn];rfl
 have w:∀k:Nat,IntKind.wrap .u32 ((n>>>k:Nat):Int)=((n>>>k:Nat):Int):=fun k=>by have:=q k;generalize n>>>k=y at this;rw[IntKind.wrap_u32];omega
 rw[c,d,e,w,w,w,EI,EI,EI,EI];refine⟨by decide,by decide,by decide,aO fun b b1 k1=>a _ b ⟨rfl,pF,ao _,.inr ⟨h.size,[],rfl,ao _,b1,rfl⟩⟩ k1⟩
theorem vB{M W:Nat→Prop}{h:ad}{a e:SliceV}{out ys:List UInt8}{K:SliceV→ad→Prop}(d:OwnS nq 1 cp M h a out)(c:Sl nq 1 W h e ys)(hM:∀b,h.size≤b→M b)(g:out.length+ys.length≤140737488355328)
  (f:∀s' h',OwnS nq 1 cp M h' s' (out++ys)→Upd M h h'→K s' h'):∃xs,SRow h e.a (e.len*1) xs∧AppP (some [.int .u8 0]) 1 1 cp a.a a.len a.cap e.len xs h K:=
 ⟨_,c.srow,AppP.own (ys:=ys) d c.len rfl (yx _) rfl (by omega) (by omega) (hM _ (ao _)) f⟩
theorem yw{b:ByteArray}(q:b.size≤1000000){h:ad}{K:SliceV→ad→Prop}(m:∀s' h',OwnS nq 1 cp (fun y=>h.size≤y) h' s' (mq b)→Upd No h h'→K s' h'):HC PG oK [.string b] [.c .slice] K h:=by
 refine K7 b ?_;unfold DI;refine BZ (by omega) fun s1 a e k1=>?_
 intro c hc;have d:=Upd.push No a (.cells (dD b++dE (c-b.size) (Value.int .u8 0)).toArray cp (c,c+1));have b2:=CJ a (.cells (dD b++dE (c-b.size) (Value.int .u8 0)).toArray cp (c,c+1));generalize a.push (.cells (dD b++dE (c-b.size) (Value.int .u8 0)).toArray cp (c,c+1))=h2 at d b2;have p:b.data.toList.length=b.size:=by simp
 have g:Sl nq 1 No h2 ⟨some (aC a),b.size,c⟩ b.data.toList:=by
  refine⟨by simp,pF,fun _=>⟨_,rfl,id,oV b2 fun i v hv=>?_⟩⟩
  rw[aE,gj,rA,List.getElem?_append_left (List.getElem?_eq_some_iff.1 hv).1];exact hv
 have k:=k1.size;have s2:=d.size;refine vB (e.upd d fun _ _ h=>h) g (fun y j=>by show h.size≤y;omega) (by rw[c7];omega) fun s3 n f o=>m s3 n f ((k1.tr d).trans o fun y j=>.inr j)
theorem Aa{W:Nat→Prop}{h:ad}{s:SliceV}{l:List Pr}(E:Sl fP 2 W h s l)(B:Fit l)(Y:l.length≤60000){K:SliceV→ad→Prop}(N:∀s' e,OwnS nq 1 cp (fun y=>h.size≤y) e s' (jg l)→Upd No h e→K s' e):
  HC PG pj [.slice s.a s.len s.cap] [.c .slice] K h:=by
 refine IK s ?_;unfold Bv dK bM aB nv mo jw;have D:=E.len;refine LoopP.ghost (fun(i:Nat) (t:SliceV×Int) e=>t.2=(i:Int)∧i≤l.length∧OwnS nq 1 cp (fun b=>h.size≤b) e t.1 (jg (l.take i))∧Upd No h e) (fun i=>l.length-i) 0 ⟨rfl,aU _,OwnS.nil pF,Upd.refl _ _⟩ ?_
 rintro I i ⟨so,ti⟩ e ⟨C,hi,g,j⟩ H;simp only at C g;subst C;refine aG (fun c=>?_) fun A=>?_
 ·have c:i<l.length:=by have:(i:Int)<(s.len:Int):=c;omega
  refine Join.plain ?_;obtain⟨a,L,_,hv⟩:=(E.upd j fun _ h=>h.elim).at (af c)
  have T:=B l[i] (aP c);have w:=kU (l:=l.take i) fun q R=>B q (List.mem_of_mem_take R)
  rw[aI,Nat.min_eq_left hi]at w;have h1:=hE l[i].1;have G:=hE l[i].2;refine⟨⟨by simp only;omega,by simp only;omega⟩,a,L,_,hv 0 _ rfl,_,hv 1 _ rfl,wN (p:=l[i]) fun G b2 v=>?_⟩
  refine⟨_,vc b2 0,_,vc b2 1,yw (by omega) fun s3 h3 x f=>⟨vc (f.get0 b2) 1,?_⟩⟩
  have P:=(j.tr v).tr f;have s2:=aD b2;have J:=v.size;have S:=f.size;have s0:=j.size;refine vB (M:=fun y=>h.size≤y∧y≠e.size) (((g.within.upd v fun _ _ h=>h).upd f fun _ _ h=>h).more fun y d=>⟨d.1,by omega⟩) (x.sl (W:=No) fun _ _ _ h=>h) (fun y d=>by omega) (by omega) fun s4 h4 k m=>⟨vc (m.get (f.get0 b2) (by omega)) 1,?_⟩
  have O:=m.size;refine yw (by omega) fun s5 X z o=>?_
  have F:=o.size;refine vB (M:=fun y=>h.size≤y) ((k.upd o fun _ _ h=>h).more fun y d=>d.1) (z.sl (W:=No) fun _ _ _ h=>h) (fun y d=>by show h.size≤y;omega) (by rw[ae];omega) fun Z V u Q=>?_
  simp only;rw[cz c (by omega)];refine H (i+1) _ _ ⟨rfl,c,?_,(((P.trans m fun y d=>.inr d.1)).tr o).trans Q fun y d=>.inr d⟩ (by omega)
  rw[A9 c,Ba,←ar];exact u
 ·have n:i=l.length:=by have:¬(i:Int)<(s.len:Int):=A;omega
  subst n;rw[bU]at g;exact N _ _ g j
theorem M3{W W':Nat→Prop}{h:ad}{s s':SliceV}{l:List UInt8}(g:Sl nq 1 W h s l)(c:Sl nq 1 W' h s' l)(p:l.length≤1000000000000){K:Bool→ad→Prop}(m:K true h):HC PG xB [.slice s.a s.len s.cap,.slice s'.a s'.len s'.cap] [.c .bool] K h:=by
 refine K8 s s' ?_;unfold DJ bQ dK;have n:=g.len;have o:=c.len;rw[n,o,bne_self_eq_false];refine aj.2 ?_;refine LoopP.ghost (fun(i:Nat) (t:Int) f=>t=(i:Int)∧i≤l.length∧f=h) (fun i=>l.length-i) 0 ⟨rfl,aU _,rfl⟩ ?_
 rintro I i t f ⟨rfl,hi,rfl⟩ j;refine aG (fun b=>?_) fun _=>m
 have b:i<l.length:=by omega
 obtain⟨a,k,_,hv⟩:=g.at0 (af b);obtain⟨a',e,_,d⟩:=c.at0 (af b);refine⟨⟨by omega,by omega⟩,a,k,_,hv,⟨by omega,by omega⟩,a',e,_,d,?_⟩
 rw[bne_self_eq_false];refine aj.2 ?_;rw[cz b (by omega)];exact j (i+1) _ _ ⟨rfl,b,rfl⟩ (by omega)
end Go.Proofs
namespace Go.Proofs
open Go Go.Lift
abbrev UB(lab:ByteArray)(has:Bool)(val:ByteArray)(s:SliceV)(_:Option Addr):Array Value:= #[.string lab,.bool has,.string val,sv s]
def DxF(W:Nat→Prop)(h:ad):Fo→List (Option Addr)→Prop
 | .nil,ks=>ks= []
 | .cons lab w kids rest,ks=>∃b sl val s ow ks1 ks',ks=some ⟨b,0,none⟩::ks'∧sl.data.toList=lab∧h[b]? =some (.cells (UB sl w.isSome val s ow) mR (0,0))∧val=w.getD ⟨#[]⟩∧Sl lB 1 W h s ks1∧(s.len≤s.cap∧¬W b)∧DxF W h kids ks1∧DxF W h rest ks'
def DxN(W:Nat→Prop)(h:ad)(b:Nat)(sl:ByteArray)(w:Option ByteArray)(F:Fo):Prop:=∃val s ow ks,h[b]? =some (.cells (UB sl w.isSome val s ow) mR (0,0))∧val=w.getD ⟨#[]⟩∧Sl lB 1 W h s ks∧(s.len≤s.cap∧¬W b)∧DxF W h F ks
def DKid(W:Nat→Prop)(h:ad)(k:Option Addr)(n:Bn):Prop:=∃b sl,k=some ⟨b,0,none⟩∧sl.data.toList=n.1∧DxN W h b sl n.2.1 n.2.2
def DxL(W:Nat→Prop)(h:ad)(ks:List (Option Addr))(L:List Bn):Prop:=ks.length=L.length∧∀p∈ks.zip L,DKid W h p.1 p.2
theorem yQ{W:Nat→Prop}{h:ad}:∀{F:Fo} {ks:List (Option Addr)},DxF W h F ks↔DxL W h ks F.toL
 | .nil,ks=>by
  unfold DxF DxL;simp[Fo.toL]
 | .cons lab w kids rest,ks=>by
  unfold DxF DxL;rw[Fo.toL_cons];constructor
  ·rintro⟨b,sl,val,s,ow,c,d,rfl,o,n,i,f,g,m,u⟩
   obtain⟨v,q⟩:=yQ.1 u;refine⟨by simp[v],fun p a=>?_⟩
   rw[im]at a;rcases au.1 a with rfl|a
   ·exact⟨b,sl,rfl,o,val,s,ow,c,n,i,f,g,m⟩
   ·exact q p a
  ·cases ks with
   |nil=>rintro⟨e,_⟩;simp at e
   |cons k d=>
    rintro⟨e,a⟩;rw[im]at a;obtain⟨b,sl,t,o,val,s,ow,c,n,i,f,g,m⟩:=a _ (az ..);refine⟨b,sl,val,s,ow,c,d,by rw[←t],o,n,i,f,g,m,yQ.2 ⟨by simpa using e,fun p j=>a p (aR _ j)⟩⟩
theorem DxF.upd0{W:Nat→Prop}{h a:ad}(k:Upd No h a):∀{F:Fo} {ks:List (Option Addr)},DxF W h F ks→DxF W a F ks
 | .nil,_,r=>r
 | .cons _ _ _ _,_,⟨b,sl,val,s,ow,ks1,ks',e0,e1,e2,e3,e4,e5,e6,e7⟩=>⟨b,sl,val,s,ow,ks1,ks',e0,e1,k.get0 e2,e3,e4.upd k fun _ h=>h.elim,e5,DxF.upd0 k e6,DxF.upd0 k e7⟩
theorem DxN.upd0{W:Nat→Prop}{h a:ad}(k:Upd No h a){b:Nat}{sl:ByteArray}{w:Option ByteArray}{F:Fo}:DxN W h b sl w F→DxN W a b sl w F
 |⟨val,s,ow,ks,e2,e3,e4,e5,e6⟩=>⟨val,s,ow,ks,k.get0 e2,e3,e4.upd k fun _ h=>h.elim,e5,DxF.upd0 k e6⟩
theorem DKid.upd0{W:Nat→Prop}{h c:ad}(k:Upd No h c){a:Option Addr}{n:Bn}:DKid W h a n→DKid W c a n
 |⟨b,sl,e1,e2,e3⟩=>⟨b,sl,e1,e2,e3.upd0 k⟩
theorem DxF.less{W W':Nat→Prop}{h:ad}(hm:∀b,W' b→W b∨h.size≤b):∀{F:Fo} {ks:List (Option Addr)},DxF W h F ks→DxF W' h F ks
 | .nil,_,r=>r
 | .cons _ _ _ _,_,⟨b,sl,val,s,ow,ks1,ks',e0,e1,e2,e3,e4,e5,e6,e7⟩=>⟨b,sl,val,s,ow,ks1,ks',e0,e1,e2,e3,e4.less hm,⟨e5.1,fun hx=>(hm _ hx).elim e5.2 fun h=>by have:=aD e2;omega⟩,DxF.less hm e6,DxF.less hm e7⟩
theorem DxN.less{W W':Nat→Prop}{h:ad}(hm:∀b,W' b→W b∨h.size≤b){b:Nat}{sl:ByteArray}{w:Option ByteArray}{F:Fo}:DxN W h b sl w F→DxN W' h b sl w F
 |⟨val,s,ow,ks,e2,e3,e4,e5,e6⟩=>⟨val,s,ow,ks,e2,e3,e4.less hm,⟨e5.1,fun hx=>(hm _ hx).elim e5.2 fun h=>by have:=aD e2;omega⟩,DxF.less hm e6⟩
theorem DxF.updM{W M:Nat→Prop}{h a:ad}(k:Upd M h a)(hm:∀b,M b→W b∨h.size≤b):∀{F:Fo} {ks:List (Option Addr)},DxF W h F ks→DxF W a F ks
 | .nil,_,r=>r
 | .cons _ _ _ _,_,⟨b,sl,val,s,ow,ks1,ks',e0,e1,e2,e3,e4,e5,e6,e7⟩=>⟨b,sl,val,s,ow,ks1,ks',e0,e1,k.get e2 (fun hx=>(hm _ hx).elim e5.2 fun h=>by have:=aD e2;omega),e3,e4.upd k hm,e5,DxF.updM k hm e6,DxF.updM k hm e7⟩
theorem DxN.updM{W M:Nat→Prop}{h a:ad}(k:Upd M h a)(hm:∀b,M b→W b∨h.size≤b){b:Nat}{sl:ByteArray}{w:Option ByteArray}{F:Fo}:DxN W h b sl w F→DxN W a b sl w F
 |⟨val,s,ow,ks,e2,e3,e4,e5,e6⟩=>⟨val,s,ow,ks,k.get e2 (fun hx=>(hm _ hx).elim e5.2 fun h=>by have:=aD e2;omega),e3,e4.upd k hm,e5,DxF.updM k hm e6⟩
theorem DxL.upd0{W:Nat→Prop}{h a:ad}(k:Upd No h a){ks:List (Option Addr)}{L:List Bn}(r:DxL W h ks L):DxL W a ks L:=⟨r.1,fun p b=>(r.2 p b).upd0 k⟩
theorem DxL.app{W:Nat→Prop}{h:ad}{ks b:List (Option Addr)}{L L':List Bn}(r:DxL W h ks L)(c:DxL W h b L'):DxL W h (ks++b) (L++L'):=by
 refine⟨by rw[ae,ae,r.1,c.1],fun p a=>?_⟩
 rw[List.zip_append r.1]at a;rcases List.mem_append.1 a with a|a
 ·exact r.2 p a
 ·exact c.2 p a
theorem DxL.one{W:Nat→Prop}{h:ad}{k:Option Addr}{n:Bn}(c:DKid W h k n):DxL W h [k] [n]:=⟨rfl,fun p a=>by rw[im,List.zip_nil_left]at a;rw[List.mem_singleton.1 a];exact c⟩
theorem DxL.at{W:Nat→Prop}{h:ad}{ks:List (Option Addr)}{L:List Bn}(r:DxL W h ks L){i:Nat}(hi:i<L.length):∃b sl,ks[i]? =some (some ⟨b,0,none⟩)∧sl.data.toList=L[i].1∧DxN W h b sl L[i].2.1 L[i].2.2:=by
 have c:i<ks.length:=by rw[r.1];exact hi
 have hz:i<(ks.zip L).length:=by rw[List.length_zip];omega
 have:=r.2 _ (aP hz);rw[List.getElem_zip]at this;obtain⟨b,sl,a,d,e⟩:=this;exact⟨b,sl,by rw[af c];exact congrArg some a,d,e⟩
theorem DKid.less{W W':Nat→Prop}{h:ad}(hm:∀b,W' b→W b∨h.size≤b){a:Option Addr}{n:Bn}:DKid W h a n→DKid W' h a n
 |⟨b,sl,e1,e2,e3⟩=>⟨b,sl,e1,e2,e3.less hm⟩
theorem DKid.updM{W M:Nat→Prop}{h c:ad}(k:Upd M h c)(hm:∀b,M b→W b∨h.size≤b){a:Option Addr}{n:Bn}:DKid W h a n→DKid W c a n
 |⟨b,sl,e1,e2,e3⟩=>⟨b,sl,e1,e2,e3.updM k hm⟩
theorem DxL.less{W W':Nat→Prop}{h:ad}(hm:∀b,W' b→W b∨h.size≤b){ks:List (Option Addr)}{L:List Bn}(r:DxL W h ks L):DxL W' h ks L:=⟨r.1,fun p a=>(r.2 p a).less hm⟩
theorem DxL.updM{W M:Nat→Prop}{h a:ad}(k:Upd M h a)(hm:∀b,M b→W b∨h.size≤b){ks:List (Option Addr)}{L:List Bn}(r:DxL W h ks L):DxL W a ks L:=⟨r.1,fun p c=>(r.2 p c).updM k hm⟩
theorem JL{a b:ByteArray}(y:a.size≤1000000){h:ad}{K:Int→ad→Prop}(q:K (cm a.data.toList b.data.toList:Nat) h):HC PG tX [.string a,.string b] [.c (.int .i64)] K h:=by
 refine GY a b ?_;unfold zB;have z:a.data.toList.length=a.size:=by simp
 have A:b.data.toList.length=b.size:=by simp
 refine LoopP.ghost (fun(i:Nat) (t:Int) m=>t=(i:Int)∧i≤min a.size b.size∧m=h∧∀j,j<i→a.data.toList[j]? =b.data.toList[j]?) (fun i=>min a.size b.size-i) 0 ⟨rfl,aU _,rfl,fun j p=>absurd p (gP _)⟩ ?_
 rintro I i t m ⟨rfl,hi,rfl,g⟩ w;refine Join.intro (fun t k=>k=m∧(t=true→i<min a.size b.size∧a.data.toList[i]? =b.data.toList[i]?)∧(t=false→cm a.data.toList b.data.toList=i)) (fun R o=>?_) ?_
 ·refine aG (fun n=>?_) fun n=>o _ _ ⟨rfl,fun h=>(by cases h),fun _=>Fy (by omega) (by omega) g (by omega)⟩
  refine aG (fun k=>?_) fun k=>o _ _ ⟨rfl,fun h=>(by cases h),fun _=>Fy (by omega) (by omega) g (by omega)⟩
  have d:i<a.size:=by omega
  have c:i<b.size:=by omega
  have u:a.data.toList[i]? =some a[i]:=by rw[←Ie,getElem?_pos a i d]
  have v:b.data.toList[i]? =some b[i]:=by rw[←Ie,getElem?_pos b i c]
  refine⟨a[i],by omega,by rw[aH,getElem?_pos a i d],b[i],by omega,by rw[aH,getElem?_pos b i c],o _ _ ⟨rfl,fun h=>⟨by omega,?_⟩,fun h=>?_⟩⟩
  ·have:((a[i].toNat:Int))=(b[i].toNat:Int):=by simpa using h
   rw[u,v,UInt8.toNat_inj.1 (show a[i].toNat=b[i].toNat by omega)]
  ·refine Fy (by omega) (by omega) g (.inr (.inr fun e=>?_))
   rw[u,v]at e;rw[bv.inj e]at h;simp at h
 ·rintro t k ⟨rfl,n,x⟩
  cases t with
  |true=>
   obtain⟨f,e⟩:=n rfl;refine aA.2 ?_;rw[cz f (by omega)];refine w (i+1) _ _ ⟨rfl,f,rfl,fun j p=>?_⟩ (by omega)
   rcases bH j i with s|s
   ·exact g j s
   ·rw[show j=i by omega];exact e
  |false=>
   refine aj.2 ?_;rw[x rfl]at q;exact q
theorem RG:∀{x y:List UInt8} {t:Nat},t≤x.length→t≤y.length→x.take t=y.take t→t≤cm x y
 |_,_,0,_,_,_=>aU _
 | [],_,t+1,h,_,_=>by simp at h
 |_::_,[],t+1,_,h,_=>by simp at h
 |a::x,b::y,t+1,h1,h2,e=>by
  rw[dw,dw]at e;obtain⟨c,d⟩:=fi.inj e;have:=RG (x:=x) (y:=y) (t:=t) (by simpa using h1) (by simpa using h2) d;unfold cm;rw[if_pos c];omega
def Rr(t:Nat)(p:Pr):Pr:=(p.1.extract t p.1.size,p.2)
theorem Fc(t:Nat)(p:Pr):ky (Rr t p)=(ky p).drop t:=yP p.1 t
def Mx(B:Nat):Prop:=∀{W:Nat→Prop} {h:ad} {s:SliceV} {l:List Pr},Sl fP 2 No h s l→s.len≤s.cap→Beg l []→(∀p∈l,(ky p).length≤B)→l.length≤100000→(∀y,W y→y<h.size)→∀{K:SliceV→ad→Prop},
 (∀h' s' ks L,OwnS lB 1 pX (fun y=>h.size≤y) h' s' ks→DxL W h' ks L→Row L l [] []→Upd No h h'→K s' h')→HC PG p7 [.slice s.a s.len s.cap] [.c .slice] K h
def ux(to:Nat)(l:List Pr):List Pr:=(l.filter fun p=>decide ((ky p).length≠to)).map (Rr to)
theorem JF{to:Nat}{l:List Pr}{i:Nat}(hi:i<l.length):ux to (l.take (i+1))=if(ky l[i]).length=to then ux to (l.take i)else ux to (l.take i)++ [Rr to l[i]]:=by
 unfold ux;rw[bI hi,jY,List.map_append,cC,pL];by_cases h:(ky l[i]).length=to
 ·rw[if_pos h,if_neg (by simpa using h)];simp
 ·rw[if_neg h,if_pos (by simpa using h)];rfl
theorem KO{W:Nat→Prop}{B:Nat}(hB:B≤1000000)(T:∀B',B'<B→Mx B'){h:ad}{s:SliceV}{l r:List Pr}{f g:Pr}(hs:Sl fP 2 No h s l)(bg:Beg l [])(hlB:∀p∈l,(ky p).length≤B)(hn:l.length≤100000)(hW:∀y,W y→y<h.size)
  (w:l=f::r)(hg:l.getLast? =some g)(hb:bt 0 f=bt 0 g){K:Option Addr→ad→Prop}
  (hk:∀z a n,DKid W z a n→Ja n→hd n.1=bt 0 f→(∀k v,qW n k v↔Rl l [] k v)→Upd No h z→K a z):HC PG tW [.slice s.a s.len s.cap] [.c .ptr] K h:=by
 refine GX s ?_;unfold zA dK bM aB cV nv mo jw;have hlen:=hs.len;have hl0:0<l.length:=by rw[w];simp
 have hfm:f∈l:=by rw[w];exact az ..
 have hgm:g∈l:=lj hg;obtain⟨a,ha,_,hvf⟩:=hs.at (i:=0) (x:=f) (by rw[w];rfl);obtain⟨q1,q2,q3,q4,q5⟩:=FC bg ⟨r,w⟩ hg hb;have hbc:= @KM l (if(ky f).length=cm (ky f) (ky g)then l.drop 1 else l) [] f g bg ⟨r,w⟩ hg hb
 have hcg:cm (ky f) (ky g)=cm (ky f) (ky g):=rfl;obtain⟨to,Z⟩:∃to,cm (ky f) (ky g)=to:=⟨_,rfl⟩;rw[Z]at q1 q2 q3 q4 hbc;have hszf:f.1.size=(ky f).length:=(Ki f.1).symm;have hfB:=hlB f hfm;have hle:∀p∈l,to≤(ky p).length:=fun p j=>(q4 p j).elim (fun e=>e▸q2) Nat.le_of_lt
 have hcm:∀p∈l,to≤cm (ky f) (ky p):=fun p j=>RG q2 (hle p j) (q3 p j).symm
 have hpos:0<to:=by simpa using q1
 refine⟨⟨by decide,by omega⟩,a,ha,_,hvf 0 _ rfl,?_⟩
 refine LoopP.ghost (fun(g:Nat×Nat) (t:Int×Int) z=>t=((g.2:Int),(g.1:Int))∧g.1≤l.length∧to≤g.2∧g.2≤(ky f).length∧(g.1=l.length→g.2=to)∧Upd No h z) (fun g=>l.length-g.1) (0,(ky f).length) ⟨by rw[hszf];rfl,aU _,q2,ao _,fun e=>by simp only at e;omega,Upd.refl _ _⟩ ?_
 rintro I ⟨i,n⟩ t z ⟨rfl,hi,hn1,hn2,Y,X⟩ hI;simp only at hi hn1 hn2 Y;refine aG (fun b=>?_) fun V=>?_
 ·have b:i<l.length:=by have:(i:Int)<(s.len:Int):=b;omega
  have C:l[i]∈l:=aP b;refine Join.intro (fun t u=>∃n':Nat,t=(n':Int)∧to≤n'∧n'≤(ky f).length∧(i+1=l.length→n'=to)∧Upd No h u) (fun R hR=>?_) ?_
  ·obtain⟨a',S,_,hv⟩:=(hs.upd X fun _ h=>h.elim).at (af b)
   refine⟨⟨by simp only;omega,by simp only;omega⟩,a',S,_,hv 0 _ rfl,_,hv 1 _ rfl,wN (p:=l[i]) fun u b2 k2=>?_⟩
   obtain⟨a2,ha2,_,hv2⟩:=((hs.upd X fun _ h=>h.elim).upd k2 fun _ h=>h.elim).at (i:=0) (x:=f) (by rw[w];rfl)
   refine⟨⟨by decide,by omega⟩,a2,ha2,_,hv2 0 _ rfl,_,vc b2 0,JL (by omega) ?_⟩
   have hc1:=hcm _ C;have hc2:=(Mp (ky f) (ky l[i])).1;have D:i+1=l.length→l[i]=g:=fun e=>by
    rw[List.getLast?_eq_getElem?,show l.length-1=i by omega,af b]at hg
    exact bv.inj hg
   change CondP (decide ((cm (ky f) (ky l[i]):Int)<(n:Int))) _ _;refine aG (fun hc=>hR _ _ ⟨_,rfl,hc1,hc2,fun e=>?_,X.tr k2⟩) fun hc=>hR _ _ ⟨n,rfl,hn1,hn2,fun e=>?_,X.tr k2⟩
   ·rw[D e,Z]
   ·rw[D e,Z]at hc;omega
  ·rintro t u ⟨n',rfl,H,h2',O,m⟩
   simp only;rw[cz b (by omega)];exact hI (i+1,n') _ _ ⟨rfl,b,H,h2',O,m⟩ (by simp only;omega)
 obtain rfl:i=l.length:=by have:¬(i:Int)<(s.len:Int):=V;omega
 obtain rfl:n=to:=Y rfl;clear Y hI;obtain⟨a',S,_,hv⟩:=(hs.upd X fun _ h=>h.elim).at (i:=0) (x:=f) (by rw[w];rfl)
 refine⟨⟨by decide,by omega⟩,a',S,f.1,hv 0 _ rfl,⟨by omega,by simp only;omega⟩,aO fun H b1 k1=>?_⟩
 have u1:=X.tr k1;have z1:=aD b1;have s0:=X.size;simp only[aH]at b1⊢;have hlab:(f.1.extract 0 n).data.toList=((ky f).take n).drop ([]:List UInt8).length:=by rw[yO];rfl
 refine LoopP.ghost (fun(i:Nat) (t:SliceV×Int) u=>t.2=(i:Int)∧i≤l.length∧u[z.size]? =some (.cells #[.string (f.1.extract 0 n),.bool (if 0<i∧(ky f).length=n then some f.2 else none:Option ByteArray).isSome,.string ((if 0<i∧(ky f).length=n then some f.2 else none:Option ByteArray).getD ⟨#[]⟩),.slice none 0 0] mR (0,0))∧
  OwnS fP 2 bO (fun y=>H.size≤y) u t.1 (ux n (l.take i))∧Upd No h u∧H.size≤u.size) (fun i=>l.length-i) 0 ⟨rfl,aU _,by rw[if_neg (by omega)];exact b1,OwnS.nil gX,u1,ao _⟩ ?_
 rintro I i ⟨so,ti⟩ u ⟨e1,hi2,c2,ho,m,hz2⟩ hI;simp only at e1 ho;subst e1;refine aG (fun b=>?_) fun V=>?_
 ·have b:i<l.length:=by have:(i:Int)<(s.len:Int):=b;omega
  have C:l[i]∈l:=aP b;have J:=JF (to:=n) b;have hszi:l[i].1.size=(ky l[i]).length:=(Ki l[i].1).symm;have hiB:=hlB _ C;refine Join.intro (fun t O=>O[z.size]? =some (.cells #[.string (f.1.extract 0 n),.bool (if 0<i+1∧(ky f).length=n then some f.2 else none:Option ByteArray).isSome,.string ((if 0<i+1∧(ky f).length=n then some f.2 else none:Option ByteArray).getD ⟨#[]⟩),.slice none 0 0] mR (0,0))∧
   OwnS fP 2 bO (fun y=>H.size≤y) O t (ux n (l.take (i+1)))∧Upd No h O∧H.size≤O.size) (fun R hR=>?_) ?_
  ·obtain⟨a3,ha3,_,hv3⟩:=(hs.upd m fun _ h=>h.elim).at (af b)
   refine⟨⟨by simp only;omega,by simp only;omega⟩,a3,ha3,_,hv3 0 _ rfl,_,hv3 1 _ rfl,wN (p:=l[i]) fun O b3 k3=>⟨_,vc b3 0,?_⟩⟩
   have z3:=aD b3;have s3:=k3.size;have zh2:=aD c2;have c3:=k3.get0 c2;refine CondP.intro (fun E=>?_) fun E=>?_
   ·have E:(ky l[i]).length=n:=by
     have:((l[i].1.size:Nat):Int)=(n:Int):=by simpa using E
     omega
    have hfi:l[i]=f:=(q4 _ C).resolve_right (by omega);rw[if_pos E]at J;refine⟨_,vc b3 1,_,rfl,?_⟩;refine pB (i:=1) c3 (show 1<4 by decide) rfl fun h4 b4 P=>⟨vc (P.oth b3 (by omega)) 1,_,rfl,?_⟩
    refine pB (i:=2) b4 (show 2<4 by decide) rfl fun h5 b5 u5=>hR _ _ ⟨?_,?_,((m.tr k3).own P (by omega)).own u5 (by omega),?_⟩
    ·rw[if_pos (show 0<i+1∧(ky f).length=n from⟨by omega,by rw[←hfi];exact E⟩),b5,hfi];rfl
    ·rw[J]
     exact((ho.upd k3 fun _ _ h=>h).upd P fun y c e=>by have e:y=z.size:=e;have c:H.size≤y:=c;omega).upd u5 fun y c e=>by have e:y=z.size:=e;have c:H.size≤y:=c;omega
    ·have:=P.size;have:=u5.size;omega
   ·have E:¬(ky l[i]).length=n:=fun e=>by
     have:¬((l[i].1.size:Nat):Int)=(n:Int):=by simpa using E
     omega
    rw[if_neg E]at J;have hlei:=hle _ C;refine⟨_,vc b3 0,⟨by omega,by omega⟩,_,vc b3 1,aO fun h4 b4 Q=>⟨vc (Q.get0 b3) 1,vc (Q.get0 b3) 0,_,jN b4,?_⟩⟩
    have s4:=Q.size;have z4:=aD b4;refine AppP.own (M:=fun y=>(H.size≤y∧y<u.size)∨h4.size≤y) (ys:= [Rr n l[i]]) (((ho.within.upd k3 fun _ _ h=>h).upd Q fun _ _ h=>h).more fun y c=>.inl c) rfl rfl rfl rfl (by omega) ?_ (.inr (ao _)) fun s5 h5 ho5 A=>?_
    ·have:=List.length_filter_le (fun p=>decide ((ky p).length≠n)) (l.take i)
     simp only[ux,gS,aK];rw[aI]at this;omega
    have s5':=A.size;refine⟨vc (A.get (Q.get0 b3) (by omega)) 1,vc (A.get (Q.get0 b3) (by omega)) 0,hR _ _ ⟨?_,?_,((m.tr k3).tr Q).trans A fun y c=>.inr (by omega),by omega⟩⟩
    ·have o:(if 0<i+1∧(ky f).length=n then some f.2 else none:Option ByteArray)=if 0<i∧(ky f).length=n then some f.2 else none:=by
      by_cases h0:0<i
      ·simp[h0]
      ·have:i=0:=by omega
       subst this;have:l[0]=f:=by simp[w]
       rw[this]at E;rw[if_neg (fun h=>E h.2),if_neg (fun h=>E h.2)]
     rw[o];exact A.get (Q.get0 c3) (by omega)
    ·rw[J]
     exact ho5.more fun y c=>by show H.size≤y;omega
  ·rintro t O ⟨p1,p2,p3,p4⟩
   simp only;rw[cz b (by omega)];exact hI (i+1) _ _ ⟨rfl,b,p1,p2,p3,p4⟩ (by omega)
 obtain rfl:i=l.length:=by have:¬(i:Int)<(s.len:Int):=V;omega
 rw[bU]at ho;have hc0:(0<l.length∧(ky f).length=n)↔(ky f).length=n:=⟨fun h=>h.2,fun h=>⟨hl0,h⟩⟩
 simp only[hc0]at c2;have N:ux n l=(if(ky f).length=n then l.drop 1 else l).map (Rr n):=by
  unfold ux;congr 1
  by_cases e:(ky f).length=n
  ·rw[if_pos e,w,cC,if_neg (by simpa using e),List.drop_one,List.tail_cons]
   refine eY.2 fun p j=>?_
   have hpl:p∈l:=by rw[w];exact aR _ j
   rcases q4 p hpl with o|u
   ·rw[o]at j
    exact absurd ((bq.1 (w▸bg.up)).1 f j) (cJ _)
   ·exact decide_eq_true (by omega)
  ·rw[if_neg e]
   refine eY.2 fun p j=>?_
   rcases q4 p j with o|u
   ·rw[o];exact decide_eq_true e
   ·exact decide_eq_true (by omega)
 have d:(if(ky f).length=n then l.drop 1 else l).Sublist l:=by
  split
  ·exact List.drop_sublist ..
  ·exact List.Sublist.refl _
 have hlong:∀p∈(if(ky f).length=n then l.drop 1 else l),n<(ky p).length:=fun p j=>by
  rcases q4 p (d.subset j)with e|h
  ·by_cases o:(ky f).length=n
   ·rw[if_pos o,w,e]at j
    exact absurd ((bq.1 (w▸bg.up)).1 f j) (cJ _)
   ·rw[e];omega
  ·exact h
 have hbeg:Beg (ux n l) []:=by
  rw[N];refine⟨?_,fun p j=>?_⟩
  ·unfold cu
   rw[List.pairwise_map];refine(bg.up.sublist d).imp_of_mem fun{p q} j G b=>?_
   rw[vV]at b⊢;have e1:=q3 p (d.subset j);have o:=q3 q (d.subset G);change Op.bytesLess (ky (Rr n p)) (ky (Rr n q))=true;change Op.bytesLess (ky p) (ky q)=true at b;rw[Fc,Fc];rw[←aV n (ky p),←aV n (ky q),e1,o,GN]at b;exact b
  ·obtain⟨q,G,rfl⟩:=jW.1 j
   refine⟨rfl,?_⟩;rw[Fc,aL];have:=hlong q G;simp only[cF];omega
 have hkB:∀p∈ux n l,(ky p).length≤B-n:=fun p j=>by
  rw[N]at j;obtain⟨q,G,rfl⟩:=jW.1 j;rw[Fc,aL];have:=hlB q (d.subset G);omega
 have hrn:(ux n l).length≤100000:=by
  rw[N,gS];exact Nat.le_trans d.length_le hn
 have s2:=m.size;have zc:=aD c2;refine T (B-n) (by omega) (W:=fun y=>W y∨y=z.size) (ho.sl fun _ _ _ h=>h) ho.cap hbeg hkB hrn (fun y c=>c.elim (fun c=>by have:=hW y c;omega) fun c=>by omega) fun O s3 ks L ho3 hL3 hrow hu3=>?_
 obtain⟨hcF,hgF⟩:=hrow.done;have hgot:∀k v,ox (.ofL L) k v↔Rl (if(ky f).length=n then l.drop 1 else l) ((ky f).take n) k v:=fun k v=>by
  rw[hgF,N];constructor
  ·rintro⟨p,j,o,e3⟩
   obtain⟨q,G,rfl⟩:=jW.1 j;rw[Fc,gQ]at o;refine⟨q,G,?_,e3⟩;rw[←o,←q3 q (d.subset G),aV]
  ·rintro⟨q,G,o,e3⟩
   refine⟨Rr n q,jW.2 ⟨q,G,rfl⟩,?_,e3⟩;rw[Fc,gQ,o,List.drop_left' (by rw[aI];omega)]
 obtain⟨hcn,hhd,hin⟩:=hbc (F:=.ofL L) hcF rfl hgot rfl hlab;refine⟨_,rfl,?_⟩;refine pB (i:=3) (hu3.get0 c2) (show 3<4 by decide) rfl fun h4 b4 P=>?_
 refine hk h4 _ (_,_,_) ⟨z.size,_,rfl,rfl,_,s3,none,ks,b4,rfl,?_,⟨ho3.cap,fun hw=>by have:=hW _ hw;omega⟩,yQ.2 ?_⟩ hcn hhd hin ((m.tr hu3).own P (by omega))
 ·exact(ho3.upd P fun y c e=>by have e:y=z.size:=e;have c:u.size≤y:=c;omega).sl fun y c _ hw=>by have:=hW y hw;have c:u.size≤y:=c;omega
 ·rw[Fo.to_of]
  exact(hL3.updM P fun y c=>.inl (.inr c)).less fun y c=>.inl (.inl c)
end Go.Proofs
namespace Go.Proofs
open Go Go.Lift
theorem Kf{B:Nat}(hB:B≤1000000)(H:∀P,P<B→Mx P):Mx B:=by
 intro W h s l hs hcap bg hlB hn hW K hk;refine GW s ?_;unfold zy dK bM;have hlen:=hs.len;refine LoopP.ghost (fun(g:Nat×List (Option Addr)×List Bn×(Nat→Prop)) (t:SliceV×Int) h'=>t.2=(g.1:Int)∧g.1≤l.length∧OwnS lB 1 pX g.2.2.2 h' t.1 g.2.1∧(∀y,g.2.2.2 y→h.size≤y∧y<h'.size)∧DxL (fun y=>W y∨g.2.2.2 y) h' g.2.1 g.2.2.1∧Row g.2.2.1 (l.take g.1) (l.drop g.1) []∧Upd No h h') (fun g=>l.length-g.1) (0,[],[],fun _=>False)
  ⟨rfl,aU _,OwnS.nil nB,fun y d=>d.elim,⟨rfl,fun p hp=>(by cases hp)⟩,Row.nil _ _,Upd.refl _ _⟩ ?_
 rintro I ⟨i,ks,L,Mo⟩ ⟨so,ti⟩ X ⟨e1,hi,ho,v,hL,f,Z⟩ hI;simp only at e1 hi ho v hL f;subst e1;refine aG (fun u=>?_) fun hge=>?_
 ·have u:i<l.length:=by have:(i:Int)<(s.len:Int):=u;omega
  have G:=hs.upd Z fun _ h=>h.elim
  have O:∀j (E:j<l.length),0<(ky l[j]).length:=fun j E=>(bg.at_ _ (aP E)).2
  obtain⟨bi,hbi,hbie⟩:=PK (O i u);obtain⟨ai,hai,_,hvi⟩:=G.at (af u);refine LoopP.ghost (fun(k:Nat) (t:Int) T=>t=(k:Int)∧i≤k∧k≤l.length∧T=X∧∀j (E:j<l.length),i≤j→j<k→bt 0 l[j]=bt 0 l[i]) (fun k=>l.length-k) i ⟨rfl,ao _,hi,rfl,fun j E X T=>by omega⟩ ?_
  rintro I2 k t T ⟨rfl,hik,S,rfl,D⟩ hI2;refine Join.intro (fun t h3=>h3=T∧(t=true→∃hk:k<l.length,bt 0 l[k]=bt 0 l[i])∧(t=false→∀hk:k<l.length,bt 0 l[k]≠bt 0 l[i])) (fun R hR=>?_) ?_
  ·refine aG (fun a=>?_) fun a=>hR _ _ ⟨rfl,fun h=>(by cases h),fun _ hk2=>absurd (show(k:Int)<(s.len:Int) by omega) a⟩
   have a:k<l.length:=by have:(k:Int)<(s.len:Int):=a;omega
   obtain⟨bk,hbk,hbke⟩:=PK (O k a);obtain⟨ak,hak,_,hvk⟩:=G.at (af a);refine⟨⟨by omega,by omega⟩,ak,hak,_,hvk 0 _ rfl,bk,by decide,hbk,⟨by simp only;omega,by simp only;omega⟩,ai,hai,_,hvi 0 _ rfl,bi,by decide,hbi,hR _ _ ⟨rfl,fun h=>⟨a,?_⟩,fun h _=>?_⟩⟩
   ·have:(bk.toNat:Int)=(bi.toNat:Int):=by simpa using h
    omega
   ·intro e
    have:¬(bk.toNat:Int)=(bi.toNat:Int):=by simpa using h
    omega
  rintro t h3 ⟨rfl,ht,Y⟩;cases t with
  |true=>
   obtain⟨a,e⟩:=ht rfl;refine aA.2 ?_;rw[cz a (by omega)];refine hI2 (k+1) _ _ ⟨rfl,by omega,a,rfl,fun j E X T=>?_⟩ (by omega)
   rcases bH j k with h|h
   ·exact D j E X h
   ·have:j=k:=by omega
    subst this;exact e
  |false=>
   have Y:=Y rfl;have hik2:i<k:=by
    rcases bH i k with h|h
    ·exact h
    ·have:k=i:=by omega
     subst this;exact absurd rfl (Y u)
   refine aj.2 ⟨⟨by omega,by omega⟩,⟨by simp only;omega,by simp only;omega⟩,?_⟩
   simp only[aH];have hsA:=Sl.sub G (l:=i) (hi:=k) (m:=s.cap) (c:=s.cap-i) hik S (by omega);have V:(l.drop i).take (k-i)++l.drop k=l.drop i:=by
    conv=>rhs;rw[←aV (k-i) (l.drop i)]
    rw[List.drop_drop,show i+(k-i)=k by omega]
   have hDA:l.take i++(l.drop i).take (k-i)=l.take k:=by
    rw[show k=i+(k-i) by omega,List.take_add];congr 2;omega
   have z:∀q∈(l.drop i).take (k-i),bt 0 q=bt 0 l[i]:=fun q hq=>by
    obtain⟨j,E,e⟩:=List.getElem_of_mem hq;rw[aI,aL]at E;rw[←e,List.getElem_take,List.getElem_drop];exact D (i+j) (by omega) (by omega) (by omega)
   have hAc:∃r,(l.drop i).take (k-i)=l[i]::r:=by
    rw[cU u,show k-i=(k-i-1)+1 by omega,dw]
    exact⟨_,rfl⟩
   have o:((l.drop i).take (k-i)).Sublist l:=(List.take_sublist _ _).trans (List.drop_sublist _ _);have hBk:∀b P,l.drop k=b::P→bt 0 b≠bt 0 l[i]:=fun b P e=>by
    have a:k<l.length:=by
     rcases bH k l.length with h|h
     ·exact h
     ·rw[List.drop_eq_nil_of_le h]at e;cases e
    rw[cU a]at e;rw[←(fi.inj e).1];exact Y a
   have hAl:((l.drop i).take (k-i)).length≤l.length:=o.length_le;generalize (l.drop i).take (k-i)=A at*;obtain⟨r,J⟩:=hAc;obtain⟨g,hg⟩:∃g,A.getLast? =some g:=by rw[J];exact⟨_,List.getLast?_eq_some_getLast (by simp)⟩
   have s1:=Z.size;refine KO (W:=fun y=>W y∨Mo y) hB H (hsA.less fun _ h=>h.elim) (bg.sub o) (fun q hq=>hlB q (o.subset hq)) (by omega) (fun y d=>d.elim (fun d=>Nat.lt_of_lt_of_le (hW y d) s1) fun d=>(v y d).2) J hg (z g (lj hg)).symm fun h4 ka n kd hcn hhd hin hu4=>aO fun F b5 k5=>⟨_,jN b5,?_⟩
   have C:=hu4.tr k5;have z35:=C.size;have hLn:L.length≤256:=by
    rcases zY (c:=0) f.up fun _ _=>aU _ with e|e
    ·rw[e];simp
    ·omega
   have hkl':=hL.1;refine AppP.own (M:=fun y=>Mo y∨F.size≤y) (ys:= [ka]) ((ho.upd C fun _ _ h=>h).more fun y d=>.inl d) rfl rfl rfl rfl (by omega) (by simp only[aK];omega) (.inr (ao _)) fun s6 h6 ho6 N=>?_
   have z6:=N.size;have w:=f;rw[←V]at w;have Q:Beg (A++l.drop k) []:=by rw[V];exact bg.sub (List.drop_sublist _ _)
   have x:=w.more Q (p:=l[i]) (by rw[J];exact az ..) z hBk hcn hhd hin;rw[hDA]at x;refine hI (k,ks++ [ka],L++ [n],fun y=>(Mo y∨F.size≤y)∧y<h6.size) _ _ ⟨rfl,S,ho6.within,fun y d=>⟨?_,d.2⟩,?_,x,?_⟩ (by simp only;omega)
   ·rcases d.1 with h|h
    ·exact(v y h).1
    ·omega
   ·have hl:∀b,(W b∨((Mo b∨F.size≤b)∧b<h6.size))→(W b∨Mo b)∨F.size≤b:=fun b hb=>by
     rcases hb with h|⟨h|h,_⟩
     ·exact .inl (.inl h)
     ·exact .inl (.inr h)
     ·exact .inr h
    have hm:∀b,(Mo b∨F.size≤b)→(W b∨((Mo b∨F.size≤b)∧b<h6.size))∨F.size≤b:=fun b hb=>by
     rcases hb with h|h
     ·exact .inl (.inr ⟨.inl h,by have:=(v b h).2;omega⟩)
     ·exact .inr h
    exact(((hL.upd0 C).app (DxL.one (kd.upd0 k5))).less hl).updM N hm
   ·exact(Z.tr C).trans N fun y d=>.inr (by
     rcases d with h|h
     ·exact(v y h).1
     ·omega)
 ·obtain rfl:i=l.length:=by have:¬(i:Int)<(s.len:Int):=hge;omega
  rw[bU,List.drop_length]at f;exact hk X _ ks L (ho.more fun y d=>(v y d).1) (hL.less fun y d=>.inl (.inl d)) f Z
theorem O3(B:Nat):B≤1000000→Mx B:=by
 induction B using Nat.strongRecOn with
 |_ B ih=>exact fun a=>Kf a fun b h=>ih b h (by omega)
theorem QI{h:ad}{s:SliceV}{l:List Pr}(hs:Sl fP 2 No h s l)(j:s.len≤s.cap)(T:cu l)(hn:l.length≤60000)(hB:∀p∈l,(ky p).length≤1000000){K:Option Addr→ad→Prop}
  (hk:∀h' b w F,DxN No h' b ⟨#[]⟩ w F→eW F→nF w F=LM l→Upd No h h'→K (some ⟨b,0,none⟩) h'):HC PG C9 [.slice s.a s.len s.cap] [.c .ptr] K h:=by
 refine P3 s ?_;unfold IU dK bM cV Tm;have n:=hs.len;refine aO fun g b1 k1=>?_
 have z1:=aD b1;have z:=hs.upd k1 fun _ h=>h.elim
 refine Join.intro (fun(t:SliceV) f=>∃(w:Option ByteArray) (l':List Pr),f[h.size]? =some (.cells #[.string ⟨#[]⟩,.bool w.isSome,.string (w.getD ⟨#[]⟩),.slice none 0 0] mR (0,0))∧Sl fP 2 No f t l'∧t.len≤t.cap∧Beg l' []∧l'.length≤l.length∧(∀p∈l',p∈l)∧(∀k v,((k= []∧w=some v)∨Rl l' [] k v)↔∃p∈l,p.1.data.toList=k∧p.2=v)∧Upd No h f) (fun R O=>?_) ?_
 ·refine Join.plain ?_
  rcases l with _|⟨p,r⟩
  ·refine aG (fun hgt=>?_) fun _=>aj.2 (O _ _ ⟨none,[],b1,z,j,⟨fX,fun p Q=>(by cases Q)⟩,ao _,fun _ h=>h,fun k v=>⟨?_,?_⟩,k1⟩)
   ·simp only[cF]at n;omega
   ·rintro(⟨_,h⟩|⟨q,d,_⟩)
    ·cases h
    ·cases d
   ·rintro⟨q,d,_⟩;cases d
  ·simp only[aN]at n
   obtain⟨a,ha,_,hv⟩:=z.at (i:=0) (x:=p) rfl;refine aG (fun _=>⟨⟨by decide,by omega⟩,a,ha,_,hv 0 _ rfl,?_⟩) fun M=>absurd (show(s.len:Int)>0 by omega) M
   have B:=bq.1 T;have u:∀q∈r,0<(ky q).length:=fun q d=>by
    have g:=vV.1 (B.1 q d);refine List.length_pos_iff.2 fun P=>?_
    change Op.bytesLess (ky p) (ky q)=true at g;rw[P,KP]at g;cases g
   rw[jp];by_cases I:p.1=⟨#[]⟩
   ·have ek:ky p= []:=by unfold ky;rw[I]
    rw[decide_eq_true I];refine aA.2 ⟨⟨by decide,by omega⟩,a,ha,_,hv 1 _ rfl,_,rfl,?_⟩
    refine pB (i:=1) b1 (show 1<4 by decide) rfl fun f b2 J=>⟨_,rfl,?_⟩
    refine pB (i:=2) b2 (show 2<4 by decide) rfl fun h3 b3 D=>⟨⟨by decide,by omega⟩,O _ _ ⟨some p.2,r,b3,?_,by simp only;omega,⟨B.2,fun q d=>⟨rfl,u q d⟩⟩,by simp,fun q d=>aR _ d,fun k v=>?_,(k1.own J (ao _)).own D (ao _)⟩⟩
    ·have Z:Upd (fun y=>y=h.size) g h3:=J.tr D
     have:=Sl.sub ((((hs.less (W':=fun y=>y=h.size) fun y o=>.inr (by omega)).upd k1 fun _ h=>h.elim).upd Z fun y o=>.inl o)) (l:=1) (hi:=(p::r).length) (m:=s.cap) (c:=s.cap-1) (by simp) (ao _) (by simp only[aN];omega)
     rw[List.drop_one,List.tail_cons,List.take_of_length_le (by simp)]at this;have P:(p::r).length-1=s.len-1:=by simp only[aN];omega
     rw[P]at this;exact this.less fun _ h=>h.elim
    ·constructor
     ·rintro(⟨rfl,h⟩|⟨q,d,g,f⟩)
      ·exact⟨p,az ..,ek,bv.inj h⟩
      ·exact⟨q,aR _ d,g,f⟩
     ·rintro⟨q,d,g,f⟩
      rcases au.1 d with rfl|d
      ·exact .inl ⟨by rw[←g];exact ek,by rw[f]⟩
      ·exact .inr ⟨q,d,g,f⟩
   ·rw[decide_eq_false I]
    have X:0<(ky p).length:=List.length_pos_iff.2 fun e=>I (qD.1 e)
    refine aj.2 (O _ _ ⟨none,p::r,b1,z,j,⟨T,fun q d=>⟨rfl,?_⟩⟩,ao _,fun _ h=>h,fun k v=>?_,k1⟩)
    ·rcases au.1 d with rfl|d
     ·exact X
     ·exact u q d
    ·constructor
     ·rintro(⟨_,h⟩|⟨q,d,g,f⟩)
      ·cases h
      ·exact⟨q,d,g,f⟩
     ·rintro⟨q,d,g,f⟩
      exact .inr ⟨q,d,g,f⟩
 rintro t f ⟨w,l',b2,hs2,N,V,hll,A,H,J⟩;have z2:=aD b2;refine O3 1000000 (ao _) (W:=fun y=>y=h.size) hs2 N V (fun p Q=>hB p (A p Q)) (by omega) (fun y o=>by omega) fun h3 s3 ks L E hL3 G D=>⟨_,rfl,?_⟩
 obtain⟨C,S⟩:=G.done;refine pB (i:=3) (D.get0 b2) (show 3<4 by decide) rfl fun h4 b4 Y=>?_
 refine hk h4 h.size w (.ofL L) ⟨_,s3,none,ks,b4,rfl,?_,⟨E.cap,id⟩,yQ.2 ?_⟩ C (Ga C T fun k v=>?_) ((J.tr D).own Y (ao _))
 ·exact(E.upd Y fun y o e=>by have e:y=h.size:=e;have o:f.size≤y:=o;omega).sl fun _ _ _ h=>h
 ·rw[Fo.to_of]
  exact(hL3.updM Y fun y o=>.inl o).less fun _ h=>h.elim
 ·rw[mw]
  unfold py;rw[S,H]
def Tf(n:Bn):Prop:=∀{h:ad} {b:Nat} {sl:ByteArray},DxN No h b sl n.2.1 n.2.2→sl.data.toList=n.1→(gL n).length≤140737488355328→∀{K:SliceV→ad→Prop},(∀s' h',OwnS nq 1 cp (fun y=>h.size≤y) h' s' (gL n)→Upd No h h'→K s' h')→
 HC PG rj [.pointer (some ⟨b,0,none⟩)] [.c .slice] K h
theorem Mg{lab:List UInt8}{w:Option ByteArray}{c:Fo}(hl:lab.length≤10000)(hw:∀v,w=some v→v.size≤10000)(V:c.toL.length≤256)(ih:∀m∈c.toL,Tf m):Tf (lab,w,c):=by
 intro h b sl r B hx K hk;simp only at r B;have G:(⟨lab.toArray⟩:ByteArray)=sl:=by rw[←B]
 have hsz:sl.size=lab.length:=by rw[←B];simp
 obtain⟨val,s,ow,ks,hb,hv,hs,hcap,hF⟩:=r;have hL:=yQ.1 hF;have p:=hs.len;rw[hL.1]at p;have ex:gL (lab,w,c)=mq sl++r6 w++kW c.toL.length 2++c.toL.flatMap gL:=by
  show pO lab w c.toL.length++mU c=_
  rw[uR];unfold pO;rw[G];simp only[ar]
 rw[ex]at hx hk;simp only[ae]at hx;have g:∀{E:ad} {i:Nat},Upd No h E→aM E (adr ⟨b,0,none⟩ i)=(UB sl w.isSome val s ow)[i]?:=fun k=>vc (k.get0 hb) _
 have r0:=Upd.refl No h;refine IJ (some ⟨b,0,none⟩) ?_;unfold Bu bQ dK bM bD ie;refine⟨_,rfl,sl,g (i:=0) r0,yw (by omega) fun s1 h1 M k1=>?_⟩
 refine Join.intro (fun t x=>OwnS nq 1 cp (fun y=>h.size≤y) x t (mq sl++r6 w)∧Upd No h x) (fun R N=>?_) ?_
 ·refine⟨_,rfl,w.isSome,g (i:=1) k1,?_⟩
  have s1':=k1.size;cases w with
  |none=>
   refine aj.2 (aO fun x b2 o=>⟨_,jN b2,?_⟩)
   have s2:=o.size;refine AppP.own (ys:= [(0:UInt8)]) (M.upd o fun _ _ h=>h) rfl rfl rfl rfl (by omega) (by simp only[aK];simp only[r6,aK]at hx;omega) (by show h.size≤x.size;omega) fun s3 A f z=>?_
   exact N _ _ ⟨f,(k1.tr o).trans z fun y j=>.inr j⟩
  |some v=>
   have hvs:=hw v rfl;have C:val=v:=hv;subst C;refine aA.2 ⟨_,rfl,_,g (i:=2) k1,aO fun x b2 o=>⟨g (i:=2) (k1.tr o),_,jN b2,?_⟩⟩
   have s2:=o.size;have X:(r6 (some val)).length=1+(mq val).length:=by unfold r6;simp;omega
   rw[X]at hx;refine AppP.own (ys:= [(1:UInt8)]) (M.upd o fun _ _ h=>h) rfl rfl rfl rfl (by omega) (by simp only[aK];omega) (by show h.size≤x.size;omega) fun s3 A f z=>?_
   have F:Upd No h A:=(k1.tr o).trans z fun y j=>.inr j
   refine⟨g (i:=2) F,yw (by omega) fun s4 h4 n u=>?_⟩
   have J:=F.size;have T:=u.size;refine vB (f.upd u fun _ _ h=>h) (n.sl (W:=No) fun _ _ _ h=>h) (fun y j=>by show h.size≤y;omega) (by rw[ae,aK];omega) fun s5 h5 D q=>?_
   refine N _ _ ⟨?_,(F.tr u).trans q fun y j=>.inr j⟩
   have e:mq sl++r6 (some val)=mq sl++ [1]++mq val:=by unfold r6;simp
   rw[e];exact D
 rintro t2 x ⟨S,Y⟩;refine Join.intro (fun t A=>OwnS nq 1 cp (fun y=>h.size≤y) A t (mq sl++r6 w++kW c.toL.length 2)∧Upd No h A) (fun R N=>?_) ?_
 ·refine⟨_,rfl,s,g (i:=3) Y,?_⟩
  rw[p];refine BZ (by omega) fun s3 A f k3=>?_
  have s2':=Y.size;have J:=k3.size;refine vB (S.upd k3 fun _ _ h=>h) (f.sl (W:=No) fun _ _ _ h=>h) (fun y j=>by show h.size≤y;omega) (by rw[ae];omega) fun s4 h4 n hu4=>?_
  exact N _ _ ⟨n,(Y.tr k3).trans hu4 fun y j=>.inr j⟩
 rintro t3 A ⟨f,F⟩;refine⟨_,rfl,s,g (i:=3) F,?_⟩;refine LoopP.ghost (fun(i:Nat) (t:SliceV×Int) E=>t.2=(i:Int)∧i≤c.toL.length∧OwnS nq 1 cp (fun y=>h.size≤y) E t.1 (mq sl++r6 w++kW c.toL.length 2++(c.toL.take i).flatMap gL)∧Upd No h E) (fun i=>c.toL.length-i) 0 ⟨rfl,aU _,by simpa using f,F⟩ ?_
 rintro I i ⟨so,ti⟩ E ⟨e1,hi,O,H⟩ hI;simp only at e1 O;subst e1;refine aG (fun d=>?_) fun hge=>?_
 ·have d:i<c.toL.length:=by have:(i:Int)<(s.len:Int):=d;omega
  refine Join.plain ?_;obtain⟨kb,ksl,Q,hkl,Z⟩:=(hL.upd0 H).at d;obtain⟨a,ha,_,C⟩:=(hs.upd H fun _ h=>h.elim).at0 Q
  have P:((c.toL.take i).flatMap gL).length+(gL c.toL[i]).length≤(c.toL.flatMap gL).length:=by
   have e:c.toL=c.toL.take i++c.toL[i]::c.toL.drop (i+1):=by rw[List.getElem_cons_drop,aV]
   have:=congrArg (fun L=>(List.flatMap gL L).length) e
   simp only[bA,aX,ae]at this;omega
  refine⟨⟨by simp only;omega,by simp only;omega⟩,a,ha,_,C,ih _ (aP d) Z hkl (by omega) fun s4 h4 n u=>?_⟩
  have J:=H.size;have T:=u.size;refine vB (O.upd u fun _ _ h=>h) (n.sl (W:=No) fun _ _ _ h=>h) (fun y j=>by show h.size≤y;omega) (by simp only[ae];omega) fun s5 h5 D q=>?_
  simp only;rw[cz d (by omega)];refine hI (i+1) _ _ ⟨rfl,d,?_,(H.tr u).trans q fun y j=>.inr j⟩ (by omega)
  rw[bI d,bA,aX,List.flatMap_nil,bP,←ar];exact D
 ·obtain rfl:i=c.toL.length:=by have:¬(i:Int)<(s.len:Int):=hge;omega
  rw[bU]at O;exact hk _ _ O H
theorem Di:∀{F:Fo},G6 F→∀n∈F.toL,Tf n
 | .nil,_,n,a=>by simp[Fo.toL]at a
 | .cons lab w kids rest,h,n,a=>by
  rcases au.1 a with rfl|a
  ·exact Mg h.1 h.2.1 h.2.2.1 (Di h.2.2.2.1)
  ·exact Di h.2.2.2.2 n a
end Go.Proofs
