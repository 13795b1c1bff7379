/- A part of the proof that the named laws of this program answer true, whatever the input. -/
import Derived.Test.YtajpljopgikpgaaGreatDoorPart8
import Derived.Test.YtajpljopgikpgaaGreatDoorPart6
import Derived.Test.YtajpljopgikpgaaGreatDoorPart7
import Derived.Test.YtajpljopgikpgaaGreatDoorPart3
import Derived.Test.YtajpljopgikpgaaGreatDoorPart4
open Int renaming tdiv→kF,tdiv_eq_ediv_of_nonneg→eg,toNat_natCast→aE
open List renaming getElem?_toArray→eT,length_map→gB,length_singleton→aO,filter_append→jx,filter_cons→cl,filter_nil→oY,append_nil→bJ,length_take→aG,take_succ_eq_append_getElem→bC,getElem?_eq_getElem→ag,take_length→bN,getElem_mem→aP,replicate→eY,length_append→ae,append_assoc→ao,zip_cons_cons→g4,mem_cons→ar,mem_cons_self→au,mem_cons_of_mem→aM,take_succ_cons→dq,cons→gb,mem_of_getLast?→kD,filter_eq_self→eJ,pairwise_cons→ba,take_append_drop→aN,mem_map→ju,length_drop→aI,length_nil→cq,nil_append→ij,drop_eq_getElem_cons→dJ,length_cons→aL,flatMap_append→bj,flatMap_cons→aU
open List.Pairwise renaming nil→fF
open Nat renaming le_refl→al,zero_add→aB,not_lt_zero→gz,zero_le→aV,lt_or_ge→bD,shiftRight_eq_div_pow→bZ,shiftRight_le→gr
open Option renaming some→bm
namespace Go.Proofs
open Go Go.Lift
def IU(q:List Pr):Int:=if q.length=1 then 1 else if 2≤q.length then 2 else 0
def dF(a:Bool)(s:SliceV)(q:Nat→List Pr)(kk:Nat→Option Addr)(i:Nat):Value:=
 if i=0 then .bool a else if i=1 then sv s else if i<34 then .int .i64 (IU (q (i-2)))else if i<98 then(if i%2=0 then .string (y6 (fX (q ((i-34)/2)))).1 else .string (y6 (fX (q ((i-34)/2)))).2)else .pointer (kk (i-98))
def dC(f:Nat→Value):List Value:=(List.range 130).map f
theorem Cf{f:Nat→Value}{i:Nat}(h:i<130):(dC f).toArray[i]? =some (f i):=by
 unfold dC;simp[h]
theorem KU(f:Nat→Value):(dC f).toArray.size=130:=by simp[dC]
theorem Q1{f:Nat→Value}{i:Nat}{v:Value}:(dC f).toArray.setIfInBounds i v=(dC fun j=>if j=i then v else f j).toArray:=by
 unfold dC;apply Array.ext_getElem?;intro j;rw[Array.getElem?_setIfInBounds];simp only[eT,List.getElem?_map,List.size_toArray,gB,List.length_range];by_cases e:i=j
 ·subst e
  by_cases h:i<130
  ·simp[h]
  ·simp[h]
 ·rw[if_neg e]
  by_cases h:j<130
  ·rw[List.getElem?_range h];simp only[Option.map_some];rw[if_neg fun e':j=i=>e e'.symm]
  ·rw[List.getElem?_eq_none (by rw[List.length_range];omega)];rfl
theorem Fv{f g:Nat→Value}(h:∀i,i<130→f i=g i):(dC f).toArray=(dC g).toArray:=by
 unfold dC;rw[List.map_congr_left fun i hi=>h i (List.mem_range.1 hi)]
def DTrie(W:Nat→Prop)(x:Hs)(h:ad):Nat→Nat→List Pr→Prop
 |0,b,l=>¬W b∧∃s,h[b]? =some (.cells (dC (dF true s (fun _=> []) fun _=>none)).toArray gt (0,0))∧Sl gC 2 W h s l
 |m+1,b,l=>¬W b∧∃kk,h[b]? =some (.cells (dC (dF false ⟨none,0,0⟩ (fun c=>part x (12-m) c l) kk)).toArray gt (0,0))∧∀c,c<32→2≤(part x (12-m) c l).length→∃kb,kk c=some ⟨kb,0,none⟩∧DTrie W x h m kb (part x (12-m) c l)
theorem DTrie.upd{W M:Nat→Prop}{x:Hs}{h d:ad}(k:Upd M h d)(hm:∀b,M b→W b∨h.size≤b):∀{m b:Nat} {l:List Pr},DTrie W x h m b l→DTrie W x d m b l
 |0,b,_,⟨nw,s,h1,h2⟩=>⟨nw,s,k.get h1 fun a=>(hm b a).elim nw fun h=>by have:=aD h1;omega,h2.upd k hm⟩
 |_+1,b,_,⟨nw,kk,h1,h2⟩=>⟨nw,kk,k.get h1 fun a=>(hm b a).elim nw fun h=>by have:=aD h1;omega,fun c hc i=>let⟨e,f,g⟩:=h2 c hc i;⟨e,f,DTrie.upd k hm g⟩⟩
theorem DTrie.less{W W':Nat→Prop}{x:Hs}{h:ad}(hm:∀b,W' b→W b):∀{m b:Nat} {l:List Pr},DTrie W x h m b l→DTrie W' x h m b l
 |0,b,_,⟨nw,s,h1,h2⟩=>⟨fun a=>nw (hm b a),s,h1,h2.less fun b a=>.inl (hm b a)⟩
 |_+1,b,_,⟨nw,kk,h1,h2⟩=>⟨fun a=>nw (hm b a),kk,h1,fun c hc g=>let⟨d,f,e⟩:=h2 c hc g;⟨d,f,DTrie.less hm e⟩⟩
abbrev Rm(x:Hs)(p:Pr):List Value:= [.int .u64 (ko x p.1)]
theorem NB(x:Hs)(p:Pr):(Rm x p).length=1∧0<1:=⟨rfl,by omega⟩
def TwoS(x:Hs)(a c:Nat)(h:ad)(e d:SliceV)(L L':List Pr):Prop:=
 ∃A B:Nat→Prop,OwnS gC 2 bH A h e L∧OwnS (Rm x) 1 mF B h d L'∧(∀b,A b→a≤b∧b<c∧¬B b)∧∀b,B b→a≤b∧b<c
theorem TwoS.upd0{x:Hs}{a e:Nat}{h c:ad}{b d:SliceV}{L L':List Pr}(t:TwoS x a e h b d L L')(k:Upd No h c):TwoS x a e c b d L L':=by
 obtain⟨A,B,f,j,i,g⟩:=t;exact⟨A,B,f.upd k fun _ _ h=>h,j.upd k fun _ _ h=>h,i,g⟩
theorem Rc{x:Hs}{e i:Nat}{h:ad}{f m:SliceV}{L L':List Pr}{p:Pr}(t:TwoS x e i h f m L L')(w:e≤i)(v:i≤h.size)(y:L.length≤1000000){xs:List Value}(hx:xs=gC p){K:SliceV→ad→Prop}
  (q:∀s' c,TwoS x e c.size c s' m (L++ [p]) L'→Upd (fun b=>(e≤b∧b<i)∨h.size≤b) h c→K s' c):AppP (some [.string (⟨#[]⟩:ByteArray),.string (⟨#[]⟩:ByteArray)]) 2 32 bH f.a f.len f.cap 1 xs h K:=by
 subst hx;obtain⟨A,B,n,u,d,g⟩:=t;refine AppP.own (ys:= [p]) (n.more (M':=fun b=>A b∨h.size≤b) fun _ h=>.inl h) rfl rfl rfl rfl (by omega) (by simp only[aO];omega) (.inr (al _)) fun s' c o j=>?_
 have s:=j.size;refine q s' c ⟨_,B,o.within,u.upd j fun b a hm=>hm.elim (fun hm=>(d b hm).2.2 a) fun hm=>by have:=(g b a).2;omega,fun b a=>⟨?_,a.2,fun k=>?_⟩,fun b a=>⟨(g b a).1,by have:=(g b a).2;omega⟩⟩ (j.mono fun b a=>a.elim (fun a=>.inl (.inl ⟨(d b a).1,(d b a).2.1⟩)) .inr)
 ·rcases a.1 with a|a
  ·exact(d b a).1
  ·omega
 ·rcases a.1 with a|a
  ·exact(d b a).2.2 k
  ·have:=(g b k).2;omega
theorem appB{x:Hs}{f i:Nat}{h:ad}{k g:SliceV}{L L':List Pr}{p:Pr}(t:TwoS x f i h k g L L')(w:f≤i)(v:i≤h.size)(y:L'.length≤1000000){xs:List Value}(hx:xs=Rm x p){K:SliceV→ad→Prop}
  (q:∀s' c,TwoS x f c.size c k s' L (L'++ [p])→Upd (fun b=>(f≤b∧b<i)∨h.size≤b) h c→K s' c):AppP (some [.int .u64 0]) 1 8 mF g.a g.len g.cap 1 xs h K:=by
 subst hx;obtain⟨A,B,n,u,d,m⟩:=t;refine AppP.own (ys:= [p]) (u.more (M':=fun b=>B b∨h.size≤b) fun _ h=>.inl h) rfl rfl rfl rfl (by omega) (by simp only[aO];omega) (.inr (al _)) fun s' c o j=>?_
 have s:=j.size;refine q s' c ⟨A,_,n.upd j fun b a hm=>hm.elim (fun hm=>(d b a).2.2 hm) fun hm=>by have:=(d b a).2.1;omega,o.within,fun b a=>⟨(d b a).1,by have:=(d b a).2.1;omega,fun e=>?_⟩,fun b a=>⟨?_,a.2⟩⟩ (j.mono fun b a=>a.elim (fun a=>.inl (.inl (m b a))) .inr)
 ·rcases e.1 with e|e
  ·exact(d b a).2.2 e
  ·have:=(d b a).2.1;omega
 ·rcases a.1 with a|a
  ·exact(m b a).1
  ·omega
theorem LL{x:Hs}{lev c:Nat}{l:List Pr}{p:Pr}:part x lev c (l++ [p])=if ck x lev p.1=c then part x lev c l++ [p]else part x lev c l:=by
 unfold part;rw[jx,cl,oY];by_cases h:ck x lev p.1=c
 ·rw[if_pos h,if_pos (decide_eq_true h)]
 ·rw[if_neg h,if_neg (by simpa using h),bJ]
abbrev vX(x:Hs)(lev:Nat)(l:List Pr)(n:Nat)(c:Nat):List Pr:=if c<n then part x lev c l else[]
theorem EJ{x:Hs}{lev n c:Nat}{l:List Pr}(h:c≠n):vX x lev l (n+1) c=vX x lev l n c:=by
 unfold vX;by_cases hc:c<n
 ·rw[if_pos hc,if_pos (by omega)]
 ·rw[if_neg hc,if_neg (by omega)]
theorem EK{x:Hs}{lev n:Nat}{l:List Pr}:vX x lev l (n+1) n=part x lev n l:=if_pos (by omega)
theorem EI{x:Hs}{lev n:Nat}{l:List Pr}:vX x lev l n n= []:=if_neg (by omega)
structure DOf(W:Nat→Prop)(x:Hs)(lev m:Nat)(h0 h:ad)(l:List Pr)(n:Nat)(kk:Nat→Option Addr):Prop where
 blk:h[h0.size]? =some (.cells (dC (dF false ⟨none,0,0⟩ (vX x lev l n) kk)).toArray gt (0,0))
 upd:Upd No h0 h
 kid:∀c,c<n→2≤(part x lev c l).length→∃kb,kk c=some ⟨kb,0,none⟩∧DTrie (fun y=>W y∨y=h0.size) x h m kb (part x lev c l)
theorem R9{c:Bool}{s:SliceV}{q q':Nat→List Pr}{kk b:Nat→Option Addr}{i:Nat}(h:i<2):dF c s q kk i=dF c s q' b i:=by
 unfold dF;by_cases a:i=0
 ·rw[if_pos a,if_pos a]
 ·rw[if_neg a,if_neg a,if_pos (by omega),if_pos (by omega)]
section
variable {bu:Bool} {s:SliceV} {q q':Nat→List Pr} {kk kk':Nat→Option Addr} {i:Nat}
theorem KT(h:2≤i)(a:i<34):dF bu s q kk i=.int .i64 (IU (q (i-2))):=by
 unfold dF;rw[if_neg (by omega),if_neg (by omega),if_pos a]
theorem Hd(h:34≤i)(a:i<98)(e:i%2=0):dF bu s q kk i=.string (y6 (fX (q ((i-34)/2)))).1:=by
 unfold dF;rw[if_neg (by omega),if_neg (by omega),if_neg (by omega),if_pos a,if_pos e]
theorem Hb(h:34≤i)(a:i<98)(e:¬i%2=0):dF bu s q kk i=.string (y6 (fX (q ((i-34)/2)))).2:=by
 unfold dF;rw[if_neg (by omega),if_neg (by omega),if_neg (by omega),if_pos a,if_neg e]
theorem Hc(h:98≤i):dF bu s q kk i=.pointer (kk (i-98)):=by
 unfold dF;rw[if_neg (by omega),if_neg (by omega),if_neg (by omega),if_neg (by omega)]
theorem KS{c:Nat}(hc:c<32)(b:∀j,j≠c→q' j=q j)(d:∀j,j≠c→kk' j=kk j)(i:Nat):
  dF bu s q' kk' i=if i=2+c then .int .i64 (IU (q' c))else if i=34+c*2 then .string (y6 (fX (q' c))).1 else if i=34+c*2+1 then .string (y6 (fX (q' c))).2 else if i=98+c then .pointer (kk' c)else dF bu s q kk i:=by
 rcases(show i<2∨(2≤i∧i<34)∨(34≤i∧i<98)∨98≤i by omega)with h|h|h|h
 ·rw[if_neg (by omega),if_neg (by omega),if_neg (by omega),if_neg (by omega)];exact R9 h
 ·by_cases e:i=2+c
  ·rw[if_pos e,KT h.1 h.2,show i-2=c by omega]
  ·rw[if_neg e,if_neg (by omega),if_neg (by omega),if_neg (by omega),KT h.1 h.2,KT h.1 h.2,b _ (by omega)]
 ·rw[if_neg (show ¬i=2+c by omega)]
  by_cases e:(i-34)/2=c
  ·by_cases a:i%2=0
   ·rw[if_pos (by omega),Hd h.1 h.2 a,e]
   ·rw[if_neg (by omega),if_pos (by omega),Hb h.1 h.2 a,e]
  ·rw[if_neg (by omega),if_neg (by omega),if_neg (by omega)]
   by_cases a:i%2=0
   ·rw[Hd h.1 h.2 a,Hd h.1 h.2 a,b _ e]
   ·rw[Hb h.1 h.2 a,Hb h.1 h.2 a,b _ e]
 ·rw[if_neg (by omega),if_neg (by omega),if_neg (by omega)]
  by_cases e:i=98+c
  ·rw[if_pos e,Hc h,show i-98=c by omega]
  ·rw[if_neg e,Hc h,Hc h,d _ (by omega)]
end
theorem N4{h:ad}{b i:Nat}{f:Nat→Value}{t:TypeId}{v:Value}{k:ad→Prop}(d:h[b]? =some (.cells (dC f).toArray t (0,0))) (hi:i<130) (e:∀a,a[b]? =some (.cells (dC fun j=>if j=i then v else f j).toArray t (0,0))→Upd (· =b) h a→k a):
  Wr h ⟨b,i,none⟩∧At (hset h ⟨b,i,none⟩ v) k:=
 ⟨gS d (by rw[KU];exact hi),sP d fun a c g=>e a (Q1▸c) g⟩
theorem RZ{h:ad}{b i:Nat}{f:Nat→Value}{t:TypeId}{v w:Value}{k:ad→Prop}(m:h[b]? =some (.cells (dC f).toArray t (0,0))) (hi:i+1<130)
  (n:∀h',h'[b]? =some (.cells (dC fun j=>if j=i+1 then w else if j=i then v else f j).toArray t (0,0))→Upd (· =b) h h'→k h'):rK h (some ⟨b,i,none⟩) 0 [v,w]∧At (gD h ⟨b,i,none⟩ 0 [v,w]) k:=by
 refine⟨.inr ⟨_,rfl,fun j p=>by rw[bF];exact gS m (by rw[KU];simp at p;omega)⟩,bL ?_⟩
 simp only[gD,bF,Nat.add_zero,aB];exact(N4 (k:=fun g=>k (hset g ⟨b,i+1,none⟩ w)) m (by omega) fun g c a=>(N4 (k:=k) c hi fun o e d=>n o e (a.tr d)).2).2
set_option maxRecDepth 4000 in
theorem Qx{x:Hs}:∀(m:Nat),m≤13→∀{W:Nat→Prop} {h:ad} {s sh:SliceV} {l:List Pr},Sl gC 2 W h s l→(∀y,W y→y<h.size)→Sl (Rm x) 1 No h sh l→l.length≤60000→∀{K:Option Addr→ad→Prop},(∀o b,DTrie W x o m b l→Upd No h o→K (some ⟨b,0,none⟩) o)→
  HC PG xL [.slice s.a s.len s.cap,.slice sh.a sh.len sh.cap,.int .i64 ((13-m:Nat):Int)] [.c .ptr] K h:=by
 intro m;induction m with
 |zero=>
  intro _ W h s sh l hs hW Z hn K hk;refine Ht s sh ((13-0:Nat):Int) ?_;unfold CF cT dz az nv mC jO cL HW bI Lc lr;refine ax.2 (aQ fun f b1 k1=>?_)
  refine hk f h.size ⟨fun u=>by have:=hW _ u;omega,s,?_,hs.upd k1 fun _ h=>h.elim⟩ k1
  rw[b1];exact congrArg some (congrArg (fun c=>Obj.cells c gt (0,0)) (by kernel_rfl))
 |succ m ih=>
  intro hm W h s sh l hs hW Z hn K hk;have nwh:¬W h.size:=fun u=>by have:=hW _ u;omega
  refine Ht s sh ((13-(m+1):Nat):Int) ?_;unfold CF cT dz az nv mC jO cL HW bI Lc lr;have e13:(((13-(m+1):Nat):Int)==(13:Int))=false:=by rw[beq_eq_false_iff_ne];omega
  rw[e13];refine aj.2 (aQ fun f b1 k1=>?_)
  have b1':f[h.size]? =some (.cells (dC (dF false ⟨none,0,0⟩ (vX x (12-m) l 0) fun _=>none)).toArray gt (0,0)):=by
   have:vX x (12-m) l 0=fun _=> []:=by funext c;exact if_neg (by omega)
   rw[b1,this];exact congrArg some (congrArg (fun c=>Obj.cells c gt (0,0)) (by kernel_rfl))
  clear b1;have elev:(13-(m+1):Nat)=12-m:=by omega
  rw[elev];refine LoopP.ghost (fun(g:Nat×(Nat→Option Addr)) (t:Int) o=>t=(g.1:Int)∧g.1≤32∧DOf W x (12-m) m h o l g.1 g.2) (fun g=>32-g.1) (0,fun _=>none) ⟨rfl,by omega,b1',k1,fun c hc=>absurd hc (gz _)⟩ ?_
  rintro I ⟨c,kk⟩ t hc ⟨rfl,hc32,H⟩ hI;simp only at hc32 H;have s1:=H.upd.size;have zc:=aD H.blk;refine aH (fun F=>?_) fun hge=>?_
  ·have F:c<32:=by have:(c:Int)<32:=F;omega
   refine Join.intro (fun(_:Unit) o=>∃kk',DOf W x (12-m) m h o l (c+1) kk') (fun R hR=>?_) ?_
   ·
    refine LoopP.ghost (fun(i:Nat) (t:SliceV×SliceV×Int) o=>t.2.2=(i:Int)∧i≤l.length∧TwoS x hc.size o.size o t.1 t.2.1 (part x (12-m) c (l.take i)) (part x (12-m) c (l.take i))∧Upd No hc o) (fun i=>l.length-i) 0 ⟨rfl,aV _,⟨No,No,OwnS.nil hJ,OwnS.nil (NB x),fun _ h=>h.elim,fun _ h=>h.elim⟩,Upd.refl _ _⟩ ?_
    rintro I2 i ⟨so,ss,ti⟩ hi ⟨e1,hil,hT,hu⟩ hI2;simp only at e1 hT;subst e1;have hlen:=hs.len;have hlen2:=Z.len;have s2:=hu.size;have hsi:=(hs.upd H.upd fun _ h=>h.elim).upd hu fun _ h=>h.elim
    have hshi:=(Z.upd H.upd fun _ h=>h.elim).upd hu fun _ h=>h.elim
    refine aH (fun d=>?_) fun hge2=>?_
    ·have d:i<l.length:=by have:(i:Int)<(s.len:Int):=d;omega
     have hpl:(part x (12-m) c (l.take i)).length≤60000:=by
      have:=jA (x:=x) (lev:=12-m) (c:=c) (l:=l.take i);rw[aG]at this;omega
     have T:part x (12-m) c (l.take (i+1))=if ck x (12-m) l[i].1=c then part x (12-m) c (l.take i)++ [l[i]]else part x (12-m) c (l.take i):=by rw[bC d,LL]
     refine Join.intro (fun(t:SliceV×SliceV) o=>TwoS x hc.size o.size o t.1 t.2 (part x (12-m) c (l.take (i+1))) (part x (12-m) c (l.take (i+1)))∧Upd No hc o) (fun R2 C=>?_) ?_
     ·obtain⟨a,ha,_,hv⟩:=hsi.at (ag d)
      refine⟨⟨by simp only;omega,by simp only;omega⟩,a,ha,_,hv 0 _ rfl,_,hv 1 _ rfl,vC (p:=l[i]) fun G b3 k3=>?_⟩
      obtain⟨a',ha',_,V⟩:=(hshi.upd k3 fun _ h=>h.elim).at0 (ag d)
      refine⟨⟨by simp only;omega,by simp only;omega⟩,a',ha',_,V,RM (lev:=12-m) (by omega) ?_⟩
      have hT3:=hT.upd0 k3;have s3:=k3.size;refine CondP.intro (fun e=>?_) fun e=>?_
      ·have e:ck x (12-m) l[i].1=c:=by
        have:((ck x (12-m) l[i].1:Nat):Int)=(c:Int):=by simpa using e
        omega
       rw[if_pos e]at T;rw[T]at C;have uu:∀{o:ad},Upd (fun b=>hc.size≤b) G o→Upd No hc o:=fun k=>(hu.tr k3).trans k fun y u=>.inr u
       have hab:a'.block<h.size:=Z.lt (fun e=>by rw[e]at d;simp at d) ha'
       have sD:=H.upd.size;have wide:∀{n:Nat} {f v:ad},hc.size≤f.size→Upd (fun b=>(hc.size≤b∧b<n)∨f.size≤b) f v→Upd (fun b=>hc.size≤b) f v:=fun hz k=>k.mono fun y u=>.inl (u.elim (fun h=>h.1) fun h=>by omega)
       refine⟨_,vc b3 0,_,vc b3 1,⟨by simp only;omega,by simp only;omega⟩,a',ha',_,V,?_,?_⟩
       ·refine aQ fun U S z=>⟨z.cell0 V,?_,?_⟩
        ·have s4:=z.size
         refine⟨_,jj S,Rc (p:=l[i]) (hT3.upd0 z) (by omega) (by omega) (by omega) rfl fun s5 h5 M L=>⟨L.cell (z.cell0 V) (by rw[ve];omega),aQ fun h6 b6 D=>?_⟩⟩
         have s5':=L.size;have s6:=D.size;refine⟨_,jj b6,appB (p:=l[i]) (M.upd0 D) (by omega) (by omega) (by omega) rfl fun s7 h7 N k7=>?_⟩
         exact C _ _ ⟨N,uu (((z.wide.tr (wide (by omega) L)).tr D.wide).tr (wide (by omega) k7))⟩
        ·refine aQ fun h6 b6 D=>?_
         have s4:=z.size;have s6:=D.size;have z6:=aD b6;refine⟨_,jj (D.get0 S),Rc (p:=l[i]) ((hT3.upd0 z).upd0 D) (by omega) (by omega) (by omega) rfl fun s5 h5 M L=>?_⟩
         have s5':=L.size;refine⟨_,jj (L.get b6 (by omega)),appB (p:=l[i]) M (by omega) (by omega) (by omega) rfl fun s7 h7 N k7=>?_⟩
         exact C _ _ ⟨N,uu (((z.wide.tr D.wide).tr (wide (by omega) L)).tr (wide (by omega) k7))⟩
       ·refine aQ fun U S z=>⟨⟨vc (z.get0 b3) 0,vc (z.get0 b3) 1⟩,aQ fun h6 b6 D=>?_⟩
        have s4:=z.size;have s6:=D.size;have z4:=aD S;refine⟨_,jj b6,Rc (p:=l[i]) ((hT3.upd0 z).upd0 D) (by omega) (by omega) (by omega) rfl fun s5 h5 M L=>?_⟩
        have s5':=L.size;refine⟨_,jj (L.get (D.get0 S) (by omega)),appB (p:=l[i]) M (by omega) (by omega) (by omega) rfl fun s7 h7 N k7=>?_⟩
        exact C _ _ ⟨N,uu (((z.wide.tr D.wide).tr (wide (by omega) L)).tr (wide (by omega) k7))⟩
      ·have e:¬ck x (12-m) l[i].1=c:=fun e'=>by
        have:¬((ck x (12-m) l[i].1:Nat):Int)=(c:Int):=by simpa using e
        omega
       rw[if_neg e]at T;rw[T]at C;obtain⟨A,B,w,Q,P,q4⟩:=hT3;exact C _ _ ⟨⟨A,B,w,Q,fun b hb=>⟨(P b hb).1,by have:=(P b hb).2.1;omega,(P b hb).2.2⟩,fun b hb=>⟨(q4 b hb).1,by have:=(q4 b hb).2;omega⟩⟩,hu.tr k3⟩
     ·rintro⟨so',ss'⟩ o ⟨hT',hu'⟩
      simp only;rw[ci d (by omega)];exact hI2 (i+1) _ _ ⟨rfl,d,hT',hu'⟩ (by omega)
    ·have hil':i=l.length:=by have:¬(i:Int)<(s.len:Int):=hge2;omega
     subst hil';rw[bN]at hT;have hDi:h.size<hi.size:=by omega
     have hbi:=hu.get0 H.blk;have hki:∀c',c'<c→2≤(part x (12-m) c' l).length→∃J,kk c'=some ⟨J,0,none⟩∧DTrie (fun y=>W y∨y=h.size) x hi m J (part x (12-m) c' l):=fun c' f v=>let⟨J,G,U⟩:=H.kid c' f v;⟨J,G,DTrie.upd hu (fun _ h=>h.elim) U⟩
     obtain⟨A,B,hA,hB,hA',hB'⟩:=hT;have Y:Sl gC 2 (fun y=>W y∨y=h.size) hi so (part x (12-m) c l):=hA.sl fun y u _ hw=>by
      have:=(hA' y u).1;rcases hw with hw|hw
      ·have:=hW y hw;omega
      ·omega
     have hsB:Sl (Rm x) 1 No hi ss (part x (12-m) c l):=hB.sl fun _ _ _ h=>h
     have hq:=Y.len;have hpl:(part x (12-m) c l).length≤l.length:=jA;have hU:=H.upd.tr hu;refine Join.plain ?_;refine CondP.intro (fun e=>?_) fun e=>?_
     ·
      have e:so.len=1:=by
       have:((so.len:Nat):Int)=1:=by simpa using e
       omega
      have hone:(part x (12-m) c l).length=1:=by omega
      obtain⟨p,hp⟩:=List.length_eq_one_iff.1 hone;rw[hp]at Y;obtain⟨a,ha,_,hv⟩:=Y.at (i:=0) (x:=p) rfl;refine⟨⟨by decide,by simp only;omega⟩,a,ha,_,hv 0 _ rfl,_,hv 1 _ rfl,_,rfl,⟨by omega,by omega⟩,_,rfl,?_⟩
      have ew:((c:Int).toNat*1)=c:=by omega
      have ew2:((c:Int).toNat*2)=c*2:=by omega
      simp only[ew,ew2,fy h,bF,aB];refine N4 hbi (by omega) fun G b3 u3=>⟨⟨by omega,by omega⟩,RZ b3 (by omega) fun U S u4=>aH (fun hl=>by omega) fun _=>?_⟩
      have E:Upd (· =h.size) hi U:=u3.tr u4
      refine hR _ _ ⟨kk,?_,hU.own E (al _),fun c' f v=>?_⟩
      ·rw[S]
       refine congrArg some (congrArg (fun c=>Obj.cells c gt (0,0)) (Fv fun j O=>?_))
       rw[KS (q:=vX x (12-m) l c) (q':=vX x (12-m) l (c+1)) (kk:=kk) F (fun j O=>EJ O) (fun _ _=>rfl),EK,hp]
       have e1:IU [p]=1:=rfl;have e2:y6 (fX [p])=p:=rfl;rw[e1,e2];by_cases w:j=2+c
       ·rw[if_neg (by omega),if_neg (by omega),if_pos w,if_pos w]
       ·by_cases Q:j=34+c*2
        ·rw[if_neg (by omega),if_pos Q,if_neg w,if_pos Q]
        ·by_cases P:j=34+c*2+1
         ·rw[if_pos P,if_neg w,if_neg Q,if_pos P]
         ·rw[if_neg P,if_neg Q,if_neg w,if_neg w,if_neg Q,if_neg P]
          by_cases q4:j=98+c
          ·rw[if_pos q4,Hc (by omega),show j-98=c by omega]
          ·rw[if_neg q4]
      ·rcases bD c' c with hh|hh
       ·obtain⟨J,h3',h4'⟩:=hki c' hh v
        exact⟨J,h3',DTrie.upd E (fun y u=>.inl (.inr u)) h4'⟩
       ·rw[show c'=c by omega,hone]at v;omega
     ·have e:¬so.len=1:=fun e'=>by
       have:¬((so.len:Nat):Int)=1:=by simpa using e
       omega
      refine aH (fun X=>?_) fun hle=>?_
      ·
       have X:2≤(part x (12-m) c l).length:=by have:(so.len:Int)>1:=X;omega
       refine⟨_,rfl,_,rfl,?_⟩;have e14:IntKind.wrap .i64 (((12-m:Nat):Int)+1)=((13-m:Nat):Int):=by rw[nq (by omega)];omega
       rw[e14];refine ih (by omega) Y (fun y u=>u.elim (fun u=>by have:=hW y u;omega) fun u=>by omega) hsB (by omega) fun v J tk k2=>⟨⟨by omega,by omega⟩,?_⟩
       have ew:((c:Int).toNat*1)=c:=by omega
       simp only[ew,fy h,bF,aB];refine N4 (k2.get0 hbi) (by omega) fun G b3 u3=>⟨⟨by omega,by omega⟩,N4 b3 (by omega) fun U S u4=>?_⟩
       have E:Upd (· =h.size) v U:=u3.tr u4
       refine hR _ _ ⟨fun j=>if j=c then some ⟨J,0,none⟩else kk j,?_,(hU.tr k2).own E (al _),fun c' f v=>?_⟩
       ·rw[S]
        refine congrArg some (congrArg (fun c=>Obj.cells c gt (0,0)) (Fv fun j O=>?_))
        rw[KS (q:=vX x (12-m) l c) (q':=vX x (12-m) l (c+1)) (kk:=kk) F (fun j O=>EJ O) (fun _ O=>if_neg O),EK]
        have e1:IU (part x (12-m) c l)=2:=by unfold IU;rw[if_neg (by omega),if_pos X]
        have e2:fX (part x (12-m) c l)=none:=by
         match part x (12-m) c l,X with
         |a::b::r,_=>rfl
        rw[e1,e2,if_pos rfl];by_cases w:j=2+c
        ·rw[if_neg (by omega),if_pos w,if_pos w]
        ·by_cases q4:j=98+c
         ·rw[if_pos q4,if_neg w,if_neg (by omega),if_neg (by omega),if_pos q4]
         ·rw[if_neg q4,if_neg w,if_neg w]
          by_cases Q:j=34+c*2
          ·rw[if_pos Q,Hd (by omega) (by omega) (by omega),show(j-34)/2=c by omega,EI];rfl
          ·rw[if_neg Q]
           by_cases P:j=34+c*2+1
           ·rw[if_pos P,Hb (by omega) (by omega) (by omega),show(j-34)/2=c by omega,EI];rfl
           ·rw[if_neg P,if_neg q4]
       ·rcases bD c' c with hh|hh
        ·obtain⟨kb',h3',h4'⟩:=hki c' hh v
         exact⟨kb',by rw[if_neg (by omega)];exact h3',DTrie.upd E (fun y u=>.inl (.inr u)) (DTrie.upd k2 (fun _ h=>h.elim) h4')⟩
        ·obtain rfl:c'=c:=by omega
         exact⟨J,if_pos rfl,DTrie.upd E (fun y u=>.inl (.inr u)) tk⟩
      ·
       have hnil:part x (12-m) c l= []:=List.length_eq_zero_iff.1 (by have:¬(so.len:Int)>1:=hle;omega);refine hR _ _ ⟨kk,?_,hU,fun c' f v=>?_⟩
       ·rw[hbi]
        refine congrArg some (congrArg (fun c=>Obj.cells c gt (0,0)) (Fv fun j O=>?_))
        have:vX x (12-m) l (c+1)=vX x (12-m) l c:=by
         funext j;by_cases O:j=c
         ·rw[O,EK,EI,hnil]
         ·exact EJ O
        rw[this]
       ·rcases bD c' c with hh|hh
        ·exact hki c' hh v
        ·rw[show c'=c by omega,hnil]at v;simp at v
   ·rintro _ o ⟨kk',hD'⟩
    rw[ci F (by omega)];exact hI (c+1,kk') _ _ ⟨rfl,F,hD'⟩ (by simp only;omega)
  ·obtain rfl:c=32:=by have:¬(c:Int)<32:=hge;omega
   refine hk hc h.size ⟨nwh,kk,?_,fun c hc hp=>let⟨J,G,U⟩:=H.kid c hc hp;⟨J,G,DTrie.less (fun _ h=>.inl h) U⟩⟩ H.upd
   rw[H.blk];refine congrArg some (congrArg (fun c=>Obj.cells c gt (0,0)) (Fv fun i hi=>?_))
   have:∀c,c<32→vX x (12-m) l 32 c=part x (12-m) c l:=fun c hc=>if_pos hc
   unfold dF;by_cases h0:i<34
   ·by_cases f:i=0
    ·rw[if_pos f,if_pos f]
    ·by_cases v:i=1
     ·rw[if_neg f,if_neg f,if_pos v,if_pos v]
     ·rw[if_neg f,if_neg f,if_neg v,if_neg v,if_pos h0,if_pos h0,this _ (by omega)]
   ·rw[if_neg (show ¬i=0 by omega),if_neg (show ¬i=0 by omega),if_neg (show ¬i=1 by omega),if_neg (show ¬i=1 by omega),if_neg h0,if_neg h0]
    by_cases G:i<98
    ·rw[if_pos G,if_pos G,this _ (by omega)]
    ·rw[if_neg G,if_neg G]
end Go.Proofs
namespace Go.Proofs
open Go Go.Lift
theorem Nd{x:Hs}{h:ad}{s:SliceV}{l:List Pr}(w:Sl gC 2 No h s l)(E:l.length≤60000)(o:∀p∈l,p.1.size≤1000000){K:Option Addr→ad→Prop}(G:∀d b,DTrie No x d 13 b l→Upd No h d→K (some ⟨b,0,none⟩) d):
  HC PG B9 [.agg #[.int .u64 x.k0,.int .u64 x.k1,.int .u64 x.mask],.slice s.a s.len s.cap,.int .i64 0] [.c .ptr] K h:=by
 refine OB (x.k0,x.k1,x.mask) s 0 ?_;unfold HA dz af az nv y2 uI mC jO bI Lc;refine aQ fun n b1 k1=>?_
 have z:=w.len;refine LoopP.ghost (fun(i:Nat) (t:SliceV×Int) d=>t.2=(i:Int)∧i≤l.length∧OwnS (Rm x) 1 mF (fun b=>n.size≤b) d t.1 (l.take i)∧Upd No n d) (fun i=>l.length-i) 0 ⟨rfl,aV _,OwnS.nil (NB x),Upd.refl _ _⟩ ?_
 rintro I i ⟨P,ti⟩ d ⟨v,hi,g,j⟩ F;simp only at v g;subst v;have f:=(w.upd k1 fun _ h=>h.elim).upd j fun _ h=>h.elim
 refine aH (fun c=>?_) fun u=>?_
 ·have c:i<l.length:=by have:(i:Int)<(s.len:Int):=c;omega
  refine Join.plain ?_;obtain⟨a,L,_,hv⟩:=f.at (ag c);refine⟨⟨by simp only;omega,by simp only;omega⟩,a,L,_,hv 0 _ rfl,_,hv 1 _ rfl,vC (p:=l[i]) fun D b2 e=>?_⟩
  have c1:=e.get0 (j.get0 b1);refine⟨_,vc c1 0,_,vc c1 1,_,vc c1 2,_,vc b2 0,Nf (by have:=o _ (aP c);omega) fun S A=>aQ fun Q N B=>⟨_,jj N,?_⟩⟩
  have C:=((j.tr e).tr A).tr B;refine AppP.own (M:=fun b=>n.size≤b) (ys:= [l[i]]) (((g.upd e fun _ _ h=>h).upd A fun _ _ h=>h).upd B fun _ _ h=>h) rfl rfl rfl rfl (by omega) (by simp only[aO,aG];omega) C.size fun O R m q=>?_
  simp only;rw[ci c (by omega)];refine F (i+1) _ _ ⟨rfl,c,?_,C.trans q fun y H=>.inr H⟩ (by omega)
  rw[bC c];exact m
 ·have k:i=l.length:=by have:¬(i:Int)<(s.len:Int):=u;omega
  subst k;rw[bN]at g;exact Qx 13 (al _) f (fun _ h=>h.elim) (g.sl fun _ _ _ h=>h) E fun D b J e=>G D b J ((k1.tr j).tr e)
theorem Dz(n:Nat):IntKind.wrap .u8 (n:Int)=((UInt8.ofNat n).toNat:Int):=by rw[IntKind.wrap_u8];simp
theorem AR{n:Nat}(e:n≤1000000000){h:ad}{K:SliceV→ad→Prop}(d:∀s' h',OwnS mE 1 bX (fun y=>h.size≤y) h' s' (km n 2)→Upd No h h'→K s' h'):HC PG pF [.int .i64 (n:Int)] [.c .slice] K h:=by
 refine Mj (n:Int) ?_;unfold Ew Rh;have b:kF (n:Int) 256=((n>>>(8*1):Nat):Int):=by rw[eg (by omega),bZ];rfl
 have a:n>>>(8*1)≤n:=gr ..;rw[b,nq (by generalize n>>>(8*1)=y at a;omega),Dz,Dz];refine⟨by decide,aQ fun c b1 k1=>d _ c ⟨rfl,pU,al _,.inr ⟨h.size,[],rfl,al _,b1,rfl⟩⟩ k1⟩
theorem GA{n:Nat}(f:n<4294967296){h:ad}{K:SliceV→ad→Prop}(e:∀s' h',OwnS mE 1 bX (fun y=>h.size≤y) h' s' (km n 4)→Upd No h h'→K s' h'):HC PG sK [.int .u32 (n:Int)] [.c .slice] K h:=by
 refine JG (n:Int) ?_;unfold CE Rw;have q:∀k:Nat,((n>>>k:Nat):Int)<4294967296:=fun k=>by have:n>>>k≤n:=gr ..;generalize n>>>k=y at this;omega
 have c:kF (n:Int) 256=((n>>>(8*1):Nat):Int):=by rw[eg (by omega),bZ];rfl
 have a:kF (n:Int) 65536=((n>>>(8*2):Nat):Int):=by rw[eg (by omega),bZ];rfl
 have b:kF (n:Int) 16777216=((n>>>(8*3):Nat):Int):=by rw[eg (by omega),bZ];rfl
 have w:∀k:Nat,IntKind.wrap .u32 ((n>>>k:Nat):Int)=((n>>>k:Nat):Int):=fun k=>by have:=q k;generalize n>>>k=y at this;rw[IntKind.wrap_u32];omega
 rw[c,a,b,w,w,w,Dz,Dz,Dz,Dz];refine⟨by decide,by decide,by decide,aQ fun d b1 k1=>e _ d ⟨rfl,pU,al _,.inr ⟨h.size,[],rfl,al _,b1,rfl⟩⟩ k1⟩
theorem ux{M W:Nat→Prop}{h:ad}{a e:SliceV}{out ys:List UInt8}{K:SliceV→ad→Prop}(d:OwnS mE 1 bX M h a out)(c:Sl mE 1 W h e ys)(hM:∀b,h.size≤b→M b)(g:out.length+ys.length≤140737488355328)
  (f:∀s' h',OwnS mE 1 bX M h' s' (out++ys)→Upd M h h'→K s' h'):∃xs,SRow h e.a (e.len*1) xs∧AppP (some [.int .u8 0]) 1 1 bX a.a a.len a.cap e.len xs h K:=
 ⟨_,c.srow,AppP.own (ys:=ys) d c.len rfl (xw _) rfl (by omega) (by omega) (hM _ (al _)) f⟩
theorem xu{b:ByteArray}(t:b.size≤1000000){h:ad}{K:SliceV→ad→Prop}(k:∀s' h',OwnS mE 1 bX (fun y=>h.size≤y) h' s' (lH b)→Upd No h h'→K s' h'):HC PG nK [.string b] [.c .slice] K h:=by
 refine JE b ?_;unfold CB;refine AR (by omega) fun s a f k1=>?_
 intro c hc;have d:=Upd.push No a (.cells (cX b++eY (c-b.size) (Value.int .u8 0)).toArray bX (c,c+1));have b2:=BJ a (.cells (cX b++eY (c-b.size) (Value.int .u8 0)).toArray bX (c,c+1));generalize a.push (.cells (cX b++eY (c-b.size) (Value.int .u8 0)).toArray bX (c,c+1))=h2 at d b2;have u:b.data.toList.length=b.size:=by simp
 have e:Sl mE 1 No h2 ⟨some (aA a),b.size,c⟩ b.data.toList:=by
  refine⟨by simp,pU,fun _=>⟨_,rfl,id,mH b2 fun i v hv=>?_⟩⟩
  rw[aB,eT,uw,List.getElem?_append_left (List.getElem?_eq_some_iff.1 hv).1];exact hv
 have p:=k1.size;have q:=d.size;refine ux (f.upd d fun _ _ h=>h) e (fun y j=>by show h.size≤y;omega) (by rw[cQ];omega) fun n m g o=>k n m g ((k1.tr d).trans o fun y j=>.inr j)
theorem yW{W:Nat→Prop}{h:ad}{s:SliceV}{l:List Pr}(C:Sl gC 2 W h s l)(E:Fit l)(X:l.length≤60000){K:SliceV→ad→Prop}(N:∀s' e,OwnS mE 1 bX (fun y=>h.size≤y) e s' (iM l)→Upd No h e→K s' e):
  HC PG oA [.slice s.a s.len s.cap] [.c .slice] K h:=by
 refine Hq s ?_;unfold As dz az nv mC jO bI;have D:=C.len;refine LoopP.ghost (fun(i:Nat) (t:SliceV×Int) e=>t.2=(i:Int)∧i≤l.length∧OwnS mE 1 bX (fun b=>h.size≤b) e t.1 (iM (l.take i))∧Upd No h e) (fun i=>l.length-i) 0 ⟨rfl,aV _,OwnS.nil pU,Upd.refl _ _⟩ ?_
 rintro I i ⟨so,ti⟩ e ⟨B,hi,g,j⟩ L;simp only at B g;subst B;refine aH (fun c=>?_) fun u=>?_
 ·have c:i<l.length:=by have:(i:Int)<(s.len:Int):=c;omega
  refine Join.plain ?_;obtain⟨a,Q,_,hv⟩:=(C.upd j fun _ h=>h.elim).at (ag c)
  have J:=E l[i] (aP c);have w:=kg (l:=l.take i) fun q O=>E q (List.mem_of_mem_take O)
  rw[aG,Nat.min_eq_left hi]at w;have Z:=gN l[i].1;have S:=gN l[i].2;refine⟨⟨by simp only;omega,by simp only;omega⟩,a,Q,_,hv 0 _ rfl,_,hv 1 _ rfl,vC (p:=l[i]) fun S b2 m=>?_⟩
  refine⟨_,vc b2 0,_,vc b2 1,xu (by omega) fun s3 h3 A f=>⟨vc (f.get0 b2) 1,?_⟩⟩
  have G:=(j.tr m).tr f;have V:=aD b2;have R:=m.size;have H:=f.size;have s0:=j.size;refine ux (M:=fun y=>h.size≤y∧y≠e.size) (((g.within.upd m fun _ _ h=>h).upd f fun _ _ h=>h).more fun y d=>⟨d.1,by omega⟩) (A.sl (W:=No) fun _ _ _ h=>h) (fun y d=>by omega) (by omega) fun s4 h4 x z=>⟨vc (z.get (f.get0 b2) (by omega)) 1,?_⟩
  have T:=z.size;refine xu (by omega) fun U h5 n v=>?_
  have P:=v.size;refine ux (M:=fun y=>h.size≤y) ((x.upd v fun _ _ h=>h).more fun y d=>d.1) (n.sl (W:=No) fun _ _ _ h=>h) (fun y d=>by show h.size≤y;omega) (by rw[ae];omega) fun s6 Y o F=>?_
  simp only;rw[ci c (by omega)];refine L (i+1) _ _ ⟨rfl,c,?_,(((G.trans z fun y d=>.inr d.1)).tr v).trans F fun y d=>.inr d⟩ (by omega)
  rw[zW c,zX,←ao];exact o
 ·have k:i=l.length:=by have:¬(i:Int)<(s.len:Int):=u;omega
  subst k;rw[bN]at g;exact N _ _ g j
theorem LB{W W':Nat→Prop}{h:ad}{s s':SliceV}{l:List UInt8}(f:Sl mE 1 W h s l)(c:Sl mE 1 W' h s' l)(p:l.length≤1000000000000){K:Bool→ad→Prop}(k:K true h):HC PG wB [.slice s.a s.len s.cap,.slice s'.a s'.len s'.cap] [.c .bool] K h:=by
 refine JF s s' ?_;unfold CC cT dz;have j:=f.len;have n:=c.len;rw[j,n,bne_self_eq_false];refine aj.2 ?_;refine LoopP.ghost (fun(i:Nat) (t:Int) g=>t=(i:Int)∧i≤l.length∧g=h) (fun i=>l.length-i) 0 ⟨rfl,aV _,rfl⟩ ?_
 rintro I i t g ⟨rfl,hi,rfl⟩ o;refine aH (fun b=>?_) fun _=>k
 have b:i<l.length:=by omega
 obtain⟨a,m,_,hv⟩:=f.at0 (ag b);obtain⟨a',e,_,d⟩:=c.at0 (ag b);refine⟨⟨by omega,by omega⟩,a,m,_,hv,⟨by omega,by omega⟩,a',e,_,d,?_⟩
 rw[bne_self_eq_false];refine aj.2 ?_;rw[ci b (by omega)];exact o (i+1) _ _ ⟨rfl,b,rfl⟩ (by omega)
end Go.Proofs
namespace Go.Proofs
open Go Go.Lift
abbrev SL(lab:ByteArray)(has:Bool)(val:ByteArray)(s:SliceV)(_:Option Addr):Array Value:= #[.string lab,.bool has,.string val,sv s]
def DxF(W:Nat→Prop)(h:ad):Fo→List (Option Addr)→Prop
 | .nil,ks=>ks= []
 | .cons lab w kids rest,ks=>∃b sl val s ow ks1 ks',ks=some ⟨b,0,none⟩::ks'∧sl.data.toList=lab∧h[b]? =some (.cells (SL sl w.isSome val s ow) l6 (0,0))∧val=w.getD ⟨#[]⟩∧Sl kK 1 W h s ks1∧(s.len≤s.cap∧¬W b)∧DxF W h kids ks1∧DxF W h rest ks'
def DxN(W:Nat→Prop)(h:ad)(b:Nat)(sl:ByteArray)(w:Option ByteArray)(F:Fo):Prop:=∃val s ow ks,h[b]? =some (.cells (SL sl w.isSome val s ow) l6 (0,0))∧val=w.getD ⟨#[]⟩∧Sl kK 1 W h s ks∧(s.len≤s.cap∧¬W b)∧DxF W h F ks
def DKid(W:Nat→Prop)(h:ad)(k:Option Addr)(n:Bn):Prop:=∃b sl,k=some ⟨b,0,none⟩∧sl.data.toList=n.1∧DxN W h b sl n.2.1 n.2.2
def DxL(W:Nat→Prop)(h:ad)(ks:List (Option Addr))(L:List Bn):Prop:=ks.length=L.length∧∀p∈ks.zip L,DKid W h p.1 p.2
theorem xP{W:Nat→Prop}{h:ad}:∀{F:Fo} {ks:List (Option Addr)},DxF W h F ks↔DxL W h ks F.toL
 | .nil,ks=>by
  unfold DxF DxL;simp[Fo.toL]
 | .cons lab w kids rest,ks=>by
  unfold DxF DxL;rw[Fo.toL_cons];constructor
  ·rintro⟨b,sl,val,s,ow,c,d,rfl,i,f,g,m,n,o,u⟩
   obtain⟨q,t⟩:=xP.1 u;refine⟨by simp[q],fun p a=>?_⟩
   rw[g4]at a;rcases ar.1 a with rfl|a
   ·exact⟨b,sl,rfl,i,val,s,ow,c,f,g,m,n,o⟩
   ·exact t p a
  ·cases ks with
   |nil=>rintro⟨e,_⟩;simp at e
   |cons k d=>
    rintro⟨e,a⟩;rw[g4]at a;obtain⟨b,sl,v,i,val,s,ow,c,f,g,m,n,o⟩:=a _ (au ..);refine⟨b,sl,val,s,ow,c,d,by rw[←v],i,f,g,m,n,o,xP.2 ⟨by simpa using e,fun p j=>a p (aM _ j)⟩⟩
theorem DxF.upd0{W:Nat→Prop}{h a:ad}(k:Upd No h a):∀{F:Fo} {ks:List (Option Addr)},DxF W h F ks→DxF W a F ks
 | .nil,_,r=>r
 | .cons _ _ _ _,_,⟨b,sl,val,s,ow,ks1,ks',e0,e1,e2,e3,e4,e5,e6,e7⟩=>⟨b,sl,val,s,ow,ks1,ks',e0,e1,k.get0 e2,e3,e4.upd k fun _ h=>h.elim,e5,DxF.upd0 k e6,DxF.upd0 k e7⟩
theorem DxN.upd0{W:Nat→Prop}{h a:ad}(k:Upd No h a){b:Nat}{sl:ByteArray}{w:Option ByteArray}{F:Fo}:DxN W h b sl w F→DxN W a b sl w F
 |⟨val,s,ow,ks,e2,e3,e4,e5,e6⟩=>⟨val,s,ow,ks,k.get0 e2,e3,e4.upd k fun _ h=>h.elim,e5,DxF.upd0 k e6⟩
theorem DKid.upd0{W:Nat→Prop}{h c:ad}(k:Upd No h c){a:Option Addr}{n:Bn}:DKid W h a n→DKid W c a n
 |⟨b,sl,e1,e2,e3⟩=>⟨b,sl,e1,e2,e3.upd0 k⟩
theorem DxF.less{W W':Nat→Prop}{h:ad}(hm:∀b,W' b→W b∨h.size≤b):∀{F:Fo} {ks:List (Option Addr)},DxF W h F ks→DxF W' h F ks
 | .nil,_,r=>r
 | .cons _ _ _ _,_,⟨b,sl,val,s,ow,ks1,ks',e0,e1,e2,e3,e4,e5,e6,e7⟩=>⟨b,sl,val,s,ow,ks1,ks',e0,e1,e2,e3,e4.less hm,⟨e5.1,fun hx=>(hm _ hx).elim e5.2 fun h=>by have:=aD e2;omega⟩,DxF.less hm e6,DxF.less hm e7⟩
theorem DxN.less{W W':Nat→Prop}{h:ad}(hm:∀b,W' b→W b∨h.size≤b){b:Nat}{sl:ByteArray}{w:Option ByteArray}{F:Fo}:DxN W h b sl w F→DxN W' h b sl w F
 |⟨val,s,ow,ks,e2,e3,e4,e5,e6⟩=>⟨val,s,ow,ks,e2,e3,e4.less hm,⟨e5.1,fun hx=>(hm _ hx).elim e5.2 fun h=>by have:=aD e2;omega⟩,DxF.less hm e6⟩
theorem DxF.updM{W M:Nat→Prop}{h a:ad}(k:Upd M h a)(hm:∀b,M b→W b∨h.size≤b):∀{F:Fo} {ks:List (Option Addr)},DxF W h F ks→DxF W a F ks
 | .nil,_,r=>r
 | .cons _ _ _ _,_,⟨b,sl,val,s,ow,ks1,ks',e0,e1,e2,e3,e4,e5,e6,e7⟩=>⟨b,sl,val,s,ow,ks1,ks',e0,e1,k.get e2 (fun hx=>(hm _ hx).elim e5.2 fun h=>by have:=aD e2;omega),e3,e4.upd k hm,e5,DxF.updM k hm e6,DxF.updM k hm e7⟩
theorem DxN.updM{W M:Nat→Prop}{h a:ad}(k:Upd M h a)(hm:∀b,M b→W b∨h.size≤b){b:Nat}{sl:ByteArray}{w:Option ByteArray}{F:Fo}:DxN W h b sl w F→DxN W a b sl w F
 |⟨val,s,ow,ks,e2,e3,e4,e5,e6⟩=>⟨val,s,ow,ks,k.get e2 (fun hx=>(hm _ hx).elim e5.2 fun h=>by have:=aD e2;omega),e3,e4.upd k hm,e5,DxF.updM k hm e6⟩
theorem DxL.upd0{W:Nat→Prop}{h a:ad}(k:Upd No h a){ks:List (Option Addr)}{L:List Bn}(r:DxL W h ks L):DxL W a ks L:=⟨r.1,fun p b=>(r.2 p b).upd0 k⟩
theorem DxL.app{W:Nat→Prop}{h:ad}{ks b:List (Option Addr)}{L L':List Bn}(r:DxL W h ks L)(c:DxL W h b L'):DxL W h (ks++b) (L++L'):=by
 refine⟨by rw[ae,ae,r.1,c.1],fun p a=>?_⟩
 rw[List.zip_append r.1]at a;rcases List.mem_append.1 a with a|a
 ·exact r.2 p a
 ·exact c.2 p a
theorem DxL.one{W:Nat→Prop}{h:ad}{k:Option Addr}{n:Bn}(c:DKid W h k n):DxL W h [k] [n]:=⟨rfl,fun p a=>by rw[g4,List.zip_nil_left]at a;rw[List.mem_singleton.1 a];exact c⟩
theorem DxL.at{W:Nat→Prop}{h:ad}{ks:List (Option Addr)}{L:List Bn}(r:DxL W h ks L){i:Nat}(hi:i<L.length):∃b sl,ks[i]? =some (some ⟨b,0,none⟩)∧sl.data.toList=L[i].1∧DxN W h b sl L[i].2.1 L[i].2.2:=by
 have d:i<ks.length:=by rw[r.1];exact hi
 have hz:i<(ks.zip L).length:=by rw[List.length_zip];omega
 have:=r.2 _ (aP hz);rw[List.getElem_zip]at this;obtain⟨b,sl,e,a,c⟩:=this;exact⟨b,sl,by rw[ag d];exact congrArg some e,a,c⟩
theorem DKid.less{W W':Nat→Prop}{h:ad}(hm:∀b,W' b→W b∨h.size≤b){a:Option Addr}{n:Bn}:DKid W h a n→DKid W' h a n
 |⟨b,sl,e1,e2,e3⟩=>⟨b,sl,e1,e2,e3.less hm⟩
theorem DKid.updM{W M:Nat→Prop}{h c:ad}(k:Upd M h c)(hm:∀b,M b→W b∨h.size≤b){a:Option Addr}{n:Bn}:DKid W h a n→DKid W c a n
 |⟨b,sl,e1,e2,e3⟩=>⟨b,sl,e1,e2,e3.updM k hm⟩
theorem DxL.less{W W':Nat→Prop}{h:ad}(hm:∀b,W' b→W b∨h.size≤b){ks:List (Option Addr)}{L:List Bn}(r:DxL W h ks L):DxL W' h ks L:=⟨r.1,fun p a=>(r.2 p a).less hm⟩
theorem DxL.updM{W M:Nat→Prop}{h a:ad}(k:Upd M h a)(hm:∀b,M b→W b∨h.size≤b){ks:List (Option Addr)}{L:List Bn}(r:DxL W h ks L):DxL W a ks L:=⟨r.1,fun p c=>(r.2 p c).updM k hm⟩
theorem Is{a b:ByteArray}(z:a.size≤1000000){h:ad}{K:Int→ad→Prop}(s:K (cm a.data.toList b.data.toList:Nat) h):HC PG sJ [.string a,.string b] [.c (.int .i64)] K h:=by
 refine FQ a b ?_;unfold yx;have y:a.data.toList.length=a.size:=by simp
 have A:b.data.toList.length=b.size:=by simp
 refine LoopP.ghost (fun(i:Nat) (t:Int) n=>t=(i:Int)∧i≤min a.size b.size∧n=h∧∀j,j<i→a.data.toList[j]? =b.data.toList[j]?) (fun i=>min a.size b.size-i) 0 ⟨rfl,aV _,rfl,fun j v=>absurd v (gz _)⟩ ?_
 rintro I i t n ⟨rfl,hi,rfl,k⟩ x;refine Join.intro (fun t g=>g=n∧(t=true→i<min a.size b.size∧a.data.toList[i]? =b.data.toList[i]?)∧(t=false→cm a.data.toList b.data.toList=i)) (fun R o=>?_) ?_
 ·refine aH (fun m=>?_) fun m=>o _ _ ⟨rfl,fun h=>(by cases h),fun _=>El (by omega) (by omega) k (by omega)⟩
  refine aH (fun g=>?_) fun g=>o _ _ ⟨rfl,fun h=>(by cases h),fun _=>El (by omega) (by omega) k (by omega)⟩
  have d:i<a.size:=by omega
  have c:i<b.size:=by omega
  have q:a.data.toList[i]? =some a[i]:=by rw[←G1,getElem?_pos a i d]
  have p:b.data.toList[i]? =some b[i]:=by rw[←G1,getElem?_pos b i c]
  refine⟨a[i],by omega,by rw[aE,getElem?_pos a i d],b[i],by omega,by rw[aE,getElem?_pos b i c],o _ _ ⟨rfl,fun h=>⟨by omega,?_⟩,fun h=>?_⟩⟩
  ·have:((a[i].toNat:Int))=(b[i].toNat:Int):=by simpa using h
   rw[q,p,UInt8.toNat_inj.1 (show a[i].toNat=b[i].toNat by omega)]
  ·refine El (by omega) (by omega) k (.inr (.inr fun e=>?_))
   rw[q,p]at e;rw[bm.inj e]at h;simp at h
 ·rintro t g ⟨rfl,m,w⟩
  cases t with
  |true=>
   obtain⟨f,e⟩:=m rfl;refine ax.2 ?_;rw[ci f (by omega)];refine x (i+1) _ _ ⟨rfl,f,rfl,fun j v=>?_⟩ (by omega)
   rcases bD j i with u|u
   ·exact k j u
   ·rw[show j=i by omega];exact e
  |false=>
   refine aj.2 ?_;rw[w rfl]at s;exact s
theorem P9:∀{x y:List UInt8} {t:Nat},t≤x.length→t≤y.length→x.take t=y.take t→t≤cm x y
 |_,_,0,_,_,_=>aV _
 | [],_,t+1,h,_,_=>by simp at h
 |_::_,[],t+1,_,h,_=>by simp at h
 |a::x,b::y,t+1,h1,h2,e=>by
  rw[dq,dq]at e;obtain⟨d,c⟩:=gb.inj e;have:=P9 (x:=x) (y:=y) (t:=t) (by simpa using h1) (by simpa using h2) c;unfold cm;rw[if_pos d];omega
def PV(t:Nat)(p:Pr):Pr:=(p.1.extract t p.1.size,p.2)
theorem D4(t:Nat)(p:Pr):ky (PV t p)=(ky p).drop t:=xO p.1 t
def K5(B:Nat):Prop:=∀{W:Nat→Prop} {h:ad} {s:SliceV} {l:List Pr},Sl gC 2 No h s l→s.len≤s.cap→Beg l []→(∀p∈l,(ky p).length≤B)→l.length≤100000→(∀y,W y→y<h.size)→∀{K:SliceV→ad→Prop},
 (∀h' s' ks L,OwnS kK 1 pm (fun y=>h.size≤y) h' s' ks→DxL W h' ks L→Row L l [] []→Upd No h h'→K s' h')→HC PG pr [.slice s.a s.len s.cap] [.c .slice] K h
def te(to:Nat)(l:List Pr):List Pr:=(l.filter fun p=>decide ((ky p).length≠to)).map (PV to)
theorem Ik{to:Nat}{l:List Pr}{i:Nat}(hi:i<l.length):te to (l.take (i+1))=if(ky l[i]).length=to then te to (l.take i)else te to (l.take i)++ [PV to l[i]]:=by
 unfold te;rw[bC hi,jx,List.map_append,cl,oY];by_cases h:(ky l[i]).length=to
 ·rw[if_pos h,if_neg (by simpa using h)];simp
 ·rw[if_neg h,if_pos (by simpa using h)];rfl
theorem Jq{W:Nat→Prop}{B:Nat}(hB:B≤1000000)(U:∀B',B'<B→K5 B'){h:ad}{s:SliceV}{l r:List Pr}{f g:Pr}(hs:Sl gC 2 No h s l)(bg:Beg l [])(Z:∀p∈l,(ky p).length≤B)(hn:l.length≤100000)(hW:∀y,W y→y<h.size)
  (z:l=f::r)(hg:l.getLast? =some g)(hb:bt 0 f=bt 0 g){K:Option Addr→ad→Prop}
  (hk:∀w a n,DKid W w a n→HK n→hd n.1=bt 0 f→(∀k v,qk n k v↔PS l [] k v)→Upd No h w→K a w):HC PG sI [.slice s.a s.len s.cap] [.c .ptr] K h:=by
 refine FP s ?_;unfold yw dz az nv mC jO cL bI;have hlen:=hs.len;have hl0:0<l.length:=by rw[z];simp
 have hfm:f∈l:=by rw[z];exact au ..
 have hgm:g∈l:=kD hg;obtain⟨a,ha,_,hvf⟩:=hs.at (i:=0) (x:=f) (by rw[z];rfl);obtain⟨q1,q2,q3,q4,q5⟩:=Ep bg ⟨r,z⟩ hg hb;have hbc:= @Jp l (if(ky f).length=cm (ky f) (ky g)then l.drop 1 else l) [] f g bg ⟨r,z⟩ hg hb
 have hcg:cm (ky f) (ky g)=cm (ky f) (ky g):=rfl;obtain⟨to,X⟩:∃to,cm (ky f) (ky g)=to:=⟨_,rfl⟩;rw[X]at q1 q2 q3 q4 hbc;have hszf:f.1.size=(ky f).length:=(IS f.1).symm;have hfB:=Z f hfm;have hle:∀p∈l,to≤(ky p).length:=fun p j=>(q4 p j).elim (fun e=>e▸q2) Nat.le_of_lt
 have hcm:∀p∈l,to≤cm (ky f) (ky p):=fun p j=>P9 q2 (hle p j) (q3 p j).symm
 have hpos:0<to:=by simpa using q1
 refine⟨⟨by decide,by omega⟩,a,ha,_,hvf 0 _ rfl,?_⟩
 refine LoopP.ghost (fun(g:Nat×Nat) (t:Int×Int) w=>t=((g.2:Int),(g.1:Int))∧g.1≤l.length∧to≤g.2∧g.2≤(ky f).length∧(g.1=l.length→g.2=to)∧Upd No h w) (fun g=>l.length-g.1) (0,(ky f).length) ⟨by rw[hszf];rfl,aV _,q2,al _,fun e=>by simp only at e;omega,Upd.refl _ _⟩ ?_
 rintro I ⟨i,n⟩ t w ⟨rfl,hi,hn1,hn2,V,hu⟩ hI;simp only at hi hn1 hn2 V;refine aH (fun b=>?_) fun T=>?_
 ·have b:i<l.length:=by have:(i:Int)<(s.len:Int):=b;omega
  have A:l[i]∈l:=aP b;refine Join.intro (fun t u=>∃n':Nat,t=(n':Int)∧to≤n'∧n'≤(ky f).length∧(i+1=l.length→n'=to)∧Upd No h u) (fun R hR=>?_) ?_
  ·obtain⟨a',Y,_,hv⟩:=(hs.upd hu fun _ h=>h.elim).at (ag b)
   refine⟨⟨by simp only;omega,by simp only;omega⟩,a',Y,_,hv 0 _ rfl,_,hv 1 _ rfl,vC (p:=l[i]) fun u b2 k2=>?_⟩
   obtain⟨a2,ha2,_,hv2⟩:=((hs.upd hu fun _ h=>h.elim).upd k2 fun _ h=>h.elim).at (i:=0) (x:=f) (by rw[z];rfl)
   refine⟨⟨by decide,by omega⟩,a2,ha2,_,hv2 0 _ rfl,_,vc b2 0,Is (by omega) ?_⟩
   have hc1:=hcm _ A;have hc2:=(KZ (ky f) (ky l[i])).1;have E:i+1=l.length→l[i]=g:=fun e=>by
    rw[List.getLast?_eq_getElem?,show l.length-1=i by omega,ag b]at hg
    exact bm.inj hg
   change CondP (decide ((cm (ky f) (ky l[i]):Int)<(n:Int))) _ _;refine aH (fun hc=>hR _ _ ⟨_,rfl,hc1,hc2,fun e=>?_,hu.tr k2⟩) fun hc=>hR _ _ ⟨n,rfl,hn1,hn2,fun e=>?_,hu.tr k2⟩
   ·rw[E e,X]
   ·rw[E e,X]at hc;omega
  ·rintro t u ⟨n',rfl,G,h2',J,m⟩
   simp only;rw[ci b (by omega)];exact hI (i+1,n') _ _ ⟨rfl,b,G,h2',J,m⟩ (by simp only;omega)
 obtain rfl:i=l.length:=by have:¬(i:Int)<(s.len:Int):=T;omega
 obtain rfl:n=to:=V rfl;clear V hI;obtain⟨a',Y,_,hv⟩:=(hs.upd hu fun _ h=>h.elim).at (i:=0) (x:=f) (by rw[z];rfl)
 refine⟨⟨by decide,by omega⟩,a',Y,f.1,hv 0 _ rfl,⟨by omega,by simp only;omega⟩,aQ fun G b1 k1=>?_⟩
 have u1:=hu.tr k1;have z1:=aD b1;have s0:=hu.size;simp only[aE]at b1⊢;have hlab:(f.1.extract 0 n).data.toList=((ky f).take n).drop ([]:List UInt8).length:=by rw[xN];rfl
 refine LoopP.ghost (fun(i:Nat) (t:SliceV×Int) u=>t.2=(i:Int)∧i≤l.length∧u[w.size]? =some (.cells #[.string (f.1.extract 0 n),.bool (if 0<i∧(ky f).length=n then some f.2 else none:Option ByteArray).isSome,.string ((if 0<i∧(ky f).length=n then some f.2 else none:Option ByteArray).getD ⟨#[]⟩),.slice none 0 0] l6 (0,0))∧
  OwnS gC 2 bH (fun y=>G.size≤y) u t.1 (te n (l.take i))∧Upd No h u∧G.size≤u.size) (fun i=>l.length-i) 0 ⟨rfl,aV _,by rw[if_neg (by omega)];exact b1,OwnS.nil hJ,u1,al _⟩ ?_
 rintro I i ⟨so,ti⟩ u ⟨e1,hi2,c2,ho,m,hz2⟩ hI;simp only at e1 ho;subst e1;refine aH (fun b=>?_) fun T=>?_
 ·have b:i<l.length:=by have:(i:Int)<(s.len:Int):=b;omega
  have A:l[i]∈l:=aP b;have N:=Ik (to:=n) b;have hszi:l[i].1.size=(ky l[i]).length:=(IS l[i].1).symm;have hiB:=Z _ A;refine Join.intro (fun t J=>J[w.size]? =some (.cells #[.string (f.1.extract 0 n),.bool (if 0<i+1∧(ky f).length=n then some f.2 else none:Option ByteArray).isSome,.string ((if 0<i+1∧(ky f).length=n then some f.2 else none:Option ByteArray).getD ⟨#[]⟩),.slice none 0 0] l6 (0,0))∧
   OwnS gC 2 bH (fun y=>G.size≤y) J t (te n (l.take (i+1)))∧Upd No h J∧G.size≤J.size) (fun R hR=>?_) ?_
  ·obtain⟨a3,ha3,_,hv3⟩:=(hs.upd m fun _ h=>h.elim).at (ag b)
   refine⟨⟨by simp only;omega,by simp only;omega⟩,a3,ha3,_,hv3 0 _ rfl,_,hv3 1 _ rfl,vC (p:=l[i]) fun J b3 k3=>⟨_,vc b3 0,?_⟩⟩
   have z3:=aD b3;have s3:=k3.size;have zh2:=aD c2;have c3:=k3.get0 c2;refine CondP.intro (fun C=>?_) fun C=>?_
   ·have C:(ky l[i]).length=n:=by
     have:((l[i].1.size:Nat):Int)=(n:Int):=by simpa using C
     omega
    have hfi:l[i]=f:=(q4 _ A).resolve_right (by omega);rw[if_pos C]at N;refine⟨_,vc b3 1,_,rfl,?_⟩;refine pj (i:=1) c3 (show 1<4 by decide) rfl fun h4 b4 P=>⟨vc (P.oth b3 (by omega)) 1,_,rfl,?_⟩
    refine pj (i:=2) b4 (show 2<4 by decide) rfl fun h5 b5 u5=>hR _ _ ⟨?_,?_,((m.tr k3).own P (by omega)).own u5 (by omega),?_⟩
    ·rw[if_pos (show 0<i+1∧(ky f).length=n from⟨by omega,by rw[←hfi];exact C⟩),b5,hfi];rfl
    ·rw[N]
     exact((ho.upd k3 fun _ _ h=>h).upd P fun y c e=>by have e:y=w.size:=e;have c:G.size≤y:=c;omega).upd u5 fun y c e=>by have e:y=w.size:=e;have c:G.size≤y:=c;omega
    ·have:=P.size;have:=u5.size;omega
   ·have C:¬(ky l[i]).length=n:=fun e=>by
     have:¬((l[i].1.size:Nat):Int)=(n:Int):=by simpa using C
     omega
    rw[if_neg C]at N;have hlei:=hle _ A;refine⟨_,vc b3 0,⟨by omega,by omega⟩,_,vc b3 1,aQ fun h4 b4 Q=>⟨vc (Q.get0 b3) 1,vc (Q.get0 b3) 0,_,jj b4,?_⟩⟩
    have s4:=Q.size;have z4:=aD b4;refine AppP.own (M:=fun y=>(G.size≤y∧y<u.size)∨h4.size≤y) (ys:= [PV n l[i]]) (((ho.within.upd k3 fun _ _ h=>h).upd Q fun _ _ h=>h).more fun y c=>.inl c) rfl rfl rfl rfl (by omega) ?_ (.inr (al _)) fun s5 h5 ho5 D=>?_
    ·have:=List.length_filter_le (fun p=>decide ((ky p).length≠n)) (l.take i)
     simp only[te,gB,aO];rw[aG]at this;omega
    have s5':=D.size;refine⟨vc (D.get (Q.get0 b3) (by omega)) 1,vc (D.get (Q.get0 b3) (by omega)) 0,hR _ _ ⟨?_,?_,((m.tr k3).tr Q).trans D fun y c=>.inr (by omega),by omega⟩⟩
    ·have o:(if 0<i+1∧(ky f).length=n then some f.2 else none:Option ByteArray)=if 0<i∧(ky f).length=n then some f.2 else none:=by
      by_cases h0:0<i
      ·simp[h0]
      ·have:i=0:=by omega
       subst this;have:l[0]=f:=by simp[z]
       rw[this]at C;rw[if_neg (fun h=>C h.2),if_neg (fun h=>C h.2)]
     rw[o];exact D.get (Q.get0 c3) (by omega)
    ·rw[N]
     exact ho5.more fun y c=>by show G.size≤y;omega
  ·rintro t J ⟨p1,p2,p3,p4⟩
   simp only;rw[ci b (by omega)];exact hI (i+1) _ _ ⟨rfl,b,p1,p2,p3,p4⟩ (by omega)
 obtain rfl:i=l.length:=by have:¬(i:Int)<(s.len:Int):=T;omega
 rw[bN]at ho;have hc0:(0<l.length∧(ky f).length=n)↔(ky f).length=n:=⟨fun h=>h.2,fun h=>⟨hl0,h⟩⟩
 simp only[hc0]at c2;have O:te n l=(if(ky f).length=n then l.drop 1 else l).map (PV n):=by
  unfold te;congr 1
  by_cases e:(ky f).length=n
  ·rw[if_pos e,z,cl,if_neg (by simpa using e),List.drop_one,List.tail_cons]
   refine eJ.2 fun p j=>?_
   have hpl:p∈l:=by rw[z];exact aM _ j
   rcases q4 p hpl with o|u
   ·rw[o]at j
    exact absurd ((ba.1 (z▸bg.up)).1 f j) (cA _)
   ·exact decide_eq_true (by omega)
  ·rw[if_neg e]
   refine eJ.2 fun p j=>?_
   rcases q4 p j with o|u
   ·rw[o];exact decide_eq_true e
   ·exact decide_eq_true (by omega)
 have d:(if(ky f).length=n then l.drop 1 else l).Sublist l:=by
  split
  ·exact List.drop_sublist ..
  ·exact List.Sublist.refl _
 have S:∀p∈(if(ky f).length=n then l.drop 1 else l),n<(ky p).length:=fun p j=>by
  rcases q4 p (d.subset j)with e|h
  ·by_cases o:(ky f).length=n
   ·rw[if_pos o,z,e]at j
    exact absurd ((ba.1 (z▸bg.up)).1 f j) (cA _)
   ·rw[e];omega
  ·exact h
 have hbeg:Beg (te n l) []:=by
  rw[O];refine⟨?_,fun p j=>?_⟩
  ·unfold cB
   rw[List.pairwise_map];refine(bg.up.sublist d).imp_of_mem fun{p q} j H b=>?_
   rw[uR]at b⊢;have e1:=q3 p (d.subset j);have o:=q3 q (d.subset H);change Op.bytesLess (ky (PV n p)) (ky (PV n q))=true;change Op.bytesLess (ky p) (ky q)=true at b;rw[D4,D4];rw[←aN n (ky p),←aN n (ky q),e1,o,FE]at b;exact b
  ·obtain⟨q,H,rfl⟩:=ju.1 j
   refine⟨rfl,?_⟩;rw[D4,aI];have:=S q H;simp only[cq];omega
 have hkB:∀p∈te n l,(ky p).length≤B-n:=fun p j=>by
  rw[O]at j;obtain⟨q,H,rfl⟩:=ju.1 j;rw[D4,aI];have:=Z q (d.subset H);omega
 have hrn:(te n l).length≤100000:=by
  rw[O,gB];exact Nat.le_trans d.length_le hn
 have s2:=m.size;have zc:=aD c2;refine U (B-n) (by omega) (W:=fun y=>W y∨y=w.size) (ho.sl fun _ _ _ h=>h) ho.cap hbeg hkB hrn (fun y c=>c.elim (fun c=>by have:=hW y c;omega) fun c=>by omega) fun J s3 ks L ho3 hL3 hrow hu3=>?_
 obtain⟨hcF,hgF⟩:=hrow.done;have hgot:∀k v,nu (.ofL L) k v↔PS (if(ky f).length=n then l.drop 1 else l) ((ky f).take n) k v:=fun k v=>by
  rw[hgF,O];constructor
  ·rintro⟨p,j,o,e3⟩
   obtain⟨q,H,rfl⟩:=ju.1 j;rw[D4,ij]at o;refine⟨q,H,?_,e3⟩;rw[←o,←q3 q (d.subset H),aN]
  ·rintro⟨q,H,o,e3⟩
   refine⟨PV n q,ju.2 ⟨q,H,rfl⟩,?_,e3⟩;rw[D4,ij,o,List.drop_left' (by rw[aG];omega)]
 obtain⟨hcn,hhd,hin⟩:=hbc (F:=.ofL L) hcF rfl hgot rfl hlab;refine⟨_,rfl,?_⟩;refine pj (i:=3) (hu3.get0 c2) (show 3<4 by decide) rfl fun h4 b4 P=>?_
 refine hk h4 _ (_,_,_) ⟨w.size,_,rfl,rfl,_,s3,none,ks,b4,rfl,?_,⟨ho3.cap,fun hw=>by have:=hW _ hw;omega⟩,xP.2 ?_⟩ hcn hhd hin ((m.tr hu3).own P (by omega))
 ·exact(ho3.upd P fun y c e=>by have e:y=w.size:=e;have c:u.size≤y:=c;omega).sl fun y c _ hw=>by have:=hW y hw;have c:u.size≤y:=c;omega
 ·rw[Fo.to_of]
  exact(hL3.updM P fun y c=>.inl (.inr c)).less fun y c=>.inl (.inl c)
end Go.Proofs
namespace Go.Proofs
open Go Go.Lift
theorem IP{B:Nat}(hB:B≤1000000)(N:∀Q,Q<B→K5 Q):K5 B:=by
 intro W h s l hs hcap bg hlB hn hW K hk;refine FO s ?_;unfold yv dz bI;have hlen:=hs.len;refine LoopP.ghost (fun(g:Nat×List (Option Addr)×List Bn×(Nat→Prop)) (t:SliceV×Int) X=>t.2=(g.1:Int)∧g.1≤l.length∧OwnS kK 1 pm g.2.2.2 X t.1 g.2.1∧(∀y,g.2.2.2 y→h.size≤y∧y<X.size)∧DxL (fun y=>W y∨g.2.2.2 y) X g.2.1 g.2.2.1∧Row g.2.2.1 (l.take g.1) (l.drop g.1) []∧Upd No h X) (fun g=>l.length-g.1) (0,[],[],fun _=>False)
  ⟨rfl,aV _,OwnS.nil mG,fun y d=>d.elim,⟨rfl,fun p hp=>(by cases hp)⟩,Row.nil _ _,Upd.refl _ _⟩ ?_
 rintro I ⟨i,ks,L,Mo⟩ ⟨so,ti⟩ U ⟨e1,hi,ho,v,hL,f,Z⟩ hI;simp only at e1 hi ho v hL f;subst e1;refine aH (fun u=>?_) fun hge=>?_
 ·have u:i<l.length:=by have:(i:Int)<(s.len:Int):=u;omega
  have G:=hs.upd Z fun _ h=>h.elim
  have P:∀j (D:j<l.length),0<(ky l[j]).length:=fun j D=>(bg.at_ _ (aP D)).2
  obtain⟨bi,hbi,hbie⟩:=Of (P i u);obtain⟨ai,hai,_,hvi⟩:=G.at (ag u);refine LoopP.ghost (fun(k:Nat) (t:Int) V=>t=(k:Int)∧i≤k∧k≤l.length∧V=U∧∀j (D:j<l.length),i≤j→j<k→bt 0 l[j]=bt 0 l[i]) (fun k=>l.length-k) i ⟨rfl,al _,hi,rfl,fun j D U V=>by omega⟩ ?_
  rintro I2 k t V ⟨rfl,hik,O,rfl,E⟩ hI2;refine Join.intro (fun t h3=>h3=V∧(t=true→∃hk:k<l.length,bt 0 l[k]=bt 0 l[i])∧(t=false→∀hk:k<l.length,bt 0 l[k]≠bt 0 l[i])) (fun R hR=>?_) ?_
  ·refine aH (fun a=>?_) fun a=>hR _ _ ⟨rfl,fun h=>(by cases h),fun _ hk2=>absurd (show(k:Int)<(s.len:Int) by omega) a⟩
   have a:k<l.length:=by have:(k:Int)<(s.len:Int):=a;omega
   obtain⟨bk,hbk,hbke⟩:=Of (P k a);obtain⟨ak,hak,_,hvk⟩:=G.at (ag a);refine⟨⟨by omega,by omega⟩,ak,hak,_,hvk 0 _ rfl,bk,by decide,hbk,⟨by simp only;omega,by simp only;omega⟩,ai,hai,_,hvi 0 _ rfl,bi,by decide,hbi,hR _ _ ⟨rfl,fun h=>⟨a,?_⟩,fun h _=>?_⟩⟩
   ·have:(bk.toNat:Int)=(bi.toNat:Int):=by simpa using h
    omega
   ·intro e
    have:¬(bk.toNat:Int)=(bi.toNat:Int):=by simpa using h
    omega
  rintro t h3 ⟨rfl,ht,Y⟩;cases t with
  |true=>
   obtain⟨a,e⟩:=ht rfl;refine ax.2 ?_;rw[ci a (by omega)];refine hI2 (k+1) _ _ ⟨rfl,by omega,a,rfl,fun j D U V=>?_⟩ (by omega)
   rcases bD j k with h|h
   ·exact E j D U h
   ·have:j=k:=by omega
    subst this;exact e
  |false=>
   have Y:=Y rfl;have hik2:i<k:=by
    rcases bD i k with h|h
    ·exact h
    ·have:k=i:=by omega
     subst this;exact absurd rfl (Y u)
   refine aj.2 ⟨⟨by omega,by omega⟩,⟨by simp only;omega,by simp only;omega⟩,?_⟩
   simp only[aE];have hsA:=Sl.sub G (l:=i) (hi:=k) (m:=s.cap) (c:=s.cap-i) hik O (by omega);have T:(l.drop i).take (k-i)++l.drop k=l.drop i:=by
    conv=>rhs;rw[←aN (k-i) (l.drop i)]
    rw[List.drop_drop,show i+(k-i)=k by omega]
   have hDA:l.take i++(l.drop i).take (k-i)=l.take k:=by
    rw[show k=i+(k-i) by omega,List.take_add];congr 2;omega
   have z:∀q∈(l.drop i).take (k-i),bt 0 q=bt 0 l[i]:=fun q hq=>by
    obtain⟨j,D,e⟩:=List.getElem_of_mem hq;rw[aG,aI]at D;rw[←e,List.getElem_take,List.getElem_drop];exact E (i+j) (by omega) (by omega) (by omega)
   have hAc:∃r,(l.drop i).take (k-i)=l[i]::r:=by
    rw[dJ u,show k-i=(k-i-1)+1 by omega,dq]
    exact⟨_,rfl⟩
   have o:((l.drop i).take (k-i)).Sublist l:=(List.take_sublist _ _).trans (List.drop_sublist _ _);have hBk:∀b Q,l.drop k=b::Q→bt 0 b≠bt 0 l[i]:=fun b Q e=>by
    have a:k<l.length:=by
     rcases bD k l.length with h|h
     ·exact h
     ·rw[List.drop_eq_nil_of_le h]at e;cases e
    rw[dJ a]at e;rw[←(gb.inj e).1];exact Y a
   have hAl:((l.drop i).take (k-i)).length≤l.length:=o.length_le;generalize (l.drop i).take (k-i)=A at*;obtain⟨r,H⟩:=hAc;obtain⟨g,hg⟩:∃g,A.getLast? =some g:=by rw[H];exact⟨_,List.getLast?_eq_some_getLast (by simp)⟩
   have s1:=Z.size;refine Jq (W:=fun y=>W y∨Mo y) hB N (hsA.less fun _ h=>h.elim) (bg.sub o) (fun q hq=>hlB q (o.subset hq)) (by omega) (fun y d=>d.elim (fun d=>Nat.lt_of_lt_of_le (hW y d) s1) fun d=>(v y d).2) H hg (z g (kD hg)).symm fun h4 ka n kd hcn hhd hin hu4=>aQ fun F b5 k5=>⟨_,jj b5,?_⟩
   have C:=hu4.tr k5;have z35:=C.size;have hLn:L.length≤256:=by
    rcases yU (c:=0) f.up fun _ _=>aV _ with e|e
    ·rw[e];simp
    ·omega
   have hkl':=hL.1;refine AppP.own (M:=fun y=>Mo y∨F.size≤y) (ys:= [ka]) ((ho.upd C fun _ _ h=>h).more fun y d=>.inl d) rfl rfl rfl rfl (by omega) (by simp only[aO];omega) (.inr (al _)) fun s6 h6 ho6 J=>?_
   have z6:=J.size;have x:=f;rw[←T]at x;have S:Beg (A++l.drop k) []:=by rw[T];exact bg.sub (List.drop_sublist _ _)
   have w:=x.more S (p:=l[i]) (by rw[H];exact au ..) z hBk hcn hhd hin;rw[hDA]at w;refine hI (k,ks++ [ka],L++ [n],fun y=>(Mo y∨F.size≤y)∧y<h6.size) _ _ ⟨rfl,O,ho6.within,fun y d=>⟨?_,d.2⟩,?_,w,?_⟩ (by simp only;omega)
   ·rcases d.1 with h|h
    ·exact(v y h).1
    ·omega
   ·have hl:∀b,(W b∨((Mo b∨F.size≤b)∧b<h6.size))→(W b∨Mo b)∨F.size≤b:=fun b hb=>by
     rcases hb with h|⟨h|h,_⟩
     ·exact .inl (.inl h)
     ·exact .inl (.inr h)
     ·exact .inr h
    have hm:∀b,(Mo b∨F.size≤b)→(W b∨((Mo b∨F.size≤b)∧b<h6.size))∨F.size≤b:=fun b hb=>by
     rcases hb with h|h
     ·exact .inl (.inr ⟨.inl h,by have:=(v b h).2;omega⟩)
     ·exact .inr h
    exact(((hL.upd0 C).app (DxL.one (kd.upd0 k5))).less hl).updM J hm
   ·exact(Z.tr C).trans J fun y d=>.inr (by
     rcases d with h|h
     ·exact(v y h).1
     ·omega)
 ·obtain rfl:i=l.length:=by have:¬(i:Int)<(s.len:Int):=hge;omega
  rw[bN,List.drop_length]at f;exact hk U _ ks L (ho.more fun y d=>(v y d).1) (hL.less fun y d=>.inl (.inl d)) f Z
theorem Nz(B:Nat):B≤1000000→K5 B:=by
 induction B using Nat.strongRecOn with
 |_ B ih=>exact fun a=>IP a fun b h=>ih b h (by omega)
theorem Pi{h:ad}{s:SliceV}{l:List Pr}(N:Sl gC 2 No h s l)(u:s.len≤s.cap)(P:cB l)(hn:l.length≤60000)(hB:∀p∈l,(ky p).length≤1000000){K:Option Addr→ad→Prop}
  (hk:∀h' b w F,DxN No h' b ⟨#[]⟩ w F→eH F→mL w F=Kk l→Upd No h h'→K (some ⟨b,0,none⟩) h'):HC PG B8 [.slice s.a s.len s.cap] [.c .ptr] K h:=by
 refine OA s ?_;unfold Hz dz cL bI Rs;have j:=N.len;refine aQ fun g b1 k1=>?_
 have z1:=aD b1;have z:=N.upd k1 fun _ h=>h.elim
 refine Join.intro (fun(t:SliceV) f=>∃(w:Option ByteArray) (l':List Pr),f[h.size]? =some (.cells #[.string ⟨#[]⟩,.bool w.isSome,.string (w.getD ⟨#[]⟩),.slice none 0 0] l6 (0,0))∧Sl gC 2 No f t l'∧t.len≤t.cap∧Beg l' []∧l'.length≤l.length∧(∀p∈l',p∈l)∧(∀k v,((k= []∧w=some v)∨PS l' [] k v)↔∃p∈l,p.1.data.toList=k∧p.2=v)∧Upd No h f) (fun R Z=>?_) ?_
 ·refine Join.plain ?_
  rcases l with _|⟨p,r⟩
  ·refine aH (fun hgt=>?_) fun _=>aj.2 (Z _ _ ⟨none,[],b1,z,u,⟨fF,fun p U=>(by cases U)⟩,al _,fun _ h=>h,fun k v=>⟨?_,?_⟩,k1⟩)
   ·simp only[cq]at j;omega
   ·rintro(⟨_,h⟩|⟨q,d,_⟩)
    ·cases h
    ·cases d
   ·rintro⟨q,d,_⟩;cases d
  ·simp only[aL]at j
   obtain⟨a,ha,_,hv⟩:=z.at (i:=0) (x:=p) rfl;refine aH (fun _=>⟨⟨by decide,by omega⟩,a,ha,_,hv 0 _ rfl,?_⟩) fun hle=>absurd (show(s.len:Int)>0 by omega) hle
   have B:=ba.1 P;have o:∀q∈r,0<(ky q).length:=fun q d=>by
    have g:=uR.1 (B.1 q d);refine List.length_pos_iff.2 fun X=>?_
    change Op.bytesLess (ky p) (ky q)=true at g;rw[X,Jr]at g;cases g
   rw[iU];by_cases I:p.1=⟨#[]⟩
   ·have ek:ky p= []:=by unfold ky;rw[I]
    rw[decide_eq_true I];refine ax.2 ⟨⟨by decide,by omega⟩,a,ha,_,hv 1 _ rfl,_,rfl,?_⟩
    refine pj (i:=1) b1 (show 1<4 by decide) rfl fun f b2 J=>⟨_,rfl,?_⟩
    refine pj (i:=2) b2 (show 2<4 by decide) rfl fun h3 b3 A=>⟨⟨by decide,by omega⟩,Z _ _ ⟨some p.2,r,b3,?_,by simp only;omega,⟨B.2,fun q d=>⟨rfl,o q d⟩⟩,by simp,fun q d=>aM _ d,fun k v=>?_,(k1.own J (al _)).own A (al _)⟩⟩
    ·have V:Upd (fun y=>y=h.size) g h3:=J.tr A
     have:=Sl.sub ((((N.less (W':=fun y=>y=h.size) fun y n=>.inr (by omega)).upd k1 fun _ h=>h.elim).upd V fun y n=>.inl n)) (l:=1) (hi:=(p::r).length) (m:=s.cap) (c:=s.cap-1) (by simp) (al _) (by simp only[aL];omega)
     rw[List.drop_one,List.tail_cons,List.take_of_length_le (by simp)]at this;have X:(p::r).length-1=s.len-1:=by simp only[aL];omega
     rw[X]at this;exact this.less fun _ h=>h.elim
    ·constructor
     ·rintro(⟨rfl,h⟩|⟨q,d,g,f⟩)
      ·exact⟨p,au ..,ek,bm.inj h⟩
      ·exact⟨q,aM _ d,g,f⟩
     ·rintro⟨q,d,g,f⟩
      rcases ar.1 d with rfl|d
      ·exact .inl ⟨by rw[←g];exact ek,by rw[f]⟩
      ·exact .inr ⟨q,d,g,f⟩
   ·rw[decide_eq_false I]
    have Y:0<(ky p).length:=List.length_pos_iff.2 fun e=>I (pT.1 e)
    refine aj.2 (Z _ _ ⟨none,p::r,b1,z,u,⟨P,fun q d=>⟨rfl,?_⟩⟩,al _,fun _ h=>h,fun k v=>?_,k1⟩)
    ·rcases ar.1 d with rfl|d
     ·exact Y
     ·exact o q d
    ·constructor
     ·rintro(⟨_,h⟩|⟨q,d,g,f⟩)
      ·cases h
      ·exact⟨q,d,g,f⟩
     ·rintro⟨q,d,g,f⟩
      exact .inr ⟨q,d,g,f⟩
 rintro t f ⟨w,l',b2,Q,O,S,hll,G,E,J⟩;have z2:=aD b2;refine Nz 1000000 (al _) (W:=fun y=>y=h.size) Q O S (fun p U=>hB p (G p U)) (by omega) (fun y n=>by omega) fun h3 s3 ks L H hL3 D A=>⟨_,rfl,?_⟩
 obtain⟨C,T⟩:=D.done;refine pj (i:=3) (A.get0 b2) (show 3<4 by decide) rfl fun h4 b4 M=>?_
 refine hk h4 h.size w (.ofL L) ⟨_,s3,none,ks,b4,rfl,?_,⟨H.cap,id⟩,xP.2 ?_⟩ C (EU C P fun k v=>?_) ((J.tr A).own M (al _))
 ·exact(H.upd M fun y n e=>by have e:y=h.size:=e;have n:f.size≤y:=n;omega).sl fun _ _ _ h=>h
 ·rw[Fo.to_of]
  exact(hL3.updM M fun y n=>.inl n).less fun _ h=>h.elim
 ·rw[lJ]
  unfold oK;rw[T,E]
def Rf(n:Bn):Prop:=∀{h:ad} {b:Nat} {sl:ByteArray},DxN No h b sl n.2.1 n.2.2→sl.data.toList=n.1→(gu n).length≤140737488355328→∀{K:SliceV→ad→Prop},(∀s' h',OwnS mE 1 bX (fun y=>h.size≤y) h' s' (gu n)→Upd No h h'→K s' h')→
 HC PG qv [.pointer (some ⟨b,0,none⟩)] [.c .slice] K h
theorem KQ{lab:List UInt8}{w:Option ByteArray}{c:Fo}(hl:lab.length≤10000)(hw:∀v,w=some v→v.size≤10000)(U:c.toL.length≤256)(ih:∀m∈c.toL,Rf m):Rf (lab,w,c):=by
 intro h b sl r q hx K hk;simp only at r q;have M:(⟨lab.toArray⟩:ByteArray)=sl:=by rw[←q]
 have hsz:sl.size=lab.length:=by rw[←q];simp
 obtain⟨val,s,ow,ks,hb,hv,hs,hcap,hF⟩:=r;have hL:=xP.1 hF;have p:=hs.len;rw[hL.1]at p;have ex:gu (lab,w,c)=lH sl++rd w++km c.toL.length 2++c.toL.flatMap gu:=by
  show o9 lab w c.toL.length++l8 c=_
  rw[tN];unfold o9;rw[M];simp only[ao]
 rw[ex]at hx hk;simp only[ae]at hx;have g:∀{F:ad} {i:Nat},Upd No h F→aK F (adr ⟨b,0,none⟩ i)=(SL sl w.isSome val s ow)[i]?:=fun k=>vc (k.get0 hb) _
 have r0:=Upd.refl No h;refine Hp (some ⟨b,0,none⟩) ?_;unfold Ar cT dz bG bI gT;refine⟨_,rfl,sl,g (i:=0) r0,xu (by omega) fun s1 h1 H k1=>?_⟩
 refine Join.intro (fun t D=>OwnS mE 1 bX (fun y=>h.size≤y) D t (lH sl++rd w)∧Upd No h D) (fun R P=>?_) ?_
 ·refine⟨_,rfl,w.isSome,g (i:=1) k1,?_⟩
  have s1':=k1.size;cases w with
  |none=>
   refine aj.2 (aQ fun D b2 o=>⟨_,jj b2,?_⟩)
   have s2:=o.size;refine AppP.own (ys:= [(0:UInt8)]) (H.upd o fun _ _ h=>h) rfl rfl rfl rfl (by omega) (by simp only[aO];simp only[rd,aO]at hx;omega) (by show h.size≤D.size;omega) fun s3 C d B=>?_
   exact P _ _ ⟨d,(k1.tr o).trans B fun y j=>.inr j⟩
  |some v=>
   have hvs:=hw v rfl;have x:val=v:=hv;subst x;refine ax.2 ⟨_,rfl,_,g (i:=2) k1,aQ fun D b2 o=>⟨g (i:=2) (k1.tr o),_,jj b2,?_⟩⟩
   have s2:=o.size;have V:(rd (some val)).length=1+(lH val).length:=by unfold rd;simp;omega
   rw[V]at hx;refine AppP.own (ys:= [(1:UInt8)]) (H.upd o fun _ _ h=>h) rfl rfl rfl rfl (by omega) (by simp only[aO];omega) (by show h.size≤D.size;omega) fun s3 C d B=>?_
   have E:Upd No h C:=(k1.tr o).trans B fun y j=>.inr j
   refine⟨g (i:=2) E,xu (by omega) fun s4 h4 n A=>?_⟩
   have G:=E.size;have s4':=A.size;refine ux (d.upd A fun _ _ h=>h) (n.sl (W:=No) fun _ _ _ h=>h) (fun y j=>by show h.size≤y;omega) (by rw[ae,aO];omega) fun s5 h5 u z=>?_
   refine P _ _ ⟨?_,(E.tr A).trans z fun y j=>.inr j⟩
   have e:lH sl++rd (some val)=lH sl++ [1]++lH val:=by unfold rd;simp
   rw[e];exact u
 rintro t2 D ⟨Y,u2⟩;refine Join.intro (fun t C=>OwnS mE 1 bX (fun y=>h.size≤y) C t (lH sl++rd w++km c.toL.length 2)∧Upd No h C) (fun R P=>?_) ?_
 ·refine⟨_,rfl,s,g (i:=3) u2,?_⟩
  rw[p];refine AR (by omega) fun s3 C d X=>?_
  have s2':=u2.size;have G:=X.size;refine ux (Y.upd X fun _ _ h=>h) (d.sl (W:=No) fun _ _ _ h=>h) (fun y j=>by show h.size≤y;omega) (by rw[ae];omega) fun s4 h4 n T=>?_
  exact P _ _ ⟨n,(u2.tr X).trans T fun y j=>.inr j⟩
 rintro t3 C ⟨d,E⟩;refine⟨_,rfl,s,g (i:=3) E,?_⟩;refine LoopP.ghost (fun(i:Nat) (t:SliceV×Int) F=>t.2=(i:Int)∧i≤c.toL.length∧OwnS mE 1 bX (fun y=>h.size≤y) F t.1 (lH sl++rd w++km c.toL.length 2++(c.toL.take i).flatMap gu)∧Upd No h F) (fun i=>c.toL.length-i) 0 ⟨rfl,aV _,by simpa using d,E⟩ ?_
 rintro I i ⟨so,ti⟩ F ⟨e1,hi,N,J⟩ hI;simp only at e1 N;subst e1;refine aH (fun f=>?_) fun Z=>?_
 ·have f:i<c.toL.length:=by have:(i:Int)<(s.len:Int):=f;omega
  refine Join.plain ?_;obtain⟨kb,ksl,hki,Q,S⟩:=(hL.upd0 J).at f;obtain⟨a,ha,_,x⟩:=(hs.upd J fun _ h=>h.elim).at0 hki
  have O:((c.toL.take i).flatMap gu).length+(gu c.toL[i]).length≤(c.toL.flatMap gu).length:=by
   have e:c.toL=c.toL.take i++c.toL[i]::c.toL.drop (i+1):=by rw[List.getElem_cons_drop,aN]
   have:=congrArg (fun L=>(List.flatMap gu L).length) e
   simp only[bj,aU,ae]at this;omega
  refine⟨⟨by simp only;omega,by simp only;omega⟩,a,ha,_,x,ih _ (aP f) S Q (by omega) fun s4 h4 n A=>?_⟩
  have G:=J.size;have s4':=A.size;refine ux (N.upd A fun _ _ h=>h) (n.sl (W:=No) fun _ _ _ h=>h) (fun y j=>by show h.size≤y;omega) (by simp only[ae];omega) fun s5 h5 u z=>?_
  simp only;rw[ci f (by omega)];refine hI (i+1) _ _ ⟨rfl,f,?_,(J.tr A).trans z fun y j=>.inr j⟩ (by omega)
  rw[bC f,bj,aU,List.flatMap_nil,bJ,←ao];exact u
 ·obtain rfl:i=c.toL.length:=by have:¬(i:Int)<(s.len:Int):=Z;omega
  rw[bN]at N;exact hk _ _ N J
theorem Ce:∀{F:Fo},FZ F→∀n∈F.toL,Rf n
 | .nil,_,n,a=>by simp[Fo.toL]at a
 | .cons lab w kids rest,h,n,a=>by
  rcases ar.1 a with rfl|a
  ·exact KQ h.1 h.2.1 h.2.2.1 (Ce h.2.2.2.1)
  ·exact Ce h.2.2.2.2 n a
end Go.Proofs
