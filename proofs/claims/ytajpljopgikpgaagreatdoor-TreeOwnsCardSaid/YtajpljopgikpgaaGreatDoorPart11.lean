/- A part of the proof that the named laws of this program answer true, whatever the input. -/
import Derived.Test.YtajpljopgikpgaaGreatDoorPart10
import Derived.Test.YtajpljopgikpgaaGreatDoorPart6
import Derived.Test.YtajpljopgikpgaaGreatDoorPart9
import Derived.Test.YtajpljopgikpgaaGreatDoorPart3
import Derived.Test.YtajpljopgikpgaaGreatDoorPart4
import Derived.Test.YtajpljopgikpgaaGreatDoorPart8
open Int renaming tdiv→my,tdiv_eq_ediv_of_nonneg→fu,toNat_natCast→aM
open List renaming getElem?_toArray→gO,length_map→bH,length_singleton→aE,filter_append→gZ,filter_cons→cE,filter_nil→nG,append_nil→bh,length_take→aD,take_succ_eq_append_getElem→bB,getElem?_eq_getElem→af,take_length→cd,getElem_mem→aU,replicate→dT,length_append→ad,append_assoc→au,zip_cons_cons→f8,mem_cons→aw,mem_cons_self→av,mem_cons_of_mem→aL,take_succ_cons→cZ,cons→eO,mem_of_getLast?→ia,drop_one→um,tail_cons→sm,filter_eq_self→fJ,pairwise_cons→ba,take_append_drop→aG,mem_map→g8,length_drop→aO,length_nil→bw,nil_append→dM,drop_eq_getElem_cons→eI,length_cons→az,length_pos_iff→m9,flatMap_append→bq,flatMap_cons→aR
open List.Pairwise renaming nil→ey
open Nat renaming le_refl→aj,zero_add→aI,not_lt_zero→is,zero_le→aS,lt_or_ge→bG,shiftRight_eq_div_pow→cA,shiftRight_le→il
open Option renaming some→bA
namespace Go.Proofs
open Go Go.Lift
def Mw(q:List Pr):Int:=if q.length=1 then 1 else if 2≤q.length then 2 else 0
def dF(a:Bool)(s:SliceV)(q:Nat→List Pr)(kk:Nat→Option Addr)(i:Nat):Value:=
 if i=0 then .bool a else if i=1 then sv s else if i<34 then .int .i64 (Mw (q (i-2)))else if i<98 then(if i%2=0 then .string (BD (gL (q ((i-34)/2)))).1 else .string (BD (gL (q ((i-34)/2)))).2)else .pointer (kk (i-98))
def dC(f:Nat→Value):List Value:=(List.range 130).map f
theorem EG{f:Nat→Value}{i:Nat}(h:i<130):(dC f).toArray[i]? =some (f i):=by
 unfold dC;simp[h]
theorem Ou(f:Nat→Value):(dC f).toArray.size=130:=by simp[dC]
theorem Vq{f:Nat→Value}{i:Nat}{v:Value}:(dC f).toArray.setIfInBounds i v=(dC fun j=>if j=i then v else f j).toArray:=by
 unfold dC;apply Array.ext_getElem?;intro j;rw[Array.getElem?_setIfInBounds];simp only[gO,List.getElem?_map,List.size_toArray,bH,List.length_range];by_cases e:i=j
 ·subst e
  by_cases h:i<130
  ·simp[h]
  ·simp[h]
 ·rw[if_neg e]
  by_cases h:j<130
  ·rw[List.getElem?_range h];simp only[Option.map_some];rw[if_neg fun a:j=i=>e a.symm]
  ·rw[List.getElem?_eq_none (by rw[List.length_range];omega)];rfl
theorem Ij{f g:Nat→Value}(h:∀i,i<130→f i=g i):(dC f).toArray=(dC g).toArray:=by
 unfold dC;rw[List.map_congr_left fun i hi=>h i (List.mem_range.1 hi)]
def DTrie(W:Nat→Prop)(x:Hs)(h:ae):Nat→Nat→List Pr→Prop
 |0,b,l=>¬W b∧∃s,h[b]? =some (.cells (dC (dF true s (fun _=> []) fun _=>none)).toArray ip (0,0))∧Sl eg 2 W h s l
 |m+1,b,l=>¬W b∧∃kk,h[b]? =some (.cells (dC (dF false ⟨none,0,0⟩ (fun c=>part x (12-m) c l) kk)).toArray ip (0,0))∧∀c,c<32→2≤(part x (12-m) c l).length→∃kb,kk c=some ⟨kb,0,none⟩∧DTrie W x h m kb (part x (12-m) c l)
theorem DTrie.upd{W M:Nat→Prop}{x:Hs}{h d:ae}(k:Upd M h d)(hm:∀b,M b→W b∨h.size≤b):∀{m b:Nat} {l:List Pr},DTrie W x h m b l→DTrie W x d m b l
 |0,b,_,⟨nw,s,h1,h2⟩=>⟨nw,s,k.get h1 fun a=>(hm b a).elim nw fun h=>by have:=aN h1;omega,h2.upd k hm⟩
 |_+1,b,_,⟨nw,kk,h1,h2⟩=>⟨nw,kk,k.get h1 fun a=>(hm b a).elim nw fun h=>by have:=aN h1;omega,fun c hc e=>let⟨i,g,f⟩:=h2 c hc e;⟨i,g,DTrie.upd k hm f⟩⟩
theorem DTrie.less{W W':Nat→Prop}{x:Hs}{h:ae}(hm:∀b,W' b→W b):∀{m b:Nat} {l:List Pr},DTrie W x h m b l→DTrie W' x h m b l
 |0,b,_,⟨nw,s,h1,h2⟩=>⟨fun a=>nw (hm b a),s,h1,h2.less fun b a=>.inl (hm b a)⟩
 |_+1,b,_,⟨nw,kk,h1,h2⟩=>⟨fun a=>nw (hm b a),kk,h1,fun c hc d=>let⟨g,f,e⟩:=h2 c hc d;⟨g,f,DTrie.less hm e⟩⟩
abbrev VJ(x:Hs)(p:Pr):List Value:= [.int .u64 (me x p.1)]
theorem Ri(x:Hs)(p:Pr):(VJ x p).length=1∧0<1:=⟨rfl,by omega⟩
def TwoS(x:Hs)(n0 a:Nat)(h:ae)(d c:SliceV)(L L':List Pr):Prop:=
 ∃A B:Nat→Prop,OwnS eg 2 bX A h d L∧OwnS (VJ x) 1 oB B h c L'∧(∀b,A b→n0≤b∧b<a∧¬B b)∧∀b,B b→n0≤b∧b<a
theorem TwoS.upd0{x:Hs}{n0 d:Nat}{h c:ae}{a b:SliceV}{L L':List Pr}(t:TwoS x n0 d h a b L L')(k:Upd No h c):TwoS x n0 d c a b L L':=by
 obtain⟨A,B,f,e,i,g⟩:=t;exact⟨A,B,f.upd k fun _ _ h=>h,e.upd k fun _ _ h=>h,i,g⟩
theorem VB{x:Hs}{n0 f:Nat}{h:ae}{e k:SliceV}{L L':List Pr}{p:Pr}(t:TwoS x n0 f h e k L L')(v:n0≤f)(o:f≤h.size)(w:L.length≤1000000){xs:List Value}(hx:xs=eg p){K:SliceV→ae→Prop}
  (u:∀s' c,TwoS x n0 c.size c s' k (L++ [p]) L'→Upd (fun b=>(n0≤b∧b<f)∨h.size≤b) h c→K s' c):AppP (some [.string (⟨#[]⟩:ByteArray),.string (⟨#[]⟩:ByteArray)]) 2 32 bX e.a e.len e.cap 1 xs h K:=by
 subst hx;obtain⟨A,B,n,m,d,g⟩:=t;refine AppP.own (ys:= [p]) (n.more (M':=fun b=>A b∨h.size≤b) fun _ h=>.inl h) rfl rfl rfl rfl (by omega) (by simp only[aE];omega) (.inr (aj _)) fun s' c q i=>?_
 have s:=i.size;refine u s' c ⟨_,B,q.within,m.upd i fun b a hm=>hm.elim (fun hm=>(d b hm).2.2 a) fun hm=>by have:=(g b a).2;omega,fun b a=>⟨?_,a.2,fun j=>?_⟩,fun b a=>⟨(g b a).1,by have:=(g b a).2;omega⟩⟩ (i.mono fun b a=>a.elim (fun a=>.inl (.inl ⟨(d b a).1,(d b a).2.1⟩)) .inr)
 ·rcases a.1 with a|a
  ·exact(d b a).1
  ·omega
 ·rcases a.1 with a|a
  ·exact(d b a).2.2 j
  ·have:=(g b j).2;omega
theorem appB{x:Hs}{n0 g:Nat}{h:ae}{j f:SliceV}{L L':List Pr}{p:Pr}(t:TwoS x n0 g h j f L L')(v:n0≤g)(o:g≤h.size)(w:L'.length≤1000000){xs:List Value}(hx:xs=VJ x p){K:SliceV→ae→Prop}
  (u:∀s' d,TwoS x n0 d.size d j s' L (L'++ [p])→Upd (fun b=>(n0≤b∧b<g)∨h.size≤b) h d→K s' d):AppP (some [.int .u64 0]) 1 8 oB f.a f.len f.cap 1 xs h K:=by
 subst hx;obtain⟨A,B,n,m,c,k⟩:=t;refine AppP.own (ys:= [p]) (m.more (M':=fun b=>B b∨h.size≤b) fun _ h=>.inl h) rfl rfl rfl rfl (by omega) (by simp only[aE];omega) (.inr (aj _)) fun s' d q i=>?_
 have s:=i.size;refine u s' d ⟨A,_,n.upd i fun b a hm=>hm.elim (fun hm=>(c b a).2.2 hm) fun hm=>by have:=(c b a).2.1;omega,q.within,fun b a=>⟨(c b a).1,by have:=(c b a).2.1;omega,fun e=>?_⟩,fun b a=>⟨?_,a.2⟩⟩ (i.mono fun b a=>a.elim (fun a=>.inl (.inl (k b a))) .inr)
 ·rcases e.1 with e|e
  ·exact(c b a).2.2 e
  ·have:=(c b a).2.1;omega
 ·rcases a.1 with a|a
  ·exact(k b a).1
  ·omega
theorem Pn{x:Hs}{lev c:Nat}{l:List Pr}{p:Pr}:part x lev c (l++ [p])=if ck x lev p.1=c then part x lev c l++ [p]else part x lev c l:=by
 unfold part;rw[gZ,cE,nG];by_cases h:ck x lev p.1=c
 ·rw[if_pos h,if_pos (decide_eq_true h)]
 ·rw[if_neg h,if_neg (by simpa using h),bh]
abbrev yv(x:Hs)(lev:Nat)(l:List Pr)(n:Nat)(c:Nat):List Pr:=if c<n then part x lev c l else[]
theorem Hy{x:Hs}{lev n c:Nat}{l:List Pr}(h:c≠n):yv x lev l (n+1) c=yv x lev l n c:=by
 unfold yv;by_cases hc:c<n
 ·rw[if_pos hc,if_pos (by omega)]
 ·rw[if_neg hc,if_neg (by omega)]
theorem Hz{x:Hs}{lev n:Nat}{l:List Pr}:yv x lev l (n+1) n=part x lev n l:=if_pos (by omega)
theorem Hx{x:Hs}{lev n:Nat}{l:List Pr}:yv x lev l n n= []:=if_neg (by omega)
structure DOf(W:Nat→Prop)(x:Hs)(lev m:Nat)(h0 h:ae)(l:List Pr)(n:Nat)(kk:Nat→Option Addr):Prop where
 blk:h[h0.size]? =some (.cells (dC (dF false ⟨none,0,0⟩ (yv x lev l n) kk)).toArray ip (0,0))
 upd:Upd No h0 h
 kid:∀c,c<n→2≤(part x lev c l).length→∃kb,kk c=some ⟨kb,0,none⟩∧DTrie (fun y=>W y∨y=h0.size) x h m kb (part x lev c l)
theorem Wn{c:Bool}{s:SliceV}{q q':Nat→List Pr}{kk b:Nat→Option Addr}{i:Nat}(h:i<2):dF c s q kk i=dF c s q' b i:=by
 unfold dF;by_cases a:i=0
 ·rw[if_pos a,if_pos a]
 ·rw[if_neg a,if_neg a,if_pos (by omega),if_pos (by omega)]
section
variable {bu:Bool} {s:SliceV} {q q':Nat→List Pr} {kk kk':Nat→Option Addr} {i:Nat}
theorem Ot(h:2≤i)(a:i<34):dF bu s q kk i=.int .i64 (Mw (q (i-2))):=by
 unfold dF;rw[if_neg (by omega),if_neg (by omega),if_pos a]
theorem KE(h:34≤i)(a:i<98)(e:i%2=0):dF bu s q kk i=.string (BD (gL (q ((i-34)/2)))).1:=by
 unfold dF;rw[if_neg (by omega),if_neg (by omega),if_neg (by omega),if_pos a,if_pos e]
theorem KC(h:34≤i)(a:i<98)(e:¬i%2=0):dF bu s q kk i=.string (BD (gL (q ((i-34)/2)))).2:=by
 unfold dF;rw[if_neg (by omega),if_neg (by omega),if_neg (by omega),if_pos a,if_neg e]
theorem KD(h:98≤i):dF bu s q kk i=.pointer (kk (i-98)):=by
 unfold dF;rw[if_neg (by omega),if_neg (by omega),if_neg (by omega),if_neg (by omega)]
theorem Oq{c:Nat}(hc:c<32)(b:∀j,j≠c→q' j=q j)(d:∀j,j≠c→kk' j=kk j)(i:Nat):
  dF bu s q' kk' i=if i=2+c then .int .i64 (Mw (q' c))else if i=34+c*2 then .string (BD (gL (q' c))).1 else if i=34+c*2+1 then .string (BD (gL (q' c))).2 else if i=98+c then .pointer (kk' c)else dF bu s q kk i:=by
 rcases(show i<2∨(2≤i∧i<34)∨(34≤i∧i<98)∨98≤i by omega)with h|h|h|h
 ·rw[if_neg (by omega),if_neg (by omega),if_neg (by omega),if_neg (by omega)];exact Wn h
 ·by_cases e:i=2+c
  ·rw[if_pos e,Ot h.1 h.2,show i-2=c by omega]
  ·rw[if_neg e,if_neg (by omega),if_neg (by omega),if_neg (by omega),Ot h.1 h.2,Ot h.1 h.2,b _ (by omega)]
 ·rw[if_neg (show ¬i=2+c by omega)]
  by_cases e:(i-34)/2=c
  ·by_cases a:i%2=0
   ·rw[if_pos (by omega),KE h.1 h.2 a,e]
   ·rw[if_neg (by omega),if_pos (by omega),KC h.1 h.2 a,e]
  ·rw[if_neg (by omega),if_neg (by omega),if_neg (by omega)]
   by_cases a:i%2=0
   ·rw[KE h.1 h.2 a,KE h.1 h.2 a,b _ e]
   ·rw[KC h.1 h.2 a,KC h.1 h.2 a,b _ e]
 ·rw[if_neg (by omega),if_neg (by omega),if_neg (by omega)]
  by_cases e:i=98+c
  ·rw[if_pos e,KD h,show i-98=c by omega]
  ·rw[if_neg e,KD h,KD h,d _ (by omega)]
end
theorem RU{h:ae}{b i:Nat}{f:Nat→Value}{t:TypeId}{v:Value}{k:ae→Prop}(d:h[b]? =some (.cells (dC f).toArray t (0,0))) (hi:i<130) (g:∀a,a[b]? =some (.cells (dC fun j=>if j=i then v else f j).toArray t (0,0))→Upd (· =b) h a→k a):
  Wr h ⟨b,i,none⟩∧At (hset h ⟨b,i,none⟩ v) k:=
 ⟨iX d (by rw[Ou];exact hi),vB d fun a c e=>g a (Vq▸c) e⟩
theorem Wj{h:ae}{b i:Nat}{f:Nat→Value}{t:TypeId}{v w:Value}{k:ae→Prop}(m:h[b]? =some (.cells (dC f).toArray t (0,0))) (hi:i+1<130)
  (p:∀h',h'[b]? =some (.cells (dC fun j=>if j=i+1 then w else if j=i then v else f j).toArray t (0,0))→Upd (· =b) h h'→k h'):uD h (some ⟨b,i,none⟩) 0 [v,w]∧At (iC h ⟨b,i,none⟩ 0 [v,w]) k:=by
 refine⟨.inr ⟨_,rfl,fun j o=>by rw[bV];exact iX m (by rw[Ou];simp at o;omega)⟩,bU ?_⟩
 simp only[iC,bV,Nat.add_zero,aI];exact(RU (k:=fun g=>k (hset g ⟨b,i+1,none⟩ w)) m (by omega) fun g e c=>(RU (k:=k) e hi fun n a d=>p n a (c.tr d)).2).2
set_option maxRecDepth 4000 in
theorem UQ{x:Hs}:∀(m:Nat),m≤13→∀{W:Nat→Prop} {h:ae} {s sh:SliceV} {l:List Pr},Sl eg 2 W h s l→(∀y,W y→y<h.size)→Sl (VJ x) 1 No h sh l→l.length≤60000→∀{K:Option Addr→ae→Prop},(∀u b,DTrie W x u m b l→Upd No h u→K (some ⟨b,0,none⟩) u)→
  HC PG Aj [.slice s.a s.len s.cap,.slice sh.a sh.len sh.cap,.int .i64 ((13-m:Nat):Int)] [.c .ptr] K h:=by
 intro m;induction m with
 |zero=>
  intro _ W h s sh l hs hW Y hn K hk;refine K6 s sh ((13-0:Nat):Int) ?_;unfold Fe bR cQ aY qg nv jU im cY ay ON mZ;refine ax.2 (aP fun f b1 k1=>?_)
  refine hk f h.size ⟨fun o=>by have:=hW _ o;omega,s,?_,hs.upd k1 fun _ h=>h.elim⟩ k1
  rw[b1];exact congrArg some (congrArg (fun c=>Obj.cells c ip (0,0)) (by kernel_rfl))
 |succ m ih=>
  intro hm W h s sh l hs hW Y hn K hk;have nwh:¬W h.size:=fun o=>by have:=hW _ o;omega
  refine K6 s sh ((13-(m+1):Nat):Int) ?_;unfold Fe bR cQ aY qg nv jU im cY ay ON mZ;have e13:(((13-(m+1):Nat):Int)==(13:Int))=false:=by rw[beq_eq_false_iff_ne];omega
  rw[e13];refine al.2 (aP fun f b1 k1=>?_)
  have b1':f[h.size]? =some (.cells (dC (dF false ⟨none,0,0⟩ (yv x (12-m) l 0) fun _=>none)).toArray ip (0,0)):=by
   have:yv x (12-m) l 0=fun _=> []:=by funext c;exact if_neg (by omega)
   rw[b1,this];exact congrArg some (congrArg (fun c=>Obj.cells c ip (0,0)) (by kernel_rfl))
  clear b1;have elev:(13-(m+1):Nat)=12-m:=by omega
  rw[elev];refine LoopP.ghost (fun(g:Nat×(Nat→Option Addr)) (t:Int) u=>t=(g.1:Int)∧g.1≤32∧DOf W x (12-m) m h u l g.1 g.2) (fun g=>32-g.1) (0,fun _=>none) ⟨rfl,by omega,b1',k1,fun c hc=>absurd hc (is _)⟩ ?_
  rintro I ⟨c,kk⟩ t hc ⟨rfl,hc32,G⟩ hI;simp only at hc32 G;have s1:=G.upd.size;have zc:=aN G.blk;refine aB (fun E=>?_) fun hge=>?_
  ·have E:c<32:=by have:(c:Int)<32:=E;omega
   refine Join.intro (fun(_:Unit) u=>∃kk',DOf W x (12-m) m h u l (c+1) kk') (fun R hR=>?_) ?_
   ·
    refine LoopP.ghost (fun(i:Nat) (t:SliceV×SliceV×Int) u=>t.2.2=(i:Int)∧i≤l.length∧TwoS x hc.size u.size u t.1 t.2.1 (part x (12-m) c (l.take i)) (part x (12-m) c (l.take i))∧Upd No hc u) (fun i=>l.length-i) 0 ⟨rfl,aS _,⟨No,No,OwnS.nil g9,OwnS.nil (Ri x),fun _ h=>h.elim,fun _ h=>h.elim⟩,Upd.refl _ _⟩ ?_
    rintro I2 i ⟨so,ss,ti⟩ hi ⟨e1,hil,hT,hu⟩ hI2;simp only at e1 hT;subst e1;have hlen:=hs.len;have hlen2:=Y.len;have s2:=hu.size;have hsi:=(hs.upd G.upd fun _ h=>h.elim).upd hu fun _ h=>h.elim
    have hshi:=(Y.upd G.upd fun _ h=>h.elim).upd hu fun _ h=>h.elim
    refine aB (fun d=>?_) fun hge2=>?_
    ·have d:i<l.length:=by have:(i:Int)<(s.len:Int):=d;omega
     have hpl:(part x (12-m) c (l.take i)).length≤60000:=by
      have:=jX (x:=x) (lev:=12-m) (c:=c) (l:=l.take i);rw[aD]at this;omega
     have X:part x (12-m) c (l.take (i+1))=if ck x (12-m) l[i].1=c then part x (12-m) c (l.take i)++ [l[i]]else part x (12-m) c (l.take i):=by rw[bB d,Pn]
     refine Join.intro (fun(t:SliceV×SliceV) u=>TwoS x hc.size u.size u t.1 t.2 (part x (12-m) c (l.take (i+1))) (part x (12-m) c (l.take (i+1)))∧Upd No hc u) (fun R2 F=>?_) ?_
     ·obtain⟨a,ha,_,hv⟩:=hsi.at (af d)
      refine⟨⟨by simp only;omega,by simp only;omega⟩,a,ha,_,hv 0 _ rfl,_,hv 1 _ rfl,qT (p:=l[i]) fun H b3 k3=>?_⟩
      obtain⟨a',ha',_,S⟩:=(hshi.upd k3 fun _ h=>h.elim).at0 (af d)
      refine⟨⟨by simp only;omega,by simp only;omega⟩,a',ha',_,S,V3 (lev:=12-m) (by omega) ?_⟩
      have hT3:=hT.upd0 k3;have s3:=k3.size;refine CondP.intro (fun e=>?_) fun e=>?_
      ·have e:ck x (12-m) l[i].1=c:=by
        have:((ck x (12-m) l[i].1:Nat):Int)=(c:Int):=by simpa using e
        omega
       rw[if_pos e]at X;rw[X]at F;have uu:∀{u:ae},Upd (fun b=>hc.size≤b) H u→Upd No hc u:=fun k=>(hu.tr k3).trans k fun y o=>.inr o
       have hab:a'.block<h.size:=Y.lt (fun e=>by rw[e]at d;simp at d) ha'
       have sD:=G.upd.size;have wide:∀{n:Nat} {f v:ae},hc.size≤f.size→Upd (fun b=>(hc.size≤b∧b<n)∨f.size≤b) f v→Upd (fun b=>hc.size≤b) f v:=fun hz k=>k.mono fun y o=>.inl (o.elim (fun h=>h.1) fun h=>by omega)
       refine⟨_,vc b3 0,_,vc b3 1,⟨by simp only;omega,by simp only;omega⟩,a',ha',_,S,?_,?_⟩
       ·refine aP fun Z U z=>⟨z.cell0 S,?_,?_⟩
        ·have s4:=z.size
         refine⟨_,kE U,VB (p:=l[i]) (hT3.upd0 z) (by omega) (by omega) (by omega) rfl fun s5 h5 P M=>⟨M.cell (z.cell0 S) (by rw[xD];omega),aP fun h6 b6 C=>?_⟩⟩
         have s5':=M.size;have s6:=C.size;refine⟨_,kE b6,appB (p:=l[i]) (P.upd0 C) (by omega) (by omega) (by omega) rfl fun s7 h7 O k7=>?_⟩
         exact F _ _ ⟨O,uu (((z.wide.tr (wide (by omega) M)).tr C.wide).tr (wide (by omega) k7))⟩
        ·refine aP fun h6 b6 C=>?_
         have s4:=z.size;have s6:=C.size;have z6:=aN b6;refine⟨_,kE (C.get0 U),VB (p:=l[i]) ((hT3.upd0 z).upd0 C) (by omega) (by omega) (by omega) rfl fun s5 h5 P M=>?_⟩
         have s5':=M.size;refine⟨_,kE (M.get b6 (by omega)),appB (p:=l[i]) P (by omega) (by omega) (by omega) rfl fun s7 h7 O k7=>?_⟩
         exact F _ _ ⟨O,uu (((z.wide.tr C.wide).tr (wide (by omega) M)).tr (wide (by omega) k7))⟩
       ·refine aP fun Z U z=>⟨⟨vc (z.get0 b3) 0,vc (z.get0 b3) 1⟩,aP fun h6 b6 C=>?_⟩
        have s4:=z.size;have s6:=C.size;have z4:=aN U;refine⟨_,kE b6,VB (p:=l[i]) ((hT3.upd0 z).upd0 C) (by omega) (by omega) (by omega) rfl fun s5 h5 P M=>?_⟩
        have s5':=M.size;refine⟨_,kE (M.get (C.get0 U) (by omega)),appB (p:=l[i]) P (by omega) (by omega) (by omega) rfl fun s7 h7 O k7=>?_⟩
        exact F _ _ ⟨O,uu (((z.wide.tr C.wide).tr (wide (by omega) M)).tr (wide (by omega) k7))⟩
      ·have e:¬ck x (12-m) l[i].1=c:=fun e'=>by
        have:¬((ck x (12-m) l[i].1:Nat):Int)=(c:Int):=by simpa using e
        omega
       rw[if_neg e]at X;rw[X]at F;obtain⟨A,B,w,Q,N,q4⟩:=hT3;exact F _ _ ⟨⟨A,B,w,Q,fun b hb=>⟨(N b hb).1,by have:=(N b hb).2.1;omega,(N b hb).2.2⟩,fun b hb=>⟨(q4 b hb).1,by have:=(q4 b hb).2;omega⟩⟩,hu.tr k3⟩
     ·rintro⟨so',ss'⟩ u ⟨hT',hu'⟩
      simp only;rw[cz d (by omega)];exact hI2 (i+1) _ _ ⟨rfl,d,hT',hu'⟩ (by omega)
    ·have hil':i=l.length:=by have:¬(i:Int)<(s.len:Int):=hge2;omega
     subst hil';rw[cd]at hT;have hDi:h.size<hi.size:=by omega
     have hbi:=hu.get0 G.blk;have hki:∀c',c'<c→2≤(part x (12-m) c' l).length→∃L,kk c'=some ⟨L,0,none⟩∧DTrie (fun y=>W y∨y=h.size) x hi m L (part x (12-m) c' l):=fun c' f v=>let⟨L,H,Z⟩:=G.kid c' f v;⟨L,H,DTrie.upd hu (fun _ h=>h.elim) Z⟩
     obtain⟨A,B,hA,hB,hA',hB'⟩:=hT;have T:Sl eg 2 (fun y=>W y∨y=h.size) hi so (part x (12-m) c l):=hA.sl fun y o _ hw=>by
      have:=(hA' y o).1;rcases hw with hw|hw
      ·have:=hW y hw;omega
      ·omega
     have hsB:Sl (VJ x) 1 No hi ss (part x (12-m) c l):=hB.sl fun _ _ _ h=>h
     have hq:=T.len;have hpl:(part x (12-m) c l).length≤l.length:=jX;have hU:=G.upd.tr hu;refine Join.plain ?_;refine CondP.intro (fun e=>?_) fun e=>?_
     ·
      have e:so.len=1:=by
       have:((so.len:Nat):Int)=1:=by simpa using e
       omega
      have hone:(part x (12-m) c l).length=1:=by omega
      obtain⟨p,hp⟩:=List.length_eq_one_iff.1 hone;rw[hp]at T;obtain⟨a,ha,_,hv⟩:=T.at (i:=0) (x:=p) rfl;refine⟨⟨by decide,by simp only;omega⟩,a,ha,_,hv 0 _ rfl,_,hv 1 _ rfl,_,rfl,⟨by omega,by omega⟩,_,rfl,?_⟩
      have ew:((c:Int).toNat*1)=c:=by omega
      have ew2:((c:Int).toNat*2)=c*2:=by omega
      simp only[ew,ew2,fE h,bV,aI];refine RU hbi (by omega) fun H b3 u3=>⟨⟨by omega,by omega⟩,Wj b3 (by omega) fun Z U u4=>aB (fun hl=>by omega) fun _=>?_⟩
      have D:Upd (· =h.size) hi Z:=u3.tr u4
      refine hR _ _ ⟨kk,?_,hU.own D (aj _),fun c' f v=>?_⟩
      ·rw[U]
       refine congrArg some (congrArg (fun c=>Obj.cells c ip (0,0)) (Ij fun j J=>?_))
       rw[Oq (q:=yv x (12-m) l c) (q':=yv x (12-m) l (c+1)) (kk:=kk) E (fun j J=>Hy J) (fun _ _=>rfl),Hz,hp]
       have e1:Mw [p]=1:=rfl;have e2:BD (gL [p])=p:=rfl;rw[e1,e2];by_cases w:j=2+c
       ·rw[if_neg (by omega),if_neg (by omega),if_pos w,if_pos w]
       ·by_cases Q:j=34+c*2
        ·rw[if_neg (by omega),if_pos Q,if_neg w,if_pos Q]
        ·by_cases N:j=34+c*2+1
         ·rw[if_pos N,if_neg w,if_neg Q,if_pos N]
         ·rw[if_neg N,if_neg Q,if_neg w,if_neg w,if_neg Q,if_neg N]
          by_cases q4:j=98+c
          ·rw[if_pos q4,KD (by omega),show j-98=c by omega]
          ·rw[if_neg q4]
      ·rcases bG c' c with hh|hh
       ·obtain⟨L,h3',h4'⟩:=hki c' hh v
        exact⟨L,h3',DTrie.upd D (fun y o=>.inl (.inr o)) h4'⟩
       ·rw[show c'=c by omega,hone]at v;omega
     ·have e:¬so.len=1:=fun e'=>by
       have:¬((so.len:Nat):Int)=1:=by simpa using e
       omega
      refine aB (fun V=>?_) fun hle=>?_
      ·
       have V:2≤(part x (12-m) c l).length:=by have:(so.len:Int)>1:=V;omega
       refine⟨_,rfl,_,rfl,?_⟩;have e14:IntKind.wrap .i64 (((12-m:Nat):Int)+1)=((13-m:Nat):Int):=by rw[ji (by omega)];omega
       rw[e14];refine ih (by omega) T (fun y o=>o.elim (fun o=>by have:=hW y o;omega) fun o=>by omega) hsB (by omega) fun v L tk k2=>⟨⟨by omega,by omega⟩,?_⟩
       have ew:((c:Int).toNat*1)=c:=by omega
       simp only[ew,fE h,bV,aI];refine RU (k2.get0 hbi) (by omega) fun H b3 u3=>⟨⟨by omega,by omega⟩,RU b3 (by omega) fun Z U u4=>?_⟩
       have D:Upd (· =h.size) v Z:=u3.tr u4
       refine hR _ _ ⟨fun j=>if j=c then some ⟨L,0,none⟩else kk j,?_,(hU.tr k2).own D (aj _),fun c' f v=>?_⟩
       ·rw[U]
        refine congrArg some (congrArg (fun c=>Obj.cells c ip (0,0)) (Ij fun j J=>?_))
        rw[Oq (q:=yv x (12-m) l c) (q':=yv x (12-m) l (c+1)) (kk:=kk) E (fun j J=>Hy J) (fun _ J=>if_neg J),Hz]
        have e1:Mw (part x (12-m) c l)=2:=by unfold Mw;rw[if_neg (by omega),if_pos V]
        have e2:gL (part x (12-m) c l)=none:=by
         match part x (12-m) c l,V with
         |a::b::r,_=>rfl
        rw[e1,e2,if_pos rfl];by_cases w:j=2+c
        ·rw[if_neg (by omega),if_pos w,if_pos w]
        ·by_cases q4:j=98+c
         ·rw[if_pos q4,if_neg w,if_neg (by omega),if_neg (by omega),if_pos q4]
         ·rw[if_neg q4,if_neg w,if_neg w]
          by_cases Q:j=34+c*2
          ·rw[if_pos Q,KE (by omega) (by omega) (by omega),show(j-34)/2=c by omega,Hx];rfl
          ·rw[if_neg Q]
           by_cases N:j=34+c*2+1
           ·rw[if_pos N,KC (by omega) (by omega) (by omega),show(j-34)/2=c by omega,Hx];rfl
           ·rw[if_neg N,if_neg q4]
       ·rcases bG c' c with hh|hh
        ·obtain⟨kb',h3',h4'⟩:=hki c' hh v
         exact⟨kb',by rw[if_neg (by omega)];exact h3',DTrie.upd D (fun y o=>.inl (.inr o)) (DTrie.upd k2 (fun _ h=>h.elim) h4')⟩
        ·obtain rfl:c'=c:=by omega
         exact⟨L,if_pos rfl,DTrie.upd D (fun y o=>.inl (.inr o)) tk⟩
      ·
       have hnil:part x (12-m) c l= []:=List.length_eq_zero_iff.1 (by have:¬(so.len:Int)>1:=hle;omega);refine hR _ _ ⟨kk,?_,hU,fun c' f v=>?_⟩
       ·rw[hbi]
        refine congrArg some (congrArg (fun c=>Obj.cells c ip (0,0)) (Ij fun j J=>?_))
        have:yv x (12-m) l (c+1)=yv x (12-m) l c:=by
         funext j;by_cases J:j=c
         ·rw[J,Hz,Hx,hnil]
         ·exact Hy J
        rw[this]
       ·rcases bG c' c with hh|hh
        ·exact hki c' hh v
        ·rw[show c'=c by omega,hnil]at v;simp at v
   ·rintro _ u ⟨kk',hD'⟩
    rw[cz E (by omega)];exact hI (c+1,kk') _ _ ⟨rfl,E,hD'⟩ (by simp only;omega)
  ·obtain rfl:c=32:=by have:¬(c:Int)<32:=hge;omega
   refine hk hc h.size ⟨nwh,kk,?_,fun c hc hp=>let⟨L,H,Z⟩:=G.kid c hc hp;⟨L,H,DTrie.less (fun _ h=>.inl h) Z⟩⟩ G.upd
   rw[G.blk];refine congrArg some (congrArg (fun c=>Obj.cells c ip (0,0)) (Ij fun i hi=>?_))
   have:∀c,c<32→yv x (12-m) l 32 c=part x (12-m) c l:=fun c hc=>if_pos hc
   unfold dF;by_cases h0:i<34
   ·by_cases f:i=0
    ·rw[if_pos f,if_pos f]
    ·by_cases v:i=1
     ·rw[if_neg f,if_neg f,if_pos v,if_pos v]
     ·rw[if_neg f,if_neg f,if_neg v,if_neg v,if_pos h0,if_pos h0,this _ (by omega)]
   ·rw[if_neg (show ¬i=0 by omega),if_neg (show ¬i=0 by omega),if_neg (show ¬i=1 by omega),if_neg (show ¬i=1 by omega),if_neg h0,if_neg h0]
    by_cases H:i<98
    ·rw[if_pos H,if_pos H,this _ (by omega)]
    ·rw[if_neg H,if_neg H]
end Go.Proofs
namespace Go.Proofs
open Go Go.Lift
theorem QP{x:Hs}{h:ae}{s:SliceV}{l:List Pr}(E:Sl eg 2 No h s l)(H:l.length≤60000)(v:∀p∈l,p.1.size≤1000000){K:Option Addr→ae→Prop}(O:∀d b,DTrie No x d 13 b l→Upd No h d→K (some ⟨b,0,none⟩) d):
  HC PG EB [.agg #[.int .u64 x.k0,.int .u64 x.k1,.int .u64 x.mask],.slice s.a s.len s.cap,.int .i64 0] [.c .ptr] K h:=by
 refine SA (x.k0,x.k1,x.mask) s 0 ?_;unfold Ld cQ ag aY nv Bx xb jU im ay ON;refine aP fun k b1 k1=>?_
 have z:=E.len;refine LoopP.ghost (fun(i:Nat) (t:SliceV×Int) d=>t.2=(i:Int)∧i≤l.length∧OwnS (VJ x) 1 oB (fun b=>k.size≤b) d t.1 (l.take i)∧Upd No k d) (fun i=>l.length-i) 0 ⟨rfl,aS _,OwnS.nil (Ri x),Upd.refl _ _⟩ ?_
 rintro I i ⟨T,S⟩ d ⟨C,hi,g,j⟩ F;simp only at C g;subst C;have e:=(E.upd k1 fun _ h=>h.elim).upd j fun _ h=>h.elim
 refine aB (fun c=>?_) fun q=>?_
 ·have c:i<l.length:=by have:(i:Int)<(s.len:Int):=c;omega
  refine Join.plain ?_;obtain⟨a,N,_,hv⟩:=e.at (af c);refine⟨⟨by simp only;omega,by simp only;omega⟩,a,N,_,hv 0 _ rfl,_,hv 1 _ rfl,qT (p:=l[i]) fun D b2 f=>?_⟩
  have n:=f.get0 (j.get0 b1);refine⟨_,vc n 0,_,vc n 1,_,vc n 2,_,vc b2 0,QQ (by have:=v _ (aU c);omega) fun Q B=>aP fun R L w=>⟨_,kE L,?_⟩⟩
  have A:=((j.tr f).tr B).tr w;refine AppP.own (M:=fun b=>k.size≤b) (ys:= [l[i]]) (((g.upd f fun _ _ h=>h).upd B fun _ _ h=>h).upd w fun _ _ h=>h) rfl rfl rfl rfl (by omega) (by simp only[aE,aD];omega) A.size fun U P o u=>?_
  simp only;rw[cz c (by omega)];refine F (i+1) _ _ ⟨rfl,c,?_,A.trans u fun y G=>.inr G⟩ (by omega)
  rw[bB c];exact o
 ·have m:i=l.length:=by have:¬(i:Int)<(s.len:Int):=q;omega
  subst m;rw[cd]at g;exact UQ 13 (aj _) e (fun _ h=>h.elim) (g.sl fun _ _ _ h=>h) H fun D b J f=>O D b J ((k1.tr j).tr f)
theorem Gl(n:Nat):IntKind.wrap .u8 (n:Int)=((UInt8.ofNat n).toNat:Int):=by rw[IntKind.wrap_u8];simp
theorem Dc{n:Nat}(e:n≤1000000000){h:ae}{K:SliceV→ae→Prop}(d:∀s' h',OwnS nX 1 cr (fun y=>h.size≤y) h' s' (ma n 2)→Upd No h h'→K s' h'):HC PG rA [.int .i64 (n:Int)] [.c .slice] K h:=by
 refine PU (n:Int) ?_;unfold Hg SX;have b:my (n:Int) 256=((n>>>(8*1):Nat):Int):=by rw[fu (by omega),cA];rfl
 have a:n>>>(8*1)≤n:=il ..;rw[b,ji (by generalize n>>>(8*1)=y at a;omega),Gl,Gl];refine⟨by decide,aP fun c b1 k1=>d _ c ⟨rfl,qJ,aj _,.inr ⟨h.size,[],rfl,aj _,b1,rfl⟩⟩ k1⟩
theorem JK{n:Nat}(f:n<4294967296){h:ae}{K:SliceV→ae→Prop}(e:∀s' h',OwnS nX 1 cr (fun y=>h.size≤y) h' s' (ma n 4)→Upd No h h'→K s' h'):HC PG vu [.int .u32 (n:Int)] [.c .slice] K h:=by
 refine Ni (n:Int) ?_;unfold Fc VP;have q:∀k:Nat,((n>>>k:Nat):Int)<4294967296:=fun k=>by have:n>>>k≤n:=il ..;generalize n>>>k=y at this;omega
 have a:my (n:Int) 256=((n>>>(8*1):Nat):Int):=by rw[fu (by omega),cA];rfl
 have c:my (n:Int) 65536=((n>>>(8*2):Nat):Int):=by rw[fu (by omega),cA];rfl
 have d:my (n:Int) 16777216=((n>>>(8*3):Nat):Int):=by rw[fu (by omega),cA];rfl
 have w:∀k:Nat,IntKind.wrap .u32 ((n>>>k:Nat):Int)=((n>>>k:Nat):Int):=fun k=>by have:=q k;generalize n>>>k=y at this;rw[IntKind.wrap_u32];omega
 rw[a,c,d,w,w,w,Gl,Gl,Gl,Gl];refine⟨by decide,by decide,by decide,aP fun b b1 k1=>e _ b ⟨rfl,qJ,aj _,.inr ⟨h.size,[],rfl,aj _,b1,rfl⟩⟩ k1⟩
theorem wT{M W:Nat→Prop}{h:ae}{a e:SliceV}{out ys:List UInt8}{K:SliceV→ae→Prop}(d:OwnS nX 1 cr M h a out)(c:Sl nX 1 W h e ys)(hM:∀b,h.size≤b→M b)(g:out.length+ys.length≤140737488355328)
  (f:∀s' h',OwnS nX 1 cr M h' s' (out++ys)→Upd M h h'→K s' h'):∃xs,SRow h e.a (e.len*1) xs∧AppP (some [.int .u8 0]) 1 1 cr a.a a.len a.cap e.len xs h K:=
 ⟨_,c.srow,AppP.own (ys:=ys) d c.len rfl (zU _) rfl (by omega) (by omega) (hM _ (aj _)) f⟩
theorem zT{b:ByteArray}(t:b.size≤1000000){h:ae}{K:SliceV→ae→Prop}(p:∀s' h',OwnS nX 1 cr (fun y=>h.size≤y) h' s' (nf b)→Upd No h h'→K s' h'):HC PG pM [.string b] [.c .slice] K h:=by
 refine Ng b ?_;unfold E9;refine Dc (by omega) fun s a f k1=>?_
 intro c hc;have d:=Upd.push No a (.cells (dS b++dT (c-b.size) (Value.int .u8 0)).toArray cr (c,c+1));have b2:=ww a (.cells (dS b++dT (c-b.size) (Value.int .u8 0)).toArray cr (c,c+1));generalize a.push (.cells (dS b++dT (c-b.size) (Value.int .u8 0)).toArray cr (c,c+1))=h2 at d b2;have q:b.data.toList.length=b.size:=by simp
 have g:Sl nX 1 No h2 ⟨some (aC a),b.size,c⟩ b.data.toList:=by
  refine⟨by simp,qJ,fun _=>⟨_,rfl,id,pX b2 fun i v hv=>?_⟩⟩
  rw[aI,gO,sS,List.getElem?_append_left (List.getElem?_eq_some_iff.1 hv).1];exact hv
 have k:=k1.size;have u:=d.size;refine wT (f.upd d fun _ _ h=>h) g (fun y j=>by show h.size≤y;omega) (by rw[df];omega) fun n m e o=>p n m e ((k1.tr d).trans o fun y j=>.inr j)
theorem Bt{W:Nat→Prop}{h:ae}{s:SliceV}{l:List Pr}(E:Sl eg 2 W h s l)(B:Fit l)(hn:l.length≤60000){K:SliceV→ae→Prop}(T:∀s' e,OwnS nX 1 cr (fun y=>h.size≤y) e s' (jY l)→Upd No h e→K s' e):
  HC PG qp [.slice s.a s.len s.cap] [.c .slice] K h:=by
 refine K4 s ?_;unfold CM cQ aY nv jU im ay;have C:=E.len;refine LoopP.ghost (fun(i:Nat) (t:SliceV×Int) e=>t.2=(i:Int)∧i≤l.length∧OwnS nX 1 cr (fun b=>h.size≤b) e t.1 (jY (l.take i))∧Upd No h e) (fun i=>l.length-i) 0 ⟨rfl,aS _,OwnS.nil qJ,Upd.refl _ _⟩ ?_
 rintro I i ⟨so,ti⟩ e ⟨D,hi,g,j⟩ F;simp only at D g;subst D;refine aB (fun c=>?_) fun v=>?_
 ·have c:i<l.length:=by have:(i:Int)<(s.len:Int):=c;omega
  refine Join.plain ?_;obtain⟨a,R,_,hv⟩:=(E.upd j fun _ h=>h.elim).at (af c)
  have S:=B l[i] (aU c);have k:=l7 (l:=l.take i) fun q O=>B q (List.mem_of_mem_take O)
  rw[aD,Nat.min_eq_left hi]at k;have U:=iS l[i].1;have P:=iS l[i].2;refine⟨⟨by simp only;omega,by simp only;omega⟩,a,R,_,hv 0 _ rfl,_,hv 1 _ rfl,qT (p:=l[i]) fun P b2 m=>?_⟩
  refine⟨_,vc b2 0,_,vc b2 1,zT (by omega) fun s3 X A f=>⟨vc (f.get0 b2) 1,?_⟩⟩
  have N:=(j.tr m).tr f;have Y:=aN b2;have J:=m.size;have G:=f.size;have s0:=j.size;refine wT (M:=fun y=>h.size≤y∧y≠e.size) (((g.within.upd m fun _ _ h=>h).upd f fun _ _ h=>h).more fun y d=>⟨d.1,by omega⟩) (A.sl (W:=No) fun _ _ _ h=>h) (fun y d=>by omega) (by omega) fun s4 Z z u=>⟨vc (u.get (f.get0 b2) (by omega)) 1,?_⟩
  have H:=u.size;refine zT (by omega) fun s5 V o x=>?_
  have L:=x.size;refine wT (M:=fun y=>h.size≤y) ((z.upd x fun _ _ h=>h).more fun y d=>d.1) (o.sl (W:=No) fun _ _ _ h=>h) (fun y d=>by show h.size≤y;omega) (by rw[ad];omega) fun s6 h6 w Q=>?_
  simp only;rw[cz c (by omega)];refine F (i+1) _ _ ⟨rfl,c,?_,(((N.trans u fun y d=>.inr d.1)).tr x).trans Q fun y d=>.inr d⟩ (by omega)
  rw[Cn c,Co,←au];exact w
 ·have n:i=l.length:=by have:¬(i:Int)<(s.len:Int):=v;omega
  subst n;rw[cd]at g;exact T _ _ g j
theorem Ph{W W':Nat→Prop}{h:ae}{s s':SliceV}{l:List UInt8}(g:Sl nX 1 W h s l)(c:Sl nX 1 W' h s' l)(p:l.length≤1000000000000){K:Bool→ae→Prop}(o:K true h):HC PG yQ [.slice s.a s.len s.cap,.slice s'.a s'.len s'.cap] [.c .bool] K h:=by
 refine Nh s s' ?_;unfold Fa bR cQ;have k:=g.len;have j:=c.len;rw[k,j,bne_self_eq_false];refine al.2 ?_;refine LoopP.ghost (fun(i:Nat) (t:Int) f=>t=(i:Int)∧i≤l.length∧f=h) (fun i=>l.length-i) 0 ⟨rfl,aS _,rfl⟩ ?_
 rintro I i t f ⟨rfl,hi,rfl⟩ m;refine aB (fun b=>?_) fun _=>o
 have b:i<l.length:=by omega
 obtain⟨a,n,_,hv⟩:=g.at0 (af b);obtain⟨a',d,_,e⟩:=c.at0 (af b);refine⟨⟨by omega,by omega⟩,a,n,_,hv,⟨by omega,by omega⟩,a',d,_,e,?_⟩
 rw[bne_self_eq_false];refine al.2 ?_;rw[cz b (by omega)];exact m (i+1) _ _ ⟨rfl,b,rfl⟩ (by omega)
end Go.Proofs
namespace Go.Proofs
open Go Go.Lift
abbrev W9(lab:ByteArray)(has:Bool)(val:ByteArray)(s:SliceV)(_:Option Addr):Array Value:= #[.string lab,.bool has,.string val,sv s]
def DxF(W:Nat→Prop)(h:ae):Fo→List (Option Addr)→Prop
 | .nil,ks=>ks= []
 | .cons lab w kids rest,ks=>∃b sl val s ow ks1 ks',ks=some ⟨b,0,none⟩::ks'∧sl.data.toList=lab∧h[b]? =some (.cells (W9 sl w.isSome val s ow) nJ (0,0))∧val=w.getD ⟨#[]⟩∧Sl lY 1 W h s ks1∧(s.len≤s.cap∧¬W b)∧DxF W h kids ks1∧DxF W h rest ks'
def DxN(W:Nat→Prop)(h:ae)(b:Nat)(sl:ByteArray)(w:Option ByteArray)(F:Fo):Prop:=∃val s ow ks,h[b]? =some (.cells (W9 sl w.isSome val s ow) nJ (0,0))∧val=w.getD ⟨#[]⟩∧Sl lY 1 W h s ks∧(s.len≤s.cap∧¬W b)∧DxF W h F ks
def DKid(W:Nat→Prop)(h:ae)(k:Option Addr)(n:Bn):Prop:=∃b sl,k=some ⟨b,0,none⟩∧sl.data.toList=n.1∧DxN W h b sl n.2.1 n.2.2
def DxL(W:Nat→Prop)(h:ae)(ks:List (Option Addr))(L:List Bn):Prop:=ks.length=L.length∧∀p∈ks.zip L,DKid W h p.1 p.2
theorem An{W:Nat→Prop}{h:ae}:∀{F:Fo} {ks:List (Option Addr)},DxF W h F ks↔DxL W h ks F.toL
 | .nil,ks=>by
  unfold DxF DxL;simp[Fo.toL]
 | .cons lab w kids rest,ks=>by
  unfold DxF DxL;rw[Fo.toL_cons];constructor
  ·rintro⟨b,sl,val,s,ow,c,d,rfl,f,i,n,j,g,m,q⟩
   obtain⟨t,v⟩:=An.1 q;refine⟨by simp[t],fun p a=>?_⟩
   rw[f8]at a;rcases aw.1 a with rfl|a
   ·exact⟨b,sl,rfl,f,val,s,ow,c,i,n,j,g,m⟩
   ·exact v p a
  ·cases ks with
   |nil=>rintro⟨e,_⟩;simp at e
   |cons k d=>
    rintro⟨e,a⟩;rw[f8]at a;obtain⟨b,sl,u,f,val,s,ow,c,i,n,j,g,m⟩:=a _ (av ..);refine⟨b,sl,val,s,ow,c,d,by rw[←u],f,i,n,j,g,m,An.2 ⟨by simpa using e,fun p o=>a p (aL _ o)⟩⟩
theorem DxF.upd0{W:Nat→Prop}{h a:ae}(k:Upd No h a):∀{F:Fo} {ks:List (Option Addr)},DxF W h F ks→DxF W a F ks
 | .nil,_,r=>r
 | .cons _ _ _ _,_,⟨b,sl,val,s,ow,ks1,ks',e0,e1,e2,e3,e4,e5,e6,e7⟩=>⟨b,sl,val,s,ow,ks1,ks',e0,e1,k.get0 e2,e3,e4.upd k fun _ h=>h.elim,e5,DxF.upd0 k e6,DxF.upd0 k e7⟩
theorem DxN.upd0{W:Nat→Prop}{h a:ae}(k:Upd No h a){b:Nat}{sl:ByteArray}{w:Option ByteArray}{F:Fo}:DxN W h b sl w F→DxN W a b sl w F
 |⟨val,s,ow,ks,e2,e3,e4,e5,e6⟩=>⟨val,s,ow,ks,k.get0 e2,e3,e4.upd k fun _ h=>h.elim,e5,DxF.upd0 k e6⟩
theorem DKid.upd0{W:Nat→Prop}{h c:ae}(k:Upd No h c){a:Option Addr}{n:Bn}:DKid W h a n→DKid W c a n
 |⟨b,sl,e1,e2,e3⟩=>⟨b,sl,e1,e2,e3.upd0 k⟩
theorem DxF.less{W W':Nat→Prop}{h:ae}(hm:∀b,W' b→W b∨h.size≤b):∀{F:Fo} {ks:List (Option Addr)},DxF W h F ks→DxF W' h F ks
 | .nil,_,r=>r
 | .cons _ _ _ _,_,⟨b,sl,val,s,ow,ks1,ks',e0,e1,e2,e3,e4,e5,e6,e7⟩=>⟨b,sl,val,s,ow,ks1,ks',e0,e1,e2,e3,e4.less hm,⟨e5.1,fun hx=>(hm _ hx).elim e5.2 fun h=>by have:=aN e2;omega⟩,DxF.less hm e6,DxF.less hm e7⟩
theorem DxN.less{W W':Nat→Prop}{h:ae}(hm:∀b,W' b→W b∨h.size≤b){b:Nat}{sl:ByteArray}{w:Option ByteArray}{F:Fo}:DxN W h b sl w F→DxN W' h b sl w F
 |⟨val,s,ow,ks,e2,e3,e4,e5,e6⟩=>⟨val,s,ow,ks,e2,e3,e4.less hm,⟨e5.1,fun hx=>(hm _ hx).elim e5.2 fun h=>by have:=aN e2;omega⟩,DxF.less hm e6⟩
theorem DxF.updM{W M:Nat→Prop}{h a:ae}(k:Upd M h a)(hm:∀b,M b→W b∨h.size≤b):∀{F:Fo} {ks:List (Option Addr)},DxF W h F ks→DxF W a F ks
 | .nil,_,r=>r
 | .cons _ _ _ _,_,⟨b,sl,val,s,ow,ks1,ks',e0,e1,e2,e3,e4,e5,e6,e7⟩=>⟨b,sl,val,s,ow,ks1,ks',e0,e1,k.get e2 (fun hx=>(hm _ hx).elim e5.2 fun h=>by have:=aN e2;omega),e3,e4.upd k hm,e5,DxF.updM k hm e6,DxF.updM k hm e7⟩
theorem DxN.updM{W M:Nat→Prop}{h a:ae}(k:Upd M h a)(hm:∀b,M b→W b∨h.size≤b){b:Nat}{sl:ByteArray}{w:Option ByteArray}{F:Fo}:DxN W h b sl w F→DxN W a b sl w F
 |⟨val,s,ow,ks,e2,e3,e4,e5,e6⟩=>⟨val,s,ow,ks,k.get e2 (fun hx=>(hm _ hx).elim e5.2 fun h=>by have:=aN e2;omega),e3,e4.upd k hm,e5,DxF.updM k hm e6⟩
theorem DxL.upd0{W:Nat→Prop}{h a:ae}(k:Upd No h a){ks:List (Option Addr)}{L:List Bn}(r:DxL W h ks L):DxL W a ks L:=⟨r.1,fun p b=>(r.2 p b).upd0 k⟩
theorem DxL.app{W:Nat→Prop}{h:ae}{ks b:List (Option Addr)}{L L':List Bn}(r:DxL W h ks L)(c:DxL W h b L'):DxL W h (ks++b) (L++L'):=by
 refine⟨by rw[ad,ad,r.1,c.1],fun p a=>?_⟩
 rw[List.zip_append r.1]at a;rcases List.mem_append.1 a with a|a
 ·exact r.2 p a
 ·exact c.2 p a
theorem DxL.one{W:Nat→Prop}{h:ae}{k:Option Addr}{n:Bn}(c:DKid W h k n):DxL W h [k] [n]:=⟨rfl,fun p a=>by rw[f8,List.zip_nil_left]at a;rw[List.mem_singleton.1 a];exact c⟩
theorem DxL.at{W:Nat→Prop}{h:ae}{ks:List (Option Addr)}{L:List Bn}(r:DxL W h ks L){i:Nat}(hi:i<L.length):∃b sl,ks[i]? =some (some ⟨b,0,none⟩)∧sl.data.toList=L[i].1∧DxN W h b sl L[i].2.1 L[i].2.2:=by
 have e:i<ks.length:=by rw[r.1];exact hi
 have hz:i<(ks.zip L).length:=by rw[List.length_zip];omega
 have:=r.2 _ (aU hz);rw[List.getElem_zip]at this;obtain⟨b,sl,a,d,c⟩:=this;exact⟨b,sl,by rw[af e];exact congrArg some a,d,c⟩
theorem DKid.less{W W':Nat→Prop}{h:ae}(hm:∀b,W' b→W b∨h.size≤b){a:Option Addr}{n:Bn}:DKid W h a n→DKid W' h a n
 |⟨b,sl,e1,e2,e3⟩=>⟨b,sl,e1,e2,e3.less hm⟩
theorem DKid.updM{W M:Nat→Prop}{h c:ae}(k:Upd M h c)(hm:∀b,M b→W b∨h.size≤b){a:Option Addr}{n:Bn}:DKid W h a n→DKid W c a n
 |⟨b,sl,e1,e2,e3⟩=>⟨b,sl,e1,e2,e3.updM k hm⟩
theorem DxL.less{W W':Nat→Prop}{h:ae}(hm:∀b,W' b→W b∨h.size≤b){ks:List (Option Addr)}{L:List Bn}(r:DxL W h ks L):DxL W' h ks L:=⟨r.1,fun p a=>(r.2 p a).less hm⟩
theorem DxL.updM{W M:Nat→Prop}{h a:ae}(k:Upd M h a)(hm:∀b,M b→W b∨h.size≤b){ks:List (Option Addr)}{L:List Bn}(r:DxL W h ks L):DxL W a ks L:=⟨r.1,fun p c=>(r.2 p c).updM k hm⟩
theorem L2{a b:ByteArray}(z:a.size≤1000000){h:ae}{K:Int→ae→Prop}(v:K (cm a.data.toList b.data.toList:Nat) h):HC PG vr [.string a,.string b] [.c (.int .i64)] K h:=by
 refine IQ a b ?_;unfold AW;have A:a.data.toList.length=a.size:=by simp
 have y:b.data.toList.length=b.size:=by simp
 refine LoopP.ghost (fun(i:Nat) (t:Int) o=>t=(i:Int)∧i≤min a.size b.size∧o=h∧∀j,j<i→a.data.toList[j]? =b.data.toList[j]?) (fun i=>min a.size b.size-i) 0 ⟨rfl,aS _,rfl,fun j q=>absurd q (is _)⟩ ?_
 rintro I i t o ⟨rfl,hi,rfl,k⟩ w;refine Join.intro (fun t g=>g=o∧(t=true→i<min a.size b.size∧a.data.toList[i]? =b.data.toList[i]?)∧(t=false→cm a.data.toList b.data.toList=i)) (fun R n=>?_) ?_
 ·refine aB (fun m=>?_) fun m=>n _ _ ⟨rfl,fun h=>(by cases h),fun _=>G6 (by omega) (by omega) k (by omega)⟩
  refine aB (fun g=>?_) fun g=>n _ _ ⟨rfl,fun h=>(by cases h),fun _=>G6 (by omega) (by omega) k (by omega)⟩
  have d:i<a.size:=by omega
  have c:i<b.size:=by omega
  have p:a.data.toList[i]? =some a[i]:=by rw[←Ks,getElem?_pos a i d]
  have u:b.data.toList[i]? =some b[i]:=by rw[←Ks,getElem?_pos b i c]
  refine⟨a[i],by omega,by rw[aM,getElem?_pos a i d],b[i],by omega,by rw[aM,getElem?_pos b i c],n _ _ ⟨rfl,fun h=>⟨by omega,?_⟩,fun h=>?_⟩⟩
  ·have:((a[i].toNat:Int))=(b[i].toNat:Int):=by simpa using h
   rw[p,u,UInt8.toNat_inj.1 (show a[i].toNat=b[i].toNat by omega)]
  ·refine G6 (by omega) (by omega) k (.inr (.inr fun e=>?_))
   rw[p,u]at e;rw[bA.inj e]at h;simp at h
 ·rintro t g ⟨rfl,m,x⟩
  cases t with
  |true=>
   obtain⟨f,e⟩:=m rfl;refine ax.2 ?_;rw[cz f (by omega)];refine w (i+1) _ _ ⟨rfl,f,rfl,fun j q=>?_⟩ (by omega)
   rcases bG j i with s|s
   ·exact k j s
   ·rw[show j=i by omega];exact e
  |false=>
   refine al.2 ?_;rw[x rfl]at v;exact v
theorem Uv:∀{x y:List UInt8} {t:Nat},t≤x.length→t≤y.length→x.take t=y.take t→t≤cm x y
 |_,_,0,_,_,_=>aS _
 | [],_,t+1,h,_,_=>by simp at h
 |_::_,[],t+1,_,h,_=>by simp at h
 |a::x,b::y,t+1,h1,h2,e=>by
  rw[cZ,cZ]at e;obtain⟨c,d⟩:=eO.inj e;have:=Uv (x:=x) (y:=y) (t:=t) (by simpa using h1) (by simpa using h2) d;unfold cm;rw[if_pos c];omega
def Uf(t:Nat)(p:Pr):Pr:=(p.1.extract t p.1.size,p.2)
theorem GN(t:Nat)(p:Pr):ky (Uf t p)=(ky p).drop t:=Am p.1 t
def OD(B:Nat):Prop:=∀{W:Nat→Prop} {h:ae} {s:SliceV} {l:List Pr},Sl eg 2 No h s l→s.len≤s.cap→Beg l []→(∀p∈l,(ky p).length≤B)→l.length≤100000→(∀y,W y→y<h.size)→∀{K:SliceV→ae→Prop},
 (∀h' s' ks L,OwnS lY 1 rb (fun y=>h.size≤y) h' s' ks→DxL W h' ks L→Row L l [] []→Upd No h h'→K s' h')→HC PG rj [.slice s.a s.len s.cap] [.c .slice] K h
def vM(to:Nat)(l:List Pr):List Pr:=(l.filter fun p=>decide ((ky p).length≠to)).map (Uf to)
theorem LW{to:Nat}{l:List Pr}{i:Nat}(hi:i<l.length):vM to (l.take (i+1))=if(ky l[i]).length=to then vM to (l.take i)else vM to (l.take i)++ [Uf to l[i]]:=by
 unfold vM;rw[bB hi,gZ,List.map_append,cE,nG];by_cases h:(ky l[i]).length=to
 ·rw[if_pos h,if_neg (by simpa using h)];simp
 ·rw[if_neg h,if_pos (by simpa using h)];rfl
theorem MX{W:Nat→Prop}{B:Nat}(hB:B≤1000000)(Y:∀B',B'<B→OD B'){h:ae}{s:SliceV}{l r:List Pr}{f g:Pr}(hs:Sl eg 2 No h s l)(bg:Beg l [])(S:∀p∈l,(ky p).length≤B)(hn:l.length≤100000)(hW:∀y,W y→y<h.size)
  (w:l=f::r)(hg:l.getLast? =some g)(hb:bt 0 f=bt 0 g){K:Option Addr→ae→Prop}
  (hk:∀z a n,DKid W z a n→Lg n→hd n.1=bt 0 f→(∀k v,sy n k v↔T9 l [] k v)→Upd No h z→K a z):HC PG vq [.slice s.a s.len s.cap] [.c .ptr] K h:=by
 refine IP s ?_;unfold AV cQ aY nv jU im cY ay;have hlen:=hs.len;have hl0:0<l.length:=by rw[w];simp
 have hfm:f∈l:=by rw[w];exact av ..
 have hgm:g∈l:=ia hg;obtain⟨a,ha,_,hvf⟩:=hs.at (i:=0) (x:=f) (by rw[w];rfl);obtain⟨q1,q2,q3,q4,q5⟩:=Ha bg ⟨r,w⟩ hg hb;have hbc:= @MW l (if(ky f).length=cm (ky f) (ky g)then l.drop 1 else l) [] f g bg ⟨r,w⟩ hg hb
 have hcg:cm (ky f) (ky g)=cm (ky f) (ky g):=rfl;obtain⟨to,Z⟩:∃to,cm (ky f) (ky g)=to:=⟨_,rfl⟩;rw[Z]at q1 q2 q3 q4 hbc;have hszf:f.1.size=(ky f).length:=(Mu f.1).symm;have hfB:=S f hfm;have hle:∀p∈l,to≤(ky p).length:=fun p d=>(q4 p d).elim (fun e=>e▸q2) Nat.le_of_lt
 have hcm:∀p∈l,to≤cm (ky f) (ky p):=fun p d=>Uv q2 (hle p d) (q3 p d).symm
 have hpos:0<to:=by simpa using q1
 refine⟨⟨by decide,by omega⟩,a,ha,_,hvf 0 _ rfl,?_⟩
 refine LoopP.ghost (fun(g:Nat×Nat) (t:Int×Int) z=>t=((g.2:Int),(g.1:Int))∧g.1≤l.length∧to≤g.2∧g.2≤(ky f).length∧(g.1=l.length→g.2=to)∧Upd No h z) (fun g=>l.length-g.1) (0,(ky f).length) ⟨by rw[hszf];rfl,aS _,q2,aj _,fun e=>by simp only at e;omega,Upd.refl _ _⟩ ?_
 rintro I ⟨i,n⟩ t z ⟨rfl,hi,hn1,hn2,T,hu⟩ hI;simp only at hi hn1 hn2 T;refine aB (fun b=>?_) fun V=>?_
 ·have b:i<l.length:=by have:(i:Int)<(s.len:Int):=b;omega
  have D:l[i]∈l:=aU b;refine Join.intro (fun t u=>∃n':Nat,t=(n':Int)∧to≤n'∧n'≤(ky f).length∧(i+1=l.length→n'=to)∧Upd No h u) (fun R hR=>?_) ?_
  ·obtain⟨a',U,_,hv⟩:=(hs.upd hu fun _ h=>h.elim).at (af b)
   refine⟨⟨by simp only;omega,by simp only;omega⟩,a',U,_,hv 0 _ rfl,_,hv 1 _ rfl,qT (p:=l[i]) fun u b2 k2=>?_⟩
   obtain⟨a2,ha2,_,hv2⟩:=((hs.upd hu fun _ h=>h.elim).upd k2 fun _ h=>h.elim).at (i:=0) (x:=f) (by rw[w];rfl)
   refine⟨⟨by decide,by omega⟩,a2,ha2,_,hv2 0 _ rfl,_,vc b2 0,L2 (by omega) ?_⟩
   have hc1:=hcm _ D;have hc2:=(Oy (ky f) (ky l[i])).1;have E:i+1=l.length→l[i]=g:=fun e=>by
    rw[List.getLast?_eq_getElem?,show l.length-1=i by omega,af b]at hg
    exact bA.inj hg
   change CondP (decide ((cm (ky f) (ky l[i]):Int)<(n:Int))) _ _;refine aB (fun hc=>hR _ _ ⟨_,rfl,hc1,hc2,fun e=>?_,hu.tr k2⟩) fun hc=>hR _ _ ⟨n,rfl,hn1,hn2,fun e=>?_,hu.tr k2⟩
   ·rw[E e,Z]
   ·rw[E e,Z]at hc;omega
  ·rintro t u ⟨n',rfl,G,h2',N,m⟩
   simp only;rw[cz b (by omega)];exact hI (i+1,n') _ _ ⟨rfl,b,G,h2',N,m⟩ (by simp only;omega)
 obtain rfl:i=l.length:=by have:¬(i:Int)<(s.len:Int):=V;omega
 obtain rfl:n=to:=T rfl;clear T hI;obtain⟨a',U,_,hv⟩:=(hs.upd hu fun _ h=>h.elim).at (i:=0) (x:=f) (by rw[w];rfl)
 refine⟨⟨by decide,by omega⟩,a',U,f.1,hv 0 _ rfl,⟨by omega,by simp only;omega⟩,aP fun G b1 k1=>?_⟩
 have u1:=hu.tr k1;have z1:=aN b1;have s0:=hu.size;simp only[aM]at b1⊢;have hlab:(f.1.extract 0 n).data.toList=((ky f).take n).drop ([]:List UInt8).length:=by rw[Al];rfl
 refine LoopP.ghost (fun(i:Nat) (t:SliceV×Int) u=>t.2=(i:Int)∧i≤l.length∧u[z.size]? =some (.cells #[.string (f.1.extract 0 n),.bool (if 0<i∧(ky f).length=n then some f.2 else none:Option ByteArray).isSome,.string ((if 0<i∧(ky f).length=n then some f.2 else none:Option ByteArray).getD ⟨#[]⟩),.slice none 0 0] nJ (0,0))∧
  OwnS eg 2 bX (fun y=>G.size≤y) u t.1 (vM n (l.take i))∧Upd No h u∧G.size≤u.size) (fun i=>l.length-i) 0 ⟨rfl,aS _,by rw[if_neg (by omega)];exact b1,OwnS.nil g9,u1,aj _⟩ ?_
 rintro I i ⟨so,ti⟩ u ⟨e1,hi2,c2,ho,m,hz2⟩ hI;simp only at e1 ho;subst e1;refine aB (fun b=>?_) fun V=>?_
 ·have b:i<l.length:=by have:(i:Int)<(s.len:Int):=b;omega
  have D:l[i]∈l:=aU b;have J:=LW (to:=n) b;have hszi:l[i].1.size=(ky l[i]).length:=(Mu l[i].1).symm;have hiB:=S _ D;refine Join.intro (fun t N=>N[z.size]? =some (.cells #[.string (f.1.extract 0 n),.bool (if 0<i+1∧(ky f).length=n then some f.2 else none:Option ByteArray).isSome,.string ((if 0<i+1∧(ky f).length=n then some f.2 else none:Option ByteArray).getD ⟨#[]⟩),.slice none 0 0] nJ (0,0))∧
   OwnS eg 2 bX (fun y=>G.size≤y) N t (vM n (l.take (i+1)))∧Upd No h N∧G.size≤N.size) (fun R hR=>?_) ?_
  ·obtain⟨a3,ha3,_,hv3⟩:=(hs.upd m fun _ h=>h.elim).at (af b)
   refine⟨⟨by simp only;omega,by simp only;omega⟩,a3,ha3,_,hv3 0 _ rfl,_,hv3 1 _ rfl,qT (p:=l[i]) fun N b3 k3=>⟨_,vc b3 0,?_⟩⟩
   have z3:=aN b3;have s3:=k3.size;have zh2:=aN c2;have c3:=k3.get0 c2;refine CondP.intro (fun C=>?_) fun C=>?_
   ·have C:(ky l[i]).length=n:=by
     have:((l[i].1.size:Nat):Int)=(n:Int):=by simpa using C
     omega
    have hfi:l[i]=f:=(q4 _ D).resolve_right (by omega);rw[if_pos C]at J;refine⟨_,vc b3 1,_,rfl,?_⟩;refine sA (i:=1) c3 (show 1<4 by decide) rfl fun h4 b4 Q=>⟨vc (Q.oth b3 (by omega)) 1,_,rfl,?_⟩
    refine sA (i:=2) b4 (show 2<4 by decide) rfl fun h5 b5 u5=>hR _ _ ⟨?_,?_,((m.tr k3).own Q (by omega)).own u5 (by omega),?_⟩
    ·rw[if_pos (show 0<i+1∧(ky f).length=n from⟨by omega,by rw[←hfi];exact C⟩),b5,hfi];rfl
    ·rw[J]
     exact((ho.upd k3 fun _ _ h=>h).upd Q fun y c e=>by have e:y=z.size:=e;have c:G.size≤y:=c;omega).upd u5 fun y c e=>by have e:y=z.size:=e;have c:G.size≤y:=c;omega
    ·have:=Q.size;have:=u5.size;omega
   ·have C:¬(ky l[i]).length=n:=fun e=>by
     have:¬((l[i].1.size:Nat):Int)=(n:Int):=by simpa using C
     omega
    rw[if_neg C]at J;have hlei:=hle _ D;refine⟨_,vc b3 0,⟨by omega,by omega⟩,_,vc b3 1,aP fun h4 b4 P=>⟨vc (P.get0 b3) 1,vc (P.get0 b3) 0,_,kE b4,?_⟩⟩
    have s4:=P.size;have z4:=aN b4;refine AppP.own (M:=fun y=>(G.size≤y∧y<u.size)∨h4.size≤y) (ys:= [Uf n l[i]]) (((ho.within.upd k3 fun _ _ h=>h).upd P fun _ _ h=>h).more fun y c=>.inl c) rfl rfl rfl rfl (by omega) ?_ (.inr (aj _)) fun s5 h5 ho5 A=>?_
    ·have:=List.length_filter_le (fun p=>decide ((ky p).length≠n)) (l.take i)
     simp only[vM,bH,aE];rw[aD]at this;omega
    have s5':=A.size;refine⟨vc (A.get (P.get0 b3) (by omega)) 1,vc (A.get (P.get0 b3) (by omega)) 0,hR _ _ ⟨?_,?_,((m.tr k3).tr P).trans A fun y c=>.inr (by omega),by omega⟩⟩
    ·have o:(if 0<i+1∧(ky f).length=n then some f.2 else none:Option ByteArray)=if 0<i∧(ky f).length=n then some f.2 else none:=by
      by_cases h0:0<i
      ·simp[h0]
      ·have:i=0:=by omega
       subst this;have:l[0]=f:=by simp[w]
       rw[this]at C;rw[if_neg (fun h=>C h.2),if_neg (fun h=>C h.2)]
     rw[o];exact A.get (P.get0 c3) (by omega)
    ·rw[J]
     exact ho5.more fun y c=>by show G.size≤y;omega
  ·rintro t N ⟨p1,p2,p3,p4⟩
   simp only;rw[cz b (by omega)];exact hI (i+1) _ _ ⟨rfl,b,p1,p2,p3,p4⟩ (by omega)
 obtain rfl:i=l.length:=by have:¬(i:Int)<(s.len:Int):=V;omega
 rw[cd]at ho;have hc0:(0<l.length∧(ky f).length=n)↔(ky f).length=n:=⟨fun h=>h.2,fun h=>⟨hl0,h⟩⟩
 simp only[hc0]at c2;have O:vM n l=(if(ky f).length=n then l.drop 1 else l).map (Uf n):=by
  unfold vM;congr 1
  by_cases e:(ky f).length=n
  ·rw[if_pos e,w,cE,if_neg (by simpa using e),um,sm]
   refine fJ.2 fun p d=>?_
   have hpl:p∈l:=by rw[w];exact aL _ d
   rcases q4 p hpl with o|u
   ·rw[o]at d
    exact absurd ((ba.1 (w▸bg.up)).1 f d) (cD _)
   ·exact decide_eq_true (by omega)
  ·rw[if_neg e]
   refine fJ.2 fun p d=>?_
   rcases q4 p d with o|u
   ·rw[o];exact decide_eq_true e
   ·exact decide_eq_true (by omega)
 have j:(if(ky f).length=n then l.drop 1 else l).Sublist l:=by
  split
  ·exact List.drop_sublist ..
  ·exact List.Sublist.refl _
 have X:∀p∈(if(ky f).length=n then l.drop 1 else l),n<(ky p).length:=fun p d=>by
  rcases q4 p (j.subset d)with e|h
  ·by_cases o:(ky f).length=n
   ·rw[if_pos o,w,e]at d
    exact absurd ((ba.1 (w▸bg.up)).1 f d) (cD _)
   ·rw[e];omega
  ·exact h
 have hbeg:Beg (vM n l) []:=by
  rw[O];refine⟨?_,fun p d=>?_⟩
  ·unfold cx
   rw[List.pairwise_map];refine(bg.up.sublist j).imp_of_mem fun{p q} d H b=>?_
   rw[xq]at b⊢;have e1:=q3 p (j.subset d);have o:=q3 q (j.subset H);change Op.bytesLess (ky (Uf n p)) (ky (Uf n q))=true;change Op.bytesLess (ky p) (ky q)=true at b;rw[GN,GN];rw[←aG n (ky p),←aG n (ky q),e1,o,Iu]at b;exact b
  ·obtain⟨q,H,rfl⟩:=g8.1 d
   refine⟨rfl,?_⟩;rw[GN,aO];have:=X q H;simp only[bw];omega
 have hkB:∀p∈vM n l,(ky p).length≤B-n:=fun p d=>by
  rw[O]at d;obtain⟨q,H,rfl⟩:=g8.1 d;rw[GN,aO];have:=S q (j.subset H);omega
 have hrn:(vM n l).length≤100000:=by
  rw[O,bH];exact Nat.le_trans j.length_le hn
 have s2:=m.size;have zc:=aN c2;refine Y (B-n) (by omega) (W:=fun y=>W y∨y=z.size) (ho.sl fun _ _ _ h=>h) ho.cap hbeg hkB hrn (fun y c=>c.elim (fun c=>by have:=hW y c;omega) fun c=>by omega) fun N s3 ks L ho3 hL3 hrow hu3=>?_
 obtain⟨hcF,hgF⟩:=hrow.done;have hgot:∀k v,pv (.ofL L) k v↔T9 (if(ky f).length=n then l.drop 1 else l) ((ky f).take n) k v:=fun k v=>by
  rw[hgF,O];constructor
  ·rintro⟨p,d,o,e3⟩
   obtain⟨q,H,rfl⟩:=g8.1 d;rw[GN,dM]at o;refine⟨q,H,?_,e3⟩;rw[←o,←q3 q (j.subset H),aG]
  ·rintro⟨q,H,o,e3⟩
   refine⟨Uf n q,g8.2 ⟨q,H,rfl⟩,?_,e3⟩;rw[GN,dM,o,List.drop_left' (by rw[aD];omega)]
 obtain⟨hcn,hhd,hin⟩:=hbc (F:=.ofL L) hcF rfl hgot rfl hlab;refine⟨_,rfl,?_⟩;refine sA (i:=3) (hu3.get0 c2) (show 3<4 by decide) rfl fun h4 b4 Q=>?_
 refine hk h4 _ (_,_,_) ⟨z.size,_,rfl,rfl,_,s3,none,ks,b4,rfl,?_,⟨ho3.cap,fun hw=>by have:=hW _ hw;omega⟩,An.2 ?_⟩ hcn hhd hin ((m.tr hu3).own Q (by omega))
 ·exact(ho3.upd Q fun y c e=>by have e:y=z.size:=e;have c:u.size≤y:=c;omega).sl fun y c _ hw=>by have:=hW y hw;have c:u.size≤y:=c;omega
 ·rw[Fo.to_of]
  exact(hL3.updM Q fun y c=>.inl (.inr c)).less fun y c=>.inl (.inl c)
end Go.Proofs
namespace Go.Proofs
open Go Go.Lift
theorem Mr{B:Nat}(hB:B≤1000000)(J:∀P,P<B→OD P):OD B:=by
 intro W h s l hs hcap bg hlB hn hW K hk;refine IM s ?_;unfold AU cQ aY;have hlen:=hs.len;refine LoopP.ghost (fun(g:Nat×List (Option Addr)×List Bn×(Nat→Prop)) (t:SliceV×Int) Z=>t.2=(g.1:Int)∧g.1≤l.length∧OwnS lY 1 rb g.2.2.2 Z t.1 g.2.1∧(∀y,g.2.2.2 y→h.size≤y∧y<Z.size)∧DxL (fun y=>W y∨g.2.2.2 y) Z g.2.1 g.2.2.1∧Row g.2.2.1 (l.take g.1) (l.drop g.1) []∧Upd No h Z) (fun g=>l.length-g.1) (0,[],[],fun _=>False)
  ⟨rfl,aS _,OwnS.nil oC,fun y d=>d.elim,⟨rfl,fun p hp=>(by cases hp)⟩,Row.nil _ _,Upd.refl _ _⟩ ?_
 rintro I ⟨i,ks,L,Mo⟩ ⟨so,ti⟩ O ⟨e1,hi,ho,v,X,f,hu⟩ hI;simp only at e1 hi ho v X f;subst e1;refine aB (fun u=>?_) fun hge=>?_
 ·have u:i<l.length:=by have:(i:Int)<(s.len:Int):=u;omega
  have H:=hs.upd hu fun _ h=>h.elim
  have Q:∀j (D:j<l.length),0<(ky l[j]).length:=fun j D=>(bg.at_ _ (aU D)).2
  obtain⟨bi,hbi,hbie⟩:=Sc (Q i u);obtain⟨ai,hai,_,hvi⟩:=H.at (af u);refine LoopP.ghost (fun(k:Nat) (t:Int) T=>t=(k:Int)∧i≤k∧k≤l.length∧T=O∧∀j (D:j<l.length),i≤j→j<k→bt 0 l[j]=bt 0 l[i]) (fun k=>l.length-k) i ⟨rfl,aj _,hi,rfl,fun j D O T=>by omega⟩ ?_
  rintro I2 k t T ⟨rfl,hik,U,rfl,E⟩ hI2;refine Join.intro (fun t h3=>h3=T∧(t=true→∃hk:k<l.length,bt 0 l[k]=bt 0 l[i])∧(t=false→∀hk:k<l.length,bt 0 l[k]≠bt 0 l[i])) (fun R hR=>?_) ?_
  ·refine aB (fun a=>?_) fun a=>hR _ _ ⟨rfl,fun h=>(by cases h),fun _ hk2=>absurd (show(k:Int)<(s.len:Int) by omega) a⟩
   have a:k<l.length:=by have:(k:Int)<(s.len:Int):=a;omega
   obtain⟨bk,hbk,hbke⟩:=Sc (Q k a);obtain⟨ak,hak,_,hvk⟩:=H.at (af a);refine⟨⟨by omega,by omega⟩,ak,hak,_,hvk 0 _ rfl,bk,by decide,hbk,⟨by simp only;omega,by simp only;omega⟩,ai,hai,_,hvi 0 _ rfl,bi,by decide,hbi,hR _ _ ⟨rfl,fun h=>⟨a,?_⟩,fun h _=>?_⟩⟩
   ·have:(bk.toNat:Int)=(bi.toNat:Int):=by simpa using h
    omega
   ·intro e
    have:¬(bk.toNat:Int)=(bi.toNat:Int):=by simpa using h
    omega
  rintro t h3 ⟨rfl,ht,Y⟩;cases t with
  |true=>
   obtain⟨a,e⟩:=ht rfl;refine ax.2 ?_;rw[cz a (by omega)];refine hI2 (k+1) _ _ ⟨rfl,by omega,a,rfl,fun j D O T=>?_⟩ (by omega)
   rcases bG j k with h|h
   ·exact E j D O h
   ·have:j=k:=by omega
    subst this;exact e
  |false=>
   have Y:=Y rfl;have hik2:i<k:=by
    rcases bG i k with h|h
    ·exact h
    ·have:k=i:=by omega
     subst this;exact absurd rfl (Y u)
   refine al.2 ⟨⟨by omega,by omega⟩,⟨by simp only;omega,by simp only;omega⟩,?_⟩
   simp only[aM];have hsA:=Sl.sub H (l:=i) (hi:=k) (m:=s.cap) (c:=s.cap-i) hik U (by omega);have S:(l.drop i).take (k-i)++l.drop k=l.drop i:=by
    conv=>rhs;rw[←aG (k-i) (l.drop i)]
    rw[List.drop_drop,show i+(k-i)=k by omega]
   have hDA:l.take i++(l.drop i).take (k-i)=l.take k:=by
    rw[show k=i+(k-i) by omega,List.take_add];congr 2;omega
   have z:∀q∈(l.drop i).take (k-i),bt 0 q=bt 0 l[i]:=fun q hq=>by
    obtain⟨j,D,e⟩:=List.getElem_of_mem hq;rw[aD,aO]at D;rw[←e,List.getElem_take,List.getElem_drop];exact E (i+j) (by omega) (by omega) (by omega)
   have hAc:∃r,(l.drop i).take (k-i)=l[i]::r:=by
    rw[eI u,show k-i=(k-i-1)+1 by omega,cZ]
    exact⟨_,rfl⟩
   have o:((l.drop i).take (k-i)).Sublist l:=(List.take_sublist _ _).trans (List.drop_sublist _ _);have hBk:∀b P,l.drop k=b::P→bt 0 b≠bt 0 l[i]:=fun b P e=>by
    have a:k<l.length:=by
     rcases bG k l.length with h|h
     ·exact h
     ·rw[List.drop_eq_nil_of_le h]at e;cases e
    rw[eI a]at e;rw[←(eO.inj e).1];exact Y a
   have hAl:((l.drop i).take (k-i)).length≤l.length:=o.length_le;generalize (l.drop i).take (k-i)=A at*;obtain⟨r,G⟩:=hAc;obtain⟨g,hg⟩:∃g,A.getLast? =some g:=by rw[G];exact⟨_,List.getLast?_eq_some_getLast (by simp)⟩
   have s1:=hu.size;refine MX (W:=fun y=>W y∨Mo y) hB J (hsA.less fun _ h=>h.elim) (bg.sub o) (fun q hq=>hlB q (o.subset hq)) (by omega) (fun y d=>d.elim (fun d=>Nat.lt_of_lt_of_le (hW y d) s1) fun d=>(v y d).2) G hg (z g (ia hg)).symm fun h4 ka n kd hcn hhd hin hu4=>aP fun F b5 k5=>⟨_,kE b5,?_⟩
   have C:=hu4.tr k5;have z35:=C.size;have hLn:L.length≤256:=by
    rcases Bq (c:=0) f.up fun _ _=>aS _ with e|e
    ·rw[e];simp
    ·omega
   have hkl':=X.1;refine AppP.own (M:=fun y=>Mo y∨F.size≤y) (ys:= [ka]) ((ho.upd C fun _ _ h=>h).more fun y d=>.inl d) rfl rfl rfl rfl (by omega) (by simp only[aE];omega) (.inr (aj _)) fun s6 h6 ho6 N=>?_
   have z6:=N.size;have w:=f;rw[←S]at w;have V:Beg (A++l.drop k) []:=by rw[S];exact bg.sub (List.drop_sublist _ _)
   have x:=w.more V (p:=l[i]) (by rw[G];exact av ..) z hBk hcn hhd hin;rw[hDA]at x;refine hI (k,ks++ [ka],L++ [n],fun y=>(Mo y∨F.size≤y)∧y<h6.size) _ _ ⟨rfl,U,ho6.within,fun y d=>⟨?_,d.2⟩,?_,x,?_⟩ (by simp only;omega)
   ·rcases d.1 with h|h
    ·exact(v y h).1
    ·omega
   ·have hl:∀b,(W b∨((Mo b∨F.size≤b)∧b<h6.size))→(W b∨Mo b)∨F.size≤b:=fun b hb=>by
     rcases hb with h|⟨h|h,_⟩
     ·exact .inl (.inl h)
     ·exact .inl (.inr h)
     ·exact .inr h
    have hm:∀b,(Mo b∨F.size≤b)→(W b∨((Mo b∨F.size≤b)∧b<h6.size))∨F.size≤b:=fun b hb=>by
     rcases hb with h|h
     ·exact .inl (.inr ⟨.inl h,by have:=(v b h).2;omega⟩)
     ·exact .inr h
    exact(((X.upd0 C).app (DxL.one (kd.upd0 k5))).less hl).updM N hm
   ·exact(hu.tr C).trans N fun y d=>.inr (by
     rcases d with h|h
     ·exact(v y h).1
     ·omega)
 ·obtain rfl:i=l.length:=by have:¬(i:Int)<(s.len:Int):=hge;omega
  rw[cd,List.drop_length]at f;exact hk O _ ks L (ho.more fun y d=>(v y d).1) (X.less fun y d=>.inl (.inl d)) f hu
theorem Rh(B:Nat):B≤1000000→OD B:=by
 induction B using Nat.strongRecOn with
 |_ B ih=>exact fun a=>Mr a fun b h=>ih b h (by omega)
theorem Tp{h:ae}{s:SliceV}{l:List Pr}(X:Sl eg 2 No h s l)(u:s.len≤s.cap)(O:cx l)(hn:l.length≤60000)(hB:∀p∈l,(ky p).length≤1000000){K:Option Addr→ae→Prop}
  (hk:∀h' b w F,DxN No h' b ⟨#[]⟩ w F→fG F→l6 w F=DI l→Upd No h h'→K (some ⟨b,0,none⟩) h'):HC PG EA [.slice s.a s.len s.cap] [.c .ptr] K h:=by
 refine Sy s ?_;unfold Lc cQ aY cY VM;have n:=X.len;refine aP fun g b1 k1=>?_
 have z1:=aN b1;have z:=X.upd k1 fun _ h=>h.elim
 refine Join.intro (fun(t:SliceV) f=>∃(w:Option ByteArray) (l':List Pr),f[h.size]? =some (.cells #[.string ⟨#[]⟩,.bool w.isSome,.string (w.getD ⟨#[]⟩),.slice none 0 0] nJ (0,0))∧Sl eg 2 No f t l'∧t.len≤t.cap∧Beg l' []∧l'.length≤l.length∧(∀p∈l',p∈l)∧(∀k v,((k= []∧w=some v)∨T9 l' [] k v)↔∃p∈l,p.1.data.toList=k∧p.2=v)∧Upd No h f) (fun R Z=>?_) ?_
 ·refine Join.plain ?_
  rcases l with _|⟨p,r⟩
  ·refine aB (fun hgt=>?_) fun _=>al.2 (Z _ _ ⟨none,[],b1,z,u,⟨ey,fun p Q=>(by cases Q)⟩,aj _,fun _ h=>h,fun k v=>⟨?_,?_⟩,k1⟩)
   ·simp only[bw]at n;omega
   ·rintro(⟨_,h⟩|⟨q,d,_⟩)
    ·cases h
    ·cases d
   ·rintro⟨q,d,_⟩;cases d
  ·simp only[az]at n
   obtain⟨a,ha,_,hv⟩:=z.at (i:=0) (x:=p) rfl;refine aB (fun _=>⟨⟨by decide,by omega⟩,a,ha,_,hv 0 _ rfl,?_⟩) fun hle=>absurd (show(s.len:Int)>0 by omega) hle
   have B:=ba.1 O;have o:∀q∈r,0<(ky q).length:=fun q d=>by
    have g:=xq.1 (B.1 q d);refine m9.2 fun T=>?_
    change Op.bytesLess (ky p) (ky q)=true at g;rw[T,MY]at g;cases g
   rw[jB];by_cases I:p.1=⟨#[]⟩
   ·have ek:ky p= []:=by unfold ky;rw[I]
    rw[decide_eq_true I];refine ax.2 ⟨⟨by decide,by omega⟩,a,ha,_,hv 1 _ rfl,_,rfl,?_⟩
    refine sA (i:=1) b1 (show 1<4 by decide) rfl fun f b2 J=>⟨_,rfl,?_⟩
    refine sA (i:=2) b2 (show 2<4 by decide) rfl fun h3 b3 C=>⟨⟨by decide,by omega⟩,Z _ _ ⟨some p.2,r,b3,?_,by simp only;omega,⟨B.2,fun q d=>⟨rfl,o q d⟩⟩,by simp,fun q d=>aL _ d,fun k v=>?_,(k1.own J (aj _)).own C (aj _)⟩⟩
    ·have M:Upd (fun y=>y=h.size) g h3:=J.tr C
     have:=Sl.sub ((((X.less (W':=fun y=>y=h.size) fun y j=>.inr (by omega)).upd k1 fun _ h=>h.elim).upd M fun y j=>.inl j)) (l:=1) (hi:=(p::r).length) (m:=s.cap) (c:=s.cap-1) (by simp) (aj _) (by simp only[az];omega)
     rw[um,sm,List.take_of_length_le (by simp)]at this;have T:(p::r).length-1=s.len-1:=by simp only[az];omega
     rw[T]at this;exact this.less fun _ h=>h.elim
    ·constructor
     ·rintro(⟨rfl,h⟩|⟨q,d,g,f⟩)
      ·exact⟨p,av ..,ek,bA.inj h⟩
      ·exact⟨q,aL _ d,g,f⟩
     ·rintro⟨q,d,g,f⟩
      rcases aw.1 d with rfl|d
      ·exact .inl ⟨by rw[←g];exact ek,by rw[f]⟩
      ·exact .inr ⟨q,d,g,f⟩
   ·rw[decide_eq_false I]
    have Y:0<(ky p).length:=m9.2 fun e=>I (pO.1 e)
    refine al.2 (Z _ _ ⟨none,p::r,b1,z,u,⟨O,fun q d=>⟨rfl,?_⟩⟩,aj _,fun _ h=>h,fun k v=>?_,k1⟩)
    ·rcases aw.1 d with rfl|d
     ·exact Y
     ·exact o q d
    ·constructor
     ·rintro(⟨_,h⟩|⟨q,d,g,f⟩)
      ·cases h
      ·exact⟨q,d,g,f⟩
     ·rintro⟨q,d,g,f⟩
      exact .inr ⟨q,d,g,f⟩
 rintro t f ⟨w,l',b2,U,V,N,hll,H,A,J⟩;have z2:=aN b2;refine Rh 1000000 (aj _) (W:=fun y=>y=h.size) U V N (fun p Q=>hB p (H p Q)) (by omega) (fun y j=>by omega) fun h3 s3 ks L G P D C=>⟨_,rfl,?_⟩
 obtain⟨E,S⟩:=D.done;refine sA (i:=3) (C.get0 b2) (show 3<4 by decide) rfl fun h4 b4 u4=>?_
 refine hk h4 h.size w (.ofL L) ⟨_,s3,none,ks,b4,rfl,?_,⟨G.cap,id⟩,An.2 ?_⟩ E (Db E O fun k v=>?_) ((J.tr C).own u4 (aj _))
 ·exact(G.upd u4 fun y j e=>by have e:y=h.size:=e;have j:f.size≤y:=j;omega).sl fun _ _ _ h=>h
 ·rw[Fo.to_of]
  exact(P.updM u4 fun y j=>.inl j).less fun _ h=>h.elim
 ·rw[jZ]
  unfold qy;rw[S,A]
def VF(n:Bn):Prop:=∀{h:ae} {b:Nat} {sl:ByteArray},DxN No h b sl n.2.1 n.2.2→sl.data.toList=n.1→(iq n).length≤140737488355328→∀{K:SliceV→ae→Prop},(∀s' h',OwnS nX 1 cr (fun y=>h.size≤y) h' s' (iq n)→Upd No h h'→K s' h')→
 HC PG sK [.pointer (some ⟨b,0,none⟩)] [.c .slice] K h
theorem Oo{lab:List UInt8}{w:Option ByteArray}{c:Fo}(hl:lab.length≤10000)(hw:∀v,w=some v→v.size≤10000)(hk256:c.toL.length≤256)(ih:∀m∈c.toL,VF m):VF (lab,w,c):=by
 intro h b sl r D hx K hk;simp only at r D;have M:(⟨lab.toArray⟩:ByteArray)=sl:=by rw[←D]
 have hsz:sl.size=lab.length:=by rw[←D];simp
 obtain⟨val,s,ow,ks,hb,hv,hs,hcap,hF⟩:=r;have hL:=An.1 hF;have p:=hs.len;rw[hL.1]at p;have ex:iq (lab,w,c)=nf sl++tQ w++ma c.toL.length 2++c.toL.flatMap iq:=by
  show qS lab w c.toL.length++nL c=_
  rw[wm];unfold qS;rw[M];simp only[au]
 rw[ex]at hx hk;simp only[ad]at hx;have g:∀{E:ae} {i:Nat},Upd No h E→aJ E (adr ⟨b,0,none⟩ i)=(W9 sl w.isSome val s ow)[i]?:=fun k=>vc (k.get0 hb) _
 have r0:=Upd.refl No h;refine K3 (some ⟨b,0,none⟩) ?_;unfold CL bR cQ aY bD f9;refine⟨_,rfl,sl,g (i:=0) r0,zT (by omega) fun s1 h1 H k1=>?_⟩
 refine Join.intro (fun t B=>OwnS nX 1 cr (fun y=>h.size≤y) B t (nf sl++tQ w)∧Upd No h B) (fun R P=>?_) ?_
 ·refine⟨_,rfl,w.isSome,g (i:=1) k1,?_⟩
  have s1':=k1.size;cases w with
  |none=>
   refine al.2 (aP fun B b2 o=>⟨_,kE b2,?_⟩)
   have s2:=o.size;refine AppP.own (ys:= [(0:UInt8)]) (H.upd o fun _ _ h=>h) rfl rfl rfl rfl (by omega) (by simp only[aE];simp only[tQ,aE]at hx;omega) (by show h.size≤B.size;omega) fun s3 q d A=>?_
   exact P _ _ ⟨d,(k1.tr o).trans A fun y j=>.inr j⟩
  |some v=>
   have hvs:=hw v rfl;have u:val=v:=hv;subst u;refine ax.2 ⟨_,rfl,_,g (i:=2) k1,aP fun B b2 o=>⟨g (i:=2) (k1.tr o),_,kE b2,?_⟩⟩
   have s2:=o.size;have Q:(tQ (some val)).length=1+(nf val).length:=by unfold tQ;simp;omega
   rw[Q]at hx;refine AppP.own (ys:= [(1:UInt8)]) (H.upd o fun _ _ h=>h) rfl rfl rfl rfl (by omega) (by simp only[aE];omega) (by show h.size≤B.size;omega) fun s3 q d A=>?_
   have F:Upd No h q:=(k1.tr o).trans A fun y j=>.inr j
   refine⟨g (i:=2) F,zT (by omega) fun s4 h4 n z=>?_⟩
   have G:=F.size;have X:=z.size;refine wT (d.upd z fun _ _ h=>h) (n.sl (W:=No) fun _ _ _ h=>h) (fun y j=>by show h.size≤y;omega) (by rw[ad,aE];omega) fun s5 h5 x C=>?_
   refine P _ _ ⟨?_,(F.tr z).trans C fun y j=>.inr j⟩
   have e:nf sl++tQ (some val)=nf sl++ [1]++nf val:=by unfold tQ;simp
   rw[e];exact x
 rintro t2 B ⟨S,Y⟩;refine Join.intro (fun t q=>OwnS nX 1 cr (fun y=>h.size≤y) q t (nf sl++tQ w++ma c.toL.length 2)∧Upd No h q) (fun R P=>?_) ?_
 ·refine⟨_,rfl,s,g (i:=3) Y,?_⟩
  rw[p];refine Dc (by omega) fun s3 q d k3=>?_
  have s2':=Y.size;have G:=k3.size;refine wT (S.upd k3 fun _ _ h=>h) (d.sl (W:=No) fun _ _ _ h=>h) (fun y j=>by show h.size≤y;omega) (by rw[ad];omega) fun s4 h4 n T=>?_
  exact P _ _ ⟨n,(Y.tr k3).trans T fun y j=>.inr j⟩
 rintro t3 q ⟨d,F⟩;refine⟨_,rfl,s,g (i:=3) F,?_⟩;refine LoopP.ghost (fun(i:Nat) (t:SliceV×Int) E=>t.2=(i:Int)∧i≤c.toL.length∧OwnS nX 1 cr (fun y=>h.size≤y) E t.1 (nf sl++tQ w++ma c.toL.length 2++(c.toL.take i).flatMap iq)∧Upd No h E) (fun i=>c.toL.length-i) 0 ⟨rfl,aS _,by simpa using d,F⟩ ?_
 rintro I i ⟨so,ti⟩ E ⟨e1,hi,N,J⟩ hI;simp only at e1 N;subst e1;refine aB (fun f=>?_) fun Z=>?_
 ·have f:i<c.toL.length:=by have:(i:Int)<(s.len:Int):=f;omega
  refine Join.plain ?_;obtain⟨kb,ksl,V,U,hkn⟩:=(hL.upd0 J).at f;obtain⟨a,ha,_,u⟩:=(hs.upd J fun _ h=>h.elim).at0 V
  have O:((c.toL.take i).flatMap iq).length+(iq c.toL[i]).length≤(c.toL.flatMap iq).length:=by
   have e:c.toL=c.toL.take i++c.toL[i]::c.toL.drop (i+1):=by rw[List.getElem_cons_drop,aG]
   have:=congrArg (fun L=>(List.flatMap iq L).length) e
   simp only[bq,aR,ad]at this;omega
  refine⟨⟨by simp only;omega,by simp only;omega⟩,a,ha,_,u,ih _ (aU f) hkn U (by omega) fun s4 h4 n z=>?_⟩
  have G:=J.size;have X:=z.size;refine wT (N.upd z fun _ _ h=>h) (n.sl (W:=No) fun _ _ _ h=>h) (fun y j=>by show h.size≤y;omega) (by simp only[ad];omega) fun s5 h5 x C=>?_
  simp only;rw[cz f (by omega)];refine hI (i+1) _ _ ⟨rfl,f,?_,(J.tr z).trans C fun y j=>.inr j⟩ (by omega)
  rw[bB f,bq,aR,List.flatMap_nil,bh,←au];exact x
 ·obtain rfl:i=c.toL.length:=by have:¬(i:Int)<(s.len:Int):=Z;omega
  rw[cd]at N;exact hk _ _ N J
theorem EF:∀{F:Fo},IX F→∀n∈F.toL,VF n
 | .nil,_,n,a=>by simp[Fo.toL]at a
 | .cons lab w kids rest,h,n,a=>by
  rcases aw.1 a with rfl|a
  ·exact Oo h.1 h.2.1 h.2.2.1 (EF h.2.2.2.1)
  ·exact EF h.2.2.2.2 n a
end Go.Proofs
