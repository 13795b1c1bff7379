/- A part of the proof that the named laws of this program answer true, whatever the input. -/
import Derived.Test.YtajpljopgikpgaaGreatDoorPart8
import Derived.Test.YtajpljopgikpgaaGreatDoorPart6
import Derived.Test.YtajpljopgikpgaaGreatDoorPart7
import Derived.Test.YtajpljopgikpgaaGreatDoorPart3
import Derived.Test.YtajpljopgikpgaaGreatDoorPart4
open Int renaming tdiv→mp,tdiv_eq_ediv_of_nonneg→eY,toNat_natCast→aO
open List renaming getElem?_toArray→gH,length_map→c7,length_singleton→aK,filter_append→kT,filter_cons→cK,filter_nil→qI,append_nil→bT,length_take→aU,take_succ_eq_append_getElem→bN,getElem?_eq_getElem→ag,take_length→cd,getElem_mem→aP,replicate→dQ,length_append→af,append_assoc→aw,zip_cons_cons→iZ,mem_cons→aA,mem_cons_self→aE,mem_cons_of_mem→aX,take_succ_cons→de,cons→fA,mem_of_getLast?→mn,filter_eq_self→fp,pairwise_cons→bB,take_append_drop→ba,mem_map→kR,length_drop→aW,length_nil→cB,nil_append→ik,drop_eq_getElem_cons→eC,length_cons→aV,flatMap_append→bH,flatMap_cons→aY
open List.Pairwise renaming nil→gn
open Nat renaming le_refl→ao,zero_add→aL,not_lt_zero→ij,zero_le→bo,lt_or_ge→bK,shiftRight_eq_div_pow→cE,shiftRight_le→hP
open Option renaming some→bF
namespace Go.Proofs
open Go Go.Lift
def Ml(q:List Pr):Int:=if q.length=1 then 1 else if 2≤q.length then 2 else 0
def dF(a:Bool)(s:SliceV)(q:Nat→List Pr)(kk:Nat→Option Addr)(i:Nat):Value:=
 if i=0 then .bool a else if i=1 then sv s else if i<34 then .int .i64 (Ml (q (i-2)))else if i<98 then(if i%2=0 then .string (BM (gI (q ((i-34)/2)))).1 else .string (BM (gI (q ((i-34)/2)))).2)else .pointer (kk (i-98))
def dC(f:Nat→Value):List Value:=(List.range 130).map f
theorem EY{f:Nat→Value}{i:Nat}(h:i<130):(dC f).toArray[i]? =some (f i):=by
 unfold dC;simp[h]
theorem Og(f:Nat→Value):(dC f).toArray.size=130:=by simp[dC]
theorem Vc{f:Nat→Value}{i:Nat}{v:Value}:(dC f).toArray.setIfInBounds i v=(dC fun j=>if j=i then v else f j).toArray:=by
 unfold dC;apply Array.ext_getElem?;intro j;rw[Array.getElem?_setIfInBounds];simp only[gH,List.getElem?_map,List.size_toArray,c7,List.length_range];by_cases e:i=j
 ·subst e
  by_cases h:i<130
  ·simp[h]
  ·simp[h]
 ·rw[if_neg e]
  by_cases h:j<130
  ·rw[List.getElem?_range h];simp only[Option.map_some];rw[if_neg fun e':j=i=>e e'.symm]
  ·rw[List.getElem?_eq_none (by rw[List.length_range];omega)];rfl
theorem IG{f g:Nat→Value}(h:∀i,i<130→f i=g i):(dC f).toArray=(dC g).toArray:=by
 unfold dC;rw[List.map_congr_left fun i hi=>h i (List.mem_range.1 hi)]
def DTrie(W:Nat→Prop)(x:Hs)(h:ad):Nat→Nat→List Pr→Prop
 |0,b,l=>¬W b∧∃s,h[b]? =some (.cells (dC (dF true s (fun _=> []) fun _=>none)).toArray ia (0,0))∧Sl ge 2 W h s l
 |m+1,b,l=>¬W b∧∃kk,h[b]? =some (.cells (dC (dF false ⟨none,0,0⟩ (fun c=>part x (12-m) c l) kk)).toArray ia (0,0))∧∀c,c<32→2≤(part x (12-m) c l).length→∃kb,kk c=some ⟨kb,0,none⟩∧DTrie W x h m kb (part x (12-m) c l)
theorem DTrie.upd{W M:Nat→Prop}{x:Hs}{h d:ad}(k:Upd M h d)(hm:∀b,M b→W b∨h.size≤b):∀{m b:Nat} {l:List Pr},DTrie W x h m b l→DTrie W x d m b l
 |0,b,_,⟨nw,s,h1,h2⟩=>⟨nw,s,k.get h1 fun a=>(hm b a).elim nw fun h=>by have:=aH h1;omega,h2.upd k hm⟩
 |_+1,b,_,⟨nw,kk,h1,h2⟩=>⟨nw,kk,k.get h1 fun a=>(hm b a).elim nw fun h=>by have:=aH h1;omega,fun c hc g=>let⟨i,j,f⟩:=h2 c hc g;⟨i,j,DTrie.upd k hm f⟩⟩
theorem DTrie.less{W W':Nat→Prop}{x:Hs}{h:ad}(hm:∀b,W' b→W b):∀{m b:Nat} {l:List Pr},DTrie W x h m b l→DTrie W' x h m b l
 |0,b,_,⟨nw,s,h1,h2⟩=>⟨fun a=>nw (hm b a),s,h1,h2.less fun b a=>.inl (hm b a)⟩
 |_+1,b,_,⟨nw,kk,h1,h2⟩=>⟨fun a=>nw (hm b a),kk,h1,fun c hc f=>let⟨g,i,d⟩:=h2 c hc f;⟨g,i,DTrie.less hm d⟩⟩
abbrev Vx(x:Hs)(p:Pr):List Value:= [.int .u64 (l9 x p.1)]
theorem Q6(x:Hs)(p:Pr):(Vx x p).length=1∧0<1:=⟨rfl,by omega⟩
def TwoS(x:Hs)(c a:Nat)(h:ad)(d f:SliceV)(L L':List Pr):Prop:=
 ∃A B:Nat→Prop,OwnS ge 2 bR A h d L∧OwnS (Vx x) 1 oE B h f L'∧(∀b,A b→c≤b∧b<a∧¬B b)∧∀b,B b→c≤b∧b<a
theorem TwoS.upd0{x:Hs}{d a:Nat}{h f:ad}{c b:SliceV}{L L':List Pr}(t:TwoS x d a h c b L L')(k:Upd No h f):TwoS x d a f c b L L':=by
 obtain⟨A,B,i,m,j,g⟩:=t;exact⟨A,B,i.upd k fun _ _ h=>h,m.upd k fun _ _ h=>h,j,g⟩
theorem Vm{x:Hs}{j g:Nat}{h:ad}{i m:SliceV}{L L':List Pr}{p:Pr}(t:TwoS x j g h i m L L')(z:j≤g)(q:g≤h.size)(y:L.length≤1000000){xs:List Value}(hx:xs=ge p){K:SliceV→ad→Prop}
  (u:∀s' c,TwoS x j c.size c s' m (L++ [p]) L'→Upd (fun b=>(j≤b∧b<g)∨h.size≤b) h c→K s' c):AppP (some [.string (⟨#[]⟩:ByteArray),.string (⟨#[]⟩:ByteArray)]) 2 32 bR i.a i.len i.cap 1 xs h K:=by
 subst hx;obtain⟨A,B,v,w,d,f⟩:=t;refine AppP.own (ys:= [p]) (v.more (M':=fun b=>A b∨h.size≤b) fun _ h=>.inl h) rfl rfl rfl rfl (by omega) (by simp only[aK];omega) (.inr (ao _)) fun s' c o k=>?_
 have s:=k.size;refine u s' c ⟨_,B,o.within,w.upd k fun b a hm=>hm.elim (fun hm=>(d b hm).2.2 a) fun hm=>by have:=(f b a).2;omega,fun b a=>⟨?_,a.2,fun n=>?_⟩,fun b a=>⟨(f b a).1,by have:=(f b a).2;omega⟩⟩ (k.mono fun b a=>a.elim (fun a=>.inl (.inl ⟨(d b a).1,(d b a).2.1⟩)) .inr)
 ·rcases a.1 with a|a
  ·exact(d b a).1
  ·omega
 ·rcases a.1 with a|a
  ·exact(d b a).2.2 n
  ·have:=(f b n).2;omega
theorem appB{x:Hs}{j g:Nat}{h:ad}{n f:SliceV}{L L':List Pr}{p:Pr}(t:TwoS x j g h n f L L')(z:j≤g)(q:g≤h.size)(y:L'.length≤1000000){xs:List Value}(hx:xs=Vx x p){K:SliceV→ad→Prop}
  (u:∀s' d,TwoS x j d.size d n s' L (L'++ [p])→Upd (fun b=>(j≤b∧b<g)∨h.size≤b) h d→K s' d):AppP (some [.int .u64 0]) 1 8 oE f.a f.len f.cap 1 xs h K:=by
 subst hx;obtain⟨A,B,v,w,c,m⟩:=t;refine AppP.own (ys:= [p]) (w.more (M':=fun b=>B b∨h.size≤b) fun _ h=>.inl h) rfl rfl rfl rfl (by omega) (by simp only[aK];omega) (.inr (ao _)) fun s' d o k=>?_
 have s:=k.size;refine u s' d ⟨A,_,v.upd k fun b a hm=>hm.elim (fun hm=>(c b a).2.2 hm) fun hm=>by have:=(c b a).2.1;omega,o.within,fun b a=>⟨(c b a).1,by have:=(c b a).2.1;omega,fun i=>?_⟩,fun b a=>⟨?_,a.2⟩⟩ (k.mono fun b a=>a.elim (fun a=>.inl (.inl (m b a))) .inr)
 ·rcases i.1 with i|i
  ·exact(c b a).2.2 i
  ·have:=(c b a).2.1;omega
 ·rcases a.1 with a|a
  ·exact(m b a).1
  ·omega
theorem Pb{x:Hs}{lev c:Nat}{l:List Pr}{p:Pr}:part x lev c (l++ [p])=if ck x lev p.1=c then part x lev c l++ [p]else part x lev c l:=by
 unfold part;rw[kT,cK,qI];by_cases h:ck x lev p.1=c
 ·rw[if_pos h,if_pos (decide_eq_true h)]
 ·rw[if_neg h,if_neg (by simpa using h),bT]
abbrev yC(x:Hs)(lev:Nat)(l:List Pr)(n:Nat)(c:Nat):List Pr:=if c<n then part x lev c l else[]
theorem HU{x:Hs}{lev n c:Nat}{l:List Pr}(h:c≠n):yC x lev l (n+1) c=yC x lev l n c:=by
 unfold yC;by_cases hc:c<n
 ·rw[if_pos hc,if_pos (by omega)]
 ·rw[if_neg hc,if_neg (by omega)]
theorem HW{x:Hs}{lev n:Nat}{l:List Pr}:yC x lev l (n+1) n=part x lev n l:=if_pos (by omega)
theorem HT{x:Hs}{lev n:Nat}{l:List Pr}:yC x lev l n n= []:=if_neg (by omega)
structure DOf(W:Nat→Prop)(x:Hs)(lev m:Nat)(h0 h:ad)(l:List Pr)(n:Nat)(kk:Nat→Option Addr):Prop where
 blk:h[h0.size]? =some (.cells (dC (dF false ⟨none,0,0⟩ (yC x lev l n) kk)).toArray ia (0,0))
 upd:Upd No h0 h
 kid:∀c,c<n→2≤(part x lev c l).length→∃kb,kk c=some ⟨kb,0,none⟩∧DTrie (fun y=>W y∨y=h0.size) x h m kb (part x lev c l)
theorem V8{c:Bool}{s:SliceV}{q q':Nat→List Pr}{kk b:Nat→Option Addr}{i:Nat}(h:i<2):dF c s q kk i=dF c s q' b i:=by
 unfold dF;by_cases a:i=0
 ·rw[if_pos a,if_pos a]
 ·rw[if_neg a,if_neg a,if_pos (by omega),if_pos (by omega)]
section
variable {bu:Bool} {s:SliceV} {q q':Nat→List Pr} {kk kk':Nat→Option Addr} {i:Nat}
theorem Of(h:2≤i)(a:i<34):dF bu s q kk i=.int .i64 (Ml (q (i-2))):=by
 unfold dF;rw[if_neg (by omega),if_neg (by omega),if_pos a]
theorem KE(h:34≤i)(a:i<98)(e:i%2=0):dF bu s q kk i=.string (BM (gI (q ((i-34)/2)))).1:=by
 unfold dF;rw[if_neg (by omega),if_neg (by omega),if_neg (by omega),if_pos a,if_pos e]
theorem KC(h:34≤i)(a:i<98)(e:¬i%2=0):dF bu s q kk i=.string (BM (gI (q ((i-34)/2)))).2:=by
 unfold dF;rw[if_neg (by omega),if_neg (by omega),if_neg (by omega),if_pos a,if_neg e]
theorem KD(h:98≤i):dF bu s q kk i=.pointer (kk (i-98)):=by
 unfold dF;rw[if_neg (by omega),if_neg (by omega),if_neg (by omega),if_neg (by omega)]
theorem Oe{c:Nat}(hc:c<32)(b:∀j,j≠c→q' j=q j)(d:∀j,j≠c→kk' j=kk j)(i:Nat):
  dF bu s q' kk' i=if i=2+c then .int .i64 (Ml (q' c))else if i=34+c*2 then .string (BM (gI (q' c))).1 else if i=34+c*2+1 then .string (BM (gI (q' c))).2 else if i=98+c then .pointer (kk' c)else dF bu s q kk i:=by
 rcases(show i<2∨(2≤i∧i<34)∨(34≤i∧i<98)∨98≤i by omega)with h|h|h|h
 ·rw[if_neg (by omega),if_neg (by omega),if_neg (by omega),if_neg (by omega)];exact V8 h
 ·by_cases e:i=2+c
  ·rw[if_pos e,Of h.1 h.2,show i-2=c by omega]
  ·rw[if_neg e,if_neg (by omega),if_neg (by omega),if_neg (by omega),Of h.1 h.2,Of h.1 h.2,b _ (by omega)]
 ·rw[if_neg (show ¬i=2+c by omega)]
  by_cases e:(i-34)/2=c
  ·by_cases a:i%2=0
   ·rw[if_pos (by omega),KE h.1 h.2 a,e]
   ·rw[if_neg (by omega),if_pos (by omega),KC h.1 h.2 a,e]
  ·rw[if_neg (by omega),if_neg (by omega),if_neg (by omega)]
   by_cases a:i%2=0
   ·rw[KE h.1 h.2 a,KE h.1 h.2 a,b _ e]
   ·rw[KC h.1 h.2 a,KC h.1 h.2 a,b _ e]
 ·rw[if_neg (by omega),if_neg (by omega),if_neg (by omega)]
  by_cases e:i=98+c
  ·rw[if_pos e,KD h,show i-98=c by omega]
  ·rw[if_neg e,KD h,KD h,d _ (by omega)]
end
theorem RA{h:ad}{b i:Nat}{f:Nat→Value}{t:TypeId}{v:Value}{k:ad→Prop}(d:h[b]? =some (.cells (dC f).toArray t (0,0))) (hi:i<130) (g:∀a,a[b]? =some (.cells (dC fun j=>if j=i then v else f j).toArray t (0,0))→Upd (· =b) h a→k a):
  Wr h ⟨b,i,none⟩∧At (hset h ⟨b,i,none⟩ v) k:=
 ⟨iv d (by rw[Og];exact hi),vq d fun a c m=>g a (Vc▸c) m⟩
theorem V5{h:ad}{b i:Nat}{f:Nat→Value}{t:TypeId}{v w:Value}{k:ad→Prop}(n:h[b]? =some (.cells (dC f).toArray t (0,0))) (hi:i+1<130)
  (o:∀h',h'[b]? =some (.cells (dC fun j=>if j=i+1 then w else if j=i then v else f j).toArray t (0,0))→Upd (· =b) h h'→k h'):tT h (some ⟨b,i,none⟩) 0 [v,w]∧At (gT h ⟨b,i,none⟩ 0 [v,w]) k:=by
 refine⟨.inr ⟨_,rfl,fun j p=>by rw[bO];exact iv n (by rw[Og];simp at p;omega)⟩,bV ?_⟩
 simp only[gT,bO,Nat.add_zero,aL];exact(RA (k:=fun m=>k (hset m ⟨b,i+1,none⟩ w)) n (by omega) fun m g d=>(RA (k:=k) g hi fun q c a=>o q c (d.tr a)).2).2
set_option maxRecDepth 4000 in
theorem UH{x:Hs}:∀(m:Nat),m≤13→∀{W:Nat→Prop} {h:ad} {s sh:SliceV} {l:List Pr},Sl ge 2 W h s l→(∀y,W y→y<h.size)→Sl (Vx x) 1 No h sh l→l.length≤60000→∀{K:Option Addr→ad→Prop},(∀v b,DTrie W x v m b l→Upd No h v→K (some ⟨b,0,none⟩) v)→
  HC PG Al [.slice s.a s.len s.cap,.slice sh.a sh.len sh.cap,.int .i64 ((13-m:Nat):Int)] [.c .ptr] K h:=by
 intro m;induction m with
 |zero=>
  intro _ W h s sh l hs hW Z hn K hk;refine K2 s sh ((13-0:Nat):Int) ?_;unfold Fy bJ dH bw aG cp nv my jS yA OE lR;refine ay.2 (aJ fun f b1 k1=>?_)
  refine hk f h.size ⟨fun o=>by have:=hW _ o;omega,s,?_,hs.upd k1 fun _ h=>h.elim⟩ k1
  rw[b1];exact congrArg some (congrArg (fun c=>Obj.cells c ia (0,0)) (by kernel_rfl))
 |succ m ih=>
  intro hm W h s sh l hs hW Z hn K hk;have nwh:¬W h.size:=fun o=>by have:=hW _ o;omega
  refine K2 s sh ((13-(m+1):Nat):Int) ?_;unfold Fy bJ dH bw aG cp nv my jS yA OE lR;have e13:(((13-(m+1):Nat):Int)==(13:Int))=false:=by rw[beq_eq_false_iff_ne];omega
  rw[e13];refine aj.2 (aJ fun f b1 k1=>?_)
  have b1':f[h.size]? =some (.cells (dC (dF false ⟨none,0,0⟩ (yC x (12-m) l 0) fun _=>none)).toArray ia (0,0)):=by
   have:yC x (12-m) l 0=fun _=> []:=by funext c;exact if_neg (by omega)
   rw[b1,this];exact congrArg some (congrArg (fun c=>Obj.cells c ia (0,0)) (by kernel_rfl))
  clear b1;have elev:(13-(m+1):Nat)=12-m:=by omega
  rw[elev];refine LoopP.ghost (fun(g:Nat×(Nat→Option Addr)) (t:Int) v=>t=(g.1:Int)∧g.1≤32∧DOf W x (12-m) m h v l g.1 g.2) (fun g=>32-g.1) (0,fun _=>none) ⟨rfl,by omega,b1',k1,fun c hc=>absurd hc (ij _)⟩ ?_
  rintro I ⟨c,kk⟩ t hc ⟨rfl,hc32,G⟩ hI;simp only at hc32 G;have s1:=G.upd.size;have zc:=aH G.blk;refine aQ (fun C=>?_) fun hge=>?_
  ·have C:c<32:=by have:(c:Int)<32:=C;omega
   refine Join.intro (fun(_:Unit) v=>∃kk',DOf W x (12-m) m h v l (c+1) kk') (fun R hR=>?_) ?_
   ·
    refine LoopP.ghost (fun(i:Nat) (t:SliceV×SliceV×Int) v=>t.2.2=(i:Int)∧i≤l.length∧TwoS x hc.size v.size v t.1 t.2.1 (part x (12-m) c (l.take i)) (part x (12-m) c (l.take i))∧Upd No hc v) (fun i=>l.length-i) 0 ⟨rfl,bo _,⟨No,No,OwnS.nil jh,OwnS.nil (Q6 x),fun _ h=>h.elim,fun _ h=>h.elim⟩,Upd.refl _ _⟩ ?_
    rintro I2 i ⟨so,ss,ti⟩ hi ⟨e1,hil,hT,hu⟩ hI2;simp only at e1 hT;subst e1;have hlen:=hs.len;have hlen2:=Z.len;have s2:=hu.size;have hsi:=(hs.upd G.upd fun _ h=>h.elim).upd hu fun _ h=>h.elim
    have hshi:=(Z.upd G.upd fun _ h=>h.elim).upd hu fun _ h=>h.elim
    refine aQ (fun d=>?_) fun hge2=>?_
    ·have d:i<l.length:=by have:(i:Int)<(s.len:Int):=d;omega
     have hpl:(part x (12-m) c (l.take i)).length≤60000:=by
      have:=jW (x:=x) (lev:=12-m) (c:=c) (l:=l.take i);rw[aU]at this;omega
     have V:part x (12-m) c (l.take (i+1))=if ck x (12-m) l[i].1=c then part x (12-m) c (l.take i)++ [l[i]]else part x (12-m) c (l.take i):=by rw[bN d,Pb]
     refine Join.intro (fun(t:SliceV×SliceV) v=>TwoS x hc.size v.size v t.1 t.2 (part x (12-m) c (l.take (i+1))) (part x (12-m) c (l.take (i+1)))∧Upd No hc v) (fun R2 D=>?_) ?_
     ·obtain⟨a,ha,_,hv⟩:=hsi.at (ag d)
      refine⟨⟨by simp only;omega,by simp only;omega⟩,a,ha,_,hv 0 _ rfl,_,hv 1 _ rfl,yc (p:=l[i]) fun H b3 k3=>?_⟩
      obtain⟨a',ha',_,S⟩:=(hshi.upd k3 fun _ h=>h.elim).at0 (ag d)
      refine⟨⟨by simp only;omega,by simp only;omega⟩,a',ha',_,S,VR (lev:=12-m) (by omega) ?_⟩
      have hT3:=hT.upd0 k3;have s3:=k3.size;refine CondP.intro (fun e=>?_) fun e=>?_
      ·have e:ck x (12-m) l[i].1=c:=by
        have:((ck x (12-m) l[i].1:Nat):Int)=(c:Int):=by simpa using e
        omega
       rw[if_pos e]at V;rw[V]at D;have uu:∀{v:ad},Upd (fun b=>hc.size≤b) H v→Upd No hc v:=fun k=>(hu.tr k3).trans k fun y o=>.inr o
       have hab:a'.block<h.size:=Z.lt (fun e=>by rw[e]at d;simp at d) ha'
       have sD:=G.upd.size;have wide:∀{n:Nat} {f u:ad},hc.size≤f.size→Upd (fun b=>(hc.size≤b∧b<n)∨f.size≤b) f u→Upd (fun b=>hc.size≤b) f u:=fun hz k=>k.mono fun y o=>.inl (o.elim (fun h=>h.1) fun h=>by omega)
       refine⟨_,vc b3 0,_,vc b3 1,⟨by simp only;omega,by simp only;omega⟩,a',ha',_,S,?_,?_⟩
       ·refine aJ fun h4 X w=>⟨w.cell0 S,?_,?_⟩
        ·have s4:=w.size
         refine⟨_,kF X,Vm (p:=l[i]) (hT3.upd0 w) (by omega) (by omega) (by omega) rfl fun s5 h5 N O=>⟨O.cell (w.cell0 S) (by rw[xK];omega),aJ fun h6 b6 F=>?_⟩⟩
         have s5':=O.size;have s6:=F.size;refine⟨_,kF b6,appB (p:=l[i]) (N.upd0 F) (by omega) (by omega) (by omega) rfl fun s7 h7 P k7=>?_⟩
         exact D _ _ ⟨P,uu (((w.wide.tr (wide (by omega) O)).tr F.wide).tr (wide (by omega) k7))⟩
        ·refine aJ fun h6 b6 F=>?_
         have s4:=w.size;have s6:=F.size;have z6:=aH b6;refine⟨_,kF (F.get0 X),Vm (p:=l[i]) ((hT3.upd0 w).upd0 F) (by omega) (by omega) (by omega) rfl fun s5 h5 N O=>?_⟩
         have s5':=O.size;refine⟨_,kF (O.get b6 (by omega)),appB (p:=l[i]) N (by omega) (by omega) (by omega) rfl fun s7 h7 P k7=>?_⟩
         exact D _ _ ⟨P,uu (((w.wide.tr F.wide).tr (wide (by omega) O)).tr (wide (by omega) k7))⟩
       ·refine aJ fun h4 X w=>⟨⟨vc (w.get0 b3) 0,vc (w.get0 b3) 1⟩,aJ fun h6 b6 F=>?_⟩
        have s4:=w.size;have s6:=F.size;have z4:=aH X;refine⟨_,kF b6,Vm (p:=l[i]) ((hT3.upd0 w).upd0 F) (by omega) (by omega) (by omega) rfl fun s5 h5 N O=>?_⟩
        have s5':=O.size;refine⟨_,kF (O.get (F.get0 X) (by omega)),appB (p:=l[i]) N (by omega) (by omega) (by omega) rfl fun s7 h7 P k7=>?_⟩
        exact D _ _ ⟨P,uu (((w.wide.tr F.wide).tr (wide (by omega) O)).tr (wide (by omega) k7))⟩
      ·have e:¬ck x (12-m) l[i].1=c:=fun e'=>by
        have:¬((ck x (12-m) l[i].1:Nat):Int)=(c:Int):=by simpa using e
        omega
       rw[if_neg e]at V;rw[V]at D;obtain⟨A,B,z,Q,L,q4⟩:=hT3;exact D _ _ ⟨⟨A,B,z,Q,fun b hb=>⟨(L b hb).1,by have:=(L b hb).2.1;omega,(L b hb).2.2⟩,fun b hb=>⟨(q4 b hb).1,by have:=(q4 b hb).2;omega⟩⟩,hu.tr k3⟩
     ·rintro⟨so',ss'⟩ v ⟨hT',hu'⟩
      simp only;rw[cI d (by omega)];exact hI2 (i+1) _ _ ⟨rfl,d,hT',hu'⟩ (by omega)
    ·have hil':i=l.length:=by have:¬(i:Int)<(s.len:Int):=hge2;omega
     subst hil';rw[cd]at hT;have hDi:h.size<hi.size:=by omega
     have hbi:=hu.get0 G.blk;have hki:∀c',c'<c→2≤(part x (12-m) c' l).length→∃J,kk c'=some ⟨J,0,none⟩∧DTrie (fun y=>W y∨y=h.size) x hi m J (part x (12-m) c' l):=fun c' f u=>let⟨J,H,h4⟩:=G.kid c' f u;⟨J,H,DTrie.upd hu (fun _ h=>h.elim) h4⟩
     obtain⟨A,B,hA,hB,hA',hB'⟩:=hT;have Y:Sl ge 2 (fun y=>W y∨y=h.size) hi so (part x (12-m) c l):=hA.sl fun y o _ hw=>by
      have:=(hA' y o).1;rcases hw with hw|hw
      ·have:=hW y hw;omega
      ·omega
     have hsB:Sl (Vx x) 1 No hi ss (part x (12-m) c l):=hB.sl fun _ _ _ h=>h
     have hq:=Y.len;have hpl:(part x (12-m) c l).length≤l.length:=jW;have hU:=G.upd.tr hu;refine Join.plain ?_;refine CondP.intro (fun e=>?_) fun e=>?_
     ·
      have e:so.len=1:=by
       have:((so.len:Nat):Int)=1:=by simpa using e
       omega
      have hone:(part x (12-m) c l).length=1:=by omega
      obtain⟨p,hp⟩:=List.length_eq_one_iff.1 hone;rw[hp]at Y;obtain⟨a,ha,_,hv⟩:=Y.at (i:=0) (x:=p) rfl;refine⟨⟨by decide,by simp only;omega⟩,a,ha,_,hv 0 _ rfl,_,hv 1 _ rfl,_,rfl,⟨by omega,by omega⟩,_,rfl,?_⟩
      have ew:((c:Int).toNat*1)=c:=by omega
      have ew2:((c:Int).toNat*2)=c*2:=by omega
      simp only[ew,ew2,gf h,bO,aL];refine RA hbi (by omega) fun H b3 u3=>⟨⟨by omega,by omega⟩,V5 b3 (by omega) fun h4 X u4=>aQ (fun hl=>by omega) fun _=>?_⟩
      have E:Upd (· =h.size) hi h4:=u3.tr u4
      refine hR _ _ ⟨kk,?_,hU.own E (ao _),fun c' f u=>?_⟩
      ·rw[X]
       refine congrArg some (congrArg (fun c=>Obj.cells c ia (0,0)) (IG fun j M=>?_))
       rw[Oe (q:=yC x (12-m) l c) (q':=yC x (12-m) l (c+1)) (kk:=kk) C (fun j M=>HU M) (fun _ _=>rfl),HW,hp]
       have e1:Ml [p]=1:=rfl;have e2:BM (gI [p])=p:=rfl;rw[e1,e2];by_cases z:j=2+c
       ·rw[if_neg (by omega),if_neg (by omega),if_pos z,if_pos z]
       ·by_cases Q:j=34+c*2
        ·rw[if_neg (by omega),if_pos Q,if_neg z,if_pos Q]
        ·by_cases L:j=34+c*2+1
         ·rw[if_pos L,if_neg z,if_neg Q,if_pos L]
         ·rw[if_neg L,if_neg Q,if_neg z,if_neg z,if_neg Q,if_neg L]
          by_cases q4:j=98+c
          ·rw[if_pos q4,KD (by omega),show j-98=c by omega]
          ·rw[if_neg q4]
      ·rcases bK c' c with hh|hh
       ·obtain⟨J,h3',h4'⟩:=hki c' hh u
        exact⟨J,h3',DTrie.upd E (fun y o=>.inl (.inr o)) h4'⟩
       ·rw[show c'=c by omega,hone]at u;omega
     ·have e:¬so.len=1:=fun e'=>by
       have:¬((so.len:Nat):Int)=1:=by simpa using e
       omega
      refine aQ (fun T=>?_) fun hle=>?_
      ·
       have T:2≤(part x (12-m) c l).length:=by have:(so.len:Int)>1:=T;omega
       refine⟨_,rfl,_,rfl,?_⟩;have e14:IntKind.wrap .i64 (((12-m:Nat):Int)+1)=((13-m:Nat):Int):=by rw[oD (by omega)];omega
       rw[e14];refine ih (by omega) Y (fun y o=>o.elim (fun o=>by have:=hW y o;omega) fun o=>by omega) hsB (by omega) fun u J tk k2=>⟨⟨by omega,by omega⟩,?_⟩
       have ew:((c:Int).toNat*1)=c:=by omega
       simp only[ew,gf h,bO,aL];refine RA (k2.get0 hbi) (by omega) fun H b3 u3=>⟨⟨by omega,by omega⟩,RA b3 (by omega) fun h4 X u4=>?_⟩
       have E:Upd (· =h.size) u h4:=u3.tr u4
       refine hR _ _ ⟨fun j=>if j=c then some ⟨J,0,none⟩else kk j,?_,(hU.tr k2).own E (ao _),fun c' f u=>?_⟩
       ·rw[X]
        refine congrArg some (congrArg (fun c=>Obj.cells c ia (0,0)) (IG fun j M=>?_))
        rw[Oe (q:=yC x (12-m) l c) (q':=yC x (12-m) l (c+1)) (kk:=kk) C (fun j M=>HU M) (fun _ M=>if_neg M),HW]
        have e1:Ml (part x (12-m) c l)=2:=by unfold Ml;rw[if_neg (by omega),if_pos T]
        have e2:gI (part x (12-m) c l)=none:=by
         match part x (12-m) c l,T with
         |a::b::r,_=>rfl
        rw[e1,e2,if_pos rfl];by_cases z:j=2+c
        ·rw[if_neg (by omega),if_pos z,if_pos z]
        ·by_cases q4:j=98+c
         ·rw[if_pos q4,if_neg z,if_neg (by omega),if_neg (by omega),if_pos q4]
         ·rw[if_neg q4,if_neg z,if_neg z]
          by_cases Q:j=34+c*2
          ·rw[if_pos Q,KE (by omega) (by omega) (by omega),show(j-34)/2=c by omega,HT];rfl
          ·rw[if_neg Q]
           by_cases L:j=34+c*2+1
           ·rw[if_pos L,KC (by omega) (by omega) (by omega),show(j-34)/2=c by omega,HT];rfl
           ·rw[if_neg L,if_neg q4]
       ·rcases bK c' c with hh|hh
        ·obtain⟨kb',h3',h4'⟩:=hki c' hh u
         exact⟨kb',by rw[if_neg (by omega)];exact h3',DTrie.upd E (fun y o=>.inl (.inr o)) (DTrie.upd k2 (fun _ h=>h.elim) h4')⟩
        ·obtain rfl:c'=c:=by omega
         exact⟨J,if_pos rfl,DTrie.upd E (fun y o=>.inl (.inr o)) tk⟩
      ·
       have hnil:part x (12-m) c l= []:=List.length_eq_zero_iff.1 (by have:¬(so.len:Int)>1:=hle;omega);refine hR _ _ ⟨kk,?_,hU,fun c' f u=>?_⟩
       ·rw[hbi]
        refine congrArg some (congrArg (fun c=>Obj.cells c ia (0,0)) (IG fun j M=>?_))
        have:yC x (12-m) l (c+1)=yC x (12-m) l c:=by
         funext j;by_cases M:j=c
         ·rw[M,HW,HT,hnil]
         ·exact HU M
        rw[this]
       ·rcases bK c' c with hh|hh
        ·exact hki c' hh u
        ·rw[show c'=c by omega,hnil]at u;simp at u
   ·rintro _ v ⟨kk',hD'⟩
    rw[cI C (by omega)];exact hI (c+1,kk') _ _ ⟨rfl,C,hD'⟩ (by simp only;omega)
  ·obtain rfl:c=32:=by have:¬(c:Int)<32:=hge;omega
   refine hk hc h.size ⟨nwh,kk,?_,fun c hc hp=>let⟨J,H,h4⟩:=G.kid c hc hp;⟨J,H,DTrie.less (fun _ h=>.inl h) h4⟩⟩ G.upd
   rw[G.blk];refine congrArg some (congrArg (fun c=>Obj.cells c ia (0,0)) (IG fun i hi=>?_))
   have:∀c,c<32→yC x (12-m) l 32 c=part x (12-m) c l:=fun c hc=>if_pos hc
   unfold dF;by_cases h0:i<34
   ·by_cases f:i=0
    ·rw[if_pos f,if_pos f]
    ·by_cases u:i=1
     ·rw[if_neg f,if_neg f,if_pos u,if_pos u]
     ·rw[if_neg f,if_neg f,if_neg u,if_neg u,if_pos h0,if_pos h0,this _ (by omega)]
   ·rw[if_neg (show ¬i=0 by omega),if_neg (show ¬i=0 by omega),if_neg (show ¬i=1 by omega),if_neg (show ¬i=1 by omega),if_neg h0,if_neg h0]
    by_cases H:i<98
    ·rw[if_pos H,if_pos H,this _ (by omega)]
    ·rw[if_neg H,if_neg H]
end Go.Proofs
namespace Go.Proofs
open Go Go.Lift
theorem QG{x:Hs}{h:ad}{s:SliceV}{l:List Pr}(w:Sl ge 2 No h s l)(F:l.length≤60000)(q:∀p∈l,p.1.size≤1000000){K:Option Addr→ad→Prop}(O:∀d b,DTrie No x d 13 b l→Upd No h d→K (some ⟨b,0,none⟩) d):
  HC PG EN [.agg #[.int .u64 x.k0,.int .u64 x.k1,.int .u64 x.mask],.slice s.a s.len s.cap,.int .i64 0] [.c .ptr] K h:=by
 refine Se (x.k0,x.k1,x.mask) s 0 ?_;unfold La dH ah bw aG nv zT vH my jS OE;refine aJ fun u b1 k1=>?_
 have A:=w.len;refine LoopP.ghost (fun(i:Nat) (t:SliceV×Int) d=>t.2=(i:Int)∧i≤l.length∧OwnS (Vx x) 1 oE (fun b=>u.size≤b) d t.1 (l.take i)∧Upd No u d) (fun i=>l.length-i) 0 ⟨rfl,bo _,OwnS.nil (Q6 x),Upd.refl _ _⟩ ?_
 rintro I i ⟨T,ti⟩ d ⟨E,hi,j,k⟩ J;simp only at E j;subst E;have g:=(w.upd k1 fun _ h=>h.elim).upd k fun _ h=>h.elim
 refine aQ (fun c=>?_) fun n=>?_
 ·have c:i<l.length:=by have:(i:Int)<(s.len:Int):=c;omega
  refine Join.plain ?_;obtain⟨a,G,_,hv⟩:=g.at (ag c);refine⟨⟨by simp only;omega,by simp only;omega⟩,a,G,_,hv 0 _ rfl,_,hv 1 _ rfl,yc (p:=l[i]) fun B b2 f=>?_⟩
  have c1:=f.get0 (k.get0 b1);refine⟨_,vc c1 0,_,vc c1 1,_,vc c1 2,_,vc b2 0,QH (by have:=q _ (aP c);omega) fun S C=>aJ fun R H D=>⟨_,kF H,?_⟩⟩
  have z:=((k.tr f).tr C).tr D;refine AppP.own (M:=fun b=>u.size≤b) (ys:= [l[i]]) (((j.upd f fun _ _ h=>h).upd C fun _ _ h=>h).upd D fun _ _ h=>h) rfl rfl rfl rfl (by omega) (by simp only[aK,aU];omega) z.size fun P Q m o=>?_
  simp only;rw[cI c (by omega)];refine J (i+1) _ _ ⟨rfl,c,?_,z.trans o fun y N=>.inr N⟩ (by omega)
  rw[bN c];exact m
 ·have v:i=l.length:=by have:¬(i:Int)<(s.len:Int):=n;omega
  subst v;rw[cd]at j;exact UH 13 (ao _) g (fun _ h=>h.elim) (j.sl fun _ _ _ h=>h) F fun B b L f=>O B b L ((k1.tr k).tr f)
theorem GI(n:Nat):IntKind.wrap .u8 (n:Int)=((UInt8.ofNat n).toNat:Int):=by rw[IntKind.wrap_u8];simp
theorem Dt{n:Nat}(f:n≤1000000000){h:ad}{K:SliceV→ad→Prop}(c:∀s' h',OwnS oz 1 cz (fun y=>h.size≤y) h' s' (l8 n 2)→Upd No h h'→K s' h'):HC PG rq [.int .i64 (n:Int)] [.c .slice] K h:=by
 refine PP (n:Int) ?_;unfold HI SG;have b:mp (n:Int) 256=((n>>>(8*1):Nat):Int):=by rw[eY (by omega),cE];rfl
 have a:n>>>(8*1)≤n:=hP ..;rw[b,oD (by generalize n>>>(8*1)=y at a;omega),GI,GI];refine⟨by decide,aJ fun d b1 k1=>c _ d ⟨rfl,qB,ao _,.inr ⟨h.size,[],rfl,ao _,b1,rfl⟩⟩ k1⟩
theorem JP{n:Nat}(g:n<4294967296){h:ad}{K:SliceV→ad→Prop}(d:∀s' h',OwnS oz 1 cz (fun y=>h.size≤y) h' s' (l8 n 4)→Upd No h h'→K s' h'):HC PG vi [.int .u32 (n:Int)] [.c .slice] K h:=by
 refine M8 (n:Int) ?_;unfold Fx VD;have q:∀k:Nat,((n>>>k:Nat):Int)<4294967296:=fun k=>by have:n>>>k≤n:=hP ..;generalize n>>>k=y at this;omega
 have c:mp (n:Int) 256=((n>>>(8*1):Nat):Int):=by rw[eY (by omega),cE];rfl
 have a:mp (n:Int) 65536=((n>>>(8*2):Nat):Int):=by rw[eY (by omega),cE];rfl
 have b:mp (n:Int) 16777216=((n>>>(8*3):Nat):Int):=by rw[eY (by omega),cE];rfl
 have w:∀k:Nat,IntKind.wrap .u32 ((n>>>k:Nat):Int)=((n>>>k:Nat):Int):=fun k=>by have:=q k;generalize n>>>k=y at this;rw[IntKind.wrap_u32];omega
 rw[c,a,b,w,w,w,GI,GI,GI,GI];refine⟨by decide,by decide,by decide,aJ fun f b1 k1=>d _ f ⟨rfl,qB,ao _,.inr ⟨h.size,[],rfl,ao _,b1,rfl⟩⟩ k1⟩
theorem w7{M W:Nat→Prop}{h:ad}{a e:SliceV}{out ys:List UInt8}{K:SliceV→ad→Prop}(d:OwnS oz 1 cz M h a out)(c:Sl oz 1 W h e ys)(hM:∀b,h.size≤b→M b)(g:out.length+ys.length≤140737488355328)
  (f:∀s' h',OwnS oz 1 cz M h' s' (out++ys)→Upd M h h'→K s' h'):∃xs,SRow h e.a (e.len*1) xs∧AppP (some [.int .u8 0]) 1 1 cz a.a a.len a.cap e.len xs h K:=
 ⟨_,c.srow,AppP.own (ys:=ys) d c.len rfl (zU _) rfl (by omega) (by omega) (hM _ (ao _)) f⟩
theorem zS{b:ByteArray}(q:b.size≤1000000){h:ad}{K:SliceV→ad→Prop}(o:∀s' h',OwnS oz 1 cz (fun y=>h.size≤y) h' s' (nn b)→Upd No h h'→K s' h'):HC PG pG [.string b] [.c .slice] K h:=by
 refine M6 b ?_;unfold Ft;refine Dt (by omega) fun s1 d g k1=>?_
 intro c hc;have a:=Upd.push No d (.cells (dN b++dQ (c-b.size) (Value.int .u8 0)).toArray cz (c,c+1));have b2:=En d (.cells (dN b++dQ (c-b.size) (Value.int .u8 0)).toArray cz (c,c+1));generalize d.push (.cells (dN b++dQ (c-b.size) (Value.int .u8 0)).toArray cz (c,c+1))=h2 at a b2;have s:b.data.toList.length=b.size:=by simp
 have f:Sl oz 1 No h2 ⟨some (aD d),b.size,c⟩ b.data.toList:=by
  refine⟨by simp,qB,fun _=>⟨_,rfl,id,pU b2 fun i v hv=>?_⟩⟩
  rw[aL,gH,sO,List.getElem?_append_left (List.getElem?_eq_some_iff.1 hv).1];exact hv
 have n:=k1.size;have s2:=a.size;refine w7 (g.upd a fun _ _ h=>h) f (fun y k=>by show h.size≤y;omega) (by rw[di];omega) fun s3 p j m=>o s3 p j ((k1.tr a).trans m fun y k=>.inr k)
theorem BB{W:Nat→Prop}{h:ad}{s:SliceV}{l:List Pr}(D:Sl ge 2 W h s l)(E:Fit l)(Y:l.length≤60000){K:SliceV→ad→Prop}(V:∀s' f,OwnS oz 1 cz (fun y=>h.size≤y) f s' (jX l)→Upd No h f→K s' f):
  HC PG qj [.slice s.a s.len s.cap] [.c .slice] K h:=by
 refine KY s ?_;unfold CZ dH bw aG nv my jS;have F:=D.len;refine LoopP.ghost (fun(i:Nat) (t:SliceV×Int) f=>t.2=(i:Int)∧i≤l.length∧OwnS oz 1 cz (fun b=>h.size≤b) f t.1 (jX (l.take i))∧Upd No h f) (fun i=>l.length-i) 0 ⟨rfl,bo _,OwnS.nil qB,Upd.refl _ _⟩ ?_
 rintro I i ⟨so,ti⟩ f ⟨G,hi,j,k⟩ O;simp only at G j;subst G;refine aQ (fun c=>?_) fun z=>?_
 ·have c:i<l.length:=by have:(i:Int)<(s.len:Int):=c;omega
  refine Join.plain ?_;obtain⟨a,L,_,hv⟩:=(D.upd k fun _ h=>h.elim).at (ag c)
  have R:=E l[i] (aP c);have w:=lY (l:=l.take i) fun q S=>E q (List.mem_of_mem_take S)
  rw[aU,Nat.min_eq_left hi]at w;have h1:=iE l[i].1;have P:=iE l[i].2;refine⟨⟨by simp only;omega,by simp only;omega⟩,a,L,_,hv 0 _ rfl,_,hv 1 _ rfl,yc (p:=l[i]) fun P b2 A=>?_⟩
  refine⟨_,vc b2 0,_,vc b2 1,zS (by omega) fun s3 h3 n g=>⟨vc (g.get0 b2) 1,?_⟩⟩
  have Q:=(k.tr A).tr g;have s2:=aH b2;have J:=A.size;have N:=g.size;have s0:=k.size;refine w7 (M:=fun y=>h.size≤y∧y≠f.size) (((j.within.upd A fun _ _ h=>h).upd g fun _ _ h=>h).more fun y d=>⟨d.1,by omega⟩) (n.sl (W:=No) fun _ _ _ h=>h) (fun y d=>by omega) (by omega) fun s4 h4 B v=>⟨vc (v.get (g.get0 b2) (by omega)) 1,?_⟩
  have T:=v.size;refine zS (by omega) fun Z h5 m u=>?_
  have X:=u.size;refine w7 (M:=fun y=>h.size≤y) ((B.upd u fun _ _ h=>h).more fun y d=>d.1) (m.sl (W:=No) fun _ _ _ h=>h) (fun y d=>by show h.size≤y;omega) (by rw[af];omega) fun s6 h6 o H=>?_
  simp only;rw[cI c (by omega)];refine O (i+1) _ _ ⟨rfl,c,?_,(((Q.trans v fun y d=>.inr d.1)).tr u).trans H fun y d=>.inr d⟩ (by omega)
  rw[CB c,CC,←aw];exact o
 ·have C:i=l.length:=by have:¬(i:Int)<(s.len:Int):=z;omega
  subst C;rw[cd]at j;exact V _ _ j k
theorem O3{W W':Nat→Prop}{h:ad}{s s':SliceV}{l:List UInt8}(g:Sl oz 1 W h s l)(c:Sl oz 1 W' h s' l)(q:l.length≤1000000000000){K:Bool→ad→Prop}(n:K true h):HC PG yT [.slice s.a s.len s.cap,.slice s'.a s'.len s'.cap] [.c .bool] K h:=by
 refine M7 s s' ?_;unfold Fv bJ dH;have o:=g.len;have p:=c.len;rw[o,p,bne_self_eq_false];refine aj.2 ?_;refine LoopP.ghost (fun(i:Nat) (t:Int) j=>t=(i:Int)∧i≤l.length∧j=h) (fun i=>l.length-i) 0 ⟨rfl,bo _,rfl⟩ ?_
 rintro I i t j ⟨rfl,hi,rfl⟩ m;refine aQ (fun b=>?_) fun _=>n
 have b:i<l.length:=by omega
 obtain⟨a,k,_,hv⟩:=g.at0 (ag b);obtain⟨a',f,_,d⟩:=c.at0 (ag b);refine⟨⟨by omega,by omega⟩,a,k,_,hv,⟨by omega,by omega⟩,a',f,_,d,?_⟩
 rw[bne_self_eq_false];refine aj.2 ?_;rw[cI b (by omega)];exact m (i+1) _ _ ⟨rfl,b,rfl⟩ (by omega)
end Go.Proofs
namespace Go.Proofs
open Go Go.Lift
abbrev WX(lab:ByteArray)(has:Bool)(val:ByteArray)(s:SliceV)(_:Option Addr):Array Value:= #[.string lab,.bool has,.string val,sv s]
def DxF(W:Nat→Prop)(h:ad):Fo→List (Option Addr)→Prop
 | .nil,ks=>ks= []
 | .cons lab w kids rest,ks=>∃b sl val s ow ks1 ks',ks=some ⟨b,0,none⟩::ks'∧sl.data.toList=lab∧h[b]? =some (.cells (WX sl w.isSome val s ow) nO (0,0))∧val=w.getD ⟨#[]⟩∧Sl mw 1 W h s ks1∧(s.len≤s.cap∧¬W b)∧DxF W h kids ks1∧DxF W h rest ks'
def DxN(W:Nat→Prop)(h:ad)(b:Nat)(sl:ByteArray)(w:Option ByteArray)(F:Fo):Prop:=∃val s ow ks,h[b]? =some (.cells (WX sl w.isSome val s ow) nO (0,0))∧val=w.getD ⟨#[]⟩∧Sl mw 1 W h s ks∧(s.len≤s.cap∧¬W b)∧DxF W h F ks
def DKid(W:Nat→Prop)(h:ad)(k:Option Addr)(n:Bn):Prop:=∃b sl,k=some ⟨b,0,none⟩∧sl.data.toList=n.1∧DxN W h b sl n.2.1 n.2.2
def DxL(W:Nat→Prop)(h:ad)(ks:List (Option Addr))(L:List Bn):Prop:=ks.length=L.length∧∀p∈ks.zip L,DKid W h p.1 p.2
theorem Ap{W:Nat→Prop}{h:ad}:∀{F:Fo} {ks:List (Option Addr)},DxF W h F ks↔DxL W h ks F.toL
 | .nil,ks=>by
  unfold DxF DxL;simp[Fo.toL]
 | .cons lab w kids rest,ks=>by
  unfold DxF DxL;rw[Fo.toL_cons];constructor
  ·rintro⟨b,sl,val,s,ow,c,d,rfl,n,i,j,f,g,m,v⟩
   obtain⟨q,y⟩:=Ap.1 v;refine⟨by simp[q],fun p a=>?_⟩
   rw[iZ]at a;rcases aA.1 a with rfl|a
   ·exact⟨b,sl,rfl,n,val,s,ow,c,i,j,f,g,m⟩
   ·exact y p a
  ·cases ks with
   |nil=>rintro⟨e,_⟩;simp at e
   |cons k d=>
    rintro⟨e,a⟩;rw[iZ]at a;obtain⟨b,sl,u,n,val,s,ow,c,i,j,f,g,m⟩:=a _ (aE ..);refine⟨b,sl,val,s,ow,c,d,by rw[←u],n,i,j,f,g,m,Ap.2 ⟨by simpa using e,fun p o=>a p (aX _ o)⟩⟩
theorem DxF.upd0{W:Nat→Prop}{h a:ad}(k:Upd No h a):∀{F:Fo} {ks:List (Option Addr)},DxF W h F ks→DxF W a F ks
 | .nil,_,r=>r
 | .cons _ _ _ _,_,⟨b,sl,val,s,ow,ks1,ks',e0,e1,e2,e3,e4,e5,e6,e7⟩=>⟨b,sl,val,s,ow,ks1,ks',e0,e1,k.get0 e2,e3,e4.upd k fun _ h=>h.elim,e5,DxF.upd0 k e6,DxF.upd0 k e7⟩
theorem DxN.upd0{W:Nat→Prop}{h a:ad}(k:Upd No h a){b:Nat}{sl:ByteArray}{w:Option ByteArray}{F:Fo}:DxN W h b sl w F→DxN W a b sl w F
 |⟨val,s,ow,ks,e2,e3,e4,e5,e6⟩=>⟨val,s,ow,ks,k.get0 e2,e3,e4.upd k fun _ h=>h.elim,e5,DxF.upd0 k e6⟩
theorem DKid.upd0{W:Nat→Prop}{h c:ad}(k:Upd No h c){a:Option Addr}{n:Bn}:DKid W h a n→DKid W c a n
 |⟨b,sl,e1,e2,e3⟩=>⟨b,sl,e1,e2,e3.upd0 k⟩
theorem DxF.less{W W':Nat→Prop}{h:ad}(hm:∀b,W' b→W b∨h.size≤b):∀{F:Fo} {ks:List (Option Addr)},DxF W h F ks→DxF W' h F ks
 | .nil,_,r=>r
 | .cons _ _ _ _,_,⟨b,sl,val,s,ow,ks1,ks',e0,e1,e2,e3,e4,e5,e6,e7⟩=>⟨b,sl,val,s,ow,ks1,ks',e0,e1,e2,e3,e4.less hm,⟨e5.1,fun hx=>(hm _ hx).elim e5.2 fun h=>by have:=aH e2;omega⟩,DxF.less hm e6,DxF.less hm e7⟩
theorem DxN.less{W W':Nat→Prop}{h:ad}(hm:∀b,W' b→W b∨h.size≤b){b:Nat}{sl:ByteArray}{w:Option ByteArray}{F:Fo}:DxN W h b sl w F→DxN W' h b sl w F
 |⟨val,s,ow,ks,e2,e3,e4,e5,e6⟩=>⟨val,s,ow,ks,e2,e3,e4.less hm,⟨e5.1,fun hx=>(hm _ hx).elim e5.2 fun h=>by have:=aH e2;omega⟩,DxF.less hm e6⟩
theorem DxF.updM{W M:Nat→Prop}{h a:ad}(k:Upd M h a)(hm:∀b,M b→W b∨h.size≤b):∀{F:Fo} {ks:List (Option Addr)},DxF W h F ks→DxF W a F ks
 | .nil,_,r=>r
 | .cons _ _ _ _,_,⟨b,sl,val,s,ow,ks1,ks',e0,e1,e2,e3,e4,e5,e6,e7⟩=>⟨b,sl,val,s,ow,ks1,ks',e0,e1,k.get e2 (fun hx=>(hm _ hx).elim e5.2 fun h=>by have:=aH e2;omega),e3,e4.upd k hm,e5,DxF.updM k hm e6,DxF.updM k hm e7⟩
theorem DxN.updM{W M:Nat→Prop}{h a:ad}(k:Upd M h a)(hm:∀b,M b→W b∨h.size≤b){b:Nat}{sl:ByteArray}{w:Option ByteArray}{F:Fo}:DxN W h b sl w F→DxN W a b sl w F
 |⟨val,s,ow,ks,e2,e3,e4,e5,e6⟩=>⟨val,s,ow,ks,k.get e2 (fun hx=>(hm _ hx).elim e5.2 fun h=>by have:=aH e2;omega),e3,e4.upd k hm,e5,DxF.updM k hm e6⟩
theorem DxL.upd0{W:Nat→Prop}{h a:ad}(k:Upd No h a){ks:List (Option Addr)}{L:List Bn}(r:DxL W h ks L):DxL W a ks L:=⟨r.1,fun p b=>(r.2 p b).upd0 k⟩
theorem DxL.app{W:Nat→Prop}{h:ad}{ks b:List (Option Addr)}{L L':List Bn}(r:DxL W h ks L)(c:DxL W h b L'):DxL W h (ks++b) (L++L'):=by
 refine⟨by rw[af,af,r.1,c.1],fun p a=>?_⟩
 rw[List.zip_append r.1]at a;rcases List.mem_append.1 a with a|a
 ·exact r.2 p a
 ·exact c.2 p a
theorem DxL.one{W:Nat→Prop}{h:ad}{k:Option Addr}{n:Bn}(c:DKid W h k n):DxL W h [k] [n]:=⟨rfl,fun p a=>by rw[iZ,List.zip_nil_left]at a;rw[List.mem_singleton.1 a];exact c⟩
theorem DxL.at{W:Nat→Prop}{h:ad}{ks:List (Option Addr)}{L:List Bn}(r:DxL W h ks L){i:Nat}(hi:i<L.length):∃b sl,ks[i]? =some (some ⟨b,0,none⟩)∧sl.data.toList=L[i].1∧DxN W h b sl L[i].2.1 L[i].2.2:=by
 have c:i<ks.length:=by rw[r.1];exact hi
 have hz:i<(ks.zip L).length:=by rw[List.length_zip];omega
 have:=r.2 _ (aP hz);rw[List.getElem_zip]at this;obtain⟨b,sl,a,f,d⟩:=this;exact⟨b,sl,by rw[ag c];exact congrArg some a,f,d⟩
theorem DKid.less{W W':Nat→Prop}{h:ad}(hm:∀b,W' b→W b∨h.size≤b){a:Option Addr}{n:Bn}:DKid W h a n→DKid W' h a n
 |⟨b,sl,e1,e2,e3⟩=>⟨b,sl,e1,e2,e3.less hm⟩
theorem DKid.updM{W M:Nat→Prop}{h c:ad}(k:Upd M h c)(hm:∀b,M b→W b∨h.size≤b){a:Option Addr}{n:Bn}:DKid W h a n→DKid W c a n
 |⟨b,sl,e1,e2,e3⟩=>⟨b,sl,e1,e2,e3.updM k hm⟩
theorem DxL.less{W W':Nat→Prop}{h:ad}(hm:∀b,W' b→W b∨h.size≤b){ks:List (Option Addr)}{L:List Bn}(r:DxL W h ks L):DxL W' h ks L:=⟨r.1,fun p a=>(r.2 p a).less hm⟩
theorem DxL.updM{W M:Nat→Prop}{h a:ad}(k:Upd M h a)(hm:∀b,M b→W b∨h.size≤b){ks:List (Option Addr)}{L:List Bn}(r:DxL W h ks L):DxL W a ks L:=⟨r.1,fun p c=>(r.2 p c).updM k hm⟩
theorem LR{a b:ByteArray}(z:a.size≤1000000){h:ad}{K:Int→ad→Prop}(u:K (cm a.data.toList b.data.toList:Nat) h):HC PG vh [.string a,.string b] [.c (.int .i64)] K h:=by
 refine I0 a b ?_;unfold A8;have B:a.data.toList.length=a.size:=by simp
 have A:b.data.toList.length=b.size:=by simp
 refine LoopP.ghost (fun(i:Nat) (t:Int) o=>t=(i:Int)∧i≤min a.size b.size∧o=h∧∀j,j<i→a.data.toList[j]? =b.data.toList[j]?) (fun i=>min a.size b.size-i) 0 ⟨rfl,bo _,rfl,fun j v=>absurd v (ij _)⟩ ?_
 rintro I i t o ⟨rfl,hi,rfl,g⟩ w;refine Join.intro (fun t k=>k=o∧(t=true→i<min a.size b.size∧a.data.toList[i]? =b.data.toList[i]?)∧(t=false→cm a.data.toList b.data.toList=i)) (fun R m=>?_) ?_
 ·refine aQ (fun n=>?_) fun n=>m _ _ ⟨rfl,fun h=>(by cases h),fun _=>Hu (by omega) (by omega) g (by omega)⟩
  refine aQ (fun k=>?_) fun k=>m _ _ ⟨rfl,fun h=>(by cases h),fun _=>Hu (by omega) (by omega) g (by omega)⟩
  have f:i<a.size:=by omega
  have c:i<b.size:=by omega
  have s:a.data.toList[i]? =some a[i]:=by rw[←Ks,getElem?_pos a i f]
  have q:b.data.toList[i]? =some b[i]:=by rw[←Ks,getElem?_pos b i c]
  refine⟨a[i],by omega,by rw[aO,getElem?_pos a i f],b[i],by omega,by rw[aO,getElem?_pos b i c],m _ _ ⟨rfl,fun h=>⟨by omega,?_⟩,fun h=>?_⟩⟩
  ·have:((a[i].toNat:Int))=(b[i].toNat:Int):=by simpa using h
   rw[s,q,UInt8.toNat_inj.1 (show a[i].toNat=b[i].toNat by omega)]
  ·refine Hu (by omega) (by omega) g (.inr (.inr fun e=>?_))
   rw[s,q]at e;rw[bF.inj e]at h;simp at h
 ·rintro t k ⟨rfl,n,y⟩
  cases t with
  |true=>
   obtain⟨d,e⟩:=n rfl;refine ay.2 ?_;rw[cI d (by omega)];refine w (i+1) _ _ ⟨rfl,d,rfl,fun j v=>?_⟩ (by omega)
   rcases bK j i with p|p
   ·exact g j p
   ·rw[show j=i by omega];exact e
  |false=>
   refine aj.2 ?_;rw[y rfl]at u;exact u
theorem Ub:∀{x y:List UInt8} {t:Nat},t≤x.length→t≤y.length→x.take t=y.take t→t≤cm x y
 |_,_,0,_,_,_=>bo _
 | [],_,t+1,h,_,_=>by simp at h
 |_::_,[],t+1,_,h,_=>by simp at h
 |a::x,b::y,t+1,h1,h2,e=>by
  rw[de,de]at e;obtain⟨c,d⟩:=fA.inj e;have:=Ub (x:=x) (y:=y) (t:=t) (by simpa using h1) (by simpa using h2) d;unfold cm;rw[if_pos c];omega
def TW(t:Nat)(p:Pr):Pr:=(p.1.extract t p.1.size,p.2)
theorem Hb(t:Nat)(p:Pr):ky (TW t p)=(ky p).drop t:=Ao p.1 t
def Ou(B:Nat):Prop:=∀{W:Nat→Prop} {h:ad} {s:SliceV} {l:List Pr},Sl ge 2 No h s l→s.len≤s.cap→Beg l []→(∀p∈l,(ky p).length≤B)→l.length≤100000→(∀y,W y→y<h.size)→∀{K:SliceV→ad→Prop},
 (∀h' s' ks L,OwnS mw 1 qV (fun y=>h.size≤y) h' s' ks→DxL W h' ks L→Row L l [] []→Upd No h h'→K s' h')→HC PG q9 [.slice s.a s.len s.cap] [.c .slice] K h
def vJ(to:Nat)(l:List Pr):List Pr:=(l.filter fun p=>decide ((ky p).length≠to)).map (TW to)
theorem LL{to:Nat}{l:List Pr}{i:Nat}(hi:i<l.length):vJ to (l.take (i+1))=if(ky l[i]).length=to then vJ to (l.take i)else vJ to (l.take i)++ [TW to l[i]]:=by
 unfold vJ;rw[bN hi,kT,List.map_append,cK,qI];by_cases h:(ky l[i]).length=to
 ·rw[if_pos h,if_neg (by simpa using h)];simp
 ·rw[if_neg h,if_pos (by simpa using h)];rfl
theorem MP{W:Nat→Prop}{B:Nat}(hB:B≤1000000)(Z:∀B',B'<B→Ou B'){h:ad}{s:SliceV}{l r:List Pr}{f g:Pr}(hs:Sl ge 2 No h s l)(bg:Beg l [])(T:∀p∈l,(ky p).length≤B)(hn:l.length≤100000)(hW:∀y,W y→y<h.size)
  (w:l=f::r)(hg:l.getLast? =some g)(hb:bt 0 f=bt 0 g){K:Option Addr→ad→Prop}
  (hk:∀z a n,DKid W z a n→Lc n→hd n.1=bt 0 f→(∀k v,rK n k v↔TS l [] k v)→Upd No h z→K a z):HC PG vg [.slice s.a s.len s.cap] [.c .ptr] K h:=by
 refine IZ s ?_;unfold A7 dH bw aG cp nv my jS;have hlen:=hs.len;have hl0:0<l.length:=by rw[w];simp
 have hfm:f∈l:=by rw[w];exact aE ..
 have hgm:g∈l:=mn hg;obtain⟨a,ha,_,hvf⟩:=hs.at (i:=0) (x:=f) (by rw[w];rfl);obtain⟨q1,q2,q3,q4,q5⟩:=Hy bg ⟨r,w⟩ hg hb;have hbc:= @MO l (if(ky f).length=cm (ky f) (ky g)then l.drop 1 else l) [] f g bg ⟨r,w⟩ hg hb
 have hcg:cm (ky f) (ky g)=cm (ky f) (ky g):=rfl;obtain⟨to,X⟩:∃to,cm (ky f) (ky g)=to:=⟨_,rfl⟩;rw[X]at q1 q2 q3 q4 hbc;have hszf:f.1.size=(ky f).length:=(Mi f.1).symm;have hfB:=T f hfm;have hle:∀p∈l,to≤(ky p).length:=fun p j=>(q4 p j).elim (fun e=>e▸q2) Nat.le_of_lt
 have hcm:∀p∈l,to≤cm (ky f) (ky p):=fun p j=>Ub q2 (hle p j) (q3 p j).symm
 have hpos:0<to:=by simpa using q1
 refine⟨⟨by decide,by omega⟩,a,ha,_,hvf 0 _ rfl,?_⟩
 refine LoopP.ghost (fun(g:Nat×Nat) (t:Int×Int) z=>t=((g.2:Int),(g.1:Int))∧g.1≤l.length∧to≤g.2∧g.2≤(ky f).length∧(g.1=l.length→g.2=to)∧Upd No h z) (fun g=>l.length-g.1) (0,(ky f).length) ⟨by rw[hszf];rfl,bo _,q2,ao _,fun e=>by simp only at e;omega,Upd.refl _ _⟩ ?_
 rintro I ⟨i,n⟩ t z ⟨rfl,hi,hn1,hn2,Y,hu⟩ hI;simp only at hi hn1 hn2 Y;refine aQ (fun b=>?_) fun V=>?_
 ·have b:i<l.length:=by have:(i:Int)<(s.len:Int):=b;omega
  have C:l[i]∈l:=aP b;refine Join.intro (fun t u=>∃n':Nat,t=(n':Int)∧to≤n'∧n'≤(ky f).length∧(i+1=l.length→n'=to)∧Upd No h u) (fun R hR=>?_) ?_
  ·obtain⟨a',ha',_,hv⟩:=(hs.upd hu fun _ h=>h.elim).at (ag b)
   refine⟨⟨by simp only;omega,by simp only;omega⟩,a',ha',_,hv 0 _ rfl,_,hv 1 _ rfl,yc (p:=l[i]) fun u b2 k2=>?_⟩
   obtain⟨a2,ha2,_,hv2⟩:=((hs.upd hu fun _ h=>h.elim).upd k2 fun _ h=>h.elim).at (i:=0) (x:=f) (by rw[w];rfl)
   refine⟨⟨by decide,by omega⟩,a2,ha2,_,hv2 0 _ rfl,_,vc b2 0,LR (by omega) ?_⟩
   have hc1:=hcm _ C;have hc2:=(Ok (ky f) (ky l[i])).1;have A:i+1=l.length→l[i]=g:=fun e=>by
    rw[List.getLast?_eq_getElem?,show l.length-1=i by omega,ag b]at hg
    exact bF.inj hg
   change CondP (decide ((cm (ky f) (ky l[i]):Int)<(n:Int))) _ _;refine aQ (fun hc=>hR _ _ ⟨_,rfl,hc1,hc2,fun e=>?_,hu.tr k2⟩) fun hc=>hR _ _ ⟨n,rfl,hn1,hn2,fun e=>?_,hu.tr k2⟩
   ·rw[A e,X]
   ·rw[A e,X]at hc;omega
  ·rintro t u ⟨n',rfl,G,h2',O,m⟩
   simp only;rw[cI b (by omega)];exact hI (i+1,n') _ _ ⟨rfl,b,G,h2',O,m⟩ (by simp only;omega)
 obtain rfl:i=l.length:=by have:¬(i:Int)<(s.len:Int):=V;omega
 obtain rfl:n=to:=Y rfl;clear Y hI;obtain⟨a',ha',_,hv⟩:=(hs.upd hu fun _ h=>h.elim).at (i:=0) (x:=f) (by rw[w];rfl)
 refine⟨⟨by decide,by omega⟩,a',ha',f.1,hv 0 _ rfl,⟨by omega,by simp only;omega⟩,aJ fun G b1 k1=>?_⟩
 have u1:=hu.tr k1;have z1:=aH b1;have s0:=hu.size;simp only[aO]at b1⊢;have hlab:(f.1.extract 0 n).data.toList=((ky f).take n).drop ([]:List UInt8).length:=by rw[An];rfl
 refine LoopP.ghost (fun(i:Nat) (t:SliceV×Int) u=>t.2=(i:Int)∧i≤l.length∧u[z.size]? =some (.cells #[.string (f.1.extract 0 n),.bool (if 0<i∧(ky f).length=n then some f.2 else none:Option ByteArray).isSome,.string ((if 0<i∧(ky f).length=n then some f.2 else none:Option ByteArray).getD ⟨#[]⟩),.slice none 0 0] nO (0,0))∧
  OwnS ge 2 bR (fun y=>G.size≤y) u t.1 (vJ n (l.take i))∧Upd No h u∧G.size≤u.size) (fun i=>l.length-i) 0 ⟨rfl,bo _,by rw[if_neg (by omega)];exact b1,OwnS.nil jh,u1,ao _⟩ ?_
 rintro I i ⟨so,ti⟩ u ⟨e1,hi2,c2,ho,m,hz2⟩ hI;simp only at e1 ho;subst e1;refine aQ (fun b=>?_) fun V=>?_
 ·have b:i<l.length:=by have:(i:Int)<(s.len:Int):=b;omega
  have C:l[i]∈l:=aP b;have N:=LL (to:=n) b;have hszi:l[i].1.size=(ky l[i]).length:=(Mi l[i].1).symm;have hiB:=T _ C;refine Join.intro (fun t O=>O[z.size]? =some (.cells #[.string (f.1.extract 0 n),.bool (if 0<i+1∧(ky f).length=n then some f.2 else none:Option ByteArray).isSome,.string ((if 0<i+1∧(ky f).length=n then some f.2 else none:Option ByteArray).getD ⟨#[]⟩),.slice none 0 0] nO (0,0))∧
   OwnS ge 2 bR (fun y=>G.size≤y) O t (vJ n (l.take (i+1)))∧Upd No h O∧G.size≤O.size) (fun R hR=>?_) ?_
  ·obtain⟨a3,ha3,_,hv3⟩:=(hs.upd m fun _ h=>h.elim).at (ag b)
   refine⟨⟨by simp only;omega,by simp only;omega⟩,a3,ha3,_,hv3 0 _ rfl,_,hv3 1 _ rfl,yc (p:=l[i]) fun O b3 k3=>⟨_,vc b3 0,?_⟩⟩
   have z3:=aH b3;have s3:=k3.size;have zh2:=aH c2;have c3:=k3.get0 c2;refine CondP.intro (fun E=>?_) fun E=>?_
   ·have E:(ky l[i]).length=n:=by
     have:((l[i].1.size:Nat):Int)=(n:Int):=by simpa using E
     omega
    have hfi:l[i]=f:=(q4 _ C).resolve_right (by omega);rw[if_pos E]at N;refine⟨_,vc b3 1,_,rfl,?_⟩;refine lN (i:=1) c3 (show 1<4 by decide) rfl fun h4 b4 Q=>⟨vc (Q.oth b3 (by omega)) 1,_,rfl,?_⟩
    refine lN (i:=2) b4 (show 2<4 by decide) rfl fun h5 b5 u5=>hR _ _ ⟨?_,?_,((m.tr k3).own Q (by omega)).own u5 (by omega),?_⟩
    ·rw[if_pos (show 0<i+1∧(ky f).length=n from⟨by omega,by rw[←hfi];exact E⟩),b5,hfi];rfl
    ·rw[N]
     exact((ho.upd k3 fun _ _ h=>h).upd Q fun y c e=>by have e:y=z.size:=e;have c:G.size≤y:=c;omega).upd u5 fun y c e=>by have e:y=z.size:=e;have c:G.size≤y:=c;omega
    ·have:=Q.size;have:=u5.size;omega
   ·have E:¬(ky l[i]).length=n:=fun e=>by
     have:¬((l[i].1.size:Nat):Int)=(n:Int):=by simpa using E
     omega
    rw[if_neg E]at N;have hlei:=hle _ C;refine⟨_,vc b3 0,⟨by omega,by omega⟩,_,vc b3 1,aJ fun h4 b4 P=>⟨vc (P.get0 b3) 1,vc (P.get0 b3) 0,_,kF b4,?_⟩⟩
    have s4:=P.size;have z4:=aH b4;refine AppP.own (M:=fun y=>(G.size≤y∧y<u.size)∨h4.size≤y) (ys:= [TW n l[i]]) (((ho.within.upd k3 fun _ _ h=>h).upd P fun _ _ h=>h).more fun y c=>.inl c) rfl rfl rfl rfl (by omega) ?_ (.inr (ao _)) fun s5 h5 ho5 D=>?_
    ·have:=List.length_filter_le (fun p=>decide ((ky p).length≠n)) (l.take i)
     simp only[vJ,c7,aK];rw[aU]at this;omega
    have s5':=D.size;refine⟨vc (D.get (P.get0 b3) (by omega)) 1,vc (D.get (P.get0 b3) (by omega)) 0,hR _ _ ⟨?_,?_,((m.tr k3).tr P).trans D fun y c=>.inr (by omega),by omega⟩⟩
    ·have o:(if 0<i+1∧(ky f).length=n then some f.2 else none:Option ByteArray)=if 0<i∧(ky f).length=n then some f.2 else none:=by
      by_cases h0:0<i
      ·simp[h0]
      ·have:i=0:=by omega
       subst this;have:l[0]=f:=by simp[w]
       rw[this]at E;rw[if_neg (fun h=>E h.2),if_neg (fun h=>E h.2)]
     rw[o];exact D.get (P.get0 c3) (by omega)
    ·rw[N]
     exact ho5.more fun y c=>by show G.size≤y;omega
  ·rintro t O ⟨p1,p2,p3,p4⟩
   simp only;rw[cI b (by omega)];exact hI (i+1) _ _ ⟨rfl,b,p1,p2,p3,p4⟩ (by omega)
 obtain rfl:i=l.length:=by have:¬(i:Int)<(s.len:Int):=V;omega
 rw[cd]at ho;have hc0:(0<l.length∧(ky f).length=n)↔(ky f).length=n:=⟨fun h=>h.2,fun h=>⟨hl0,h⟩⟩
 simp only[hc0]at c2;have J:vJ n l=(if(ky f).length=n then l.drop 1 else l).map (TW n):=by
  unfold vJ;congr 1
  by_cases e:(ky f).length=n
  ·rw[if_pos e,w,cK,if_neg (by simpa using e),List.drop_one,List.tail_cons]
   refine fp.2 fun p j=>?_
   have hpl:p∈l:=by rw[w];exact aX _ j
   rcases q4 p hpl with o|u
   ·rw[o]at j
    exact absurd ((bB.1 (w▸bg.up)).1 f j) (cO _)
   ·exact decide_eq_true (by omega)
  ·rw[if_neg e]
   refine fp.2 fun p j=>?_
   rcases q4 p j with o|u
   ·rw[o];exact decide_eq_true e
   ·exact decide_eq_true (by omega)
 have d:(if(ky f).length=n then l.drop 1 else l).Sublist l:=by
  split
  ·exact List.drop_sublist ..
  ·exact List.Sublist.refl _
 have S:∀p∈(if(ky f).length=n then l.drop 1 else l),n<(ky p).length:=fun p j=>by
  rcases q4 p (d.subset j)with e|h
  ·by_cases o:(ky f).length=n
   ·rw[if_pos o,w,e]at j
    exact absurd ((bB.1 (w▸bg.up)).1 f j) (cO _)
   ·rw[e];omega
  ·exact h
 have hbeg:Beg (vJ n l) []:=by
  rw[J];refine⟨?_,fun p j=>?_⟩
  ·unfold cA
   rw[List.pairwise_map];refine(bg.up.sublist d).imp_of_mem fun{p q} j H b=>?_
   rw[xB]at b⊢;have e1:=q3 p (d.subset j);have o:=q3 q (d.subset H);change Op.bytesLess (ky (TW n p)) (ky (TW n q))=true;change Op.bytesLess (ky p) (ky q)=true at b;rw[Hb,Hb];rw[←ba n (ky p),←ba n (ky q),e1,o,IQ]at b;exact b
  ·obtain⟨q,H,rfl⟩:=kR.1 j
   refine⟨rfl,?_⟩;rw[Hb,aW];have:=S q H;simp only[cB];omega
 have hkB:∀p∈vJ n l,(ky p).length≤B-n:=fun p j=>by
  rw[J]at j;obtain⟨q,H,rfl⟩:=kR.1 j;rw[Hb,aW];have:=T q (d.subset H);omega
 have hrn:(vJ n l).length≤100000:=by
  rw[J,c7];exact Nat.le_trans d.length_le hn
 have s2:=m.size;have zc:=aH c2;refine Z (B-n) (by omega) (W:=fun y=>W y∨y=z.size) (ho.sl fun _ _ _ h=>h) ho.cap hbeg hkB hrn (fun y c=>c.elim (fun c=>by have:=hW y c;omega) fun c=>by omega) fun O s3 ks L ho3 hL3 hrow hu3=>?_
 obtain⟨hcF,hgF⟩:=hrow.done;have hgot:∀k v,pi (.ofL L) k v↔TS (if(ky f).length=n then l.drop 1 else l) ((ky f).take n) k v:=fun k v=>by
  rw[hgF,J];constructor
  ·rintro⟨p,j,o,e3⟩
   obtain⟨q,H,rfl⟩:=kR.1 j;rw[Hb,ik]at o;refine⟨q,H,?_,e3⟩;rw[←o,←q3 q (d.subset H),ba]
  ·rintro⟨q,H,o,e3⟩
   refine⟨TW n q,kR.2 ⟨q,H,rfl⟩,?_,e3⟩;rw[Hb,ik,o,List.drop_left' (by rw[aU];omega)]
 obtain⟨hcn,hhd,hin⟩:=hbc (F:=.ofL L) hcF rfl hgot rfl hlab;refine⟨_,rfl,?_⟩;refine lN (i:=3) (hu3.get0 c2) (show 3<4 by decide) rfl fun h4 b4 Q=>?_
 refine hk h4 _ (_,_,_) ⟨z.size,_,rfl,rfl,_,s3,none,ks,b4,rfl,?_,⟨ho3.cap,fun hw=>by have:=hW _ hw;omega⟩,Ap.2 ?_⟩ hcn hhd hin ((m.tr hu3).own Q (by omega))
 ·exact(ho3.upd Q fun y c e=>by have e:y=z.size:=e;have c:u.size≤y:=c;omega).sl fun y c _ hw=>by have:=hW y hw;have c:u.size≤y:=c;omega
 ·rw[Fo.to_of]
  exact(hL3.updM Q fun y c=>.inl (.inr c)).less fun y c=>.inl (.inl c)
end Go.Proofs
namespace Go.Proofs
open Go Go.Lift
theorem Mf{B:Nat}(hB:B≤1000000)(J:∀Q,Q<B→Ou Q):Ou B:=by
 intro W h s l hs hcap bg hlB hn hW K hk;refine IY s ?_;unfold A6 dH bw;have hlen:=hs.len;refine LoopP.ghost (fun(g:Nat×List (Option Addr)×List Bn×(Nat→Prop)) (t:SliceV×Int) h'=>t.2=(g.1:Int)∧g.1≤l.length∧OwnS mw 1 qV g.2.2.2 h' t.1 g.2.1∧(∀y,g.2.2.2 y→h.size≤y∧y<h'.size)∧DxL (fun y=>W y∨g.2.2.2 y) h' g.2.1 g.2.2.1∧Row g.2.2.1 (l.take g.1) (l.drop g.1) []∧Upd No h h') (fun g=>l.length-g.1) (0,[],[],fun _=>False)
  ⟨rfl,bo _,OwnS.nil oF,fun y d=>d.elim,⟨rfl,fun p hp=>(by cases hp)⟩,Row.nil _ _,Upd.refl _ _⟩ ?_
 rintro I ⟨i,ks,L,Mo⟩ ⟨so,ti⟩ T ⟨e1,hi,ho,v,Z,f,hu⟩ hI;simp only at e1 hi ho v Z f;subst e1;refine aQ (fun u=>?_) fun hge=>?_
 ·have u:i<l.length:=by have:(i:Int)<(s.len:Int):=u;omega
  have H:=hs.upd hu fun _ h=>h.elim
  have P:∀j (E:j<l.length),0<(ky l[j]).length:=fun j E=>(bg.at_ _ (aP E)).2
  obtain⟨bi,hbi,hbie⟩:=RN (P i u);obtain⟨ai,hai,_,hvi⟩:=H.at (ag u);refine LoopP.ghost (fun(k:Nat) (t:Int) V=>t=(k:Int)∧i≤k∧k≤l.length∧V=T∧∀j (E:j<l.length),i≤j→j<k→bt 0 l[j]=bt 0 l[i]) (fun k=>l.length-k) i ⟨rfl,ao _,hi,rfl,fun j E T V=>by omega⟩ ?_
  rintro I2 k t V ⟨rfl,hik,X,rfl,F⟩ hI2;refine Join.intro (fun t h3=>h3=V∧(t=true→∃hk:k<l.length,bt 0 l[k]=bt 0 l[i])∧(t=false→∀hk:k<l.length,bt 0 l[k]≠bt 0 l[i])) (fun R hR=>?_) ?_
  ·refine aQ (fun a=>?_) fun a=>hR _ _ ⟨rfl,fun h=>(by cases h),fun _ hk2=>absurd (show(k:Int)<(s.len:Int) by omega) a⟩
   have a:k<l.length:=by have:(k:Int)<(s.len:Int):=a;omega
   obtain⟨bk,hbk,hbke⟩:=RN (P k a);obtain⟨ak,hak,_,hvk⟩:=H.at (ag a);refine⟨⟨by omega,by omega⟩,ak,hak,_,hvk 0 _ rfl,bk,by decide,hbk,⟨by simp only;omega,by simp only;omega⟩,ai,hai,_,hvi 0 _ rfl,bi,by decide,hbi,hR _ _ ⟨rfl,fun h=>⟨a,?_⟩,fun h _=>?_⟩⟩
   ·have:(bk.toNat:Int)=(bi.toNat:Int):=by simpa using h
    omega
   ·intro e
    have:¬(bk.toNat:Int)=(bi.toNat:Int):=by simpa using h
    omega
  rintro t h3 ⟨rfl,ht,hf⟩;cases t with
  |true=>
   obtain⟨a,e⟩:=ht rfl;refine ay.2 ?_;rw[cI a (by omega)];refine hI2 (k+1) _ _ ⟨rfl,by omega,a,rfl,fun j E T V=>?_⟩ (by omega)
   rcases bK j k with h|h
   ·exact F j E T h
   ·have:j=k:=by omega
    subst this;exact e
  |false=>
   have hf:=hf rfl;have hik2:i<k:=by
    rcases bK i k with h|h
    ·exact h
    ·have:k=i:=by omega
     subst this;exact absurd rfl (hf u)
   refine aj.2 ⟨⟨by omega,by omega⟩,⟨by simp only;omega,by simp only;omega⟩,?_⟩
   simp only[aO];have hsA:=Sl.sub H (l:=i) (hi:=k) (m:=s.cap) (c:=s.cap-i) hik X (by omega);have Y:(l.drop i).take (k-i)++l.drop k=l.drop i:=by
    conv=>rhs;rw[←ba (k-i) (l.drop i)]
    rw[List.drop_drop,show i+(k-i)=k by omega]
   have hDA:l.take i++(l.drop i).take (k-i)=l.take k:=by
    rw[show k=i+(k-i) by omega,List.take_add];congr 2;omega
   have z:∀q∈(l.drop i).take (k-i),bt 0 q=bt 0 l[i]:=fun q hq=>by
    obtain⟨j,E,e⟩:=List.getElem_of_mem hq;rw[aU,aW]at E;rw[←e,List.getElem_take,List.getElem_drop];exact F (i+j) (by omega) (by omega) (by omega)
   have hAc:∃r,(l.drop i).take (k-i)=l[i]::r:=by
    rw[eC u,show k-i=(k-i-1)+1 by omega,de]
    exact⟨_,rfl⟩
   have o:((l.drop i).take (k-i)).Sublist l:=(List.take_sublist _ _).trans (List.drop_sublist _ _);have hBk:∀b Q,l.drop k=b::Q→bt 0 b≠bt 0 l[i]:=fun b Q e=>by
    have a:k<l.length:=by
     rcases bK k l.length with h|h
     ·exact h
     ·rw[List.drop_eq_nil_of_le h]at e;cases e
    rw[eC a]at e;rw[←(fA.inj e).1];exact hf a
   have hAl:((l.drop i).take (k-i)).length≤l.length:=o.length_le;generalize (l.drop i).take (k-i)=A at*;obtain⟨r,G⟩:=hAc;obtain⟨g,hg⟩:∃g,A.getLast? =some g:=by rw[G];exact⟨_,List.getLast?_eq_some_getLast (by simp)⟩
   have s1:=hu.size;refine MP (W:=fun y=>W y∨Mo y) hB J (hsA.less fun _ h=>h.elim) (bg.sub o) (fun q hq=>hlB q (o.subset hq)) (by omega) (fun y d=>d.elim (fun d=>Nat.lt_of_lt_of_le (hW y d) s1) fun d=>(v y d).2) G hg (z g (mn hg)).symm fun h4 ka n kd hcn hhd hin hu4=>aJ fun O b5 k5=>⟨_,kF b5,?_⟩
   have D:=hu4.tr k5;have z35:=D.size;have hLn:L.length≤256:=by
    rcases Bz (c:=0) f.up fun _ _=>bo _ with e|e
    ·rw[e];simp
    ·omega
   have hkl':=Z.1;refine AppP.own (M:=fun y=>Mo y∨O.size≤y) (ys:= [ka]) ((ho.upd D fun _ _ h=>h).more fun y d=>.inl d) rfl rfl rfl rfl (by omega) (by simp only[aK];omega) (.inr (ao _)) fun s6 h6 ho6 N=>?_
   have z6:=N.size;have C:=f;rw[←Y]at C;have S:Beg (A++l.drop k) []:=by rw[Y];exact bg.sub (List.drop_sublist _ _)
   have w:=C.more S (p:=l[i]) (by rw[G];exact aE ..) z hBk hcn hhd hin;rw[hDA]at w;refine hI (k,ks++ [ka],L++ [n],fun y=>(Mo y∨O.size≤y)∧y<h6.size) _ _ ⟨rfl,X,ho6.within,fun y d=>⟨?_,d.2⟩,?_,w,?_⟩ (by simp only;omega)
   ·rcases d.1 with h|h
    ·exact(v y h).1
    ·omega
   ·have hl:∀b,(W b∨((Mo b∨O.size≤b)∧b<h6.size))→(W b∨Mo b)∨O.size≤b:=fun b hb=>by
     rcases hb with h|⟨h|h,_⟩
     ·exact .inl (.inl h)
     ·exact .inl (.inr h)
     ·exact .inr h
    have hm:∀b,(Mo b∨O.size≤b)→(W b∨((Mo b∨O.size≤b)∧b<h6.size))∨O.size≤b:=fun b hb=>by
     rcases hb with h|h
     ·exact .inl (.inr ⟨.inl h,by have:=(v b h).2;omega⟩)
     ·exact .inr h
    exact(((Z.upd0 D).app (DxL.one (kd.upd0 k5))).less hl).updM N hm
   ·exact(hu.tr D).trans N fun y d=>.inr (by
     rcases d with h|h
     ·exact(v y h).1
     ·omega)
 ·obtain rfl:i=l.length:=by have:¬(i:Int)<(s.len:Int):=hge;omega
  rw[cd,List.drop_length]at f;exact hk T _ ks L (ho.more fun y d=>(v y d).1) (Z.less fun y d=>.inl (.inl d)) f hu
theorem Q3(B:Nat):B≤1000000→Ou B:=by
 induction B using Nat.strongRecOn with
 |_ B ih=>exact fun b=>Mf b fun a h=>ih a h (by omega)
theorem Th{h:ad}{s:SliceV}{l:List Pr}(Q:Sl ge 2 No h s l)(j:s.len≤s.cap)(Y:cA l)(hn:l.length≤60000)(hB:∀p∈l,(ky p).length≤1000000){K:Option Addr→ad→Prop}
  (hk:∀h' b w F,DxN No h' b ⟨#[]⟩ w F→fi F→oI w F=NH l→Upd No h h'→K (some ⟨b,0,none⟩) h'):HC PG EM [.slice s.a s.len s.cap] [.c .ptr] K h:=by
 refine Sc s ?_;unfold K9 dH bw cp VA;have n:=Q.len;refine aJ fun g b1 k1=>?_
 have z1:=aH b1;have z:=Q.upd k1 fun _ h=>h.elim
 refine Join.intro (fun(t:SliceV) f=>∃(w:Option ByteArray) (l':List Pr),f[h.size]? =some (.cells #[.string ⟨#[]⟩,.bool w.isSome,.string (w.getD ⟨#[]⟩),.slice none 0 0] nO (0,0))∧Sl ge 2 No f t l'∧t.len≤t.cap∧Beg l' []∧l'.length≤l.length∧(∀p∈l',p∈l)∧(∀k v,((k= []∧w=some v)∨TS l' [] k v)↔∃p∈l,p.1.data.toList=k∧p.2=v)∧Upd No h f) (fun R V=>?_) ?_
 ·refine Join.plain ?_
  rcases l with _|⟨p,r⟩
  ·refine aQ (fun hgt=>?_) fun _=>aj.2 (V _ _ ⟨none,[],b1,z,j,⟨gn,fun p M=>(by cases M)⟩,ao _,fun _ h=>h,fun k v=>⟨?_,?_⟩,k1⟩)
   ·simp only[cB]at n;omega
   ·rintro(⟨_,h⟩|⟨q,d,_⟩)
    ·cases h
    ·cases d
   ·rintro⟨q,d,_⟩;cases d
  ·simp only[aV]at n
   obtain⟨a,ha,_,hv⟩:=z.at (i:=0) (x:=p) rfl;refine aQ (fun _=>⟨⟨by decide,by omega⟩,a,ha,_,hv 0 _ rfl,?_⟩) fun Z=>absurd (show(s.len:Int)>0 by omega) Z
   have A:=bB.1 Y;have u:∀q∈r,0<(ky q).length:=fun q d=>by
    have g:=xB.1 (A.1 q d);refine List.length_pos_iff.2 fun O=>?_
    change Op.bytesLess (ky p) (ky q)=true at g;rw[O,MQ]at g;cases g
   rw[iW];by_cases J:p.1=⟨#[]⟩
   ·have ek:ky p= []:=by unfold ky;rw[J]
    rw[decide_eq_true J];refine ay.2 ⟨⟨by decide,by omega⟩,a,ha,_,hv 1 _ rfl,_,rfl,?_⟩
    refine lN (i:=1) b1 (show 1<4 by decide) rfl fun f b2 I=>⟨_,rfl,?_⟩
    refine lN (i:=2) b2 (show 2<4 by decide) rfl fun h3 b3 C=>⟨⟨by decide,by omega⟩,V _ _ ⟨some p.2,r,b3,?_,by simp only;omega,⟨A.2,fun q d=>⟨rfl,u q d⟩⟩,by simp,fun q d=>aX _ d,fun k v=>?_,(k1.own I (ao _)).own C (ao _)⟩⟩
    ·have u13:Upd (fun y=>y=h.size) g h3:=I.tr C
     have:=Sl.sub ((((Q.less (W':=fun y=>y=h.size) fun y o=>.inr (by omega)).upd k1 fun _ h=>h.elim).upd u13 fun y o=>.inl o)) (l:=1) (hi:=(p::r).length) (m:=s.cap) (c:=s.cap-1) (by simp) (ao _) (by simp only[aV];omega)
     rw[List.drop_one,List.tail_cons,List.take_of_length_le (by simp)]at this;have O:(p::r).length-1=s.len-1:=by simp only[aV];omega
     rw[O]at this;exact this.less fun _ h=>h.elim
    ·constructor
     ·rintro(⟨rfl,h⟩|⟨q,d,g,f⟩)
      ·exact⟨p,aE ..,ek,bF.inj h⟩
      ·exact⟨q,aX _ d,g,f⟩
     ·rintro⟨q,d,g,f⟩
      rcases aA.1 d with rfl|d
      ·exact .inl ⟨by rw[←g];exact ek,by rw[f]⟩
      ·exact .inr ⟨q,d,g,f⟩
   ·rw[decide_eq_false J]
    have hpp:0<(ky p).length:=List.length_pos_iff.2 fun e=>J (pJ.1 e)
    refine aj.2 (V _ _ ⟨none,p::r,b1,z,j,⟨Y,fun q d=>⟨rfl,?_⟩⟩,ao _,fun _ h=>h,fun k v=>?_,k1⟩)
    ·rcases aA.1 d with rfl|d
     ·exact hpp
     ·exact u q d
    ·constructor
     ·rintro(⟨_,h⟩|⟨q,d,g,f⟩)
      ·cases h
      ·exact⟨q,d,g,f⟩
     ·rintro⟨q,d,g,f⟩
      exact .inr ⟨q,d,g,f⟩
 rintro t f ⟨w,l',b2,X,T,S,hll,H,D,I⟩;have z2:=aH b2;refine Q3 1000000 (ao _) (W:=fun y=>y=h.size) X T S (fun p M=>hB p (H p M)) (by omega) (fun y o=>by omega) fun h3 s3 ks L B P E C=>⟨_,rfl,?_⟩
 obtain⟨G,hgF⟩:=E.done;refine lN (i:=3) (C.get0 b2) (show 3<4 by decide) rfl fun h4 b4 N=>?_
 refine hk h4 h.size w (.ofL L) ⟨_,s3,none,ks,b4,rfl,?_,⟨B.cap,id⟩,Ap.2 ?_⟩ G (H6 G Y fun k v=>?_) ((I.tr C).own N (ao _))
 ·exact(B.upd N fun y o e=>by have e:y=h.size:=e;have o:f.size≤y:=o;omega).sl fun _ _ _ h=>h
 ·rw[Fo.to_of]
  exact(P.updM N fun y o=>.inl o).less fun _ h=>h.elim
 ·rw[l0]
  unfold p7;rw[hgF,D]
def Vs(n:Bn):Prop:=∀{h:ad} {b:Nat} {sl:ByteArray},DxN No h b sl n.2.1 n.2.2→sl.data.toList=n.1→(ie n).length≤140737488355328→∀{K:SliceV→ad→Prop},(∀s' h',OwnS oz 1 cz (fun y=>h.size≤y) h' s' (ie n)→Upd No h h'→K s' h')→
 HC PG sG [.pointer (some ⟨b,0,none⟩)] [.c .slice] K h
theorem Od{lab:List UInt8}{w:Option ByteArray}{c:Fo}(hl:lab.length≤10000)(hw:∀v,w=some v→v.size≤10000)(T:c.toL.length≤256)(ih:∀m∈c.toL,Vs m):Vs (lab,w,c):=by
 intro h b sl r D hx K hk;simp only at r D;have H:(⟨lab.toArray⟩:ByteArray)=sl:=by rw[←D]
 have hsz:sl.size=lab.length:=by rw[←D];simp
 obtain⟨val,s,ow,ks,hb,hv,hs,hcap,hF⟩:=r;have hL:=Ap.1 hF;have o:=hs.len;rw[hL.1]at o;have ex:ie (lab,w,c)=nn sl++tF w++l8 c.toL.length 2++c.toL.flatMap ie:=by
  show qM lab w c.toL.length++nQ c=_
  rw[ww];unfold qM;rw[H];simp only[aw]
 rw[ex]at hx hk;simp only[af]at hx;have g:∀{F:ad} {i:Nat},Upd No h F→aR F (adr ⟨b,0,none⟩ i)=(WX sl w.isSome val s ow)[i]?:=fun k=>vc (k.get0 hb) _
 have r0:=Upd.refl No h;refine KW (some ⟨b,0,none⟩) ?_;unfold CY bJ dH bw aM fL;refine⟨_,rfl,sl,g (i:=0) r0,zS (by omega) fun s1 h1 M k1=>?_⟩
 refine Join.intro (fun t z=>OwnS oz 1 cz (fun y=>h.size≤y) z t (nn sl++tF w)∧Upd No h z) (fun R P=>?_) ?_
 ·refine⟨_,rfl,w.isSome,g (i:=1) k1,?_⟩
  have s1':=k1.size;cases w with
  |none=>
   refine aj.2 (aJ fun z b2 p=>⟨_,kF b2,?_⟩)
   have s2:=p.size;refine AppP.own (ys:= [(0:UInt8)]) (M.upd p fun _ _ h=>h) rfl rfl rfl rfl (by omega) (by simp only[aK];simp only[tF,aK]at hx;omega) (by show h.size≤z.size;omega) fun s3 C d B=>?_
   exact P _ _ ⟨d,(k1.tr p).trans B fun y j=>.inr j⟩
  |some v=>
   have hvs:=hw v rfl;have q:val=v:=hv;subst q;refine ay.2 ⟨_,rfl,_,g (i:=2) k1,aJ fun z b2 p=>⟨g (i:=2) (k1.tr p),_,kF b2,?_⟩⟩
   have s2:=p.size;have hvl:(tF (some val)).length=1+(nn val).length:=by unfold tF;simp;omega
   rw[hvl]at hx;refine AppP.own (ys:= [(1:UInt8)]) (M.upd p fun _ _ h=>h) rfl rfl rfl rfl (by omega) (by simp only[aK];omega) (by show h.size≤z.size;omega) fun s3 C d B=>?_
   have G:Upd No h C:=(k1.tr p).trans B fun y j=>.inr j
   refine⟨g (i:=2) G,zS (by omega) fun s4 h4 n A=>?_⟩
   have J:=G.size;have s4':=A.size;refine w7 (d.upd A fun _ _ h=>h) (n.sl (W:=No) fun _ _ _ h=>h) (fun y j=>by show h.size≤y;omega) (by rw[af,aK];omega) fun s5 h5 u E=>?_
   refine P _ _ ⟨?_,(G.tr A).trans E fun y j=>.inr j⟩
   have e:nn sl++tF (some val)=nn sl++ [1]++nn val:=by unfold tF;simp
   rw[e];exact u
 rintro t2 z ⟨X,S⟩;refine Join.intro (fun t C=>OwnS oz 1 cz (fun y=>h.size≤y) C t (nn sl++tF w++l8 c.toL.length 2)∧Upd No h C) (fun R P=>?_) ?_
 ·refine⟨_,rfl,s,g (i:=3) S,?_⟩
  rw[o];refine Dt (by omega) fun s3 C d Y=>?_
  have s2':=S.size;have J:=Y.size;refine w7 (X.upd Y fun _ _ h=>h) (d.sl (W:=No) fun _ _ _ h=>h) (fun y j=>by show h.size≤y;omega) (by rw[af];omega) fun s4 h4 n Z=>?_
  exact P _ _ ⟨n,(S.tr Y).trans Z fun y j=>.inr j⟩
 rintro t3 C ⟨d,G⟩;refine⟨_,rfl,s,g (i:=3) G,?_⟩;refine LoopP.ghost (fun(i:Nat) (t:SliceV×Int) F=>t.2=(i:Int)∧i≤c.toL.length∧OwnS oz 1 cz (fun y=>h.size≤y) F t.1 (nn sl++tF w++l8 c.toL.length 2++(c.toL.take i).flatMap ie)∧Upd No h F) (fun i=>c.toL.length-i) 0 ⟨rfl,bo _,by simpa using d,G⟩ ?_
 rintro I i ⟨so,ti⟩ F ⟨e1,hi,O,N⟩ hI;simp only at e1 O;subst e1;refine aQ (fun f=>?_) fun hge=>?_
 ·have f:i<c.toL.length:=by have:(i:Int)<(s.len:Int):=f;omega
  refine Join.plain ?_;obtain⟨kb,ksl,V,hkl,hkn⟩:=(hL.upd0 N).at f;obtain⟨a,ha,_,q⟩:=(hs.upd N fun _ h=>h.elim).at0 V
  have Q:((c.toL.take i).flatMap ie).length+(ie c.toL[i]).length≤(c.toL.flatMap ie).length:=by
   have e:c.toL=c.toL.take i++c.toL[i]::c.toL.drop (i+1):=by rw[List.getElem_cons_drop,ba]
   have:=congrArg (fun L=>(List.flatMap ie L).length) e
   simp only[bH,aY,af]at this;omega
  refine⟨⟨by simp only;omega,by simp only;omega⟩,a,ha,_,q,ih _ (aP f) hkn hkl (by omega) fun s4 h4 n A=>?_⟩
  have J:=N.size;have s4':=A.size;refine w7 (O.upd A fun _ _ h=>h) (n.sl (W:=No) fun _ _ _ h=>h) (fun y j=>by show h.size≤y;omega) (by simp only[af];omega) fun s5 h5 u E=>?_
  simp only;rw[cI f (by omega)];refine hI (i+1) _ _ ⟨rfl,f,?_,(N.tr A).trans E fun y j=>.inr j⟩ (by omega)
  rw[bN f,bH,aY,List.flatMap_nil,bT,←aw];exact u
 ·obtain rfl:i=c.toL.length:=by have:¬(i:Int)<(s.len:Int):=hge;omega
  rw[cd]at O;exact hk _ _ O N
theorem EX:∀{F:Fo},Je F→∀n∈F.toL,Vs n
 | .nil,_,n,a=>by simp[Fo.toL]at a
 | .cons lab w kids rest,h,n,a=>by
  rcases aA.1 a with rfl|a
  ·exact Od h.1 h.2.1 h.2.2.1 (EX h.2.2.2.1)
  ·exact EX h.2.2.2.2 n a
end Go.Proofs
