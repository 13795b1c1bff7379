/- A part of the proof that the named laws of this program answer true, whatever the input. -/
import Derived.Test.YtajpljopgikpgaaGreatDoorPart10
import Derived.Test.YtajpljopgikpgaaGreatDoorPart6
import Derived.Test.YtajpljopgikpgaaGreatDoorPart9
import Derived.Test.YtajpljopgikpgaaGreatDoorPart3
import Derived.Test.YtajpljopgikpgaaGreatDoorPart4
import Derived.Test.YtajpljopgikpgaaGreatDoorPart8
open Int renaming tdiv→nJ,tdiv_eq_ediv_of_nonneg→fP,toNat_natCast→aX
open List renaming getElem?_toArray→iq,length_map→bF,length_singleton→aF,filter_append→iE,filter_cons→cP,filter_nil→pe,append_nil→bB,length_take→aP,take_succ_eq_append_getElem→bW,getElem?_eq_getElem→ag,take_length→cp,getElem_mem→aY,replicate→eD,length_append→ad,append_assoc→az,zip_cons_cons→gA,mem_cons→aB,mem_cons_self→aC,mem_cons_of_mem→aV,take_succ_cons→dH,cons→fH,mem_of_getLast?→iT,drop_one→wA,tail_cons→uL,filter_eq_self→gd,pairwise_cons→bA,take_append_drop→aS,mem_map→iK,length_drop→aZ,length_nil→bL,nil_append→dE,drop_eq_getElem_cons→fp,length_cons→aH,length_pos_iff→oF,flatMap_append→bN,flatMap_cons→ba
open List.Pairwise renaming nil→fc
open Nat renaming le_refl→ao,zero_add→aU,not_lt_zero→ji,zero_le→bj,lt_or_ge→bO,shiftRight_eq_div_pow→cN,shiftRight_le→jc
open Option renaming some→bQ
namespace Go.Proofs
open Go Go.Lift
def Ql(q:List Pr):Int:=if q.length=1 then 1 else if 2≤q.length then 2 else 0
def dF(a:Bool)(s:SliceV)(q:Nat→List Pr)(kk:Nat→Option Addr)(i:Nat):Value:=
 if i=0 then .bool a else if i=1 then sv s else if i<34 then .int .i64 (Ql (q (i-2)))else if i<98 then(if i%2=0 then .string (Ek (il (q ((i-34)/2)))).1 else .string (Ek (il (q ((i-34)/2)))).2)else .pointer (kk (i-98))
def dC(f:Nat→Value):List Value:=(List.range 130).map f
theorem HZ{f:Nat→Value}{i:Nat}(h:i<130):(dC f).toArray[i]? =some (f i):=by
 unfold dC;simp[h]
theorem Sz(f:Nat→Value):(dC f).toArray.size=130:=by simp[dC]
theorem Z5{f:Nat→Value}{i:Nat}{v:Value}:(dC f).toArray.setIfInBounds i v=(dC fun j=>if j=i then v else f j).toArray:=by
 unfold dC;apply Array.ext_getElem?;intro j;rw[Array.getElem?_setIfInBounds];simp only[iq,List.getElem?_map,List.size_toArray,bF,List.length_range];by_cases e:i=j
 ·subst e
  by_cases h:i<130
  ·simp[h]
  ·simp[h]
 ·rw[if_neg e]
  by_cases h:j<130
  ·rw[List.getElem?_range h];simp only[Option.map_some];rw[if_neg fun e':j=i=>e e'.symm]
  ·rw[List.getElem?_eq_none (by rw[List.length_range];omega)];rfl
theorem Mm{f g:Nat→Value}(h:∀i,i<130→f i=g i):(dC f).toArray=(dC g).toArray:=by
 unfold dC;rw[List.map_congr_left fun i hi=>h i (List.mem_range.1 hi)]
def DTrie(W:Nat→Prop)(x:Hs)(h:af):Nat→Nat→List Pr→Prop
 |0,b,l=>¬W b∧∃s,h[b]? =some (.cells (dC (dF true s (fun _=> []) fun _=>none)).toArray je (0,0))∧Sl fe 2 W h s l
 |m+1,b,l=>¬W b∧∃kk,h[b]? =some (.cells (dC (dF false ⟨none,0,0⟩ (fun c=>part x (12-m) c l) kk)).toArray je (0,0))∧∀c,c<32→2≤(part x (12-m) c l).length→∃kb,kk c=some ⟨kb,0,none⟩∧DTrie W x h m kb (part x (12-m) c l)
theorem DTrie.upd{W M:Nat→Prop}{x:Hs}{h d:af}(k:Upd M h d)(hm:∀b,M b→W b∨h.size≤b):∀{m b:Nat} {l:List Pr},DTrie W x h m b l→DTrie W x d m b l
 |0,b,_,⟨nw,s,h1,h2⟩=>⟨nw,s,k.get h1 fun a=>(hm b a).elim nw fun h=>by have:=aL h1;omega,h2.upd k hm⟩
 |_+1,b,_,⟨nw,kk,h1,h2⟩=>⟨nw,kk,k.get h1 fun a=>(hm b a).elim nw fun h=>by have:=aL h1;omega,fun c hc f=>let⟨j,i,g⟩:=h2 c hc f;⟨j,i,DTrie.upd k hm g⟩⟩
theorem DTrie.less{W W':Nat→Prop}{x:Hs}{h:af}(hm:∀b,W' b→W b):∀{m b:Nat} {l:List Pr},DTrie W x h m b l→DTrie W' x h m b l
 |0,b,_,⟨nw,s,h1,h2⟩=>⟨fun a=>nw (hm b a),s,h1,h2.less fun b a=>.inl (hm b a)⟩
 |_+1,b,_,⟨nw,kk,h1,h2⟩=>⟨fun a=>nw (hm b a),kk,h1,fun c hc d=>let⟨i,g,f⟩:=h2 c hc d;⟨i,g,DTrie.less hm f⟩⟩
abbrev aao(x:Hs)(p:Pr):List Value:= [.int .u64 (nr x p.1)]
theorem VW(x:Hs)(p:Pr):(aao x p).length=1∧0<1:=⟨rfl,by omega⟩
def TwoS(x:Hs)(n0 a:Nat)(h:af)(d c:SliceV)(L L':List Pr):Prop:=
 ∃A B:Nat→Prop,OwnS fe 2 cn A h d L∧OwnS (aao x) 1 p6 B h c L'∧(∀b,A b→n0≤b∧b<a∧¬B b)∧∀b,B b→n0≤b∧b<a
theorem TwoS.upd0{x:Hs}{n0 b:Nat}{h d:af}{c a:SliceV}{L L':List Pr}(t:TwoS x n0 b h c a L L')(k:Upd No h d):TwoS x n0 b d c a L L':=by
 obtain⟨A,B,g,f,j,i⟩:=t;exact⟨A,B,g.upd k fun _ _ h=>h,f.upd k fun _ _ h=>h,j,i⟩
theorem aae{x:Hs}{n0 g:Nat}{h:af}{f m:SliceV}{L L':List Pr}{p:Pr}(t:TwoS x n0 g h f m L L')(w:n0≤g)(n:g≤h.size)(y:L.length≤1000000){xs:List Value}(hx:xs=fe p){K:SliceV→af→Prop}
  (o:∀s' c,TwoS x n0 c.size c s' m (L++ [p]) L'→Upd (fun b=>(n0≤b∧b<g)∨h.size≤b) h c→K s' c):AppP (some [.string (⟨#[]⟩:ByteArray),.string (⟨#[]⟩:ByteArray)]) 2 32 cn f.a f.len f.cap 1 xs h K:=by
 subst hx;obtain⟨A,B,u,q,d,i⟩:=t;refine AppP.own (ys:= [p]) (u.more (M':=fun b=>A b∨h.size≤b) fun _ h=>.inl h) rfl rfl rfl rfl (by omega) (by simp only[aF];omega) (.inr (ao _)) fun s' c v j=>?_
 have s:=j.size;refine o s' c ⟨_,B,v.within,q.upd j fun b a hm=>hm.elim (fun hm=>(d b hm).2.2 a) fun hm=>by have:=(i b a).2;omega,fun b a=>⟨?_,a.2,fun k=>?_⟩,fun b a=>⟨(i b a).1,by have:=(i b a).2;omega⟩⟩ (j.mono fun b a=>a.elim (fun a=>.inl (.inl ⟨(d b a).1,(d b a).2.1⟩)) .inr)
 ·rcases a.1 with a|a
  ·exact(d b a).1
  ·omega
 ·rcases a.1 with a|a
  ·exact(d b a).2.2 k
  ·have:=(i b k).2;omega
theorem appB{x:Hs}{n0 i:Nat}{h:af}{k g:SliceV}{L L':List Pr}{p:Pr}(t:TwoS x n0 i h k g L L')(w:n0≤i)(n:i≤h.size)(y:L'.length≤1000000){xs:List Value}(hx:xs=aao x p){K:SliceV→af→Prop}
  (o:∀s' c,TwoS x n0 c.size c k s' L (L'++ [p])→Upd (fun b=>(n0≤b∧b<i)∨h.size≤b) h c→K s' c):AppP (some [.int .u64 0]) 1 8 p6 g.a g.len g.cap 1 xs h K:=by
 subst hx;obtain⟨A,B,u,q,d,m⟩:=t;refine AppP.own (ys:= [p]) (q.more (M':=fun b=>B b∨h.size≤b) fun _ h=>.inl h) rfl rfl rfl rfl (by omega) (by simp only[aF];omega) (.inr (ao _)) fun s' c v j=>?_
 have s:=j.size;refine o s' c ⟨A,_,u.upd j fun b a hm=>hm.elim (fun hm=>(d b a).2.2 hm) fun hm=>by have:=(d b a).2.1;omega,v.within,fun b a=>⟨(d b a).1,by have:=(d b a).2.1;omega,fun f=>?_⟩,fun b a=>⟨?_,a.2⟩⟩ (j.mono fun b a=>a.elim (fun a=>.inl (.inl (m b a))) .inr)
 ·rcases f.1 with f|f
  ·exact(d b a).2.2 f
  ·have:=(d b a).2.1;omega
 ·rcases a.1 with a|a
  ·exact(m b a).1
  ·omega
theorem TF{x:Hs}{lev c:Nat}{l:List Pr}{p:Pr}:part x lev c (l++ [p])=if ck x lev p.1=c then part x lev c l++ [p]else part x lev c l:=by
 unfold part;rw[iE,cP,pe];by_cases h:ck x lev p.1=c
 ·rw[if_pos h,if_pos (decide_eq_true h)]
 ·rw[if_neg h,if_neg (by simpa using h),bB]
abbrev Be(x:Hs)(lev:Nat)(l:List Pr)(n:Nat)(c:Nat):List Pr:=if c<n then part x lev c l else[]
theorem Ly{x:Hs}{lev n c:Nat}{l:List Pr}(h:c≠n):Be x lev l (n+1) c=Be x lev l n c:=by
 unfold Be;by_cases hc:c<n
 ·rw[if_pos hc,if_pos (by omega)]
 ·rw[if_neg hc,if_neg (by omega)]
theorem Lz{x:Hs}{lev n:Nat}{l:List Pr}:Be x lev l (n+1) n=part x lev n l:=if_pos (by omega)
theorem Lx{x:Hs}{lev n:Nat}{l:List Pr}:Be x lev l n n= []:=if_neg (by omega)
structure DOf(W:Nat→Prop)(x:Hs)(lev m:Nat)(h0 h:af)(l:List Pr)(n:Nat)(kk:Nat→Option Addr):Prop where
 blk:h[h0.size]? =some (.cells (dC (dF false ⟨none,0,0⟩ (Be x lev l n) kk)).toArray je (0,0))
 upd:Upd No h0 h
 kid:∀c,c<n→2≤(part x lev c l).length→∃kb,kk c=some ⟨kb,0,none⟩∧DTrie (fun y=>W y∨y=h0.size) x h m kb (part x lev c l)
theorem aa7{c:Bool}{s:SliceV}{q q':Nat→List Pr}{kk b:Nat→Option Addr}{i:Nat}(h:i<2):dF c s q kk i=dF c s q' b i:=by
 unfold dF;by_cases a:i=0
 ·rw[if_pos a,if_pos a]
 ·rw[if_neg a,if_neg a,if_pos (by omega),if_pos (by omega)]
section
variable {bu:Bool} {s:SliceV} {q q':Nat→List Pr} {kk kk':Nat→Option Addr} {i:Nat}
theorem Sy(h:2≤i)(a:i<34):dF bu s q kk i=.int .i64 (Ql (q (i-2))):=by
 unfold dF;rw[if_neg (by omega),if_neg (by omega),if_pos a]
theorem Oy(h:34≤i)(a:i<98)(e:i%2=0):dF bu s q kk i=.string (Ek (il (q ((i-34)/2)))).1:=by
 unfold dF;rw[if_neg (by omega),if_neg (by omega),if_neg (by omega),if_pos a,if_pos e]
theorem Ow(h:34≤i)(a:i<98)(e:¬i%2=0):dF bu s q kk i=.string (Ek (il (q ((i-34)/2)))).2:=by
 unfold dF;rw[if_neg (by omega),if_neg (by omega),if_neg (by omega),if_pos a,if_neg e]
theorem Ox(h:98≤i):dF bu s q kk i=.pointer (kk (i-98)):=by
 unfold dF;rw[if_neg (by omega),if_neg (by omega),if_neg (by omega),if_neg (by omega)]
theorem Sx{c:Nat}(hc:c<32)(b:∀j,j≠c→q' j=q j)(d:∀j,j≠c→kk' j=kk j)(i:Nat):
  dF bu s q' kk' i=if i=2+c then .int .i64 (Ql (q' c))else if i=34+c*2 then .string (Ek (il (q' c))).1 else if i=34+c*2+1 then .string (Ek (il (q' c))).2 else if i=98+c then .pointer (kk' c)else dF bu s q kk i:=by
 rcases(show i<2∨(2≤i∧i<34)∨(34≤i∧i<98)∨98≤i by omega)with h|h|h|h
 ·rw[if_neg (by omega),if_neg (by omega),if_neg (by omega),if_neg (by omega)];exact aa7 h
 ·by_cases e:i=2+c
  ·rw[if_pos e,Sy h.1 h.2,show i-2=c by omega]
  ·rw[if_neg e,if_neg (by omega),if_neg (by omega),if_neg (by omega),Sy h.1 h.2,Sy h.1 h.2,b _ (by omega)]
 ·rw[if_neg (show ¬i=2+c by omega)]
  by_cases e:(i-34)/2=c
  ·by_cases a:i%2=0
   ·rw[if_pos (by omega),Oy h.1 h.2 a,e]
   ·rw[if_neg (by omega),if_pos (by omega),Ow h.1 h.2 a,e]
  ·rw[if_neg (by omega),if_neg (by omega),if_neg (by omega)]
   by_cases a:i%2=0
   ·rw[Oy h.1 h.2 a,Oy h.1 h.2 a,b _ e]
   ·rw[Ow h.1 h.2 a,Ow h.1 h.2 a,b _ e]
 ·rw[if_neg (by omega),if_neg (by omega),if_neg (by omega)]
  by_cases e:i=98+c
  ·rw[if_pos e,Ox h,show i-98=c by omega]
  ·rw[if_neg e,Ox h,Ox h,d _ (by omega)]
end
theorem WA{h:af}{b i:Nat}{f:Nat→Value}{t:TypeId}{v:Value}{k:af→Prop}(d:h[b]? =some (.cells (dC f).toArray t (0,0))) (hi:i<130) (m:∀a,a[b]? =some (.cells (dC fun j=>if j=i then v else f j).toArray t (0,0))→Upd (· =b) h a→k a):
  Wr h ⟨b,i,none⟩∧At (hset h ⟨b,i,none⟩ v) k:=
 ⟨jd d (by rw[Sz];exact hi),xW d fun a c g=>m a (Z5▸c) g⟩
theorem aa4{h:af}{b i:Nat}{f:Nat→Value}{t:TypeId}{v w:Value}{k:af→Prop}(m:h[b]? =some (.cells (dC f).toArray t (0,0))) (hi:i+1<130)
  (p:∀h',h'[b]? =some (.cells (dC fun j=>if j=i+1 then w else if j=i then v else f j).toArray t (0,0))→Upd (· =b) h h'→k h'):vo h (some ⟨b,i,none⟩) 0 [v,w]∧At (g8 h ⟨b,i,none⟩ 0 [v,w]) k:=by
 refine⟨.inr ⟨_,rfl,fun j o=>by rw[cd];exact jd m (by rw[Sz];simp at o;omega)⟩,ce ?_⟩
 simp only[g8,cd,Nat.add_zero,aU];exact(WA (k:=fun n=>k (hset n ⟨b,i+1,none⟩ w)) m (by omega) fun n a g=>(WA (k:=k) a hi fun q d c=>p q d (g.tr c)).2).2
set_option maxRecDepth 4000 in
theorem Zw{x:Hs}:∀(m:Nat),m≤13→∀{W:Nat→Prop} {h:af} {s sh:SliceV} {l:List Pr},Sl fe 2 W h s l→(∀y,W y→y<h.size)→Sl (aao x) 1 No h sh l→l.length≤60000→∀{K:Option Addr→af→Prop},(∀f b,DTrie W x f m b l→Upd No h f→K (some ⟨b,0,none⟩) f)→
  HC PG CV [.slice s.a s.len s.cap,.slice sh.a sh.len sh.cap,.int .i64 ((13-m:Nat):Int)] [.c .ptr] K h:=by
 intro m;induction m with
 |zero=>
  intro _ W h s sh l hs hW hsh hn K hk;refine OQ s sh ((13-0:Nat):Int) ?_;unfold II bH cS bo aD nv cz jm ph lf S7 m0;refine aA.2 (aN fun v b1 k1=>?_)
  refine hk v h.size ⟨fun o=>by have:=hW _ o;omega,s,?_,hs.upd k1 fun _ h=>h.elim⟩ k1
  rw[b1];exact congrArg some (congrArg (fun c=>Obj.cells c je (0,0)) (by kernel_rfl))
 |succ m ih=>
  intro hm W h s sh l hs hW hsh hn K hk;have nwh:¬W h.size:=fun o=>by have:=hW _ o;omega
  refine OQ s sh ((13-(m+1):Nat):Int) ?_;unfold II bH cS bo aD nv cz jm ph lf S7 m0;have e13:(((13-(m+1):Nat):Int)==(13:Int))=false:=by rw[beq_eq_false_iff_ne];omega
  rw[e13];refine aj.2 (aN fun v b1 k1=>?_)
  have b1':v[h.size]? =some (.cells (dC (dF false ⟨none,0,0⟩ (Be x (12-m) l 0) fun _=>none)).toArray je (0,0)):=by
   have:Be x (12-m) l 0=fun _=> []:=by funext c;exact if_neg (by omega)
   rw[b1,this];exact congrArg some (congrArg (fun c=>Obj.cells c je (0,0)) (by kernel_rfl))
  clear b1;have elev:(13-(m+1):Nat)=12-m:=by omega
  rw[elev];refine LoopP.ghost (fun(g:Nat×(Nat→Option Addr)) (t:Int) f=>t=(g.1:Int)∧g.1≤32∧DOf W x (12-m) m h f l g.1 g.2) (fun g=>32-g.1) (0,fun _=>none) ⟨rfl,by omega,b1',k1,fun c hc=>absurd hc (ji _)⟩ ?_
  rintro I ⟨c,kk⟩ t hc ⟨rfl,hc32,G⟩ hI;simp only at hc32 G;have s1:=G.upd.size;have zc:=aL G.blk;refine aM (fun C=>?_) fun hge=>?_
  ·have C:c<32:=by have:(c:Int)<32:=C;omega
   refine Join.intro (fun(_:Unit) f=>∃kk',DOf W x (12-m) m h f l (c+1) kk') (fun R hR=>?_) ?_
   ·
    refine LoopP.ghost (fun(i:Nat) (t:SliceV×SliceV×Int) f=>t.2.2=(i:Int)∧i≤l.length∧TwoS x hc.size f.size f t.1 t.2.1 (part x (12-m) c (l.take i)) (part x (12-m) c (l.take i))∧Upd No hc f) (fun i=>l.length-i) 0 ⟨rfl,bj _,⟨No,No,OwnS.nil jx,OwnS.nil (VW x),fun _ h=>h.elim,fun _ h=>h.elim⟩,Upd.refl _ _⟩ ?_
    rintro I2 i ⟨so,ss,ti⟩ hi ⟨e1,hil,hT,hu⟩ hI2;simp only at e1 hT;subst e1;have hlen:=hs.len;have hlen2:=hsh.len;have s2:=hu.size;have hsi:=(hs.upd G.upd fun _ h=>h.elim).upd hu fun _ h=>h.elim
    have hshi:=(hsh.upd G.upd fun _ h=>h.elim).upd hu fun _ h=>h.elim
    refine aM (fun d=>?_) fun hge2=>?_
    ·have d:i<l.length:=by have:(i:Int)<(s.len:Int):=d;omega
     have hpl:(part x (12-m) c (l.take i)).length≤60000:=by
      have:=kz (x:=x) (lev:=12-m) (c:=c) (l:=l.take i);rw[aP]at this;omega
     have Y:part x (12-m) c (l.take (i+1))=if ck x (12-m) l[i].1=c then part x (12-m) c (l.take i)++ [l[i]]else part x (12-m) c (l.take i):=by rw[bW d,TF]
     refine Join.intro (fun(t:SliceV×SliceV) f=>TwoS x hc.size f.size f t.1 t.2 (part x (12-m) c (l.take (i+1))) (part x (12-m) c (l.take (i+1)))∧Upd No hc f) (fun R2 F=>?_) ?_
     ·obtain⟨a,ha,_,hv⟩:=hsi.at (ag d)
      refine⟨⟨by simp only;omega,by simp only;omega⟩,a,ha,_,hv 0 _ rfl,_,hv 1 _ rfl,tf (p:=l[i]) fun H b3 k3=>?_⟩
      obtain⟨a',ha',_,hv'⟩:=(hshi.upd k3 fun _ h=>h.elim).at0 (ag d)
      refine⟨⟨by simp only;omega,by simp only;omega⟩,a',ha',_,hv',aaL (lev:=12-m) (by omega) ?_⟩
      have Z:=hT.upd0 k3;have s3:=k3.size;refine CondP.intro (fun e=>?_) fun e=>?_
      ·have e:ck x (12-m) l[i].1=c:=by
        have:((ck x (12-m) l[i].1:Nat):Int)=(c:Int):=by simpa using e
        omega
       rw[if_pos e]at Y;rw[Y]at F;have uu:∀{f:af},Upd (fun b=>hc.size≤b) H f→Upd No hc f:=fun k=>(hu.tr k3).trans k fun y o=>.inr o
       have hab:a'.block<h.size:=hsh.lt (fun e=>by rw[e]at d;simp at d) ha'
       have sD:=G.upd.size;have wide:∀{n:Nat} {v u:af},hc.size≤v.size→Upd (fun b=>(hc.size≤b∧b<n)∨v.size≤b) v u→Upd (fun b=>hc.size≤b) v u:=fun hz k=>k.mono fun y o=>.inl (o.elim (fun h=>h.1) fun h=>by omega)
       refine⟨_,vc b3 0,_,vc b3 1,⟨by simp only;omega,by simp only;omega⟩,a',ha',_,hv',?_,?_⟩
       ·refine aN fun V S w=>⟨w.cell0 hv',?_,?_⟩
        ·have s4:=w.size
         refine⟨_,lU S,aae (p:=l[i]) (Z.upd0 w) (by omega) (by omega) (by omega) rfl fun s5 h5 P L=>⟨L.cell (w.cell0 hv') (by rw[Al];omega),aN fun h6 b6 E=>?_⟩⟩
         have s5':=L.size;have s6:=E.size;refine⟨_,lU b6,appB (p:=l[i]) (P.upd0 E) (by omega) (by omega) (by omega) rfl fun s7 h7 N k7=>?_⟩
         exact F _ _ ⟨N,uu (((w.wide.tr (wide (by omega) L)).tr E.wide).tr (wide (by omega) k7))⟩
        ·refine aN fun h6 b6 E=>?_
         have s4:=w.size;have s6:=E.size;have z6:=aL b6;refine⟨_,lU (E.get0 S),aae (p:=l[i]) ((Z.upd0 w).upd0 E) (by omega) (by omega) (by omega) rfl fun s5 h5 P L=>?_⟩
         have s5':=L.size;refine⟨_,lU (L.get b6 (by omega)),appB (p:=l[i]) P (by omega) (by omega) (by omega) rfl fun s7 h7 N k7=>?_⟩
         exact F _ _ ⟨N,uu (((w.wide.tr E.wide).tr (wide (by omega) L)).tr (wide (by omega) k7))⟩
       ·refine aN fun V S w=>⟨⟨vc (w.get0 b3) 0,vc (w.get0 b3) 1⟩,aN fun h6 b6 E=>?_⟩
        have s4:=w.size;have s6:=E.size;have z4:=aL S;refine⟨_,lU b6,aae (p:=l[i]) ((Z.upd0 w).upd0 E) (by omega) (by omega) (by omega) rfl fun s5 h5 P L=>?_⟩
        have s5':=L.size;refine⟨_,lU (L.get (E.get0 S) (by omega)),appB (p:=l[i]) P (by omega) (by omega) (by omega) rfl fun s7 h7 N k7=>?_⟩
        exact F _ _ ⟨N,uu (((w.wide.tr E.wide).tr (wide (by omega) L)).tr (wide (by omega) k7))⟩
      ·have e:¬ck x (12-m) l[i].1=c:=fun e'=>by
        have:¬((ck x (12-m) l[i].1:Nat):Int)=(c:Int):=by simpa using e
        omega
       rw[if_neg e]at Y;rw[Y]at F;obtain⟨A,B,z,Q,J,q4⟩:=Z;exact F _ _ ⟨⟨A,B,z,Q,fun b hb=>⟨(J b hb).1,by have:=(J b hb).2.1;omega,(J b hb).2.2⟩,fun b hb=>⟨(q4 b hb).1,by have:=(q4 b hb).2;omega⟩⟩,hu.tr k3⟩
     ·rintro⟨so',ss'⟩ f ⟨hT',hu'⟩
      simp only;rw[cO d (by omega)];exact hI2 (i+1) _ _ ⟨rfl,d,hT',hu'⟩ (by omega)
    ·have hil':i=l.length:=by have:¬(i:Int)<(s.len:Int):=hge2;omega
     subst hil';rw[cp]at hT;have hDi:h.size<hi.size:=by omega
     have hbi:=hu.get0 G.blk;have hki:∀c',c'<c→2≤(part x (12-m) c' l).length→∃M,kk c'=some ⟨M,0,none⟩∧DTrie (fun y=>W y∨y=h.size) x hi m M (part x (12-m) c' l):=fun c' v u=>let⟨M,H,V⟩:=G.kid c' v u;⟨M,H,DTrie.upd hu (fun _ h=>h.elim) V⟩
     obtain⟨A,B,hA,hB,hA',hB'⟩:=hT;have T:Sl fe 2 (fun y=>W y∨y=h.size) hi so (part x (12-m) c l):=hA.sl fun y o _ hw=>by
      have:=(hA' y o).1;rcases hw with hw|hw
      ·have:=hW y hw;omega
      ·omega
     have hsB:Sl (aao x) 1 No hi ss (part x (12-m) c l):=hB.sl fun _ _ _ h=>h
     have hq:=T.len;have hpl:(part x (12-m) c l).length≤l.length:=kz;have hU:=G.upd.tr hu;refine Join.plain ?_;refine CondP.intro (fun e=>?_) fun e=>?_
     ·
      have e:so.len=1:=by
       have:((so.len:Nat):Int)=1:=by simpa using e
       omega
      have hone:(part x (12-m) c l).length=1:=by omega
      obtain⟨p,hp⟩:=List.length_eq_one_iff.1 hone;rw[hp]at T;obtain⟨a,ha,_,hv⟩:=T.at (i:=0) (x:=p) rfl;refine⟨⟨by decide,by simp only;omega⟩,a,ha,_,hv 0 _ rfl,_,hv 1 _ rfl,_,rfl,⟨by omega,by omega⟩,_,rfl,?_⟩
      have ew:((c:Int).toNat*1)=c:=by omega
      have ew2:((c:Int).toNat*2)=c*2:=by omega
      simp only[ew,ew2,fX h,cd,aU];refine WA hbi (by omega) fun H b3 u3=>⟨⟨by omega,by omega⟩,aa4 b3 (by omega) fun V S u4=>aM (fun hl=>by omega) fun _=>?_⟩
      have D:Upd (· =h.size) hi V:=u3.tr u4
      refine hR _ _ ⟨kk,?_,hU.own D (ao _),fun c' v u=>?_⟩
      ·rw[S]
       refine congrArg some (congrArg (fun c=>Obj.cells c je (0,0)) (Mm fun j O=>?_))
       rw[Sx (q:=Be x (12-m) l c) (q':=Be x (12-m) l (c+1)) (kk:=kk) C (fun j O=>Ly O) (fun _ _=>rfl),Lz,hp]
       have e1:Ql [p]=1:=rfl;have e2:Ek (il [p])=p:=rfl;rw[e1,e2];by_cases z:j=2+c
       ·rw[if_neg (by omega),if_neg (by omega),if_pos z,if_pos z]
       ·by_cases Q:j=34+c*2
        ·rw[if_neg (by omega),if_pos Q,if_neg z,if_pos Q]
        ·by_cases J:j=34+c*2+1
         ·rw[if_pos J,if_neg z,if_neg Q,if_pos J]
         ·rw[if_neg J,if_neg Q,if_neg z,if_neg z,if_neg Q,if_neg J]
          by_cases q4:j=98+c
          ·rw[if_pos q4,Ox (by omega),show j-98=c by omega]
          ·rw[if_neg q4]
      ·rcases bO c' c with hh|hh
       ·obtain⟨M,h3',h4'⟩:=hki c' hh u
        exact⟨M,h3',DTrie.upd D (fun y o=>.inl (.inr o)) h4'⟩
       ·rw[show c'=c by omega,hone]at u;omega
     ·have e:¬so.len=1:=fun e'=>by
       have:¬((so.len:Nat):Int)=1:=by simpa using e
       omega
      refine aM (fun X=>?_) fun hle=>?_
      ·
       have X:2≤(part x (12-m) c l).length:=by have:(so.len:Int)>1:=X;omega
       refine⟨_,rfl,_,rfl,?_⟩;have e14:IntKind.wrap .i64 (((12-m:Nat):Int)+1)=((13-m:Nat):Int):=by rw[jj (by omega)];omega
       rw[e14];refine ih (by omega) T (fun y o=>o.elim (fun o=>by have:=hW y o;omega) fun o=>by omega) hsB (by omega) fun u M tk k2=>⟨⟨by omega,by omega⟩,?_⟩
       have ew:((c:Int).toNat*1)=c:=by omega
       simp only[ew,fX h,cd,aU];refine WA (k2.get0 hbi) (by omega) fun H b3 u3=>⟨⟨by omega,by omega⟩,WA b3 (by omega) fun V S u4=>?_⟩
       have D:Upd (· =h.size) u V:=u3.tr u4
       refine hR _ _ ⟨fun j=>if j=c then some ⟨M,0,none⟩else kk j,?_,(hU.tr k2).own D (ao _),fun c' v u=>?_⟩
       ·rw[S]
        refine congrArg some (congrArg (fun c=>Obj.cells c je (0,0)) (Mm fun j O=>?_))
        rw[Sx (q:=Be x (12-m) l c) (q':=Be x (12-m) l (c+1)) (kk:=kk) C (fun j O=>Ly O) (fun _ O=>if_neg O),Lz]
        have e1:Ql (part x (12-m) c l)=2:=by unfold Ql;rw[if_neg (by omega),if_pos X]
        have e2:il (part x (12-m) c l)=none:=by
         match part x (12-m) c l,X with
         |a::b::r,_=>rfl
        rw[e1,e2,if_pos rfl];by_cases z:j=2+c
        ·rw[if_neg (by omega),if_pos z,if_pos z]
        ·by_cases q4:j=98+c
         ·rw[if_pos q4,if_neg z,if_neg (by omega),if_neg (by omega),if_pos q4]
         ·rw[if_neg q4,if_neg z,if_neg z]
          by_cases Q:j=34+c*2
          ·rw[if_pos Q,Oy (by omega) (by omega) (by omega),show(j-34)/2=c by omega,Lx];rfl
          ·rw[if_neg Q]
           by_cases J:j=34+c*2+1
           ·rw[if_pos J,Ow (by omega) (by omega) (by omega),show(j-34)/2=c by omega,Lx];rfl
           ·rw[if_neg J,if_neg q4]
       ·rcases bO c' c with hh|hh
        ·obtain⟨kb',h3',h4'⟩:=hki c' hh u
         exact⟨kb',by rw[if_neg (by omega)];exact h3',DTrie.upd D (fun y o=>.inl (.inr o)) (DTrie.upd k2 (fun _ h=>h.elim) h4')⟩
        ·obtain rfl:c'=c:=by omega
         exact⟨M,if_pos rfl,DTrie.upd D (fun y o=>.inl (.inr o)) tk⟩
      ·
       have hnil:part x (12-m) c l= []:=List.length_eq_zero_iff.1 (by have:¬(so.len:Int)>1:=hle;omega);refine hR _ _ ⟨kk,?_,hU,fun c' v u=>?_⟩
       ·rw[hbi]
        refine congrArg some (congrArg (fun c=>Obj.cells c je (0,0)) (Mm fun j O=>?_))
        have:Be x (12-m) l (c+1)=Be x (12-m) l c:=by
         funext j;by_cases O:j=c
         ·rw[O,Lz,Lx,hnil]
         ·exact Ly O
        rw[this]
       ·rcases bO c' c with hh|hh
        ·exact hki c' hh u
        ·rw[show c'=c by omega,hnil]at u;simp at u
   ·rintro _ f ⟨kk',hD'⟩
    rw[cO C (by omega)];exact hI (c+1,kk') _ _ ⟨rfl,C,hD'⟩ (by simp only;omega)
  ·obtain rfl:c=32:=by have:¬(c:Int)<32:=hge;omega
   refine hk hc h.size ⟨nwh,kk,?_,fun c hc hp=>let⟨M,H,V⟩:=G.kid c hc hp;⟨M,H,DTrie.less (fun _ h=>.inl h) V⟩⟩ G.upd
   rw[G.blk];refine congrArg some (congrArg (fun c=>Obj.cells c je (0,0)) (Mm fun i hi=>?_))
   have:∀c,c<32→Be x (12-m) l 32 c=part x (12-m) c l:=fun c hc=>if_pos hc
   unfold dF;by_cases h0:i<34
   ·by_cases v:i=0
    ·rw[if_pos v,if_pos v]
    ·by_cases u:i=1
     ·rw[if_neg v,if_neg v,if_pos u,if_pos u]
     ·rw[if_neg v,if_neg v,if_neg u,if_neg u,if_pos h0,if_pos h0,this _ (by omega)]
   ·rw[if_neg (show ¬i=0 by omega),if_neg (show ¬i=0 by omega),if_neg (show ¬i=1 by omega),if_neg (show ¬i=1 by omega),if_neg h0,if_neg h0]
    by_cases H:i<98
    ·rw[if_pos H,if_pos H,this _ (by omega)]
    ·rw[if_neg H,if_neg H]
end Go.Proofs
namespace Go.Proofs
open Go Go.Lift
theorem Vw{x:Hs}{h:af}{s:SliceV}{l:List Pr}(B:Sl fe 2 No h s l)(L:l.length≤60000)(q:∀p∈l,p.1.size≤1000000){K:Option Addr→af→Prop}(O:∀d b,DTrie No x d 13 b l→Upd No h d→K (some ⟨b,0,none⟩) d):
  HC PG HO [.agg #[.int .u64 x.k0,.int .u64 x.k1,.int .u64 x.mask],.slice s.a s.len s.cap,.int .i64 0] [.c .ptr] K h:=by
 refine Xc (x.k0,x.k1,x.mask) s 0 ?_;unfold O0 cS aq bo aD nv CC yg jm lf S7;refine aN fun n b1 k1=>?_
 have w:=B.len;refine LoopP.ghost (fun(i:Nat) (t:SliceV×Int) d=>t.2=(i:Int)∧i≤l.length∧OwnS (aao x) 1 p6 (fun b=>n.size≤b) d t.1 (l.take i)∧Upd No n d) (fun i=>l.length-i) 0 ⟨rfl,bj _,OwnS.nil (VW x),Upd.refl _ _⟩ ?_
 rintro I i ⟨P,ti⟩ d ⟨D,hi,k,j⟩ G;simp only at D k;subst D;have f:=(B.upd k1 fun _ h=>h.elim).upd j fun _ h=>h.elim
 refine aM (fun c=>?_) fun u=>?_
 ·have c:i<l.length:=by have:(i:Int)<(s.len:Int):=c;omega
  refine Join.plain ?_;obtain⟨a,J,_,hv⟩:=f.at (ag c);refine⟨⟨by simp only;omega,by simp only;omega⟩,a,J,_,hv 0 _ rfl,_,hv 1 _ rfl,tf (p:=l[i]) fun z b2 g=>?_⟩
  have c1:=g.get0 (j.get0 b1);refine⟨_,vc c1 0,_,vc c1 1,_,vc c1 2,_,vc b2 0,Vx (by have:=q _ (aY c);omega) fun R A=>aN fun T F C=>⟨_,lU F,?_⟩⟩
  have E:=((j.tr g).tr A).tr C;refine AppP.own (M:=fun b=>n.size≤b) (ys:= [l[i]]) (((k.upd g fun _ _ h=>h).upd A fun _ _ h=>h).upd C fun _ _ h=>h) rfl rfl rfl rfl (by omega) (by simp only[aF,aP];omega) E.size fun S Q o m=>?_
  simp only;rw[cO c (by omega)];refine G (i+1) _ _ ⟨rfl,c,?_,E.trans m fun y H=>.inr H⟩ (by omega)
  rw[bW c];exact o
 ·have v:i=l.length:=by have:¬(i:Int)<(s.len:Int):=u;omega
  subst v;rw[cp]at k;exact Zw 13 (ao _) f (fun _ h=>h.elim) (k.sl fun _ _ _ h=>h) L fun z b N g=>O z b N ((k1.tr j).tr g)
theorem JW(n:Nat):IntKind.wrap .u8 (n:Int)=((UInt8.ofNat n).toNat:Int):=by rw[IntKind.wrap_u8];simp
theorem Gj{n:Nat}(f:n≤1000000000){h:af}{K:SliceV→af→Prop}(c:∀s' h',OwnS pW 1 cK (fun y=>h.size≤y) h' s' (np n 2)→Upd No h h'→K s' h'):HC PG tS [.int .i64 (n:Int)] [.c .slice] K h:=by
 refine Ur (n:Int) ?_;unfold Lg XB;have b:nJ (n:Int) 256=((n>>>(8*1):Nat):Int):=by rw[fP (by omega),cN];rfl
 have a:n>>>(8*1)≤n:=jc ..;rw[b,jj (by generalize n>>>(8*1)=y at a;omega),JW,JW];refine⟨by decide,aN fun d b1 k1=>c _ d ⟨rfl,sO,ao _,.inr ⟨h.size,[],rfl,ao _,b1,rfl⟩⟩ k1⟩
theorem NF{n:Nat}(g:n<4294967296){h:af}{K:SliceV→af→Prop}(c:∀s' h',OwnS pW 1 cK (fun y=>h.size≤y) h' s' (np n 4)→Upd No h h'→K s' h'):HC PG xO [.int .u32 (n:Int)] [.c .slice] K h:=by
 refine Q8 (n:Int) ?_;unfold IH aav;have q:∀k:Nat,((n>>>k:Nat):Int)<4294967296:=fun k=>by have:n>>>k≤n:=jc ..;generalize n>>>k=y at this;omega
 have a:nJ (n:Int) 256=((n>>>(8*1):Nat):Int):=by rw[fP (by omega),cN];rfl
 have d:nJ (n:Int) 65536=((n>>>(8*2):Nat):Int):=by rw[fP (by omega),cN];rfl
 have b:nJ (n:Int) 16777216=((n>>>(8*3):Nat):Int):=by rw[fP (by omega),cN];rfl
 have w:∀k:Nat,IntKind.wrap .u32 ((n>>>k:Nat):Int)=((n>>>k:Nat):Int):=fun k=>by have:=q k;generalize n>>>k=y at this;rw[IntKind.wrap_u32];omega
 rw[a,d,b,w,w,w,JW,JW,JW,JW];refine⟨by decide,by decide,by decide,aN fun f b1 k1=>c _ f ⟨rfl,sO,ao _,.inr ⟨h.size,[],rfl,ao _,b1,rfl⟩⟩ k1⟩
theorem zv{M W:Nat→Prop}{h:af}{a e:SliceV}{out ys:List UInt8}{K:SliceV→af→Prop}(f:OwnS pW 1 cK M h a out)(c:Sl pW 1 W h e ys)(hM:∀b,h.size≤b→M b)(g:out.length+ys.length≤140737488355328)
  (d:∀s' h',OwnS pW 1 cK M h' s' (out++ys)→Upd M h h'→K s' h'):∃xs,SRow h e.a (e.len*1) xs∧AppP (some [.int .u8 0]) 1 1 cK a.a a.len a.cap e.len xs h K:=
 ⟨_,c.srow,AppP.own (ys:=ys) f c.len rfl (CD _) rfl (by omega) (by omega) (hM _ (ao _)) d⟩
theorem CB{b:ByteArray}(q:b.size≤1000000){h:af}{K:SliceV→af→Prop}(n:∀s' h',OwnS pW 1 cK (fun y=>h.size≤y) h' s' (oH b)→Upd No h h'→K s' h'):HC PG re [.string b] [.c .slice] K h:=by
 refine Q6 b ?_;unfold IC;refine Gj (by omega) fun s1 a j k1=>?_
 intro c hc;have d:=Upd.push No a (.cells (eC b++eD (c-b.size) (Value.int .u8 0)).toArray cK (c,c+1));have b2:=yV a (.cells (eC b++eD (c-b.size) (Value.int .u8 0)).toArray cK (c,c+1));generalize a.push (.cells (eC b++eD (c-b.size) (Value.int .u8 0)).toArray cK (c,c+1))=h2 at d b2;have s:b.data.toList.length=b.size:=by simp
 have f:Sl pW 1 No h2 ⟨some (aI a),b.size,c⟩ b.data.toList:=by
  refine⟨by simp,sO,fun _=>⟨_,rfl,id,rC b2 fun i v hv=>?_⟩⟩
  rw[aU,iq,vn,List.getElem?_append_left (List.getElem?_eq_some_iff.1 hv).1];exact hv
 have m:=k1.size;have s2:=d.size;refine zv (j.upd d fun _ _ h=>h) f (fun y k=>by show h.size≤y;omega) (by rw[dM];omega) fun s3 p g o=>n s3 p g ((k1.tr d).trans o fun y k=>.inr k)
theorem D9{W:Nat→Prop}{h:af}{s:SliceV}{l:List Pr}(E:Sl fe 2 W h s l)(G:Fit l)(hn:l.length≤60000){K:SliceV→af→Prop}(V:∀s' f,OwnS pW 1 cK (fun y=>h.size≤y) f s' (lj l)→Upd No h f→K s' f):
  HC PG rZ [.slice s.a s.len s.cap] [.c .slice] K h:=by
 refine ON s ?_;unfold FL cS bo aD nv jm lf;have D:=E.len;refine LoopP.ghost (fun(i:Nat) (t:SliceV×Int) f=>t.2=(i:Int)∧i≤l.length∧OwnS pW 1 cK (fun b=>h.size≤b) f t.1 (lj (l.take i))∧Upd No h f) (fun i=>l.length-i) 0 ⟨rfl,bj _,OwnS.nil sO,Upd.refl _ _⟩ ?_
 rintro I i ⟨Y,ti⟩ f ⟨F,hi,k,j⟩ P;simp only at F k;subst F;refine aM (fun c=>?_) fun B=>?_
 ·have c:i<l.length:=by have:(i:Int)<(s.len:Int):=c;omega
  refine Join.plain ?_;obtain⟨a,S,_,hv⟩:=(E.upd j fun _ h=>h.elim).at (ag c)
  have R:=G l[i] (aY c);have n:=nh (l:=l.take i) fun q X=>G q (List.mem_of_mem_take X)
  rw[aP,Nat.min_eq_left hi]at n;have Z:=jG l[i].1;have N:=jG l[i].2;refine⟨⟨by simp only;omega,by simp only;omega⟩,a,S,_,hv 0 _ rfl,_,hv 1 _ rfl,tf (p:=l[i]) fun N b2 v=>?_⟩
  refine⟨_,vc b2 0,_,vc b2 1,CB (by omega) fun s3 h3 o g=>⟨vc (g.get0 b2) 1,?_⟩⟩
  have Q:=(j.tr v).tr g;have s2:=aL b2;have L:=v.size;have T:=g.size;have s0:=j.size;refine zv (M:=fun y=>h.size≤y∧y≠f.size) (((k.within.upd v fun _ _ h=>h).upd g fun _ _ h=>h).more fun y d=>⟨d.1,by omega⟩) (o.sl (W:=No) fun _ _ _ h=>h) (fun y d=>by omega) (by omega) fun s4 h4 m A=>⟨vc (A.get (g.get0 b2) (by omega)) 1,?_⟩
  have O:=A.size;refine CB (by omega) fun s5 h5 w u=>?_
  have H:=u.size;refine zv (M:=fun y=>h.size≤y) ((m.upd u fun _ _ h=>h).more fun y d=>d.1) (w.sl (W:=No) fun _ _ _ h=>h) (fun y d=>by show h.size≤y;omega) (by rw[ad];omega) fun s6 h6 z J=>?_
  simp only;rw[cO c (by omega)];refine P (i+1) _ _ ⟨rfl,c,?_,(((Q.trans A fun y d=>.inr d.1)).tr u).trans J fun y d=>.inr d⟩ (by omega)
  rw[Fe c,Ff,←az];exact z
 ·have C:i=l.length:=by have:¬(i:Int)<(s.len:Int):=B;omega
  subst C;rw[cp]at k;exact V _ _ k j
theorem Tx{W W':Nat→Prop}{h:af}{s s':SliceV}{l:List UInt8}(g:Sl pW 1 W h s l)(c:Sl pW 1 W' h s' l)(q:l.length≤1000000000000){K:Bool→af→Prop}(m:K true h):HC PG BA [.slice s.a s.len s.cap,.slice s'.a s'.len s'.cap] [.c .bool] K h:=by
 refine Q7 s s' ?_;unfold IE bH cS;have o:=g.len;have n:=c.len;rw[o,n,bne_self_eq_false];refine aj.2 ?_;refine LoopP.ghost (fun(i:Nat) (t:Int) j=>t=(i:Int)∧i≤l.length∧j=h) (fun i=>l.length-i) 0 ⟨rfl,bj _,rfl⟩ ?_
 rintro I i t j ⟨rfl,hi,rfl⟩ p;refine aM (fun b=>?_) fun _=>m
 have b:i<l.length:=by omega
 obtain⟨a,k,_,hv⟩:=g.at0 (ag b);obtain⟨a',d,_,f⟩:=c.at0 (ag b);refine⟨⟨by omega,by omega⟩,a,k,_,hv,⟨by omega,by omega⟩,a',d,_,f,?_⟩
 rw[bne_self_eq_false];refine aj.2 ?_;rw[cO b (by omega)];exact p (i+1) _ _ ⟨rfl,b,rfl⟩ (by omega)
end Go.Proofs
namespace Go.Proofs
open Go Go.Lift
abbrev abN(lab:ByteArray)(has:Bool)(val:ByteArray)(s:SliceV)(_:Option Addr):Array Value:= #[.string lab,.bool has,.string val,sv s]
def DxF(W:Nat→Prop)(h:af):Fo→List (Option Addr)→Prop
 | .nil,ks=>ks= []
 | .cons lab w kids rest,ks=>∃b sl val s ow ks1 ks',ks=some ⟨b,0,none⟩::ks'∧sl.data.toList=lab∧h[b]? =some (.cells (abN sl w.isSome val s ow) pj (0,0))∧val=w.getD ⟨#[]⟩∧Sl m9 1 W h s ks1∧(s.len≤s.cap∧¬W b)∧DxF W h kids ks1∧DxF W h rest ks'
def DxN(W:Nat→Prop)(h:af)(b:Nat)(sl:ByteArray)(w:Option ByteArray)(F:Fo):Prop:=∃val s ow ks,h[b]? =some (.cells (abN sl w.isSome val s ow) pj (0,0))∧val=w.getD ⟨#[]⟩∧Sl m9 1 W h s ks∧(s.len≤s.cap∧¬W b)∧DxF W h F ks
def DKid(W:Nat→Prop)(h:af)(k:Option Addr)(n:Bn):Prop:=∃b sl,k=some ⟨b,0,none⟩∧sl.data.toList=n.1∧DxN W h b sl n.2.1 n.2.2
def DxL(W:Nat→Prop)(h:af)(ks:List (Option Addr))(L:List Bn):Prop:=ks.length=L.length∧∀p∈ks.zip L,DKid W h p.1 p.2
theorem CZ{W:Nat→Prop}{h:af}:∀{F:Fo} {ks:List (Option Addr)},DxF W h F ks↔DxL W h ks F.toL
 | .nil,ks=>by
  unfold DxF DxL;simp[Fo.toL]
 | .cons lab w kids rest,ks=>by
  unfold DxF DxL;rw[Fo.toL_cons];constructor
  ·rintro⟨b,sl,val,s,ow,c,d,rfl,g,n,j,i,o,m,q⟩
   obtain⟨y,u⟩:=CZ.1 q;refine⟨by simp[y],fun p a=>?_⟩
   rw[gA]at a;rcases aB.1 a with rfl|a
   ·exact⟨b,sl,rfl,g,val,s,ow,c,n,j,i,o,m⟩
   ·exact u p a
  ·cases ks with
   |nil=>rintro⟨e,_⟩;simp at e
   |cons k d=>
    rintro⟨e,a⟩;rw[gA]at a;obtain⟨b,sl,v,g,val,s,ow,c,n,j,i,o,m⟩:=a _ (aC ..);refine⟨b,sl,val,s,ow,c,d,by rw[←v],g,n,j,i,o,m,CZ.2 ⟨by simpa using e,fun p f=>a p (aV _ f)⟩⟩
theorem DxF.upd0{W:Nat→Prop}{h a:af}(k:Upd No h a):∀{F:Fo} {ks:List (Option Addr)},DxF W h F ks→DxF W a F ks
 | .nil,_,r=>r
 | .cons _ _ _ _,_,⟨b,sl,val,s,ow,ks1,ks',e0,e1,e2,e3,e4,e5,e6,e7⟩=>⟨b,sl,val,s,ow,ks1,ks',e0,e1,k.get0 e2,e3,e4.upd k fun _ h=>h.elim,e5,DxF.upd0 k e6,DxF.upd0 k e7⟩
theorem DxN.upd0{W:Nat→Prop}{h a:af}(k:Upd No h a){b:Nat}{sl:ByteArray}{w:Option ByteArray}{F:Fo}:DxN W h b sl w F→DxN W a b sl w F
 |⟨val,s,ow,ks,e2,e3,e4,e5,e6⟩=>⟨val,s,ow,ks,k.get0 e2,e3,e4.upd k fun _ h=>h.elim,e5,DxF.upd0 k e6⟩
theorem DKid.upd0{W:Nat→Prop}{h c:af}(k:Upd No h c){a:Option Addr}{n:Bn}:DKid W h a n→DKid W c a n
 |⟨b,sl,e1,e2,e3⟩=>⟨b,sl,e1,e2,e3.upd0 k⟩
theorem DxF.less{W W':Nat→Prop}{h:af}(hm:∀b,W' b→W b∨h.size≤b):∀{F:Fo} {ks:List (Option Addr)},DxF W h F ks→DxF W' h F ks
 | .nil,_,r=>r
 | .cons _ _ _ _,_,⟨b,sl,val,s,ow,ks1,ks',e0,e1,e2,e3,e4,e5,e6,e7⟩=>⟨b,sl,val,s,ow,ks1,ks',e0,e1,e2,e3,e4.less hm,⟨e5.1,fun hx=>(hm _ hx).elim e5.2 fun h=>by have:=aL e2;omega⟩,DxF.less hm e6,DxF.less hm e7⟩
theorem DxN.less{W W':Nat→Prop}{h:af}(hm:∀b,W' b→W b∨h.size≤b){b:Nat}{sl:ByteArray}{w:Option ByteArray}{F:Fo}:DxN W h b sl w F→DxN W' h b sl w F
 |⟨val,s,ow,ks,e2,e3,e4,e5,e6⟩=>⟨val,s,ow,ks,e2,e3,e4.less hm,⟨e5.1,fun hx=>(hm _ hx).elim e5.2 fun h=>by have:=aL e2;omega⟩,DxF.less hm e6⟩
theorem DxF.updM{W M:Nat→Prop}{h a:af}(k:Upd M h a)(hm:∀b,M b→W b∨h.size≤b):∀{F:Fo} {ks:List (Option Addr)},DxF W h F ks→DxF W a F ks
 | .nil,_,r=>r
 | .cons _ _ _ _,_,⟨b,sl,val,s,ow,ks1,ks',e0,e1,e2,e3,e4,e5,e6,e7⟩=>⟨b,sl,val,s,ow,ks1,ks',e0,e1,k.get e2 (fun hx=>(hm _ hx).elim e5.2 fun h=>by have:=aL e2;omega),e3,e4.upd k hm,e5,DxF.updM k hm e6,DxF.updM k hm e7⟩
theorem DxN.updM{W M:Nat→Prop}{h a:af}(k:Upd M h a)(hm:∀b,M b→W b∨h.size≤b){b:Nat}{sl:ByteArray}{w:Option ByteArray}{F:Fo}:DxN W h b sl w F→DxN W a b sl w F
 |⟨val,s,ow,ks,e2,e3,e4,e5,e6⟩=>⟨val,s,ow,ks,k.get e2 (fun hx=>(hm _ hx).elim e5.2 fun h=>by have:=aL e2;omega),e3,e4.upd k hm,e5,DxF.updM k hm e6⟩
theorem DxL.upd0{W:Nat→Prop}{h a:af}(k:Upd No h a){ks:List (Option Addr)}{L:List Bn}(r:DxL W h ks L):DxL W a ks L:=⟨r.1,fun p b=>(r.2 p b).upd0 k⟩
theorem DxL.app{W:Nat→Prop}{h:af}{ks b:List (Option Addr)}{L L':List Bn}(r:DxL W h ks L)(c:DxL W h b L'):DxL W h (ks++b) (L++L'):=by
 refine⟨by rw[ad,ad,r.1,c.1],fun p a=>?_⟩
 rw[List.zip_append r.1]at a;rcases List.mem_append.1 a with a|a
 ·exact r.2 p a
 ·exact c.2 p a
theorem DxL.one{W:Nat→Prop}{h:af}{k:Option Addr}{n:Bn}(c:DKid W h k n):DxL W h [k] [n]:=⟨rfl,fun p a=>by rw[gA,List.zip_nil_left]at a;rw[List.mem_singleton.1 a];exact c⟩
theorem DxL.at{W:Nat→Prop}{h:af}{ks:List (Option Addr)}{L:List Bn}(r:DxL W h ks L){i:Nat}(hi:i<L.length):∃b sl,ks[i]? =some (some ⟨b,0,none⟩)∧sl.data.toList=L[i].1∧DxN W h b sl L[i].2.1 L[i].2.2:=by
 have c:i<ks.length:=by rw[r.1];exact hi
 have hz:i<(ks.zip L).length:=by rw[List.length_zip];omega
 have:=r.2 _ (aY hz);rw[List.getElem_zip]at this;obtain⟨b,sl,a,d,f⟩:=this;exact⟨b,sl,by rw[ag c];exact congrArg some a,d,f⟩
theorem DKid.less{W W':Nat→Prop}{h:af}(hm:∀b,W' b→W b∨h.size≤b){a:Option Addr}{n:Bn}:DKid W h a n→DKid W' h a n
 |⟨b,sl,e1,e2,e3⟩=>⟨b,sl,e1,e2,e3.less hm⟩
theorem DKid.updM{W M:Nat→Prop}{h c:af}(k:Upd M h c)(hm:∀b,M b→W b∨h.size≤b){a:Option Addr}{n:Bn}:DKid W h a n→DKid W c a n
 |⟨b,sl,e1,e2,e3⟩=>⟨b,sl,e1,e2,e3.updM k hm⟩
theorem DxL.less{W W':Nat→Prop}{h:af}(hm:∀b,W' b→W b∨h.size≤b){ks:List (Option Addr)}{L:List Bn}(r:DxL W h ks L):DxL W' h ks L:=⟨r.1,fun p a=>(r.2 p a).less hm⟩
theorem DxL.updM{W M:Nat→Prop}{h a:af}(k:Upd M h a)(hm:∀b,M b→W b∨h.size≤b){ks:List (Option Addr)}{L:List Bn}(r:DxL W h ks L):DxL W a ks L:=⟨r.1,fun p c=>(r.2 p c).updM k hm⟩
theorem PT{a b:ByteArray}(z:a.size≤1000000){h:af}{K:Int→af→Prop}(s:K (cm a.data.toList b.data.toList:Nat) h):HC PG xN [.string a,.string b] [.c (.int .i64)] K h:=by
 refine MI a b ?_;unfold DH;have A:a.data.toList.length=a.size:=by simp
 have B:b.data.toList.length=b.size:=by simp
 refine LoopP.ghost (fun(i:Nat) (t:Int) n=>t=(i:Int)∧i≤min a.size b.size∧n=h∧∀j,j<i→a.data.toList[j]? =b.data.toList[j]?) (fun i=>min a.size b.size-i) 0 ⟨rfl,bj _,rfl,fun j p=>absurd p (ji _)⟩ ?_
 rintro I i t n ⟨rfl,hi,rfl,g⟩ y;refine Join.intro (fun t k=>k=n∧(t=true→i<min a.size b.size∧a.data.toList[i]? =b.data.toList[i]?)∧(t=false→cm a.data.toList b.data.toList=i)) (fun R m=>?_) ?_
 ·refine aM (fun o=>?_) fun o=>m _ _ ⟨rfl,fun h=>(by cases h),fun _=>K3 (by omega) (by omega) g (by omega)⟩
  refine aM (fun k=>?_) fun k=>m _ _ ⟨rfl,fun h=>(by cases h),fun _=>K3 (by omega) (by omega) g (by omega)⟩
  have f:i<a.size:=by omega
  have d:i<b.size:=by omega
  have q:a.data.toList[i]? =some a[i]:=by rw[←Og,getElem?_pos a i f]
  have v:b.data.toList[i]? =some b[i]:=by rw[←Og,getElem?_pos b i d]
  refine⟨a[i],by omega,by rw[aX,getElem?_pos a i f],b[i],by omega,by rw[aX,getElem?_pos b i d],m _ _ ⟨rfl,fun h=>⟨by omega,?_⟩,fun h=>?_⟩⟩
  ·have:((a[i].toNat:Int))=(b[i].toNat:Int):=by simpa using h
   rw[q,v,UInt8.toNat_inj.1 (show a[i].toNat=b[i].toNat by omega)]
  ·refine K3 (by omega) (by omega) g (.inr (.inr fun e=>?_))
   rw[q,v]at e;rw[bQ.inj e]at h;simp at h
 ·rintro t k ⟨rfl,o,w⟩
  cases t with
  |true=>
   obtain⟨c,e⟩:=o rfl;refine aA.2 ?_;rw[cO c (by omega)];refine y (i+1) _ _ ⟨rfl,c,rfl,fun j p=>?_⟩ (by omega)
   rcases bO j i with u|u
   ·exact g j u
   ·rw[show j=i by omega];exact e
  |false=>
   refine aj.2 ?_;rw[w rfl]at s;exact s
theorem Y3:∀{x y:List UInt8} {t:Nat},t≤x.length→t≤y.length→x.take t=y.take t→t≤cm x y
 |_,_,0,_,_,_=>bj _
 | [],_,t+1,h,_,_=>by simp at h
 |_::_,[],t+1,_,h,_=>by simp at h
 |a::x,b::y,t+1,h1,h2,e=>by
  rw[dH,dH]at e;obtain⟨c,d⟩:=fH.inj e;have:=Y3 (x:=x) (y:=y) (t:=t) (by simpa using h1) (by simpa using h2) d;unfold cm;rw[if_pos c];omega
def YP(t:Nat)(p:Pr):Pr:=(p.1.extract t p.1.size,p.2)
theorem KG(t:Nat)(p:Pr):ky (YP t p)=(ky p).drop t:=CY p.1 t
def SJ(B:Nat):Prop:=∀{W:Nat→Prop} {h:af} {s:SliceV} {l:List Pr},Sl fe 2 No h s l→s.len≤s.cap→Beg l []→(∀p∈l,(ky p).length≤B)→l.length≤100000→(∀y,W y→y<h.size)→∀{K:SliceV→af→Prop},
 (∀h' s' ks L,OwnS m9 1 tC (fun y=>h.size≤y) h' s' ks→DxL W h' ks L→Row L l [] []→Upd No h h'→K s' h')→HC PG tI [.slice s.a s.len s.cap] [.c .slice] K h
def yh(to:Nat)(l:List Pr):List Pr:=(l.filter fun p=>decide ((ky p).length≠to)).map (YP to)
theorem PN{to:Nat}{l:List Pr}{i:Nat}(hi:i<l.length):yh to (l.take (i+1))=if(ky l[i]).length=to then yh to (l.take i)else yh to (l.take i)++ [YP to l[i]]:=by
 unfold yh;rw[bW hi,iE,List.map_append,cP,pe];by_cases h:(ky l[i]).length=to
 ·rw[if_pos h,if_neg (by simpa using h)];simp
 ·rw[if_neg h,if_pos (by simpa using h)];rfl
theorem QM{W:Nat→Prop}{B:Nat}(hB:B≤1000000)(S:∀B',B'<B→SJ B'){h:af}{s:SliceV}{l r:List Pr}{f g:Pr}(hs:Sl fe 2 No h s l)(bg:Beg l [])(hlB:∀p∈l,(ky p).length≤B)(hn:l.length≤100000)(hW:∀y,W y→y<h.size)
  (z:l=f::r)(hg:l.getLast? =some g)(hb:bt 0 f=bt 0 g){K:Option Addr→af→Prop}
  (hk:∀w a n,DKid W w a n→O2 n→hd n.1=bt 0 f→(∀k v,um n k v↔YL l [] k v)→Upd No h w→K a w):HC PG xM [.slice s.a s.len s.cap] [.c .ptr] K h:=by
 refine MH s ?_;unfold DG cS bo aD nv cz jm lf;have hlen:=hs.len;have hl0:0<l.length:=by rw[z];simp
 have hfm:f∈l:=by rw[z];exact aC ..
 have hgm:g∈l:=iT hg;obtain⟨a,ha,_,hvf⟩:=hs.at (i:=0) (x:=f) (by rw[z];rfl);obtain⟨q1,q2,q3,q4,q5⟩:=K7 bg ⟨r,z⟩ hg hb;have hbc:= @QL l (if(ky f).length=cm (ky f) (ky g)then l.drop 1 else l) [] f g bg ⟨r,z⟩ hg hb
 have hcg:cm (ky f) (ky g)=cm (ky f) (ky g):=rfl;obtain⟨to,T⟩:∃to,cm (ky f) (ky g)=to:=⟨_,rfl⟩;rw[T]at q1 q2 q3 q4 hbc;have hszf:f.1.size=(ky f).length:=(Qj f.1).symm;have hfB:=hlB f hfm;have hle:∀p∈l,to≤(ky p).length:=fun p d=>(q4 p d).elim (fun e=>e▸q2) Nat.le_of_lt
 have hcm:∀p∈l,to≤cm (ky f) (ky p):=fun p d=>Y3 q2 (hle p d) (q3 p d).symm
 have hpos:0<to:=by simpa using q1
 refine⟨⟨by decide,by omega⟩,a,ha,_,hvf 0 _ rfl,?_⟩
 refine LoopP.ghost (fun(g:Nat×Nat) (t:Int×Int) w=>t=((g.2:Int),(g.1:Int))∧g.1≤l.length∧to≤g.2∧g.2≤(ky f).length∧(g.1=l.length→g.2=to)∧Upd No h w) (fun g=>l.length-g.1) (0,(ky f).length) ⟨by rw[hszf];rfl,bj _,q2,ao _,fun e=>by simp only at e;omega,Upd.refl _ _⟩ ?_
 rintro I ⟨i,n⟩ t w ⟨rfl,hi,hn1,hn2,hn3,V⟩ hI;simp only at hi hn1 hn2 hn3;refine aM (fun b=>?_) fun Z=>?_
 ·have b:i<l.length:=by have:(i:Int)<(s.len:Int):=b;omega
  have D:l[i]∈l:=aY b;refine Join.intro (fun t o=>∃n':Nat,t=(n':Int)∧to≤n'∧n'≤(ky f).length∧(i+1=l.length→n'=to)∧Upd No h o) (fun R hR=>?_) ?_
  ·obtain⟨a',X,_,hv⟩:=(hs.upd V fun _ h=>h.elim).at (ag b)
   refine⟨⟨by simp only;omega,by simp only;omega⟩,a',X,_,hv 0 _ rfl,_,hv 1 _ rfl,tf (p:=l[i]) fun o b2 k2=>?_⟩
   obtain⟨a2,ha2,_,hv2⟩:=((hs.upd V fun _ h=>h.elim).upd k2 fun _ h=>h.elim).at (i:=0) (x:=f) (by rw[z];rfl)
   refine⟨⟨by decide,by omega⟩,a2,ha2,_,hv2 0 _ rfl,_,vc b2 0,PT (by omega) ?_⟩
   have hc1:=hcm _ D;have hc2:=(SD (ky f) (ky l[i])).1;have E:i+1=l.length→l[i]=g:=fun e=>by
    rw[List.getLast?_eq_getElem?,show l.length-1=i by omega,ag b]at hg
    exact bQ.inj hg
   change CondP (decide ((cm (ky f) (ky l[i]):Int)<(n:Int))) _ _;refine aM (fun hc=>hR _ _ ⟨_,rfl,hc1,hc2,fun e=>?_,V.tr k2⟩) fun hc=>hR _ _ ⟨n,rfl,hn1,hn2,fun e=>?_,V.tr k2⟩
   ·rw[E e,T]
   ·rw[E e,T]at hc;omega
  ·rintro t o ⟨n',rfl,H,h2',O,m⟩
   simp only;rw[cO b (by omega)];exact hI (i+1,n') _ _ ⟨rfl,b,H,h2',O,m⟩ (by simp only;omega)
 obtain rfl:i=l.length:=by have:¬(i:Int)<(s.len:Int):=Z;omega
 obtain rfl:n=to:=hn3 rfl;clear hn3 hI;obtain⟨a',X,_,hv⟩:=(hs.upd V fun _ h=>h.elim).at (i:=0) (x:=f) (by rw[z];rfl)
 refine⟨⟨by decide,by omega⟩,a',X,f.1,hv 0 _ rfl,⟨by omega,by simp only;omega⟩,aN fun H b1 k1=>?_⟩
 have u1:=V.tr k1;have z1:=aL b1;have s0:=V.size;simp only[aX]at b1⊢;have hlab:(f.1.extract 0 n).data.toList=((ky f).take n).drop ([]:List UInt8).length:=by rw[CX];rfl
 refine LoopP.ghost (fun(i:Nat) (t:SliceV×Int) o=>t.2=(i:Int)∧i≤l.length∧o[w.size]? =some (.cells #[.string (f.1.extract 0 n),.bool (if 0<i∧(ky f).length=n then some f.2 else none:Option ByteArray).isSome,.string ((if 0<i∧(ky f).length=n then some f.2 else none:Option ByteArray).getD ⟨#[]⟩),.slice none 0 0] pj (0,0))∧
  OwnS fe 2 cn (fun y=>H.size≤y) o t.1 (yh n (l.take i))∧Upd No h o∧H.size≤o.size) (fun i=>l.length-i) 0 ⟨rfl,bj _,by rw[if_neg (by omega)];exact b1,OwnS.nil jx,u1,ao _⟩ ?_
 rintro I i ⟨so,ti⟩ o ⟨e1,hi2,c2,ho,m,hz2⟩ hI;simp only at e1 ho;subst e1;refine aM (fun b=>?_) fun Z=>?_
 ·have b:i<l.length:=by have:(i:Int)<(s.len:Int):=b;omega
  have D:l[i]∈l:=aY b;have N:=PN (to:=n) b;have hszi:l[i].1.size=(ky l[i]).length:=(Qj l[i].1).symm;have hiB:=hlB _ D;refine Join.intro (fun t O=>O[w.size]? =some (.cells #[.string (f.1.extract 0 n),.bool (if 0<i+1∧(ky f).length=n then some f.2 else none:Option ByteArray).isSome,.string ((if 0<i+1∧(ky f).length=n then some f.2 else none:Option ByteArray).getD ⟨#[]⟩),.slice none 0 0] pj (0,0))∧
   OwnS fe 2 cn (fun y=>H.size≤y) O t (yh n (l.take (i+1)))∧Upd No h O∧H.size≤O.size) (fun R hR=>?_) ?_
  ·obtain⟨a3,ha3,_,hv3⟩:=(hs.upd m fun _ h=>h.elim).at (ag b)
   refine⟨⟨by simp only;omega,by simp only;omega⟩,a3,ha3,_,hv3 0 _ rfl,_,hv3 1 _ rfl,tf (p:=l[i]) fun O b3 k3=>⟨_,vc b3 0,?_⟩⟩
   have z3:=aL b3;have s3:=k3.size;have zh2:=aL c2;have c3:=k3.get0 c2;refine CondP.intro (fun C=>?_) fun C=>?_
   ·have C:(ky l[i]).length=n:=by
     have:((l[i].1.size:Nat):Int)=(n:Int):=by simpa using C
     omega
    have hfi:l[i]=f:=(q4 _ D).resolve_right (by omega);rw[if_pos C]at N;refine⟨_,vc b3 1,_,rfl,?_⟩;refine kU (i:=1) c3 (show 1<4 by decide) rfl fun h4 b4 P=>⟨vc (P.oth b3 (by omega)) 1,_,rfl,?_⟩
    refine kU (i:=2) b4 (show 2<4 by decide) rfl fun h5 b5 u5=>hR _ _ ⟨?_,?_,((m.tr k3).own P (by omega)).own u5 (by omega),?_⟩
    ·rw[if_pos (show 0<i+1∧(ky f).length=n from⟨by omega,by rw[←hfi];exact C⟩),b5,hfi];rfl
    ·rw[N]
     exact((ho.upd k3 fun _ _ h=>h).upd P fun y c e=>by have e:y=w.size:=e;have c:H.size≤y:=c;omega).upd u5 fun y c e=>by have e:y=w.size:=e;have c:H.size≤y:=c;omega
    ·have:=P.size;have:=u5.size;omega
   ·have C:¬(ky l[i]).length=n:=fun e=>by
     have:¬((l[i].1.size:Nat):Int)=(n:Int):=by simpa using C
     omega
    rw[if_neg C]at N;have hlei:=hle _ D;refine⟨_,vc b3 0,⟨by omega,by omega⟩,_,vc b3 1,aN fun h4 b4 Q=>⟨vc (Q.get0 b3) 1,vc (Q.get0 b3) 0,_,lU b4,?_⟩⟩
    have s4:=Q.size;have z4:=aL b4;refine AppP.own (M:=fun y=>(H.size≤y∧y<o.size)∨h4.size≤y) (ys:= [YP n l[i]]) (((ho.within.upd k3 fun _ _ h=>h).upd Q fun _ _ h=>h).more fun y c=>.inl c) rfl rfl rfl rfl (by omega) ?_ (.inr (ao _)) fun s5 h5 ho5 A=>?_
    ·have:=List.length_filter_le (fun p=>decide ((ky p).length≠n)) (l.take i)
     simp only[yh,bF,aF];rw[aP]at this;omega
    have s5':=A.size;refine⟨vc (A.get (Q.get0 b3) (by omega)) 1,vc (A.get (Q.get0 b3) (by omega)) 0,hR _ _ ⟨?_,?_,((m.tr k3).tr Q).trans A fun y c=>.inr (by omega),by omega⟩⟩
    ·have u:(if 0<i+1∧(ky f).length=n then some f.2 else none:Option ByteArray)=if 0<i∧(ky f).length=n then some f.2 else none:=by
      by_cases h0:0<i
      ·simp[h0]
      ·have:i=0:=by omega
       subst this;have:l[0]=f:=by simp[z]
       rw[this]at C;rw[if_neg (fun h=>C h.2),if_neg (fun h=>C h.2)]
     rw[u];exact A.get (Q.get0 c3) (by omega)
    ·rw[N]
     exact ho5.more fun y c=>by show H.size≤y;omega
  ·rintro t O ⟨p1,p2,p3,p4⟩
   simp only;rw[cO b (by omega)];exact hI (i+1) _ _ ⟨rfl,b,p1,p2,p3,p4⟩ (by omega)
 obtain rfl:i=l.length:=by have:¬(i:Int)<(s.len:Int):=Z;omega
 rw[cp]at ho;have hc0:(0<l.length∧(ky f).length=n)↔(ky f).length=n:=⟨fun h=>h.2,fun h=>⟨hl0,h⟩⟩
 simp only[hc0]at c2;have J:yh n l=(if(ky f).length=n then l.drop 1 else l).map (YP n):=by
  unfold yh;congr 1
  by_cases e:(ky f).length=n
  ·rw[if_pos e,z,cP,if_neg (by simpa using e),wA,uL]
   refine gd.2 fun p d=>?_
   have hpl:p∈l:=by rw[z];exact aV _ d
   rcases q4 p hpl with u|o
   ·rw[u]at d
    exact absurd ((bA.1 (z▸bg.up)).1 f d) (cM _)
   ·exact decide_eq_true (by omega)
  ·rw[if_neg e]
   refine gd.2 fun p d=>?_
   rcases q4 p d with u|o
   ·rw[u];exact decide_eq_true e
   ·exact decide_eq_true (by omega)
 have j:(if(ky f).length=n then l.drop 1 else l).Sublist l:=by
  split
  ·exact List.drop_sublist ..
  ·exact List.Sublist.refl _
 have Y:∀p∈(if(ky f).length=n then l.drop 1 else l),n<(ky p).length:=fun p d=>by
  rcases q4 p (j.subset d)with e|h
  ·by_cases u:(ky f).length=n
   ·rw[if_pos u,z,e]at d
    exact absurd ((bA.1 (z▸bg.up)).1 f d) (cM _)
   ·rw[e];omega
  ·exact h
 have hbeg:Beg (yh n l) []:=by
  rw[J];refine⟨?_,fun p d=>?_⟩
  ·unfold cA
   rw[List.pairwise_map];refine(bg.up.sublist j).imp_of_mem fun{p q} d G b=>?_
   rw[zZ]at b⊢;have e1:=q3 p (j.subset d);have u:=q3 q (j.subset G);change Op.bytesLess (ky (YP n p)) (ky (YP n q))=true;change Op.bytesLess (ky p) (ky q)=true at b;rw[KG,KG];rw[←aS n (ky p),←aS n (ky q),e1,u,Mx]at b;exact b
  ·obtain⟨q,G,rfl⟩:=iK.1 d
   refine⟨rfl,?_⟩;rw[KG,aZ];have:=Y q G;simp only[bL];omega
 have hkB:∀p∈yh n l,(ky p).length≤B-n:=fun p d=>by
  rw[J]at d;obtain⟨q,G,rfl⟩:=iK.1 d;rw[KG,aZ];have:=hlB q (j.subset G);omega
 have hrn:(yh n l).length≤100000:=by
  rw[J,bF];exact Nat.le_trans j.length_le hn
 have s2:=m.size;have zc:=aL c2;refine S (B-n) (by omega) (W:=fun y=>W y∨y=w.size) (ho.sl fun _ _ _ h=>h) ho.cap hbeg hkB hrn (fun y c=>c.elim (fun c=>by have:=hW y c;omega) fun c=>by omega) fun O s3 ks L ho3 hL3 hrow hu3=>?_
 obtain⟨hcF,hgF⟩:=hrow.done;have hgot:∀k v,qt (.ofL L) k v↔YL (if(ky f).length=n then l.drop 1 else l) ((ky f).take n) k v:=fun k v=>by
  rw[hgF,J];constructor
  ·rintro⟨p,d,u,e3⟩
   obtain⟨q,G,rfl⟩:=iK.1 d;rw[KG,dE]at u;refine⟨q,G,?_,e3⟩;rw[←u,←q3 q (j.subset G),aS]
  ·rintro⟨q,G,u,e3⟩
   refine⟨YP n q,iK.2 ⟨q,G,rfl⟩,?_,e3⟩;rw[KG,dE,u,List.drop_left' (by rw[aP];omega)]
 obtain⟨hcn,hhd,hin⟩:=hbc (F:=.ofL L) hcF rfl hgot rfl hlab;refine⟨_,rfl,?_⟩;refine kU (i:=3) (hu3.get0 c2) (show 3<4 by decide) rfl fun h4 b4 P=>?_
 refine hk h4 _ (_,_,_) ⟨w.size,_,rfl,rfl,_,s3,none,ks,b4,rfl,?_,⟨ho3.cap,fun hw=>by have:=hW _ hw;omega⟩,CZ.2 ?_⟩ hcn hhd hin ((m.tr hu3).own P (by omega))
 ·exact(ho3.upd P fun y c e=>by have e:y=w.size:=e;have c:o.size≤y:=c;omega).sl fun y c _ hw=>by have:=hW y hw;have c:o.size≤y:=c;omega
 ·rw[Fo.to_of]
  exact(hL3.updM P fun y c=>.inl (.inr c)).less fun y c=>.inl (.inl c)
end Go.Proofs
namespace Go.Proofs
open Go Go.Lift
theorem Qh{B:Nat}(hB:B≤1000000)(G:∀Q,Q<B→SJ Q):SJ B:=by
 intro W h s l hs hcap bg hlB hn hW K hk;refine MG s ?_;unfold DF cS bo;have hlen:=hs.len;refine LoopP.ghost (fun(g:Nat×List (Option Addr)×List Bn×(Nat→Prop)) (t:SliceV×Int) Z=>t.2=(g.1:Int)∧g.1≤l.length∧OwnS m9 1 tC g.2.2.2 Z t.1 g.2.1∧(∀y,g.2.2.2 y→h.size≤y∧y<Z.size)∧DxL (fun y=>W y∨g.2.2.2 y) Z g.2.1 g.2.2.1∧Row g.2.2.1 (l.take g.1) (l.drop g.1) []∧Upd No h Z) (fun g=>l.length-g.1) (0,[],[],fun _=>False)
  ⟨rfl,bj _,OwnS.nil p7,fun y d=>d.elim,⟨rfl,fun p hp=>(by cases hp)⟩,Row.nil _ _,Upd.refl _ _⟩ ?_
 rintro I ⟨i,ks,L,Mo⟩ ⟨so,ti⟩ X ⟨e1,hi,ho,v,hL,f,hu⟩ hI;simp only at e1 hi ho v hL f;subst e1;refine aM (fun u=>?_) fun hge=>?_
 ·have u:i<l.length:=by have:(i:Int)<(s.len:Int):=u;omega
  have O:=hs.upd hu fun _ h=>h.elim
  have Y:∀j (E:j<l.length),0<(ky l[j]).length:=fun j E=>(bg.at_ _ (aY E)).2
  obtain⟨bi,hbi,hbie⟩:=WQ (Y i u);obtain⟨ai,hai,_,hvi⟩:=O.at (ag u);refine LoopP.ghost (fun(k:Nat) (t:Int) V=>t=(k:Int)∧i≤k∧k≤l.length∧V=X∧∀j (E:j<l.length),i≤j→j<k→bt 0 l[j]=bt 0 l[i]) (fun k=>l.length-k) i ⟨rfl,ao _,hi,rfl,fun j E X V=>by omega⟩ ?_
  rintro I2 k t V ⟨rfl,hik,S,rfl,F⟩ hI2;refine Join.intro (fun t h3=>h3=V∧(t=true→∃hk:k<l.length,bt 0 l[k]=bt 0 l[i])∧(t=false→∀hk:k<l.length,bt 0 l[k]≠bt 0 l[i])) (fun R hR=>?_) ?_
  ·refine aM (fun a=>?_) fun a=>hR _ _ ⟨rfl,fun h=>(by cases h),fun _ hk2=>absurd (show(k:Int)<(s.len:Int) by omega) a⟩
   have a:k<l.length:=by have:(k:Int)<(s.len:Int):=a;omega
   obtain⟨bk,hbk,hbke⟩:=WQ (Y k a);obtain⟨ak,hak,_,hvk⟩:=O.at (ag a);refine⟨⟨by omega,by omega⟩,ak,hak,_,hvk 0 _ rfl,bk,by decide,hbk,⟨by simp only;omega,by simp only;omega⟩,ai,hai,_,hvi 0 _ rfl,bi,by decide,hbi,hR _ _ ⟨rfl,fun h=>⟨a,?_⟩,fun h _=>?_⟩⟩
   ·have:(bk.toNat:Int)=(bi.toNat:Int):=by simpa using h
    omega
   ·intro e
    have:¬(bk.toNat:Int)=(bi.toNat:Int):=by simpa using h
    omega
  rintro t h3 ⟨rfl,ht,hf⟩;cases t with
  |true=>
   obtain⟨a,e⟩:=ht rfl;refine aA.2 ?_;rw[cO a (by omega)];refine hI2 (k+1) _ _ ⟨rfl,by omega,a,rfl,fun j E X V=>?_⟩ (by omega)
   rcases bO j k with h|h
   ·exact F j E X h
   ·have:j=k:=by omega
    subst this;exact e
  |false=>
   have hf:=hf rfl;have hik2:i<k:=by
    rcases bO i k with h|h
    ·exact h
    ·have:k=i:=by omega
     subst this;exact absurd rfl (hf u)
   refine aj.2 ⟨⟨by omega,by omega⟩,⟨by simp only;omega,by simp only;omega⟩,?_⟩
   simp only[aX];have hsA:=Sl.sub O (l:=i) (hi:=k) (m:=s.cap) (c:=s.cap-i) hik S (by omega);have P:(l.drop i).take (k-i)++l.drop k=l.drop i:=by
    conv=>rhs;rw[←aS (k-i) (l.drop i)]
    rw[List.drop_drop,show i+(k-i)=k by omega]
   have hDA:l.take i++(l.drop i).take (k-i)=l.take k:=by
    rw[show k=i+(k-i) by omega,List.take_add];congr 2;omega
   have C:∀q∈(l.drop i).take (k-i),bt 0 q=bt 0 l[i]:=fun q hq=>by
    obtain⟨j,E,e⟩:=List.getElem_of_mem hq;rw[aP,aZ]at E;rw[←e,List.getElem_take,List.getElem_drop];exact F (i+j) (by omega) (by omega) (by omega)
   have hAc:∃r,(l.drop i).take (k-i)=l[i]::r:=by
    rw[fp u,show k-i=(k-i-1)+1 by omega,dH]
    exact⟨_,rfl⟩
   have o:((l.drop i).take (k-i)).Sublist l:=(List.take_sublist _ _).trans (List.drop_sublist _ _);have hBk:∀b Q,l.drop k=b::Q→bt 0 b≠bt 0 l[i]:=fun b Q e=>by
    have a:k<l.length:=by
     rcases bO k l.length with h|h
     ·exact h
     ·rw[List.drop_eq_nil_of_le h]at e;cases e
    rw[fp a]at e;rw[←(fH.inj e).1];exact hf a
   have hAl:((l.drop i).take (k-i)).length≤l.length:=o.length_le;generalize (l.drop i).take (k-i)=A at*;obtain⟨r,H⟩:=hAc;obtain⟨g,hg⟩:∃g,A.getLast? =some g:=by rw[H];exact⟨_,List.getLast?_eq_some_getLast (by simp)⟩
   have s1:=hu.size;refine QM (W:=fun y=>W y∨Mo y) hB G (hsA.less fun _ h=>h.elim) (bg.sub o) (fun q hq=>hlB q (o.subset hq)) (by omega) (fun y d=>d.elim (fun d=>Nat.lt_of_lt_of_le (hW y d) s1) fun d=>(v y d).2) H hg (C g (iT hg)).symm fun h4 ka n kd hcn hhd hin hu4=>aN fun N b5 k5=>⟨_,lU b5,?_⟩
   have D:=hu4.tr k5;have z35:=D.size;have hLn:L.length≤256:=by
    rcases D7 (c:=0) f.up fun _ _=>bj _ with e|e
    ·rw[e];simp
    ·omega
   have hkl':=hL.1;refine AppP.own (M:=fun y=>Mo y∨N.size≤y) (ys:= [ka]) ((ho.upd D fun _ _ h=>h).more fun y d=>.inl d) rfl rfl rfl rfl (by omega) (by simp only[aF];omega) (.inr (ao _)) fun s6 h6 ho6 J=>?_
   have z6:=J.size;have w:=f;rw[←P]at w;have T:Beg (A++l.drop k) []:=by rw[P];exact bg.sub (List.drop_sublist _ _)
   have z:=w.more T (p:=l[i]) (by rw[H];exact aC ..) C hBk hcn hhd hin;rw[hDA]at z;refine hI (k,ks++ [ka],L++ [n],fun y=>(Mo y∨N.size≤y)∧y<h6.size) _ _ ⟨rfl,S,ho6.within,fun y d=>⟨?_,d.2⟩,?_,z,?_⟩ (by simp only;omega)
   ·rcases d.1 with h|h
    ·exact(v y h).1
    ·omega
   ·have hl:∀b,(W b∨((Mo b∨N.size≤b)∧b<h6.size))→(W b∨Mo b)∨N.size≤b:=fun b hb=>by
     rcases hb with h|⟨h|h,_⟩
     ·exact .inl (.inl h)
     ·exact .inl (.inr h)
     ·exact .inr h
    have hm:∀b,(Mo b∨N.size≤b)→(W b∨((Mo b∨N.size≤b)∧b<h6.size))∨N.size≤b:=fun b hb=>by
     rcases hb with h|h
     ·exact .inl (.inr ⟨.inl h,by have:=(v b h).2;omega⟩)
     ·exact .inr h
    exact(((hL.upd0 D).app (DxL.one (kd.upd0 k5))).less hl).updM J hm
   ·exact(hu.tr D).trans J fun y d=>.inr (by
     rcases d with h|h
     ·exact(v y h).1
     ·omega)
 ·obtain rfl:i=l.length:=by have:¬(i:Int)<(s.len:Int):=hge;omega
  rw[cp,List.drop_length]at f;exact hk X _ ks L (ho.more fun y d=>(v y d).1) (hL.less fun y d=>.inl (.inl d)) f hu
theorem VU(B:Nat):B≤1000000→SJ B:=by
 induction B using Nat.strongRecOn with
 |_ B ih=>exact fun b=>Qh b fun a h=>ih a h (by omega)
theorem X0{h:af}{s:SliceV}{l:List Pr}(P:Sl fe 2 No h s l)(o:s.len≤s.cap)(X:cA l)(hn:l.length≤60000)(hB:∀p∈l,(ky p).length≤1000000){K:Option Addr→af→Prop}
  (hk:∀h' b w F,DxN No h' b ⟨#[]⟩ w F→fU F→ng w F=GP l→Upd No h h'→K (some ⟨b,0,none⟩) h'):HC PG HN [.slice s.a s.len s.cap] [.c .ptr] K h:=by
 refine Xb s ?_;unfold OZ cS bo cz aaq;have j:=P.len;refine aN fun g b1 k1=>?_
 have z1:=aL b1;have z:=P.upd k1 fun _ h=>h.elim
 refine Join.intro (fun(t:SliceV) f=>∃(w:Option ByteArray) (l':List Pr),f[h.size]? =some (.cells #[.string ⟨#[]⟩,.bool w.isSome,.string (w.getD ⟨#[]⟩),.slice none 0 0] pj (0,0))∧Sl fe 2 No f t l'∧t.len≤t.cap∧Beg l' []∧l'.length≤l.length∧(∀p∈l',p∈l)∧(∀k v,((k= []∧w=some v)∨YL l' [] k v)↔∃p∈l,p.1.data.toList=k∧p.2=v)∧Upd No h f) (fun R Y=>?_) ?_
 ·refine Join.plain ?_
  rcases l with _|⟨p,r⟩
  ·refine aM (fun hgt=>?_) fun _=>aj.2 (Y _ _ ⟨none,[],b1,z,o,⟨fc,fun p hp=>(by cases hp)⟩,ao _,fun _ h=>h,fun k v=>⟨?_,?_⟩,k1⟩)
   ·simp only[bL]at j;omega
   ·rintro(⟨_,h⟩|⟨q,d,_⟩)
    ·cases h
    ·cases d
   ·rintro⟨q,d,_⟩;cases d
  ·simp only[aH]at j
   obtain⟨a,ha,_,hv⟩:=z.at (i:=0) (x:=p) rfl;refine aM (fun _=>⟨⟨by decide,by omega⟩,a,ha,_,hv 0 _ rfl,?_⟩) fun S=>absurd (show(s.len:Int)>0 by omega) S
   have G:=bA.1 X;have u:∀q∈r,0<(ky q).length:=fun q d=>by
    have g:=zZ.1 (G.1 q d);refine oF.2 fun N=>?_
    change Op.bytesLess (ky p) (ky q)=true at g;rw[N,QN]at g;cases g
   rw[jq];by_cases J:p.1=⟨#[]⟩
   ·have ek:ky p= []:=by unfold ky;rw[J]
    rw[decide_eq_true J];refine aA.2 ⟨⟨by decide,by omega⟩,a,ha,_,hv 1 _ rfl,_,rfl,?_⟩
    refine kU (i:=1) b1 (show 1<4 by decide) rfl fun f b2 I=>⟨_,rfl,?_⟩
    refine kU (i:=2) b2 (show 2<4 by decide) rfl fun h3 b3 C=>⟨⟨by decide,by omega⟩,Y _ _ ⟨some p.2,r,b3,?_,by simp only;omega,⟨G.2,fun q d=>⟨rfl,u q d⟩⟩,by simp,fun q d=>aV _ d,fun k v=>?_,(k1.own I (ao _)).own C (ao _)⟩⟩
    ·have M:Upd (fun y=>y=h.size) g h3:=I.tr C
     have:=Sl.sub ((((P.less (W':=fun y=>y=h.size) fun y n=>.inr (by omega)).upd k1 fun _ h=>h.elim).upd M fun y n=>.inl n)) (l:=1) (hi:=(p::r).length) (m:=s.cap) (c:=s.cap-1) (by simp) (ao _) (by simp only[aH];omega)
     rw[wA,uL,List.take_of_length_le (by simp)]at this;have N:(p::r).length-1=s.len-1:=by simp only[aH];omega
     rw[N]at this;exact this.less fun _ h=>h.elim
    ·constructor
     ·rintro(⟨rfl,h⟩|⟨q,d,g,f⟩)
      ·exact⟨p,aC ..,ek,bQ.inj h⟩
      ·exact⟨q,aV _ d,g,f⟩
     ·rintro⟨q,d,g,f⟩
      rcases aB.1 d with rfl|d
      ·exact .inl ⟨by rw[←g];exact ek,by rw[f]⟩
      ·exact .inr ⟨q,d,g,f⟩
   ·rw[decide_eq_false J]
    have hpp:0<(ky p).length:=oF.2 fun e=>J (pE.1 e)
    refine aj.2 (Y _ _ ⟨none,p::r,b1,z,o,⟨X,fun q d=>⟨rfl,?_⟩⟩,ao _,fun _ h=>h,fun k v=>?_,k1⟩)
    ·rcases aB.1 d with rfl|d
     ·exact hpp
     ·exact u q d
    ·constructor
     ·rintro(⟨_,h⟩|⟨q,d,g,f⟩)
      ·cases h
      ·exact⟨q,d,g,f⟩
     ·rintro⟨q,d,g,f⟩
      exact .inr ⟨q,d,g,f⟩
 rintro t f ⟨w,l',b2,Z,Q,O,hll,H,B,I⟩;have z2:=aL b2;refine VU 1000000 (ao _) (W:=fun y=>y=h.size) Z Q O (fun p hp=>hB p (H p hp)) (by omega) (fun y n=>by omega) fun h3 s3 ks L D V E C=>⟨_,rfl,?_⟩
 obtain⟨A,hgF⟩:=E.done;refine kU (i:=3) (C.get0 b2) (show 3<4 by decide) rfl fun h4 b4 T=>?_
 refine hk h4 h.size w (.ofL L) ⟨_,s3,none,ks,b4,rfl,?_,⟨D.cap,id⟩,CZ.2 ?_⟩ A (Gi A X fun k v=>?_) ((I.tr C).own T (ao _))
 ·exact(D.upd T fun y n e=>by have e:y=h.size:=e;have n:f.size≤y:=n;omega).sl fun _ _ _ h=>h
 ·rw[Fo.to_of]
  exact(V.updM T fun y n=>.inl n).less fun _ h=>h.elim
 ·rw[kB]
  unfold rO;rw[hgF,B]
def aaj(n:Bn):Prop:=∀{h:af} {b:Nat} {sl:ByteArray},DxN No h b sl n.2.1 n.2.2→sl.data.toList=n.1→(jf n).length≤140737488355328→∀{K:SliceV→af→Prop},(∀s' h',OwnS pW 1 cK (fun y=>h.size≤y) h' s' (jf n)→Upd No h h'→K s' h')→
 HC PG vd [.pointer (some ⟨b,0,none⟩)] [.c .slice] K h
theorem Sw{lab:List UInt8}{w:Option ByteArray}{c:Fo}(hl:lab.length≤10000)(hw:∀v,w=some v→v.size≤10000)(S:c.toL.length≤256)(ih:∀m∈c.toL,aaj m):aaj (lab,w,c):=by
 intro h b sl r u hx K hk;simp only at r u;have J:(⟨lab.toArray⟩:ByteArray)=sl:=by rw[←u]
 have hsz:sl.size=lab.length:=by rw[←u];simp
 obtain⟨val,s,ow,ks,hb,hv,hs,hcap,hF⟩:=r;have hL:=CZ.1 hF;have o:=hs.len;rw[hL.1]at o;have ex:jf (lab,w,c)=oH sl++vV w++np c.toL.length 2++c.toL.flatMap jf:=by
  show te lab w c.toL.length++pm c=_
  rw[yP];unfold te;rw[J];simp only[az]
 rw[ex]at hx hk;simp only[ad]at hx;have g:∀{G:af} {i:Nat},Upd No h G→aR G (adr ⟨b,0,none⟩ i)=(abN sl w.isSome val s ow)[i]?:=fun k=>vc (k.get0 hb) _
 have r0:=Upd.refl No h;refine OM (some ⟨b,0,none⟩) ?_;unfold FK bH cS bo aK dZ;refine⟨_,rfl,sl,g (i:=0) r0,CB (by omega) fun s1 h1 M k1=>?_⟩
 refine Join.intro (fun t A=>OwnS pW 1 cK (fun y=>h.size≤y) A t (oH sl++vV w)∧Upd No h A) (fun R P=>?_) ?_
 ·refine⟨_,rfl,w.isSome,g (i:=1) k1,?_⟩
  have s1':=k1.size;cases w with
  |none=>
   refine aj.2 (aN fun A b2 p=>⟨_,lU b2,?_⟩)
   have s2:=p.size;refine AppP.own (ys:= [(0:UInt8)]) (M.upd p fun _ _ h=>h) rfl rfl rfl rfl (by omega) (by simp only[aF];simp only[vV,aF]at hx;omega) (by show h.size≤A.size;omega) fun s3 C f z=>?_
   exact P _ _ ⟨f,(k1.tr p).trans z fun y j=>.inr j⟩
  |some v=>
   have hvs:=hw v rfl;have B:val=v:=hv;subst B;refine aA.2 ⟨_,rfl,_,g (i:=2) k1,aN fun A b2 p=>⟨g (i:=2) (k1.tr p),_,lU b2,?_⟩⟩
   have s2:=p.size;have hvl:(vV (some val)).length=1+(oH val).length:=by unfold vV;simp;omega
   rw[hvl]at hx;refine AppP.own (ys:= [(1:UInt8)]) (M.upd p fun _ _ h=>h) rfl rfl rfl rfl (by omega) (by simp only[aF];omega) (by show h.size≤A.size;omega) fun s3 C f z=>?_
   have F:Upd No h C:=(k1.tr p).trans z fun y j=>.inr j
   refine⟨g (i:=2) F,CB (by omega) fun s4 h4 n E=>?_⟩
   have N:=F.size;have X:=E.size;refine zv (f.upd E fun _ _ h=>h) (n.sl (W:=No) fun _ _ _ h=>h) (fun y j=>by show h.size≤y;omega) (by rw[ad,aF];omega) fun s5 h5 D q=>?_
   refine P _ _ ⟨?_,(F.tr E).trans q fun y j=>.inr j⟩
   have e:oH sl++vV (some val)=oH sl++ [1]++oH val:=by unfold vV;simp
   rw[e];exact D
 rintro t2 A ⟨Z,u2⟩;refine Join.intro (fun t C=>OwnS pW 1 cK (fun y=>h.size≤y) C t (oH sl++vV w++np c.toL.length 2)∧Upd No h C) (fun R P=>?_) ?_
 ·refine⟨_,rfl,s,g (i:=3) u2,?_⟩
  rw[o];refine Gj (by omega) fun s3 C f Y=>?_
  have s2':=u2.size;have N:=Y.size;refine zv (Z.upd Y fun _ _ h=>h) (f.sl (W:=No) fun _ _ _ h=>h) (fun y j=>by show h.size≤y;omega) (by rw[ad];omega) fun s4 h4 n V=>?_
  exact P _ _ ⟨n,(u2.tr Y).trans V fun y j=>.inr j⟩
 rintro t3 C ⟨f,F⟩;refine⟨_,rfl,s,g (i:=3) F,?_⟩;refine LoopP.ghost (fun(i:Nat) (t:SliceV×Int) G=>t.2=(i:Int)∧i≤c.toL.length∧OwnS pW 1 cK (fun y=>h.size≤y) G t.1 (oH sl++vV w++np c.toL.length 2++(c.toL.take i).flatMap jf)∧Upd No h G) (fun i=>c.toL.length-i) 0 ⟨rfl,bj _,by simpa using f,F⟩ ?_
 rintro I i ⟨so,ti⟩ G ⟨e1,hi,Q,H⟩ hI;simp only at e1 Q;subst e1;refine aM (fun d=>?_) fun hge=>?_
 ·have d:i<c.toL.length:=by have:(i:Int)<(s.len:Int):=d;omega
  refine Join.plain ?_;obtain⟨kb,ksl,hki,T,hkn⟩:=(hL.upd0 H).at d;obtain⟨a,ha,_,B⟩:=(hs.upd H fun _ h=>h.elim).at0 hki
  have O:((c.toL.take i).flatMap jf).length+(jf c.toL[i]).length≤(c.toL.flatMap jf).length:=by
   have e:c.toL=c.toL.take i++c.toL[i]::c.toL.drop (i+1):=by rw[List.getElem_cons_drop,aS]
   have:=congrArg (fun L=>(List.flatMap jf L).length) e
   simp only[bN,ba,ad]at this;omega
  refine⟨⟨by simp only;omega,by simp only;omega⟩,a,ha,_,B,ih _ (aY d) hkn T (by omega) fun s4 h4 n E=>?_⟩
  have N:=H.size;have X:=E.size;refine zv (Q.upd E fun _ _ h=>h) (n.sl (W:=No) fun _ _ _ h=>h) (fun y j=>by show h.size≤y;omega) (by simp only[ad];omega) fun s5 h5 D q=>?_
  simp only;rw[cO d (by omega)];refine hI (i+1) _ _ ⟨rfl,d,?_,(H.tr E).trans q fun y j=>.inr j⟩ (by omega)
  rw[bW d,bN,ba,List.flatMap_nil,bB,←az];exact D
 ·obtain rfl:i=c.toL.length:=by have:¬(i:Int)<(s.len:Int):=hge;omega
  rw[cp]at Q;exact hk _ _ Q H
theorem HX:∀{F:Fo},MO F→∀n∈F.toL,aaj n
 | .nil,_,n,a=>by simp[Fo.toL]at a
 | .cons lab w kids rest,h,n,a=>by
  rcases aB.1 a with rfl|a
  ·exact Sw h.1 h.2.1 h.2.2.1 (HX h.2.2.2.1)
  ·exact HX h.2.2.2.2 n a
end Go.Proofs
