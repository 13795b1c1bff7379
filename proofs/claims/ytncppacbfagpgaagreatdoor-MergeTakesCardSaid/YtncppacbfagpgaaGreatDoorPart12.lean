/- A part of the proof that the named laws of this program answer true, whatever the input. -/
import Derived.Test.YtncppacbfagpgaaGreatDoorPart11
import Derived.Test.YtncppacbfagpgaaGreatDoorPart4
import Derived.Test.YtncppacbfagpgaaGreatDoorPart3
import Derived.Test.YtncppacbfagpgaaGreatDoorPart8
open Int renaming tdiv→gj,tdiv_eq_ediv_of_nonneg→du,toNat_natCast→aU
open List renaming getElem?_toArray→gS,length_map→cC,length_range→sQ,length_singleton→aK,filter_append→eN,filter_cons→bJ,filter_nil→kz,append_nil→aL,length_take→aQ,take_succ_eq_append_getElem→bj,getElem?_eq_getElem→af,take_length→ce,getElem_mem→bh,replicate→iJ,length_append→ac,append_assoc→aq,zip_cons_cons→lA,mem_cons→aC,mem_cons_self→au,mem_cons_of_mem→aE,take_succ_cons→eo,cons→ft,mem_of_getLast?→jQ,drop_one→ye,tail_cons→wK,filter_eq_self→gK,pairwise_cons→aF,take_append_drop→aO,mem_map→fC,length_drop→aV,length_nil→aM,nil_append→cN,drop_eq_getElem_cons→fq,length_cons→ar,length_pos_iff→iR,flatMap_append→bI,flatMap_cons→aN
open List.Pairwise renaming nil→eI
open Nat renaming le_refl→aj,zero_add→aR,not_lt_zero→lQ,zero_le→aS,lt_or_ge→bR,shiftRight_eq_div_pow→cK,shiftRight_le→j6
open Option renaming some→bO
namespace Go.Proofs
open Go Go.Lift
def SK(q:List Pr):Int:=if q.length=1 then 1 else if 2≤q.length then 2 else 0
def dF(a:Bool)(s:SliceV)(q:Nat→List Pr)(kk:Nat→Option Addr)(i:Nat):Value:=
 if i=0 then .bool a else if i=1 then sv s else if i<34 then .int .i64 (SK (q (i-2)))else if i<98 then(if i%2=0 then .string (F4 (km (q ((i-34)/2)))).1 else .string (F4 (km (q ((i-34)/2)))).2)else .pointer (kk (i-98))
def dC(f:Nat→Value):List Value:=(List.range 130).map f
theorem JL{f:Nat→Value}{i:Nat}(h:i<130):(dC f).toArray[i]? =some (f i):=by
 unfold dC;simp[h]
theorem U7(f:Nat→Value):(dC f).toArray.size=130:=by simp[dC]
theorem abV{f:Nat→Value}{i:Nat}{v:Value}:(dC f).toArray.setIfInBounds i v=(dC fun j=>if j=i then v else f j).toArray:=by
 unfold dC;apply Array.ext_getElem?;intro j;rw[Array.getElem?_setIfInBounds];simp only[gS,List.getElem?_map,List.size_toArray,cC,sQ];by_cases e:i=j
 ·subst e
  by_cases h:i<130
  ·simp[h]
  ·simp[h]
 ·rw[if_neg e]
  by_cases h:j<130
  ·rw[List.getElem?_range h];simp only[Option.map_some];rw[if_neg fun a:j=i=>e a.symm]
  ·rw[List.getElem?_eq_none (by rw[sQ];omega)];rfl
theorem Oc{f g:Nat→Value}(h:∀i,i<130→f i=g i):(dC f).toArray=(dC g).toArray:=by
 unfold dC;rw[List.map_congr_left fun i hi=>h i (List.mem_range.1 hi)]
def DTrie(W:Nat→Prop)(x:Hs)(h:ad):Nat→Nat→List Pr→Prop
 |0,b,l=>¬W b∧∃s,h[b]? =some (.cells (dC (dF true s (fun _=> []) fun _=>none)).toArray ki (0,0))∧Sl ey 2 W h s l
 |m+1,b,l=>¬W b∧∃kk,h[b]? =some (.cells (dC (dF false ⟨none,0,0⟩ (fun c=>part x (12-m) c l) kk)).toArray ki (0,0))∧∀c,c<32→2≤(part x (12-m) c l).length→∃kb,kk c=some ⟨kb,0,none⟩∧DTrie W x h m kb (part x (12-m) c l)
theorem DTrie.upd{W M:Nat→Prop}{x:Hs}{h h':ad}(k:Upd M h h')(hm:∀b,M b→W b∨h.size≤b):∀{m b:Nat} {l:List Pr},DTrie W x h m b l→DTrie W x h' m b l
 |0,b,_,⟨nw,s,h1,h2⟩=>⟨nw,s,k.get h1 fun a=>(hm b a).elim nw fun h=>by have:=aY h1;omega,h2.upd k hm⟩
 |_+1,b,_,⟨nw,kk,h1,h2⟩=>⟨nw,kk,k.get h1 fun a=>(hm b a).elim nw fun h=>by have:=aY h1;omega,fun c hc f=>let⟨d,g,e⟩:=h2 c hc f;⟨d,g,DTrie.upd k hm e⟩⟩
theorem DTrie.less{W W':Nat→Prop}{x:Hs}{h:ad}(hm:∀b,W' b→W b):∀{m b:Nat} {l:List Pr},DTrie W x h m b l→DTrie W' x h m b l
 |0,b,_,⟨nw,s,h1,h2⟩=>⟨fun a=>nw (hm b a),s,h1,h2.less fun b a=>.inl (hm b a)⟩
 |_+1,b,_,⟨nw,kk,h1,h2⟩=>⟨fun a=>nw (hm b a),kk,h1,fun c hc f=>let⟨d,g,e⟩:=h2 c hc f;⟨d,g,DTrie.less hm e⟩⟩
abbrev aca(x:Hs)(p:Pr):List Value:= [.int .u64 (gq x p.1)]
theorem Yk(x:Hs)(p:Pr):(aca x p).length=1∧0<1:=⟨rfl,by omega⟩
def TwoS(x:Hs)(n0 a:Nat)(h:ad)(so c:SliceV)(L L':List Pr):Prop:=
 ∃A B:Nat→Prop,OwnS ey 2 bU A h so L∧OwnS (aca x) 1 rF B h c L'∧(∀b,A b→n0≤b∧b<a∧¬B b)∧∀b,B b→n0≤b∧b<a
theorem TwoS.upd0{x:Hs}{n0 b:Nat}{h h':ad}{so a:SliceV}{L L':List Pr}(t:TwoS x n0 b h so a L L')(k:Upd No h h'):TwoS x n0 b h' so a L L':=by
 obtain⟨A,B,c,h2,e,d⟩:=t;exact⟨A,B,c.upd k fun _ _ h=>h,h2.upd k fun _ _ h=>h,e,d⟩
theorem ab4{x:Hs}{n0 d:Nat}{h:ad}{so g:SliceV}{L L':List Pr}{p:Pr}(t:TwoS x n0 d h so g L L')(o:n0≤d)(n:d≤h.size)(q:L.length≤1000000){xs:List Value}(hx:xs=ey p){K:SliceV→ad→Prop}
  (k:∀s' h',TwoS x n0 h'.size h' s' g (L++ [p]) L'→Upd (fun b=>(n0≤b∧b<d)∨h.size≤b) h h'→K s' h'):AppP (some [.string (⟨#[]⟩:ByteArray),.string (⟨#[]⟩:ByteArray)]) 2 32 bU so.a so.len so.cap 1 xs h K:=by
 subst hx;obtain⟨A,B,j,h2,c,e⟩:=t;refine AppP.own (ys:= [p]) (j.more (M':=fun b=>A b∨h.size≤b) fun _ h=>.inl h) rfl rfl rfl rfl (by omega) (by simp only[aK];omega) (.inr (aj _)) fun s' h' m f=>?_
 have s:=f.size;refine k s' h' ⟨_,B,m.within,h2.upd f fun b a hm=>hm.elim (fun hm=>(c b hm).2.2 a) fun hm=>by have:=(e b a).2;omega,fun b a=>⟨?_,a.2,fun i=>?_⟩,fun b a=>⟨(e b a).1,by have:=(e b a).2;omega⟩⟩ (f.mono fun b a=>a.elim (fun a=>.inl (.inl ⟨(c b a).1,(c b a).2.1⟩)) .inr)
 ·rcases a.1 with a|a
  ·exact(c b a).1
  ·omega
 ·rcases a.1 with a|a
  ·exact(c b a).2.2 i
  ·have:=(e b i).2;omega
theorem appB{x:Hs}{n0 e:Nat}{h:ad}{so d:SliceV}{L L':List Pr}{p:Pr}(t:TwoS x n0 e h so d L L')(o:n0≤e)(n:e≤h.size)(q:L'.length≤1000000){xs:List Value}(hx:xs=aca x p){K:SliceV→ad→Prop}
  (k:∀s' h',TwoS x n0 h'.size h' so s' L (L'++ [p])→Upd (fun b=>(n0≤b∧b<e)∨h.size≤b) h h'→K s' h'):AppP (some [.int .u64 0]) 1 8 rF d.a d.len d.cap 1 xs h K:=by
 subst hx;obtain⟨A,B,j,h2,c,i⟩:=t;refine AppP.own (ys:= [p]) (h2.more (M':=fun b=>B b∨h.size≤b) fun _ h=>.inl h) rfl rfl rfl rfl (by omega) (by simp only[aK];omega) (.inr (aj _)) fun s' h' m g=>?_
 have s:=g.size;refine k s' h' ⟨A,_,j.upd g fun b a hm=>hm.elim (fun hm=>(c b a).2.2 hm) fun hm=>by have:=(c b a).2.1;omega,m.within,fun b a=>⟨(c b a).1,by have:=(c b a).2.1;omega,fun f=>?_⟩,fun b a=>⟨?_,a.2⟩⟩ (g.mono fun b a=>a.elim (fun a=>.inl (.inl (i b a))) .inr)
 ·rcases f.1 with f|f
  ·exact(c b a).2.2 f
  ·have:=(c b a).2.1;omega
 ·rcases a.1 with a|a
  ·exact(i b a).1
  ·omega
theorem VY{x:Hs}{lev c:Nat}{l:List Pr}{p:Pr}:part x lev c (l++ [p])=if ck x lev p.1=c then part x lev c l++ [p]else part x lev c l:=by
 unfold part;rw[eN,bJ,kz];by_cases h:ck x lev p.1=c
 ·rw[if_pos h,if_pos (decide_eq_true h)]
 ·rw[if_neg h,if_neg (by simpa using h),aL]
abbrev CD(x:Hs)(lev:Nat)(l:List Pr)(n:Nat)(c:Nat):List Pr:=if c<n then part x lev c l else[]
theorem Nu{x:Hs}{lev n c:Nat}{l:List Pr}(h:c≠n):CD x lev l (n+1) c=CD x lev l n c:=by
 unfold CD;by_cases hc:c<n
 ·rw[if_pos hc,if_pos (by omega)]
 ·rw[if_neg hc,if_neg (by omega)]
theorem Nv{x:Hs}{lev n:Nat}{l:List Pr}:CD x lev l (n+1) n=part x lev n l:=if_pos (by omega)
theorem Nt{x:Hs}{lev n:Nat}{l:List Pr}:CD x lev l n n= []:=if_neg (by omega)
structure DOf(W:Nat→Prop)(x:Hs)(lev m:Nat)(h0 h:ad)(l:List Pr)(n:Nat)(kk:Nat→Option Addr):Prop where
 blk:h[h0.size]? =some (.cells (dC (dF false ⟨none,0,0⟩ (CD x lev l n) kk)).toArray ki (0,0))
 upd:Upd No h0 h
 kid:∀c,c<n→2≤(part x lev c l).length→∃kb,kk c=some ⟨kb,0,none⟩∧DTrie (fun y=>W y∨y=h0.size) x h m kb (part x lev c l)
theorem ac0{c:Bool}{s:SliceV}{q q':Nat→List Pr}{kk b:Nat→Option Addr}{i:Nat}(h:i<2):dF c s q kk i=dF c s q' b i:=by
 unfold dF;by_cases a:i=0
 ·rw[if_pos a,if_pos a]
 ·rw[if_neg a,if_neg a,if_pos (by omega),if_pos (by omega)]
section
variable {bu:Bool} {s:SliceV} {q q':Nat→List Pr} {kk kk':Nat→Option Addr} {i:Nat}
theorem U6(h:2≤i)(h':i<34):dF bu s q kk i=.int .i64 (SK (q (i-2))):=by
 unfold dF;rw[if_neg (by omega),if_neg (by omega),if_pos h']
theorem Qx(h:34≤i)(h':i<98)(e:i%2=0):dF bu s q kk i=.string (F4 (km (q ((i-34)/2)))).1:=by
 unfold dF;rw[if_neg (by omega),if_neg (by omega),if_neg (by omega),if_pos h',if_pos e]
theorem Qv(h:34≤i)(h':i<98)(e:¬i%2=0):dF bu s q kk i=.string (F4 (km (q ((i-34)/2)))).2:=by
 unfold dF;rw[if_neg (by omega),if_neg (by omega),if_neg (by omega),if_pos h',if_neg e]
theorem Qw(h:98≤i):dF bu s q kk i=.pointer (kk (i-98)):=by
 unfold dF;rw[if_neg (by omega),if_neg (by omega),if_neg (by omega),if_neg (by omega)]
theorem U5{c:Nat}(hc:c<32)(b:∀j,j≠c→q' j=q j)(d:∀j,j≠c→kk' j=kk j)(i:Nat):
  dF bu s q' kk' i=if i=2+c then .int .i64 (SK (q' c))else if i=34+c*2 then .string (F4 (km (q' c))).1 else if i=34+c*2+1 then .string (F4 (km (q' c))).2 else if i=98+c then .pointer (kk' c)else dF bu s q kk i:=by
 rcases(show i<2∨(2≤i∧i<34)∨(34≤i∧i<98)∨98≤i by omega)with h|h|h|h
 ·rw[if_neg (by omega),if_neg (by omega),if_neg (by omega),if_neg (by omega)];exact ac0 h
 ·by_cases e:i=2+c
  ·rw[if_pos e,U6 h.1 h.2,show i-2=c by omega]
  ·rw[if_neg e,if_neg (by omega),if_neg (by omega),if_neg (by omega),U6 h.1 h.2,U6 h.1 h.2,b _ (by omega)]
 ·rw[if_neg (show ¬i=2+c by omega)]
  by_cases e:(i-34)/2=c
  ·by_cases a:i%2=0
   ·rw[if_pos (by omega),Qx h.1 h.2 a,e]
   ·rw[if_neg (by omega),if_pos (by omega),Qv h.1 h.2 a,e]
  ·rw[if_neg (by omega),if_neg (by omega),if_neg (by omega)]
   by_cases a:i%2=0
   ·rw[Qx h.1 h.2 a,Qx h.1 h.2 a,b _ e]
   ·rw[Qv h.1 h.2 a,Qv h.1 h.2 a,b _ e]
 ·rw[if_neg (by omega),if_neg (by omega),if_neg (by omega)]
  by_cases e:i=98+c
  ·rw[if_pos e,Qw h,show i-98=c by omega]
  ·rw[if_neg e,Qw h,Qw h,d _ (by omega)]
end
theorem Yy{h:ad}{b i:Nat}{f:Nat→Value}{t:TypeId}{v:Value}{k:ad→Prop}(c:h[b]? =some (.cells (dC f).toArray t (0,0))) (hi:i<130) (d:∀h',h'[b]? =some (.cells (dC fun j=>if j=i then v else f j).toArray t (0,0))→Upd (· =b) h h'→k h'):
  Wr h ⟨b,i,none⟩∧At (hset h ⟨b,i,none⟩ v) k:=
 ⟨ip c (by rw[U7];exact hi),wr c fun h' a e=>d h' (abV▸a) e⟩
theorem acY{h:ad}{b i:Nat}{f:Nat→Value}{t:TypeId}{v w:Value}{k:ad→Prop}(m:h[b]? =some (.cells (dC f).toArray t (0,0))) (hi:i+1<130)
  (n:∀h',h'[b]? =some (.cells (dC fun j=>if j=i+1 then w else if j=i then v else f j).toArray t (0,0))→Upd (· =b) h h'→k h'):rE h (some ⟨b,i,none⟩) 0 [v,w]∧At (fS h ⟨b,i,none⟩ 0 [v,w]) k:=by
 refine⟨.inr ⟨_,rfl,fun j o=>by rw[cd];exact ip m (by rw[U7];simp at o;omega)⟩,bG ?_⟩
 simp only[fS,cd,Nat.add_zero,aR];exact(Yy (k:=fun g=>k (hset g ⟨b,i+1,none⟩ w)) m (by omega) fun g a d=>(Yy (k:=k) a hi fun h2 c e=>n h2 c (d.tr e)).2).2
set_option maxRecDepth 4000 in
theorem abw{x:Hs}:∀(m:Nat),m≤13→∀{W:Nat→Prop} {h:ad} {s sh:SliceV} {l:List Pr},Sl ey 2 W h s l→(∀y,W y→y<h.size)→Sl (aca x) 1 No h sh l→l.length≤60000→∀{K:Option Addr→ad→Prop},(∀h' b,DTrie W x h' m b l→Upd No h h'→K (some ⟨b,0,none⟩) h')→
  HC PG Eo [.slice s.a s.len s.cap,.slice sh.a sh.len sh.cap,.int .i64 ((13-m:Nat):Int)] [.c .ptr] K h:=by
 intro m;induction m with
 |zero=>
  intro _ W h s sh l hs hW S hn K hk;refine QS s sh ((13-0:Nat):Int) ?_;unfold KD bE bT nv az av lO iU dy ga Vq nX;refine aw.2 (aP fun o b1 k1=>?_)
  refine hk o h.size ⟨fun f=>by have:=hW _ f;omega,s,?_,hs.upd k1 fun _ h=>h.elim⟩ k1
  rw[b1];exact congrArg some (congrArg (fun c=>Obj.cells c ki (0,0)) (by kernel_rfl))
 |succ m ih=>
  intro hm W h s sh l hs hW S hn K hk;have nwh:¬W h.size:=fun f=>by have:=hW _ f;omega
  refine QS s sh ((13-(m+1):Nat):Int) ?_;unfold KD bE bT nv az av lO iU dy ga Vq nX;have e13:(((13-(m+1):Nat):Int)==(13:Int))=false:=by rw[beq_eq_false_iff_ne];omega
  rw[e13];refine ag.2 (aP fun o b1 k1=>?_)
  have b1':o[h.size]? =some (.cells (dC (dF false ⟨none,0,0⟩ (CD x (12-m) l 0) fun _=>none)).toArray ki (0,0)):=by
   have:CD x (12-m) l 0=fun _=> []:=by funext c;exact if_neg (by omega)
   rw[b1,this];exact congrArg some (congrArg (fun c=>Obj.cells c ki (0,0)) (by kernel_rfl))
  clear b1;have elev:(13-(m+1):Nat)=12-m:=by omega
  rw[elev];refine LoopP.ghost (fun(g:Nat×(Nat→Option Addr)) (t:Int) h'=>t=(g.1:Int)∧g.1≤32∧DOf W x (12-m) m h h' l g.1 g.2) (fun g=>32-g.1) (0,fun _=>none) ⟨rfl,by omega,b1',k1,fun c hc=>absurd hc (lQ _)⟩ ?_
  rintro I ⟨c,kk⟩ t hc ⟨rfl,hc32,E⟩ hI;simp only at hc32 E;have s1:=E.upd.size;have zc:=aY E.blk;refine ax (fun w=>?_) fun hge=>?_
  ·have w:c<32:=by have:(c:Int)<32:=w;omega
   refine Join.intro (fun(_:Unit) h'=>∃kk',DOf W x (12-m) m h h' l (c+1) kk') (fun R hR=>?_) ?_
   ·
    refine LoopP.ghost (fun(i:Nat) (t:SliceV×SliceV×Int) h'=>t.2.2=(i:Int)∧i≤l.length∧TwoS x hc.size h'.size h' t.1 t.2.1 (part x (12-m) c (l.take i)) (part x (12-m) c (l.take i))∧Upd No hc h') (fun i=>l.length-i) 0 ⟨rfl,aS _,⟨No,No,OwnS.nil fU,OwnS.nil (Yk x),fun _ h=>h.elim,fun _ h=>h.elim⟩,Upd.refl _ _⟩ ?_
    rintro I2 i ⟨so,ss,ti⟩ hi ⟨e1,hil,hT,hu⟩ hI2;simp only at e1 hT;subst e1;have hlen:=hs.len;have hlen2:=S.len;have s2:=hu.size;have hsi:=(hs.upd E.upd fun _ h=>h.elim).upd hu fun _ h=>h.elim
    have hshi:=(S.upd E.upd fun _ h=>h.elim).upd hu fun _ h=>h.elim
    refine ax (fun d=>?_) fun hge2=>?_
    ·have d:i<l.length:=by have:(i:Int)<(s.len:Int):=d;omega
     have hpl:(part x (12-m) c (l.take i)).length≤60000:=by
      have:=li (x:=x) (lev:=12-m) (c:=c) (l:=l.take i);rw[aQ]at this;omega
     have U:part x (12-m) c (l.take (i+1))=if ck x (12-m) l[i].1=c then part x (12-m) c (l.take i)++ [l[i]]else part x (12-m) c (l.take i):=by rw[bj d,VY]
     refine Join.intro (fun(t:SliceV×SliceV) h'=>TwoS x hc.size h'.size h' t.1 t.2 (part x (12-m) c (l.take (i+1))) (part x (12-m) c (l.take (i+1)))∧Upd No hc h') (fun R2 D=>?_) ?_
     ·obtain⟨a,ha,_,hv⟩:=hsi.at (af d)
      refine⟨⟨by simp only;omega,by simp only;omega⟩,a,ha,_,hv 0 _ rfl,_,hv 1 _ rfl,tl (p:=l[i]) fun F b3 k3=>?_⟩
      obtain⟨a',ha',_,Y⟩:=(hshi.upd k3 fun _ h=>h.elim).at0 (af d)
      refine⟨⟨by simp only;omega,by simp only;omega⟩,a',ha',_,Y,acx (lev:=12-m) (by omega) ?_⟩
      have X:=hT.upd0 k3;have s3:=k3.size;refine CondP.intro (fun e=>?_) fun e=>?_
      ·have e:ck x (12-m) l[i].1=c:=by
        have:((ck x (12-m) l[i].1:Nat):Int)=(c:Int):=by simpa using e
        omega
       rw[if_pos e]at U;rw[U]at D;have uu:∀{h':ad},Upd (fun b=>hc.size≤b) F h'→Upd No hc h':=fun k=>(hu.tr k3).trans k fun y f=>.inr f
       have hab:a'.block<h.size:=S.lt (fun e=>by rw[e]at d;simp at d) ha'
       have sD:=E.upd.size;have wide:∀{n:Nat} {o h2:ad},hc.size≤o.size→Upd (fun b=>(hc.size≤b∧b<n)∨o.size≤b) o h2→Upd (fun b=>hc.size≤b) o h2:=fun hz k=>k.mono fun y f=>.inl (f.elim (fun h=>h.1) fun h=>by omega)
       refine⟨_,vc b3 0,_,vc b3 1,⟨by simp only;omega,by simp only;omega⟩,a',ha',_,Y,?_,?_⟩
       ·refine aP fun V P u=>⟨u.cell0 Y,?_,?_⟩
        ·have s4:=u.size
         refine⟨_,m0 P,ab4 (p:=l[i]) (X.upd0 u) (by omega) (by omega) (by omega) rfl fun s5 h5 H L=>⟨L.cell (u.cell0 Y) (by rw[BK];omega),aP fun h6 b6 C=>?_⟩⟩
         have s5':=L.size;have s6:=C.size;refine⟨_,m0 b6,appB (p:=l[i]) (H.upd0 C) (by omega) (by omega) (by omega) rfl fun s7 h7 N k7=>?_⟩
         exact D _ _ ⟨N,uu (((u.wide.tr (wide (by omega) L)).tr C.wide).tr (wide (by omega) k7))⟩
        ·refine aP fun h6 b6 C=>?_
         have s4:=u.size;have s6:=C.size;have z6:=aY b6;refine⟨_,m0 (C.get0 P),ab4 (p:=l[i]) ((X.upd0 u).upd0 C) (by omega) (by omega) (by omega) rfl fun s5 h5 H L=>?_⟩
         have s5':=L.size;refine⟨_,m0 (L.get b6 (by omega)),appB (p:=l[i]) H (by omega) (by omega) (by omega) rfl fun s7 h7 N k7=>?_⟩
         exact D _ _ ⟨N,uu (((u.wide.tr C.wide).tr (wide (by omega) L)).tr (wide (by omega) k7))⟩
       ·refine aP fun V P u=>⟨⟨vc (u.get0 b3) 0,vc (u.get0 b3) 1⟩,aP fun h6 b6 C=>?_⟩
        have s4:=u.size;have s6:=C.size;have z4:=aY P;refine⟨_,m0 b6,ab4 (p:=l[i]) ((X.upd0 u).upd0 C) (by omega) (by omega) (by omega) rfl fun s5 h5 H L=>?_⟩
        have s5':=L.size;refine⟨_,m0 (L.get (C.get0 P) (by omega)),appB (p:=l[i]) H (by omega) (by omega) (by omega) rfl fun s7 h7 N k7=>?_⟩
        exact D _ _ ⟨N,uu (((u.wide.tr C.wide).tr (wide (by omega) L)).tr (wide (by omega) k7))⟩
      ·have e:¬ck x (12-m) l[i].1=c:=fun e'=>by
        have:¬((ck x (12-m) l[i].1:Nat):Int)=(c:Int):=by simpa using e
        omega
       rw[if_neg e]at U;rw[U]at D;obtain⟨A,B,v,O,G,q4⟩:=X;exact D _ _ ⟨⟨A,B,v,O,fun b hb=>⟨(G b hb).1,by have:=(G b hb).2.1;omega,(G b hb).2.2⟩,fun b hb=>⟨(q4 b hb).1,by have:=(q4 b hb).2;omega⟩⟩,hu.tr k3⟩
     ·rintro⟨so',ss'⟩ h' ⟨hT',hu'⟩
      simp only;rw[cS d (by omega)];exact hI2 (i+1) _ _ ⟨rfl,d,hT',hu'⟩ (by omega)
    ·have hil':i=l.length:=by have:¬(i:Int)<(s.len:Int):=hge2;omega
     subst hil';rw[ce]at hT;have hDi:h.size<hi.size:=by omega
     have hbi:=hu.get0 E.blk;have hki:∀c',c'<c→2≤(part x (12-m) c' l).length→∃J,kk c'=some ⟨J,0,none⟩∧DTrie (fun y=>W y∨y=h.size) x hi m J (part x (12-m) c' l):=fun c' o h2=>let⟨J,F,V⟩:=E.kid c' o h2;⟨J,F,DTrie.upd hu (fun _ h=>h.elim) V⟩
     obtain⟨A,B,hA,hB,hA',hB'⟩:=hT;have Q:Sl ey 2 (fun y=>W y∨y=h.size) hi so (part x (12-m) c l):=hA.sl fun y f _ hw=>by
      have:=(hA' y f).1;rcases hw with hw|hw
      ·have:=hW y hw;omega
      ·omega
     have hsB:Sl (aca x) 1 No hi ss (part x (12-m) c l):=hB.sl fun _ _ _ h=>h
     have hq:=Q.len;have hpl:(part x (12-m) c l).length≤l.length:=li;have hU:=E.upd.tr hu;refine Join.plain ?_;refine CondP.intro (fun e=>?_) fun e=>?_
     ·
      have e:so.len=1:=by
       have:((so.len:Nat):Int)=1:=by simpa using e
       omega
      have hone:(part x (12-m) c l).length=1:=by omega
      obtain⟨p,hp⟩:=List.length_eq_one_iff.1 hone;rw[hp]at Q;obtain⟨a,ha,_,hv⟩:=Q.at (i:=0) (x:=p) rfl;refine⟨⟨by decide,by simp only;omega⟩,a,ha,_,hv 0 _ rfl,_,hv 1 _ rfl,_,rfl,⟨by omega,by omega⟩,_,rfl,?_⟩
      have ew:((c:Int).toNat*1)=c:=by omega
      have ew2:((c:Int).toNat*2)=c*2:=by omega
      simp only[ew,ew2,cT h,cd,aR];refine Yy hbi (by omega) fun F b3 u3=>⟨⟨by omega,by omega⟩,acY b3 (by omega) fun V P u4=>ax (fun hl=>by omega) fun _=>?_⟩
      have z:Upd (· =h.size) hi V:=u3.tr u4
      refine hR _ _ ⟨kk,?_,hU.own z (aj _),fun c' o h2=>?_⟩
      ·rw[P]
       refine congrArg some (congrArg (fun c=>Obj.cells c ki (0,0)) (Oc fun j M=>?_))
       rw[U5 (q:=CD x (12-m) l c) (q':=CD x (12-m) l (c+1)) (kk:=kk) w (fun j M=>Nu M) (fun _ _=>rfl),Nv,hp]
       have e1:SK [p]=1:=rfl;have e2:F4 (km [p])=p:=rfl;rw[e1,e2];by_cases v:j=2+c
       ·rw[if_neg (by omega),if_neg (by omega),if_pos v,if_pos v]
       ·by_cases O:j=34+c*2
        ·rw[if_neg (by omega),if_pos O,if_neg v,if_pos O]
        ·by_cases G:j=34+c*2+1
         ·rw[if_pos G,if_neg v,if_neg O,if_pos G]
         ·rw[if_neg G,if_neg O,if_neg v,if_neg v,if_neg O,if_neg G]
          by_cases q4:j=98+c
          ·rw[if_pos q4,Qw (by omega),show j-98=c by omega]
          ·rw[if_neg q4]
      ·rcases bR c' c with Z|Z
       ·obtain⟨J,h3',h4'⟩:=hki c' Z h2
        exact⟨J,h3',DTrie.upd z (fun y f=>.inl (.inr f)) h4'⟩
       ·rw[show c'=c by omega,hone]at h2;omega
     ·have e:¬so.len=1:=fun e'=>by
       have:¬((so.len:Nat):Int)=1:=by simpa using e
       omega
      refine ax (fun T=>?_) fun hle=>?_
      ·
       have T:2≤(part x (12-m) c l).length:=by have:(so.len:Int)>1:=T;omega
       refine⟨_,rfl,_,rfl,?_⟩;have e14:IntKind.wrap .i64 (((12-m:Nat):Int)+1)=((13-m:Nat):Int):=by rw[eJ (by omega)];omega
       rw[e14];refine ih (by omega) Q (fun y f=>f.elim (fun f=>by have:=hW y f;omega) fun f=>by omega) hsB (by omega) fun h2 J tk k2=>⟨⟨by omega,by omega⟩,?_⟩
       have ew:((c:Int).toNat*1)=c:=by omega
       simp only[ew,cT h,cd,aR];refine Yy (k2.get0 hbi) (by omega) fun F b3 u3=>⟨⟨by omega,by omega⟩,Yy b3 (by omega) fun V P u4=>?_⟩
       have z:Upd (· =h.size) h2 V:=u3.tr u4
       refine hR _ _ ⟨fun j=>if j=c then some ⟨J,0,none⟩else kk j,?_,(hU.tr k2).own z (aj _),fun c' o h2=>?_⟩
       ·rw[P]
        refine congrArg some (congrArg (fun c=>Obj.cells c ki (0,0)) (Oc fun j M=>?_))
        rw[U5 (q:=CD x (12-m) l c) (q':=CD x (12-m) l (c+1)) (kk:=kk) w (fun j M=>Nu M) (fun _ M=>if_neg M),Nv]
        have e1:SK (part x (12-m) c l)=2:=by unfold SK;rw[if_neg (by omega),if_pos T]
        have e2:km (part x (12-m) c l)=none:=by
         match part x (12-m) c l,T with
         |a::b::r,_=>rfl
        rw[e1,e2,if_pos rfl];by_cases v:j=2+c
        ·rw[if_neg (by omega),if_pos v,if_pos v]
        ·by_cases q4:j=98+c
         ·rw[if_pos q4,if_neg v,if_neg (by omega),if_neg (by omega),if_pos q4]
         ·rw[if_neg q4,if_neg v,if_neg v]
          by_cases O:j=34+c*2
          ·rw[if_pos O,Qx (by omega) (by omega) (by omega),show(j-34)/2=c by omega,Nt];rfl
          ·rw[if_neg O]
           by_cases G:j=34+c*2+1
           ·rw[if_pos G,Qv (by omega) (by omega) (by omega),show(j-34)/2=c by omega,Nt];rfl
           ·rw[if_neg G,if_neg q4]
       ·rcases bR c' c with Z|Z
        ·obtain⟨kb',h3',h4'⟩:=hki c' Z h2
         exact⟨kb',by rw[if_neg (by omega)];exact h3',DTrie.upd z (fun y f=>.inl (.inr f)) (DTrie.upd k2 (fun _ h=>h.elim) h4')⟩
        ·obtain rfl:c'=c:=by omega
         exact⟨J,if_pos rfl,DTrie.upd z (fun y f=>.inl (.inr f)) tk⟩
      ·
       have hnil:part x (12-m) c l= []:=List.length_eq_zero_iff.1 (by have:¬(so.len:Int)>1:=hle;omega);refine hR _ _ ⟨kk,?_,hU,fun c' o h2=>?_⟩
       ·rw[hbi]
        refine congrArg some (congrArg (fun c=>Obj.cells c ki (0,0)) (Oc fun j M=>?_))
        have:CD x (12-m) l (c+1)=CD x (12-m) l c:=by
         funext j;by_cases M:j=c
         ·rw[M,Nv,Nt,hnil]
         ·exact Nu M
        rw[this]
       ·rcases bR c' c with Z|Z
        ·exact hki c' Z h2
        ·rw[show c'=c by omega,hnil]at h2;simp at h2
   ·rintro _ h' ⟨kk',hD'⟩
    rw[cS w (by omega)];exact hI (c+1,kk') _ _ ⟨rfl,w,hD'⟩ (by simp only;omega)
  ·obtain rfl:c=32:=by have:¬(c:Int)<32:=hge;omega
   refine hk hc h.size ⟨nwh,kk,?_,fun c hc hp=>let⟨J,F,V⟩:=E.kid c hc hp;⟨J,F,DTrie.less (fun _ h=>.inl h) V⟩⟩ E.upd
   rw[E.blk];refine congrArg some (congrArg (fun c=>Obj.cells c ki (0,0)) (Oc fun i hi=>?_))
   have:∀c,c<32→CD x (12-m) l 32 c=part x (12-m) c l:=fun c hc=>if_pos hc
   unfold dF;by_cases h0:i<34
   ·by_cases o:i=0
    ·rw[if_pos o,if_pos o]
    ·by_cases h2:i=1
     ·rw[if_neg o,if_neg o,if_pos h2,if_pos h2]
     ·rw[if_neg o,if_neg o,if_neg h2,if_neg h2,if_pos h0,if_pos h0,this _ (by omega)]
   ·rw[if_neg (show ¬i=0 by omega),if_neg (show ¬i=0 by omega),if_neg (show ¬i=1 by omega),if_neg (show ¬i=1 by omega),if_neg h0,if_neg h0]
    by_cases F:i<98
    ·rw[if_pos F,if_pos F,this _ (by omega)]
    ·rw[if_neg F,if_neg F]
end Go.Proofs
namespace Go.Proofs
open Go Go.Lift
theorem XS{x:Hs}{h:ad}{s:SliceV}{l:List Pr}(C:Sl ey 2 No h s l)(G:l.length≤60000)(o:∀p∈l,p.1.size≤1000000){K:Option Addr→ad→Prop}(E:∀h' b,DTrie No x h' 13 b l→Upd No h h'→K (some ⟨b,0,none⟩) h'):
  HC PG JF [.agg #[.int .u64 x.k0,.int .u64 x.k1,.int .u64 x.mask],.slice s.a s.len s.cap,.int .i64 0] [.c .ptr] K h:=by
 refine Y9 (x.k0,x.k1,x.mask) s 0 ?_;unfold Q7 bT ae nv AA wN az av lO iU Vq;refine aP fun u b1 k1=>?_
 have B:=C.len;refine LoopP.ghost (fun(i:Nat) (t:SliceV×Int) h'=>t.2=(i:Int)∧i≤l.length∧OwnS (aca x) 1 rF (fun b=>u.size≤b) h' t.1 (l.take i)∧Upd No u h') (fun i=>l.length-i) 0 ⟨rfl,aS _,OwnS.nil (Yk x),Upd.refl _ _⟩ ?_
 rintro I i ⟨so,P⟩ h' ⟨A,hi,g,f⟩ D;simp only at A g;subst A;have d:=(C.upd k1 fun _ h=>h.elim).upd f fun _ h=>h.elim
 refine ax (fun c=>?_) fun k=>?_
 ·have c:i<l.length:=by have:(i:Int)<(s.len:Int):=c;omega
  refine Join.plain ?_;obtain⟨a,J,_,hv⟩:=d.at (af c);refine⟨⟨by simp only;omega,by simp only;omega⟩,a,J,_,hv 0 _ rfl,_,hv 1 _ rfl,tl (p:=l[i]) fun h2 b2 e=>?_⟩
  have n:=e.get0 (f.get0 b1);refine⟨_,vc n 0,_,vc n 1,_,vc n 2,_,vc b2 0,XU (by have:=o _ (bh c);omega) fun O w=>aP fun N F z=>⟨_,m0 F,?_⟩⟩
  have v:=((f.tr e).tr w).tr z;refine AppP.own (M:=fun b=>u.size≤b) (ys:= [l[i]]) (((g.upd e fun _ _ h=>h).upd w fun _ _ h=>h).upd z fun _ _ h=>h) rfl rfl rfl rfl (by omega) (by simp only[aK,aQ];omega) v.size fun Q R q j=>?_
  simp only;rw[cS c (by omega)];refine D (i+1) _ _ ⟨rfl,c,?_,v.trans j fun y L=>.inr L⟩ (by omega)
  rw[bj c];exact q
 ·have m:i=l.length:=by have:¬(i:Int)<(s.len:Int):=k;omega
  subst m;rw[ce]at g;exact abw 13 (aj _) d (fun _ h=>h.elim) (g.sl fun _ _ _ h=>h) G fun h2 b H e=>E h2 b H ((k1.tr f).tr e)
theorem L5(n:Nat):IntKind.wrap .u8 (n:Int)=((UInt8.ofNat n).toNat:Int):=by rw[IntKind.wrap_u8];simp
theorem H1{n:Nat}(e:n≤1000000000){h:ad}{K:SliceV→ad→Prop}(d:∀s' h',OwnS rD 1 cQ (fun y=>h.size≤y) h' s' (pe n 2)→Upd No h h'→K s' h'):HC PG vN [.int .i64 (n:Int)] [.c .slice] K h:=by
 refine WS (n:Int) ?_;unfold Nd Zv;have b:gj (n:Int) 256=((n>>>(8*1):Nat):Int):=by rw[du (by omega),cK];rfl
 have a:n>>>(8*1)≤n:=j6 ..;rw[b,eJ (by generalize n>>>(8*1)=y at a;omega),L5,L5];refine⟨by decide,aP fun c b1 k1=>d _ c ⟨rfl,wn,aj _,.inr ⟨h.size,[],rfl,aj _,b1,rfl⟩⟩ k1⟩
theorem PF{n:Nat}(f:n<4294967296){h:ad}{K:SliceV→ad→Prop}(d:∀s' h',OwnS rD 1 cQ (fun y=>h.size≤y) h' s' (pe n 4)→Upd No h h'→K s' h'):HC PG zu [.int .u32 (n:Int)] [.c .slice] K h:=by
 refine TF (n:Int) ?_;unfold KC acg;have q:∀k:Nat,((n>>>k:Nat):Int)<4294967296:=fun k=>by have:n>>>k≤n:=j6 ..;generalize n>>>k=y at this;omega
 have a:gj (n:Int) 256=((n>>>(8*1):Nat):Int):=by rw[du (by omega),cK];rfl
 have e:gj (n:Int) 65536=((n>>>(8*2):Nat):Int):=by rw[du (by omega),cK];rfl
 have b:gj (n:Int) 16777216=((n>>>(8*3):Nat):Int):=by rw[du (by omega),cK];rfl
 have w:∀k:Nat,IntKind.wrap .u32 ((n>>>k:Nat):Int)=((n>>>k:Nat):Int):=fun k=>by have:=q k;generalize n>>>k=y at this;rw[IntKind.wrap_u32];omega
 rw[a,e,b,w,w,w,L5,L5,L5,L5];refine⟨by decide,by decide,by decide,aP fun c b1 k1=>d _ c ⟨rfl,wn,aj _,.inr ⟨h.size,[],rfl,aj _,b1,rfl⟩⟩ k1⟩
theorem Bb{M W:Nat→Prop}{h:ad}{so e:SliceV}{out ys:List UInt8}{K:SliceV→ad→Prop}(d:OwnS rD 1 cQ M h so out)(a:Sl rD 1 W h e ys)(hM:∀b,h.size≤b→M b)(f:out.length+ys.length≤140737488355328)
  (c:∀s' h',OwnS rD 1 cQ M h' s' (out++ys)→Upd M h h'→K s' h'):∃xs,SRow h e.a (e.len*1) xs∧AppP (some [.int .u8 0]) 1 1 cQ so.a so.len so.cap e.len xs h K:=
 ⟨_,a.srow,AppP.own (ys:=ys) d a.len rfl (D7 _) rfl (by omega) (by omega) (hM _ (aj _)) c⟩
theorem D5{b:ByteArray}(s:b.size≤1000000){h:ad}{K:SliceV→ad→Prop}(n:∀s' h',OwnS rD 1 cQ (fun y=>h.size≤y) h' s' (qh b)→Upd No h h'→K s' h'):HC PG tN [.string b] [.c .slice] K h:=by
 refine TD b ?_;unfold Kz;refine H1 (by omega) fun t a f k1=>?_
 intro c hc;have d:=Upd.push No a (.cells (fc b++iJ (c-b.size) (Value.int .u8 0)).toArray cQ (c,c+1));have b2:=Az a (.cells (fc b++iJ (c-b.size) (Value.int .u8 0)).toArray cQ (c,c+1));generalize a.push (.cells (fc b++iJ (c-b.size) (Value.int .u8 0)).toArray cQ (c,c+1))=h2 at d b2;have u:b.data.toList.length=b.size:=by simp
 have e:Sl rD 1 No h2 ⟨some (ay a),b.size,c⟩ b.data.toList:=by
  refine⟨by simp,wn,fun _=>⟨_,rfl,id,ox b2 fun i v hv=>?_⟩⟩
  rw[aR,gS,Ba,List.getElem?_append_left (List.getElem?_eq_some_iff.1 hv).1];exact hv
 have k:=k1.size;have q:=d.size;refine Bb (f.upd d fun _ _ h=>h) e (fun y j=>by show h.size≤y;omega) (by rw[dK];omega) fun p o g m=>n p o g ((k1.tr d).trans m fun y j=>.inr j)
theorem FR{W:Nat→Prop}{h:ad}{s:SliceV}{l:List Pr}(D:Sl ey 2 W h s l)(A:Fit l)(Y:l.length≤60000){K:SliceV→ad→Prop}(F:∀s' h',OwnS rD 1 cQ (fun y=>h.size≤y) h' s' (mG l)→Upd No h h'→K s' h'):
  HC PG uF [.slice s.a s.len s.cap] [.c .slice] K h:=by
 refine QQ s ?_;unfold Hp bT nv az av lO iU;have C:=D.len;refine LoopP.ghost (fun(i:Nat) (t:SliceV×Int) h'=>t.2=(i:Int)∧i≤l.length∧OwnS rD 1 cQ (fun b=>h.size≤b) h' t.1 (mG (l.take i))∧Upd No h h') (fun i=>l.length-i) 0 ⟨rfl,aS _,OwnS.nil wn,Upd.refl _ _⟩ ?_
 rintro I i ⟨so,ti⟩ h' ⟨B,hi,g,f⟩ E;simp only at B g;subst B;refine ax (fun c=>?_) fun k=>?_
 ·have c:i<l.length:=by have:(i:Int)<(s.len:Int):=c;omega
  refine Join.plain ?_;obtain⟨a,R,_,hv⟩:=(D.upd f fun _ h=>h.elim).at (af c)
  have O:=A l[i] (bh c);have v:=pa (l:=l.take i) fun q H=>A q (List.mem_of_mem_take H)
  rw[aQ,Nat.min_eq_left hi]at v;have h1:=kW l[i].1;have h2:=kW l[i].2;refine⟨⟨by simp only;omega,by simp only;omega⟩,a,R,_,hv 0 _ rfl,_,hv 1 _ rfl,tl (p:=l[i]) fun h2 b2 w=>?_⟩
  refine⟨_,vc b2 0,_,vc b2 1,D5 (by omega) fun s3 Z x e=>⟨vc (e.get0 b2) 1,?_⟩⟩
  have J:=(f.tr w).tr e;have T:=aY b2;have Q:=w.size;have G:=e.size;have U:=f.size;refine Bb (M:=fun y=>h.size≤y∧y≠h'.size) (((g.within.upd w fun _ _ h=>h).upd e fun _ _ h=>h).more fun y d=>⟨d.1,by omega⟩) (x.sl (W:=No) fun _ _ _ h=>h) (fun y d=>by omega) (by omega) fun X S z u=>⟨vc (u.get (e.get0 b2) (by omega)) 1,?_⟩
  have P:=u.size;refine D5 (by omega) fun s5 h5 o m=>?_
  have N:=m.size;refine Bb (M:=fun y=>h.size≤y) ((z.upd m fun _ _ h=>h).more fun y d=>d.1) (o.sl (W:=No) fun _ _ _ h=>h) (fun y d=>by show h.size≤y;omega) (by rw[ac];omega) fun V h6 j L=>?_
  simp only;rw[cS c (by omega)];refine E (i+1) _ _ ⟨rfl,c,?_,(((J.trans u fun y d=>.inr d.1)).tr m).trans L fun y d=>.inr d⟩ (by omega)
  rw[GX c,GY,←aq];exact j
 ·have n:i=l.length:=by have:¬(i:Int)<(s.len:Int):=k;omega
  subst n;rw[ce]at g;exact F _ _ g f
theorem VR{W W':Nat→Prop}{h:ad}{s s':SliceV}{l:List UInt8}(f:Sl rD 1 W h s l)(c:Sl rD 1 W' h s' l)(n:l.length≤1000000000000){K:Bool→ad→Prop}(k:K true h):HC PG Df [.slice s.a s.len s.cap,.slice s'.a s'.len s'.cap] [.c .bool] K h:=by
 refine TE s s' ?_;unfold KA bE bT;have j:=f.len;have h2:=c.len;rw[j,h2,bne_self_eq_false];refine ag.2 ?_;refine LoopP.ghost (fun(i:Nat) (t:Int) h'=>t=(i:Int)∧i≤l.length∧h'=h) (fun i=>l.length-i) 0 ⟨rfl,aS _,rfl⟩ ?_
 rintro I i t h' ⟨rfl,hi,rfl⟩ g;refine ax (fun b=>?_) fun _=>k
 have b:i<l.length:=by omega
 obtain⟨a,m,_,hv⟩:=f.at0 (af b);obtain⟨a',d,_,e⟩:=c.at0 (af b);refine⟨⟨by omega,by omega⟩,a,m,_,hv,⟨by omega,by omega⟩,a',d,_,e,?_⟩
 rw[bne_self_eq_false];refine ag.2 ?_;rw[cS b (by omega)];exact g (i+1) _ _ ⟨rfl,b,rfl⟩ (by omega)
end Go.Proofs
namespace Go.Proofs
open Go Go.Lift
abbrev adO(lab:ByteArray)(has:Bool)(val:ByteArray)(s:SliceV)(_:Option Addr):Array Value:= #[.string lab,.bool has,.string val,sv s]
def DxF(W:Nat→Prop)(h:ad):Fo→List (Option Addr)→Prop
 | .nil,ks=>ks= []
 | .cons lab w kids rest,ks=>∃b sl val s ow ks1 ks',ks=some ⟨b,0,none⟩::ks'∧sl.data.toList=lab∧h[b]? =some (.cells (adO sl w.isSome val s ow) qL (0,0))∧val=w.getD ⟨#[]⟩∧Sl rJ 1 W h s ks1∧(s.len≤s.cap∧¬W b)∧DxF W h kids ks1∧DxF W h rest ks'
def DxN(W:Nat→Prop)(h:ad)(b:Nat)(sl:ByteArray)(w:Option ByteArray)(F:Fo):Prop:=∃val s ow ks,h[b]? =some (.cells (adO sl w.isSome val s ow) qL (0,0))∧val=w.getD ⟨#[]⟩∧Sl rJ 1 W h s ks∧(s.len≤s.cap∧¬W b)∧DxF W h F ks
def DKid(W:Nat→Prop)(h:ad)(k:Option Addr)(n:Bn):Prop:=∃b sl,k=some ⟨b,0,none⟩∧sl.data.toList=n.1∧DxN W h b sl n.2.1 n.2.2
def DxL(W:Nat→Prop)(h:ad)(ks:List (Option Addr))(L:List Bn):Prop:=ks.length=L.length∧∀p∈ks.zip L,DKid W h p.1 p.2
theorem Eu{W:Nat→Prop}{h:ad}:∀{F:Fo} {ks:List (Option Addr)},DxF W h F ks↔DxL W h ks F.toL
 | .nil,ks=>by
  unfold DxF DxL;simp[Fo.toL]
 | .cons lab w kids rest,ks=>by
  unfold DxF DxL;rw[Fo.toL_cons];constructor
  ·rintro⟨b,sl,val,s,ow,c,d,rfl,f,n,i,m,j,o,u⟩
   obtain⟨v,t⟩:=Eu.1 u;refine⟨by simp[v],fun p a=>?_⟩
   rw[lA]at a;rcases aC.1 a with rfl|a
   ·exact⟨b,sl,rfl,f,val,s,ow,c,n,i,m,j,o⟩
   ·exact t p a
  ·cases ks with
   |nil=>rintro⟨e,_⟩;simp at e
   |cons k d=>
    rintro⟨e,a⟩;rw[lA]at a;obtain⟨b,sl,q,f,val,s,ow,c,n,i,m,j,o⟩:=a _ (au ..);refine⟨b,sl,val,s,ow,c,d,by rw[←q],f,n,i,m,j,o,Eu.2 ⟨by simpa using e,fun p g=>a p (aE _ g)⟩⟩
theorem DxF.upd0{W:Nat→Prop}{h h':ad}(k:Upd No h h'):∀{F:Fo} {ks:List (Option Addr)},DxF W h F ks→DxF W h' F ks
 | .nil,_,r=>r
 | .cons _ _ _ _,_,⟨b,sl,val,s,ow,ks1,ks',e0,e1,e2,e3,e4,e5,e6,e7⟩=>⟨b,sl,val,s,ow,ks1,ks',e0,e1,k.get0 e2,e3,e4.upd k fun _ h=>h.elim,e5,DxF.upd0 k e6,DxF.upd0 k e7⟩
theorem DxN.upd0{W:Nat→Prop}{h h':ad}(k:Upd No h h'){b:Nat}{sl:ByteArray}{w:Option ByteArray}{F:Fo}:DxN W h b sl w F→DxN W h' b sl w F
 |⟨val,s,ow,ks,e2,e3,e4,e5,e6⟩=>⟨val,s,ow,ks,k.get0 e2,e3,e4.upd k fun _ h=>h.elim,e5,DxF.upd0 k e6⟩
theorem DKid.upd0{W:Nat→Prop}{h h':ad}(k:Upd No h h'){a:Option Addr}{n:Bn}:DKid W h a n→DKid W h' a n
 |⟨b,sl,e1,e2,e3⟩=>⟨b,sl,e1,e2,e3.upd0 k⟩
theorem DxF.less{W W':Nat→Prop}{h:ad}(hm:∀b,W' b→W b∨h.size≤b):∀{F:Fo} {ks:List (Option Addr)},DxF W h F ks→DxF W' h F ks
 | .nil,_,r=>r
 | .cons _ _ _ _,_,⟨b,sl,val,s,ow,ks1,ks',e0,e1,e2,e3,e4,e5,e6,e7⟩=>⟨b,sl,val,s,ow,ks1,ks',e0,e1,e2,e3,e4.less hm,⟨e5.1,fun hx=>(hm _ hx).elim e5.2 fun h=>by have:=aY e2;omega⟩,DxF.less hm e6,DxF.less hm e7⟩
theorem DxN.less{W W':Nat→Prop}{h:ad}(hm:∀b,W' b→W b∨h.size≤b){b:Nat}{sl:ByteArray}{w:Option ByteArray}{F:Fo}:DxN W h b sl w F→DxN W' h b sl w F
 |⟨val,s,ow,ks,e2,e3,e4,e5,e6⟩=>⟨val,s,ow,ks,e2,e3,e4.less hm,⟨e5.1,fun hx=>(hm _ hx).elim e5.2 fun h=>by have:=aY e2;omega⟩,DxF.less hm e6⟩
theorem DxF.updM{W M:Nat→Prop}{h h':ad}(k:Upd M h h')(hm:∀b,M b→W b∨h.size≤b):∀{F:Fo} {ks:List (Option Addr)},DxF W h F ks→DxF W h' F ks
 | .nil,_,r=>r
 | .cons _ _ _ _,_,⟨b,sl,val,s,ow,ks1,ks',e0,e1,e2,e3,e4,e5,e6,e7⟩=>⟨b,sl,val,s,ow,ks1,ks',e0,e1,k.get e2 (fun hx=>(hm _ hx).elim e5.2 fun h=>by have:=aY e2;omega),e3,e4.upd k hm,e5,DxF.updM k hm e6,DxF.updM k hm e7⟩
theorem DxN.updM{W M:Nat→Prop}{h h':ad}(k:Upd M h h')(hm:∀b,M b→W b∨h.size≤b){b:Nat}{sl:ByteArray}{w:Option ByteArray}{F:Fo}:DxN W h b sl w F→DxN W h' b sl w F
 |⟨val,s,ow,ks,e2,e3,e4,e5,e6⟩=>⟨val,s,ow,ks,k.get e2 (fun hx=>(hm _ hx).elim e5.2 fun h=>by have:=aY e2;omega),e3,e4.upd k hm,e5,DxF.updM k hm e6⟩
theorem DxL.upd0{W:Nat→Prop}{h h':ad}(k:Upd No h h'){ks:List (Option Addr)}{L:List Bn}(r:DxL W h ks L):DxL W h' ks L:=⟨r.1,fun p a=>(r.2 p a).upd0 k⟩
theorem DxL.app{W:Nat→Prop}{h:ad}{ks b:List (Option Addr)}{L L':List Bn}(r:DxL W h ks L)(c:DxL W h b L'):DxL W h (ks++b) (L++L'):=by
 refine⟨by rw[ac,ac,r.1,c.1],fun p a=>?_⟩
 rw[List.zip_append r.1]at a;rcases List.mem_append.1 a with a|a
 ·exact r.2 p a
 ·exact c.2 p a
theorem DxL.one{W:Nat→Prop}{h:ad}{k:Option Addr}{n:Bn}(c:DKid W h k n):DxL W h [k] [n]:=⟨rfl,fun p a=>by rw[lA,List.zip_nil_left]at a;rw[List.mem_singleton.1 a];exact c⟩
theorem DxL.at{W:Nat→Prop}{h:ad}{ks:List (Option Addr)}{L:List Bn}(r:DxL W h ks L){i:Nat}(hi:i<L.length):∃b sl,ks[i]? =some (some ⟨b,0,none⟩)∧sl.data.toList=L[i].1∧DxN W h b sl L[i].2.1 L[i].2.2:=by
 have e:i<ks.length:=by rw[r.1];exact hi
 have c:i<(ks.zip L).length:=by rw[List.length_zip];omega
 have:=r.2 _ (bh c);rw[List.getElem_zip]at this;obtain⟨b,sl,a,f,d⟩:=this;exact⟨b,sl,by rw[af e];exact congrArg some a,f,d⟩
theorem DKid.less{W W':Nat→Prop}{h:ad}(hm:∀b,W' b→W b∨h.size≤b){a:Option Addr}{n:Bn}:DKid W h a n→DKid W' h a n
 |⟨b,sl,e1,e2,e3⟩=>⟨b,sl,e1,e2,e3.less hm⟩
theorem DKid.updM{W M:Nat→Prop}{h h':ad}(k:Upd M h h')(hm:∀b,M b→W b∨h.size≤b){a:Option Addr}{n:Bn}:DKid W h a n→DKid W h' a n
 |⟨b,sl,e1,e2,e3⟩=>⟨b,sl,e1,e2,e3.updM k hm⟩
theorem DxL.less{W W':Nat→Prop}{h:ad}(hm:∀b,W' b→W b∨h.size≤b){ks:List (Option Addr)}{L:List Bn}(r:DxL W h ks L):DxL W' h ks L:=⟨r.1,fun p a=>(r.2 p a).less hm⟩
theorem DxL.updM{W M:Nat→Prop}{h h':ad}(k:Upd M h h')(hm:∀b,M b→W b∨h.size≤b){ks:List (Option Addr)}{L:List Bn}(r:DxL W h ks L):DxL W h' ks L:=⟨r.1,fun p a=>(r.2 p a).updM k hm⟩
theorem R9{a b:ByteArray}(y:a.size≤1000000){h:ad}{K:Int→ad→Prop}(o:K (cm a.data.toList b.data.toList:Nat) h):HC PG zt [.string a,.string b] [.c (.int .i64)] K h:=by
 refine OA a b ?_;unfold E8;have w:a.data.toList.length=a.size:=by simp
 have x:b.data.toList.length=b.size:=by simp
 refine LoopP.ghost (fun(i:Nat) (t:Int) h'=>t=(i:Int)∧i≤min a.size b.size∧h'=h∧∀j,j<i→a.data.toList[j]? =b.data.toList[j]?) (fun i=>min a.size b.size-i) 0 ⟨rfl,aS _,rfl,fun j p=>absurd p (lQ _)⟩ ?_
 rintro I i t h' ⟨rfl,hi,rfl,g⟩ u;refine Join.intro (fun t h2=>h2=h'∧(t=true→i<min a.size b.size∧a.data.toList[i]? =b.data.toList[i]?)∧(t=false→cm a.data.toList b.data.toList=i)) (fun R m=>?_) ?_
 ·refine ax (fun k=>?_) fun k=>m _ _ ⟨rfl,fun h=>(by cases h),fun _=>M0 (by omega) (by omega) g (by omega)⟩
  refine ax (fun h2=>?_) fun h2=>m _ _ ⟨rfl,fun h=>(by cases h),fun _=>M0 (by omega) (by omega) g (by omega)⟩
  have f:i<a.size:=by omega
  have d:i<b.size:=by omega
  have n:a.data.toList[i]? =some a[i]:=by rw[←Qn,getElem?_pos a i f]
  have s:b.data.toList[i]? =some b[i]:=by rw[←Qn,getElem?_pos b i d]
  refine⟨a[i],by omega,by rw[aU,getElem?_pos a i f],b[i],by omega,by rw[aU,getElem?_pos b i d],m _ _ ⟨rfl,fun h=>⟨by omega,?_⟩,fun h=>?_⟩⟩
  ·have:((a[i].toNat:Int))=(b[i].toNat:Int):=by simpa using h
   rw[n,s,UInt8.toNat_inj.1 (show a[i].toNat=b[i].toNat by omega)]
  ·refine M0 (by omega) (by omega) g (.inr (.inr fun e=>?_))
   rw[n,s]at e;rw[bO.inj e]at h;simp at h
 ·rintro t h2 ⟨rfl,k,v⟩
  cases t with
  |true=>
   obtain⟨c,e⟩:=k rfl;refine aw.2 ?_;rw[cS c (by omega)];refine u (i+1) _ _ ⟨rfl,c,rfl,fun j p=>?_⟩ (by omega)
   rcases bR j i with q|q
   ·exact g j q
   ·rw[show j=i by omega];exact e
  |false=>
   refine ag.2 ?_;rw[v rfl]at o;exact o
theorem aa8:∀{x y:List UInt8} {t:Nat},t≤x.length→t≤y.length→x.take t=y.take t→t≤cm x y
 |_,_,0,_,_,_=>aS _
 | [],_,t+1,h,_,_=>by simp at h
 |_::_,[],t+1,_,h,_=>by simp at h
 |a::x,b::y,t+1,h1,h2,e=>by
  rw[eo,eo]at e;obtain⟨d,c⟩:=ft.inj e;have:=aa8 (x:=x) (y:=y) (t:=t) (by simpa using h1) (by simpa using h2) c;unfold cm;rw[if_pos d];omega
def aaM(t:Nat)(p:Pr):Pr:=(p.1.extract t p.1.size,p.2)
theorem MG(t:Nat)(p:Pr):ky (aaM t p)=(ky p).drop t:=Es p.1 t
def Vi(B:Nat):Prop:=∀{W:Nat→Prop} {h:ad} {s:SliceV} {l:List Pr},Sl ey 2 No h s l→s.len≤s.cap→Beg l []→(∀p∈l,(ky p).length≤B)→l.length≤100000→(∀y,W y→y<h.size)→∀{K:SliceV→ad→Prop},
 (∀h' s' ks L,OwnS rJ 1 vB (fun y=>h.size≤y) h' s' ks→DxL W h' ks L→Row L l [] []→Upd No h h'→K s' h')→HC PG vG [.slice s.a s.len s.cap] [.c .slice] K h
def zQ(to:Nat)(l:List Pr):List Pr:=(l.filter fun p=>decide ((ky p).length≠to)).map (aaM to)
theorem RW{to:Nat}{l:List Pr}{i:Nat}(hi:i<l.length):zQ to (l.take (i+1))=if(ky l[i]).length=to then zQ to (l.take i)else zQ to (l.take i)++ [aaM to l[i]]:=by
 unfold zQ;rw[bj hi,eN,List.map_append,bJ,kz];by_cases h:(ky l[i]).length=to
 ·rw[if_pos h,if_neg (by simpa using h)];simp
 ·rw[if_neg h,if_pos (by simpa using h)];rfl
theorem Th{W:Nat→Prop}{B:Nat}(hB:B≤1000000)(T:∀B',B'<B→Vi B'){h:ad}{s:SliceV}{l r:List Pr}{f g:Pr}(hs:Sl ey 2 No h s l)(bg:Beg l [])(S:∀p∈l,(ky p).length≤B)(hn:l.length≤100000)(hW:∀y,W y→y<h.size)
  (u:l=f::r)(hg:l.getLast? =some g)(hb:bt 0 f=bt 0 g){K:Option Addr→ad→Prop}
  (hk:∀h' a n,DKid W h' a n→Q9 n→hd n.1=bt 0 f→(∀k v,wO n k v↔aaI l [] k v)→Upd No h h'→K a h'):HC PG zr [.slice s.a s.len s.cap] [.c .ptr] K h:=by
 refine Oz s ?_;unfold E7 bT nv az av lO iU dy;have hlen:=hs.len;have hl0:0<l.length:=by rw[u];simp
 have hfm:f∈l:=by rw[u];exact au ..
 have hgm:g∈l:=jQ hg;obtain⟨a,ha,_,hvf⟩:=hs.at (i:=0) (x:=f) (by rw[u];rfl);obtain⟨q1,q2,q3,q4,q5⟩:=M4 bg ⟨r,u⟩ hg hb;have hbc:= @Tg l (if(ky f).length=cm (ky f) (ky g)then l.drop 1 else l) [] f g bg ⟨r,u⟩ hg hb
 have hcg:cm (ky f) (ky g)=cm (ky f) (ky g):=rfl;obtain⟨to,Q⟩:∃to,cm (ky f) (ky g)=to:=⟨_,rfl⟩;rw[Q]at q1 q2 q3 q4 hbc;have hszf:f.1.size=(ky f).length:=(SI f.1).symm;have hfB:=S f hfm;have hle:∀p∈l,to≤(ky p).length:=fun p d=>(q4 p d).elim (fun e=>e▸q2) Nat.le_of_lt
 have hcm:∀p∈l,to≤cm (ky f) (ky p):=fun p d=>aa8 q2 (hle p d) (q3 p d).symm
 have hpos:0<to:=by simpa using q1
 refine⟨⟨by decide,by omega⟩,a,ha,_,hvf 0 _ rfl,?_⟩
 refine LoopP.ghost (fun(g:Nat×Nat) (t:Int×Int) h'=>t=((g.2:Int),(g.1:Int))∧g.1≤l.length∧to≤g.2∧g.2≤(ky f).length∧(g.1=l.length→g.2=to)∧Upd No h h') (fun g=>l.length-g.1) (0,(ky f).length) ⟨by rw[hszf];rfl,aS _,q2,aj _,fun e=>by simp only at e;omega,Upd.refl _ _⟩ ?_
 rintro I ⟨i,n⟩ t h' ⟨rfl,hi,hn1,hn2,U,X⟩ hI;simp only at hi hn1 hn2 U;refine ax (fun b=>?_) fun P=>?_
 ·have b:i<l.length:=by have:(i:Int)<(s.len:Int):=b;omega
  have C:l[i]∈l:=bh b;refine Join.intro (fun t h2=>∃n':Nat,t=(n':Int)∧to≤n'∧n'≤(ky f).length∧(i+1=l.length→n'=to)∧Upd No h h2) (fun R hR=>?_) ?_
  ·obtain⟨a',V,_,hv⟩:=(hs.upd X fun _ h=>h.elim).at (af b)
   refine⟨⟨by simp only;omega,by simp only;omega⟩,a',V,_,hv 0 _ rfl,_,hv 1 _ rfl,tl (p:=l[i]) fun h2 b2 k2=>?_⟩
   obtain⟨a2,ha2,_,hv2⟩:=((hs.upd X fun _ h=>h.elim).upd k2 fun _ h=>h.elim).at (i:=0) (x:=f) (by rw[u];rfl)
   refine⟨⟨by decide,by omega⟩,a2,ha2,_,hv2 0 _ rfl,_,vc b2 0,R9 (by omega) ?_⟩
   have hc1:=hcm _ C;have hc2:=(Vb (ky f) (ky l[i])).1;have w:i+1=l.length→l[i]=g:=fun e=>by
    rw[List.getLast?_eq_getElem?,show l.length-1=i by omega,af b]at hg
    exact bO.inj hg
   change CondP (decide ((cm (ky f) (ky l[i]):Int)<(n:Int))) _ _;refine ax (fun hc=>hR _ _ ⟨_,rfl,hc1,hc2,fun e=>?_,X.tr k2⟩) fun hc=>hR _ _ ⟨n,rfl,hn1,hn2,fun e=>?_,X.tr k2⟩
   ·rw[w e,Q]
   ·rw[w e,Q]at hc;omega
  ·rintro t h2 ⟨n',rfl,E,h2',H,m⟩
   simp only;rw[cS b (by omega)];exact hI (i+1,n') _ _ ⟨rfl,b,E,h2',H,m⟩ (by simp only;omega)
 obtain rfl:i=l.length:=by have:¬(i:Int)<(s.len:Int):=P;omega
 obtain rfl:n=to:=U rfl;clear U hI;obtain⟨a',V,_,hv⟩:=(hs.upd X fun _ h=>h.elim).at (i:=0) (x:=f) (by rw[u];rfl)
 refine⟨⟨by decide,by omega⟩,a',V,f.1,hv 0 _ rfl,⟨by omega,by simp only;omega⟩,aP fun E b1 k1=>?_⟩
 have u1:=X.tr k1;have z1:=aY b1;have s0:=X.size;simp only[aU]at b1⊢;have hlab:(f.1.extract 0 n).data.toList=((ky f).take n).drop ([]:List UInt8).length:=by rw[Er];rfl
 refine LoopP.ghost (fun(i:Nat) (t:SliceV×Int) h2=>t.2=(i:Int)∧i≤l.length∧h2[h'.size]? =some (.cells #[.string (f.1.extract 0 n),.bool (if 0<i∧(ky f).length=n then some f.2 else none:Option ByteArray).isSome,.string ((if 0<i∧(ky f).length=n then some f.2 else none:Option ByteArray).getD ⟨#[]⟩),.slice none 0 0] qL (0,0))∧
  OwnS ey 2 bU (fun y=>E.size≤y) h2 t.1 (zQ n (l.take i))∧Upd No h h2∧E.size≤h2.size) (fun i=>l.length-i) 0 ⟨rfl,aS _,by rw[if_neg (by omega)];exact b1,OwnS.nil fU,u1,aj _⟩ ?_
 rintro I i ⟨so,ti⟩ h2 ⟨e1,hi2,c2,ho,m,hz2⟩ hI;simp only at e1 ho;subst e1;refine ax (fun b=>?_) fun P=>?_
 ·have b:i<l.length:=by have:(i:Int)<(s.len:Int):=b;omega
  have C:l[i]∈l:=bh b;have J:=RW (to:=n) b;have hszi:l[i].1.size=(ky l[i]).length:=(SI l[i].1).symm;have hiB:=S _ C;refine Join.intro (fun t H=>H[h'.size]? =some (.cells #[.string (f.1.extract 0 n),.bool (if 0<i+1∧(ky f).length=n then some f.2 else none:Option ByteArray).isSome,.string ((if 0<i+1∧(ky f).length=n then some f.2 else none:Option ByteArray).getD ⟨#[]⟩),.slice none 0 0] qL (0,0))∧
   OwnS ey 2 bU (fun y=>E.size≤y) H t (zQ n (l.take (i+1)))∧Upd No h H∧E.size≤H.size) (fun R hR=>?_) ?_
  ·obtain⟨a3,ha3,_,hv3⟩:=(hs.upd m fun _ h=>h.elim).at (af b)
   refine⟨⟨by simp only;omega,by simp only;omega⟩,a3,ha3,_,hv3 0 _ rfl,_,hv3 1 _ rfl,tl (p:=l[i]) fun H b3 k3=>⟨_,vc b3 0,?_⟩⟩
   have z3:=aY b3;have s3:=k3.size;have zh2:=aY c2;have c3:=k3.get0 c2;refine CondP.intro (fun z=>?_) fun z=>?_
   ·have z:(ky l[i]).length=n:=by
     have:((l[i].1.size:Nat):Int)=(n:Int):=by simpa using z
     omega
    have hfi:l[i]=f:=(q4 _ C).resolve_right (by omega);rw[if_pos z]at J;refine⟨_,vc b3 1,_,rfl,?_⟩;refine vz (i:=1) c3 (show 1<4 by decide) rfl fun h4 Z N=>⟨vc (N.oth b3 (by omega)) 1,_,rfl,?_⟩
    refine vz (i:=2) Z (show 2<4 by decide) rfl fun h5 b5 u5=>hR _ _ ⟨?_,?_,((m.tr k3).own N (by omega)).own u5 (by omega),?_⟩
    ·rw[if_pos (show 0<i+1∧(ky f).length=n from⟨by omega,by rw[←hfi];exact z⟩),b5,hfi];rfl
    ·rw[J]
     exact((ho.upd k3 fun _ _ h=>h).upd N fun y c e=>by have e:y=h'.size:=e;have c:E.size≤y:=c;omega).upd u5 fun y c e=>by have e:y=h'.size:=e;have c:E.size≤y:=c;omega
    ·have:=N.size;have:=u5.size;omega
   ·have z:¬(ky l[i]).length=n:=fun e=>by
     have:¬((l[i].1.size:Nat):Int)=(n:Int):=by simpa using z
     omega
    rw[if_neg z]at J;have hlei:=hle _ C;refine⟨_,vc b3 0,⟨by omega,by omega⟩,_,vc b3 1,aP fun h4 Z O=>⟨vc (O.get0 b3) 1,vc (O.get0 b3) 0,_,m0 Z,?_⟩⟩
    have s4:=O.size;have z4:=aY Z;refine AppP.own (M:=fun y=>(E.size≤y∧y<h2.size)∨h4.size≤y) (ys:= [aaM n l[i]]) (((ho.within.upd k3 fun _ _ h=>h).upd O fun _ _ h=>h).more fun y c=>.inl c) rfl rfl rfl rfl (by omega) ?_ (.inr (aj _)) fun s5 h5 ho5 A=>?_
    ·have:=List.length_filter_le (fun p=>decide ((ky p).length≠n)) (l.take i)
     simp only[zQ,cC,aK];rw[aQ]at this;omega
    have s5':=A.size;refine⟨vc (A.get (O.get0 b3) (by omega)) 1,vc (A.get (O.get0 b3) (by omega)) 0,hR _ _ ⟨?_,?_,((m.tr k3).tr O).trans A fun y c=>.inr (by omega),by omega⟩⟩
    ·have o:(if 0<i+1∧(ky f).length=n then some f.2 else none:Option ByteArray)=if 0<i∧(ky f).length=n then some f.2 else none:=by
      by_cases h0:0<i
      ·simp[h0]
      ·have:i=0:=by omega
       subst this;have:l[0]=f:=by simp[u]
       rw[this]at z;rw[if_neg (fun h=>z h.2),if_neg (fun h=>z h.2)]
     rw[o];exact A.get (O.get0 c3) (by omega)
    ·rw[J]
     exact ho5.more fun y c=>by show E.size≤y;omega
  ·rintro t H ⟨p1,p2,p3,p4⟩
   simp only;rw[cS b (by omega)];exact hI (i+1) _ _ ⟨rfl,b,p1,p2,p3,p4⟩ (by omega)
 obtain rfl:i=l.length:=by have:¬(i:Int)<(s.len:Int):=P;omega
 rw[ce]at ho;have hc0:(0<l.length∧(ky f).length=n)↔(ky f).length=n:=⟨fun h=>h.2,fun h=>⟨hl0,h⟩⟩
 simp only[hc0]at c2;have G:zQ n l=(if(ky f).length=n then l.drop 1 else l).map (aaM n):=by
  unfold zQ;congr 1
  by_cases e:(ky f).length=n
  ·rw[if_pos e,u,bJ,if_neg (by simpa using e),ye,wK]
   refine gK.2 fun p d=>?_
   have hpl:p∈l:=by rw[u];exact aE _ d
   rcases q4 p hpl with o|h2
   ·rw[o]at d
    exact absurd ((aF.1 (u▸bg.up)).1 f d) (bZ _)
   ·exact decide_eq_true (by omega)
  ·rw[if_neg e]
   refine gK.2 fun p d=>?_
   rcases q4 p d with o|h2
   ·rw[o];exact decide_eq_true e
   ·exact decide_eq_true (by omega)
 have j:(if(ky f).length=n then l.drop 1 else l).Sublist l:=by
  split
  ·exact List.drop_sublist ..
  ·exact List.Sublist.refl _
 have Y:∀p∈(if(ky f).length=n then l.drop 1 else l),n<(ky p).length:=fun p d=>by
  rcases q4 p (j.subset d)with e|h
  ·by_cases o:(ky f).length=n
   ·rw[if_pos o,u,e]at d
    exact absurd ((aF.1 (u▸bg.up)).1 f d) (bZ _)
   ·rw[e];omega
  ·exact h
 have hbeg:Beg (zQ n l) []:=by
  rw[G];refine⟨?_,fun p d=>?_⟩
  ·unfold bM
   rw[List.pairwise_map];refine(bg.up.sublist j).imp_of_mem fun{p q} d D b=>?_
   rw[zh]at b⊢;have e1:=q3 p (j.subset d);have o:=q3 q (j.subset D);change Op.bytesLess (ky (aaM n p)) (ky (aaM n q))=true;change Op.bytesLess (ky p) (ky q)=true at b;rw[MG,MG];rw[←aO n (ky p),←aO n (ky q),e1,o,Ol]at b;exact b
  ·obtain⟨q,D,rfl⟩:=fC.1 d
   refine⟨rfl,?_⟩;rw[MG,aV];have:=Y q D;simp only[aM];omega
 have hkB:∀p∈zQ n l,(ky p).length≤B-n:=fun p d=>by
  rw[G]at d;obtain⟨q,D,rfl⟩:=fC.1 d;rw[MG,aV];have:=S q (j.subset D);omega
 have hrn:(zQ n l).length≤100000:=by
  rw[G,cC];exact Nat.le_trans j.length_le hn
 have s2:=m.size;have zc:=aY c2;refine T (B-n) (by omega) (W:=fun y=>W y∨y=h'.size) (ho.sl fun _ _ _ h=>h) ho.cap hbeg hkB hrn (fun y c=>c.elim (fun c=>by have:=hW y c;omega) fun c=>by omega) fun H s3 ks L ho3 hL3 hrow hu3=>?_
 obtain⟨hcF,hgF⟩:=hrow.done;have hgot:∀k v,tg (.ofL L) k v↔aaI (if(ky f).length=n then l.drop 1 else l) ((ky f).take n) k v:=fun k v=>by
  rw[hgF,G];constructor
  ·rintro⟨p,d,o,e3⟩
   obtain⟨q,D,rfl⟩:=fC.1 d;rw[MG,cN]at o;refine⟨q,D,?_,e3⟩;rw[←o,←q3 q (j.subset D),aO]
  ·rintro⟨q,D,o,e3⟩
   refine⟨aaM n q,fC.2 ⟨q,D,rfl⟩,?_,e3⟩;rw[MG,cN,o,List.drop_left' (by rw[aQ];omega)]
 obtain⟨hcn,hhd,hin⟩:=hbc (F:=.ofL L) hcF rfl hgot rfl hlab;refine⟨_,rfl,?_⟩;refine vz (i:=3) (hu3.get0 c2) (show 3<4 by decide) rfl fun h4 Z N=>?_
 refine hk h4 _ (_,_,_) ⟨h'.size,_,rfl,rfl,_,s3,none,ks,Z,rfl,?_,⟨ho3.cap,fun hw=>by have:=hW _ hw;omega⟩,Eu.2 ?_⟩ hcn hhd hin ((m.tr hu3).own N (by omega))
 ·exact(ho3.upd N fun y c e=>by have e:y=h'.size:=e;have c:h2.size≤y:=c;omega).sl fun y c _ hw=>by have:=hW y hw;have c:h2.size≤y:=c;omega
 ·rw[Fo.to_of]
  exact(hL3.updM N fun y c=>.inl (.inr c)).less fun y c=>.inl (.inl c)
end Go.Proofs
namespace Go.Proofs
open Go Go.Lift
theorem SG{B:Nat}(hB:B≤1000000)(G:∀P,P<B→Vi P):Vi B:=by
 intro W h s l hs hcap bg hlB hn hW K hk;refine Oy s ?_;unfold E6 bT az;have hlen:=hs.len;refine LoopP.ghost (fun(g:Nat×List (Option Addr)×List Bn×(Nat→Prop)) (t:SliceV×Int) h'=>t.2=(g.1:Int)∧g.1≤l.length∧OwnS rJ 1 vB g.2.2.2 h' t.1 g.2.1∧(∀y,g.2.2.2 y→h.size≤y∧y<h'.size)∧DxL (fun y=>W y∨g.2.2.2 y) h' g.2.1 g.2.2.1∧Row g.2.2.1 (l.take g.1) (l.drop g.1) []∧Upd No h h') (fun g=>l.length-g.1) (0,[],[],fun _=>False)
  ⟨rfl,aS _,OwnS.nil qO,fun y d=>d.elim,⟨rfl,fun p hp=>(by cases hp)⟩,Row.nil _ _,Upd.refl _ _⟩ ?_
 rintro I ⟨i,ks,L,Mo⟩ ⟨so,ti⟩ U ⟨e1,hi,ho,v,V,f,Y⟩ hI;simp only at e1 hi ho v V f;subst e1;refine ax (fun u=>?_) fun Z=>?_
 ·have u:i<l.length:=by have:(i:Int)<(s.len:Int):=u;omega
  have N:=hs.upd Y fun _ h=>h.elim
  have O:∀j (E:j<l.length),0<(ky l[j]).length:=fun j E=>(bg.at_ _ (bh E)).2
  obtain⟨bi,hbi,hbie⟩:=YP (O i u);obtain⟨ai,hai,_,hvi⟩:=N.at (af u);refine LoopP.ghost (fun(k:Nat) (t:Int) h2=>t=(k:Int)∧i≤k∧k≤l.length∧h2=U∧∀j (E:j<l.length),i≤j→j<k→bt 0 l[j]=bt 0 l[i]) (fun k=>l.length-k) i ⟨rfl,aj _,hi,rfl,fun j E U h2=>by omega⟩ ?_
  rintro I2 k t h2 ⟨rfl,hik,Q,rfl,D⟩ hI2;refine Join.intro (fun t h3=>h3=h2∧(t=true→∃hk:k<l.length,bt 0 l[k]=bt 0 l[i])∧(t=false→∀hk:k<l.length,bt 0 l[k]≠bt 0 l[i])) (fun R hR=>?_) ?_
  ·refine ax (fun a=>?_) fun a=>hR _ _ ⟨rfl,fun h=>(by cases h),fun _ hk2=>absurd (show(k:Int)<(s.len:Int) by omega) a⟩
   have a:k<l.length:=by have:(k:Int)<(s.len:Int):=a;omega
   obtain⟨bk,hbk,hbke⟩:=YP (O k a);obtain⟨ak,hak,_,hvk⟩:=N.at (af a);refine⟨⟨by omega,by omega⟩,ak,hak,_,hvk 0 _ rfl,bk,by decide,hbk,⟨by simp only;omega,by simp only;omega⟩,ai,hai,_,hvi 0 _ rfl,bi,by decide,hbi,hR _ _ ⟨rfl,fun h=>⟨a,?_⟩,fun h _=>?_⟩⟩
   ·have:(bk.toNat:Int)=(bi.toNat:Int):=by simpa using h
    omega
   ·intro e
    have:¬(bk.toNat:Int)=(bi.toNat:Int):=by simpa using h
    omega
  rintro t h3 ⟨rfl,ht,X⟩;cases t with
  |true=>
   obtain⟨a,e⟩:=ht rfl;refine aw.2 ?_;rw[cS a (by omega)];refine hI2 (k+1) _ _ ⟨rfl,by omega,a,rfl,fun j E U h2=>?_⟩ (by omega)
   rcases bR j k with h|h
   ·exact D j E U h
   ·have:j=k:=by omega
    subst this;exact e
  |false=>
   have X:=X rfl;have hik2:i<k:=by
    rcases bR i k with h|h
    ·exact h
    ·have:k=i:=by omega
     subst this;exact absurd rfl (X u)
   refine ag.2 ⟨⟨by omega,by omega⟩,⟨by simp only;omega,by simp only;omega⟩,?_⟩
   simp only[aU];have hsA:=Sl.sub N (l:=i) (hi:=k) (m:=s.cap) (c:=s.cap-i) hik Q (by omega);have T:(l.drop i).take (k-i)++l.drop k=l.drop i:=by
    conv=>rhs;rw[←aO (k-i) (l.drop i)]
    rw[List.drop_drop,show i+(k-i)=k by omega]
   have hDA:l.take i++(l.drop i).take (k-i)=l.take k:=by
    rw[show k=i+(k-i) by omega,List.take_add];congr 2;omega
   have w:∀q∈(l.drop i).take (k-i),bt 0 q=bt 0 l[i]:=fun q hq=>by
    obtain⟨j,E,e⟩:=List.getElem_of_mem hq;rw[aQ,aV]at E;rw[←e,List.getElem_take,List.getElem_drop];exact D (i+j) (by omega) (by omega) (by omega)
   have hAc:∃r,(l.drop i).take (k-i)=l[i]::r:=by
    rw[fq u,show k-i=(k-i-1)+1 by omega,eo]
    exact⟨_,rfl⟩
   have o:((l.drop i).take (k-i)).Sublist l:=(List.take_sublist _ _).trans (List.drop_sublist _ _);have hBk:∀b P,l.drop k=b::P→bt 0 b≠bt 0 l[i]:=fun b P e=>by
    have a:k<l.length:=by
     rcases bR k l.length with h|h
     ·exact h
     ·rw[List.drop_eq_nil_of_le h]at e;cases e
    rw[fq a]at e;rw[←(ft.inj e).1];exact X a
   have hAl:((l.drop i).take (k-i)).length≤l.length:=o.length_le;generalize (l.drop i).take (k-i)=A at*;obtain⟨r,F⟩:=hAc;obtain⟨g,hg⟩:∃g,A.getLast? =some g:=by rw[F];exact⟨_,List.getLast?_eq_some_getLast (by simp)⟩
   have s1:=Y.size;refine Th (W:=fun y=>W y∨Mo y) hB G (hsA.less fun _ h=>h.elim) (bg.sub o) (fun q hq=>hlB q (o.subset hq)) (by omega) (fun y d=>d.elim (fun d=>Nat.lt_of_lt_of_le (hW y d) s1) fun d=>(v y d).2) F hg (w g (jQ hg)).symm fun h4 ka n kd hcn hhd hin hu4=>aP fun H b5 k5=>⟨_,m0 b5,?_⟩
   have C:=hu4.tr k5;have z35:=C.size;have hLn:L.length≤256:=by
    rcases FP (c:=0) f.up fun _ _=>aS _ with e|e
    ·rw[e];simp
    ·omega
   have hkl':=V.1;refine AppP.own (M:=fun y=>Mo y∨H.size≤y) (ys:= [ka]) ((ho.upd C fun _ _ h=>h).more fun y d=>.inl d) rfl rfl rfl rfl (by omega) (by simp only[aK];omega) (.inr (aj _)) fun s6 h6 ho6 J=>?_
   have z6:=J.size;have z:=f;rw[←T]at z;have S:Beg (A++l.drop k) []:=by rw[T];exact bg.sub (List.drop_sublist _ _)
   have x:=z.more S (p:=l[i]) (by rw[F];exact au ..) w hBk hcn hhd hin;rw[hDA]at x;refine hI (k,ks++ [ka],L++ [n],fun y=>(Mo y∨H.size≤y)∧y<h6.size) _ _ ⟨rfl,Q,ho6.within,fun y d=>⟨?_,d.2⟩,?_,x,?_⟩ (by simp only;omega)
   ·rcases d.1 with h|h
    ·exact(v y h).1
    ·omega
   ·have hl:∀b,(W b∨((Mo b∨H.size≤b)∧b<h6.size))→(W b∨Mo b)∨H.size≤b:=fun b hb=>by
     rcases hb with h|⟨h|h,_⟩
     ·exact .inl (.inl h)
     ·exact .inl (.inr h)
     ·exact .inr h
    have hm:∀b,(Mo b∨H.size≤b)→(W b∨((Mo b∨H.size≤b)∧b<h6.size))∨H.size≤b:=fun b hb=>by
     rcases hb with h|h
     ·exact .inl (.inr ⟨.inl h,by have:=(v b h).2;omega⟩)
     ·exact .inr h
    exact(((V.upd0 C).app (DxL.one (kd.upd0 k5))).less hl).updM J hm
   ·exact(Y.tr C).trans J fun y d=>.inr (by
     rcases d with h|h
     ·exact(v y h).1
     ·omega)
 ·obtain rfl:i=l.length:=by have:¬(i:Int)<(s.len:Int):=Z;omega
  rw[ce,List.drop_length]at f;exact hk U _ ks L (ho.more fun y d=>(v y d).1) (V.less fun y d=>.inl (.inl d)) f Y
theorem Yi(B:Nat):B≤1000000→Vi B:=by
 induction B using Nat.strongRecOn with
 |_ B ih=>exact fun a=>SG a fun b h=>ih b h (by omega)
theorem ZY{h:ad}{s:SliceV}{l:List Pr}(hs:Sl ey 2 No h s l)(g:s.len≤s.cap)(N:bM l)(hn:l.length≤60000)(hB:∀p∈l,(ky p).length≤1000000){K:Option Addr→ad→Prop}
  (hk:∀h' b w F,DxN No h' b ⟨#[]⟩ w F→gf F→xM w F=Uj l→Upd No h h'→K (some ⟨b,0,none⟩) h'):HC PG JE [.slice s.a s.len s.cap] [.c .ptr] K h:=by
 refine Y8 s ?_;unfold Q6 bT az dy acd;have j:=hs.len;refine aP fun f b1 k1=>?_
 have z1:=aY b1;have u:=hs.upd k1 fun _ h=>h.elim
 refine Join.intro (fun(t:SliceV) h2=>∃(w:Option ByteArray) (l':List Pr),h2[h.size]? =some (.cells #[.string ⟨#[]⟩,.bool w.isSome,.string (w.getD ⟨#[]⟩),.slice none 0 0] qL (0,0))∧Sl ey 2 No h2 t l'∧t.len≤t.cap∧Beg l' []∧l'.length≤l.length∧(∀p∈l',p∈l)∧(∀k v,((k= []∧w=some v)∨aaI l' [] k v)↔∃p∈l,p.1.data.toList=k∧p.2=v)∧Upd No h h2) (fun R Q=>?_) ?_
 ·refine Join.plain ?_
  rcases l with _|⟨p,r⟩
  ·refine ax (fun hgt=>?_) fun _=>ag.2 (Q _ _ ⟨none,[],b1,u,g,⟨eI,fun p U=>(by cases U)⟩,aj _,fun _ h=>h,fun k v=>⟨?_,?_⟩,k1⟩)
   ·simp only[aM]at j;omega
   ·rintro(⟨_,h⟩|⟨q,d,_⟩)
    ·cases h
    ·cases d
   ·rintro⟨q,d,_⟩;cases d
  ·simp only[ar]at j
   obtain⟨a,ha,_,hv⟩:=u.at (i:=0) (x:=p) rfl;refine ax (fun _=>⟨⟨by decide,by omega⟩,a,ha,_,hv 0 _ rfl,?_⟩) fun J=>absurd (show(s.len:Int)>0 by omega) J
   have E:=aF.1 N;have n:∀q∈r,0<(ky q).length:=fun q d=>by
    have f:=zh.1 (E.1 q d);refine iR.2 fun X=>?_
    change Op.bytesLess (ky p) (ky q)=true at f;rw[X,Ti]at f;cases f
   rw[ge];by_cases I:p.1=⟨#[]⟩
   ·have ek:ky p= []:=by unfold ky;rw[I]
    rw[decide_eq_true I];refine aw.2 ⟨⟨by decide,by omega⟩,a,ha,_,hv 1 _ rfl,_,rfl,?_⟩
    refine vz (i:=1) b1 (show 1<4 by decide) rfl fun h2 b2 H=>⟨_,rfl,?_⟩
    refine vz (i:=2) b2 (show 2<4 by decide) rfl fun h3 b3 D=>⟨⟨by decide,by omega⟩,Q _ _ ⟨some p.2,r,b3,?_,by simp only;omega,⟨E.2,fun q d=>⟨rfl,n q d⟩⟩,by simp,fun q d=>aE _ d,fun k v=>?_,(k1.own H (aj _)).own D (aj _)⟩⟩
    ·have T:Upd (fun y=>y=h.size) f h3:=H.tr D
     have:=Sl.sub ((((hs.less (W':=fun y=>y=h.size) fun y o=>.inr (by omega)).upd k1 fun _ h=>h.elim).upd T fun y o=>.inl o)) (l:=1) (hi:=(p::r).length) (m:=s.cap) (c:=s.cap-1) (by simp) (aj _) (by simp only[ar];omega)
     rw[ye,wK,List.take_of_length_le (by simp)]at this;have X:(p::r).length-1=s.len-1:=by simp only[ar];omega
     rw[X]at this;exact this.less fun _ h=>h.elim
    ·constructor
     ·rintro(⟨rfl,h⟩|⟨q,d,f,h2⟩)
      ·exact⟨p,au ..,ek,bO.inj h⟩
      ·exact⟨q,aE _ d,f,h2⟩
     ·rintro⟨q,d,f,h2⟩
      rcases aC.1 d with rfl|d
      ·exact .inl ⟨by rw[←f];exact ek,by rw[h2]⟩
      ·exact .inr ⟨q,d,f,h2⟩
   ·rw[decide_eq_false I]
    have S:0<(ky p).length:=iR.2 fun e=>I (tS.1 e)
    refine ag.2 (Q _ _ ⟨none,p::r,b1,u,g,⟨N,fun q d=>⟨rfl,?_⟩⟩,aj _,fun _ h=>h,fun k v=>?_,k1⟩)
    ·rcases aC.1 d with rfl|d
     ·exact S
     ·exact n q d
    ·constructor
     ·rintro(⟨_,h⟩|⟨q,d,f,h2⟩)
      ·cases h
      ·exact⟨q,d,f,h2⟩
     ·rintro⟨q,d,f,h2⟩
      exact .inr ⟨q,d,f,h2⟩
 rintro t h2 ⟨w,l',b2,M,Z,P,hll,A,z,H⟩;have z2:=aY b2;refine Yi 1000000 (aj _) (W:=fun y=>y=h.size) M Z P (fun p U=>hB p (A p U)) (by omega) (fun y o=>by omega) fun h3 s3 ks L G V B D=>⟨_,rfl,?_⟩
 obtain⟨C,Y⟩:=B.done;refine vz (i:=3) (D.get0 b2) (show 3<4 by decide) rfl fun h4 b4 O=>?_
 refine hk h4 h.size w (.ofL L) ⟨_,s3,none,ks,b4,rfl,?_,⟨G.cap,id⟩,Eu.2 ?_⟩ C (NH C N fun k v=>?_) ((H.tr D).own O (aj _))
 ·exact(G.upd O fun y o e=>by have e:y=h.size:=e;have o:h2.size≤y:=o;omega).sl fun _ _ _ h=>h
 ·rw[Fo.to_of]
  exact(V.updM O fun y o=>.inl o).less fun _ h=>h.elim
 ·rw[lj]
  unfold uQ;rw[Y,z]
def ab7(n:Bn):Prop:=∀{h:ad} {b:Nat} {sl:ByteArray},DxN No h b sl n.2.1 n.2.2→sl.data.toList=n.1→(kq n).length≤140737488355328→∀{K:SliceV→ad→Prop},(∀s' h',OwnS rD 1 cQ (fun y=>h.size≤y) h' s' (kq n)→Upd No h h'→K s' h')→
 HC PG wY [.pointer (some ⟨b,0,none⟩)] [.c .slice] K h
theorem U4{lab:List UInt8}{w:Option ByteArray}{c:Fo}(hl:lab.length≤10000)(hw:∀v,w=some v→v.size≤10000)(P:c.toL.length≤256)(ih:∀m∈c.toL,ab7 m):ab7 (lab,w,c):=by
 intro h b sl r q hx K hk;simp only at r q;have F:(⟨lab.toArray⟩:ByteArray)=sl:=by rw[←q]
 have hsz:sl.size=lab.length:=by rw[←q];simp
 obtain⟨val,s,ow,ks,hb,hv,hs,hcap,hF⟩:=r;have hL:=Eu.1 hF;have o:=hs.len;rw[hL.1]at o;have ex:kq (lab,w,c)=qh sl++xK w++pe c.toL.length 2++c.toL.flatMap kq:=by
  show vo lab w c.toL.length++qN c=_
  rw[Ar];unfold vo;rw[F];simp only[aq]
 rw[ex]at hx hk;simp only[ac]at hx;have g:∀{h':ad} {i:Nat},Upd No h h'→aJ h' (adr ⟨b,0,none⟩ i)=(adO sl w.isSome val s ow)[i]?:=fun k=>vc (k.get0 hb) _
 have r0:=Upd.refl No h;refine QP (some ⟨b,0,none⟩) ?_;unfold Ho bE bT bK az bF;refine⟨_,rfl,sl,g (i:=0) r0,D5 (by omega) fun s1 h1 H k1=>?_⟩
 refine Join.intro (fun t h2=>OwnS rD 1 cQ (fun y=>h.size≤y) h2 t (qh sl++xK w)∧Upd No h h2) (fun R N=>?_) ?_
 ·refine⟨_,rfl,w.isSome,g (i:=1) k1,?_⟩
  have s1':=k1.size;cases w with
  |none=>
   refine ag.2 (aP fun h2 b2 p=>⟨_,m0 b2,?_⟩)
   have s2:=p.size;refine AppP.own (ys:= [(0:UInt8)]) (H.upd p fun _ _ h=>h) rfl rfl rfl rfl (by omega) (by simp only[aK];simp only[xK,aK]at hx;omega) (by show h.size≤h2.size;omega) fun s3 x f C=>?_
   exact N _ _ ⟨f,(k1.tr p).trans C fun y j=>.inr j⟩
  |some v=>
   have hvs:=hw v rfl;have B:val=v:=hv;subst B;refine aw.2 ⟨_,rfl,_,g (i:=2) k1,aP fun h2 b2 p=>⟨g (i:=2) (k1.tr p),_,m0 b2,?_⟩⟩
   have s2:=p.size;have V:(xK (some val)).length=1+(qh val).length:=by unfold xK;simp;omega
   rw[V]at hx;refine AppP.own (ys:= [(1:UInt8)]) (H.upd p fun _ _ h=>h) rfl rfl rfl rfl (by omega) (by simp only[aK];omega) (by show h.size≤h2.size;omega) fun s3 x f C=>?_
   have D:Upd No h x:=(k1.tr p).trans C fun y j=>.inr j
   refine⟨g (i:=2) D,D5 (by omega) fun s4 h4 n A=>?_⟩
   have G:=D.size;have s4':=A.size;refine Bb (f.upd A fun _ _ h=>h) (n.sl (W:=No) fun _ _ _ h=>h) (fun y j=>by show h.size≤y;omega) (by rw[ac,aK];omega) fun s5 h5 z u=>?_
   refine N _ _ ⟨?_,(D.tr A).trans u fun y j=>.inr j⟩
   have e:qh sl++xK (some val)=qh sl++ [1]++qh val:=by unfold xK;simp
   rw[e];exact z
 rintro t2 h2 ⟨X,Z⟩;refine Join.intro (fun t x=>OwnS rD 1 cQ (fun y=>h.size≤y) x t (qh sl++xK w++pe c.toL.length 2)∧Upd No h x) (fun R N=>?_) ?_
 ·refine⟨_,rfl,s,g (i:=3) Z,?_⟩
  rw[o];refine H1 (by omega) fun s3 x f T=>?_
  have s2':=Z.size;have G:=T.size;refine Bb (X.upd T fun _ _ h=>h) (f.sl (W:=No) fun _ _ _ h=>h) (fun y j=>by show h.size≤y;omega) (by rw[ac];omega) fun s4 h4 n S=>?_
  exact N _ _ ⟨n,(Z.tr T).trans S fun y j=>.inr j⟩
 rintro t3 x ⟨f,D⟩;refine⟨_,rfl,s,g (i:=3) D,?_⟩;refine LoopP.ghost (fun(i:Nat) (t:SliceV×Int) h'=>t.2=(i:Int)∧i≤c.toL.length∧OwnS rD 1 cQ (fun y=>h.size≤y) h' t.1 (qh sl++xK w++pe c.toL.length 2++(c.toL.take i).flatMap kq)∧Upd No h h') (fun i=>c.toL.length-i) 0 ⟨rfl,aS _,by simpa using f,D⟩ ?_
 rintro I i ⟨so,ti⟩ h' ⟨e1,hi,M,E⟩ hI;simp only at e1 M;subst e1;refine ax (fun d=>?_) fun O=>?_
 ·have d:i<c.toL.length:=by have:(i:Int)<(s.len:Int):=d;omega
  refine Join.plain ?_;obtain⟨kb,ksl,Q,U,Y⟩:=(hL.upd0 E).at d;obtain⟨a,ha,_,B⟩:=(hs.upd E fun _ h=>h.elim).at0 Q
  have J:((c.toL.take i).flatMap kq).length+(kq c.toL[i]).length≤(c.toL.flatMap kq).length:=by
   have e:c.toL=c.toL.take i++c.toL[i]::c.toL.drop (i+1):=by rw[List.getElem_cons_drop,aO]
   have:=congrArg (fun L=>(List.flatMap kq L).length) e
   simp only[bI,aN,ac]at this;omega
  refine⟨⟨by simp only;omega,by simp only;omega⟩,a,ha,_,B,ih _ (bh d) Y U (by omega) fun s4 h4 n A=>?_⟩
  have G:=E.size;have s4':=A.size;refine Bb (M.upd A fun _ _ h=>h) (n.sl (W:=No) fun _ _ _ h=>h) (fun y j=>by show h.size≤y;omega) (by simp only[ac];omega) fun s5 h5 z u=>?_
  simp only;rw[cS d (by omega)];refine hI (i+1) _ _ ⟨rfl,d,?_,(E.tr A).trans u fun y j=>.inr j⟩ (by omega)
  rw[bj d,bI,aN,List.flatMap_nil,aL,←aq];exact z
 ·obtain rfl:i=c.toL.length:=by have:¬(i:Int)<(s.len:Int):=O;omega
  rw[ce]at M;exact hk _ _ M E
theorem JK:∀{F:Fo},OK F→∀n∈F.toL,ab7 n
 | .nil,_,n,a=>by simp[Fo.toL]at a
 | .cons lab w kids rest,h,n,a=>by
  rcases aC.1 a with rfl|a
  ·exact U4 h.1 h.2.1 h.2.2.1 (JK h.2.2.2.1)
  ·exact JK h.2.2.2.2 n a
end Go.Proofs
