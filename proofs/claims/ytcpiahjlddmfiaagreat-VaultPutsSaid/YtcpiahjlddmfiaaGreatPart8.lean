/- A part of the proof that the named laws of this program answer true, whatever the input. -/
import Derived.Test.YtcpiahjlddmfiaaGreatPart7
import Derived.Test.YtcpiahjlddmfiaaGreatPart5
import Derived.Test.YtcpiahjlddmfiaaGreatPart3
import Derived.Test.YtcpiahjlddmfiaaGreatPart4
import Derived.Test.YtcpiahjlddmfiaaGreatPart6
open Int renaming tdiv→jj,tdiv_eq_ediv_of_nonneg→dX,toNat_natCast→aF
open List renaming getElem?_toArray→du,length_map→cZ,length_singleton→aD,filter_append→dh,filter_cons→cf,filter_nil→ql,append_nil→bI,length_take→aJ,take_succ_eq_append_getElem→ax,getElem?_eq_getElem→al,take_length→ba,getElem_mem→aU,replicate→dM,length_append→ae,append_assoc→ao,zip_cons_cons→ib,mem_cons→aq,mem_cons_self→au,mem_cons_of_mem→aG,take_succ_cons→dz,cons→fj,mem_of_getLast?→li,filter_eq_self→fB,pairwise_cons→bd,take_append_drop→aM,mem_map→bE,length_drop→aI,length_nil→cc,nil_append→gD,drop_eq_getElem_cons→eA,length_cons→aN,flatMap_append→bA,flatMap_cons→aK
open List.Pairwise renaming nil→cQ
open Nat renaming le_refl→aj,zero_add→aA,not_lt_zero→iE,zero_le→aP,lt_or_ge→bV,shiftRight_eq_div_pow→cr,shiftRight_le→gu
open Option renaming some→bC
namespace Go.Proofs
open Go Go.Lift
def KF(q:List Pr):Int:=if q.length=1 then 1 else if 2≤q.length then 2 else 0
def dF(a:Bool)(s:SliceV)(q:Nat→List Pr)(kk:Nat→Option Addr)(i:Nat):Value:=
 if i=0 then .bool a else if i=1 then sv s else if i<34 then .int .i64 (KF (q (i-2)))else if i<98 then(if i%2=0 then .string (Cd (gE (q ((i-34)/2)))).1 else .string (Cd (gE (q ((i-34)/2)))).2)else .pointer (kk (i-98))
def dC(f:Nat→Value):List Value:=(List.range 130).map f
theorem DN{f:Nat→Value}{i:Nat}(h:i<130):(dC f).toArray[i]? =some (f i):=by
 unfold dC;simp[h]
theorem Mu(f:Nat→Value):(dC f).toArray.size=130:=by simp[dC]
theorem SW{f:Nat→Value}{i:Nat}{v:Value}:(dC f).toArray.setIfInBounds i v=(dC fun j=>if j=i then v else f j).toArray:=by
 unfold dC;apply Array.ext_getElem?;intro j;rw[Array.getElem?_setIfInBounds];simp only[du,List.getElem?_map,List.size_toArray,cZ,List.length_range];by_cases e:i=j
 ·subst e
  by_cases h:i<130
  ·simp[h]
  ·simp[h]
 ·rw[if_neg e]
  by_cases h:j<130
  ·rw[List.getElem?_range h];simp only[Option.map_some];rw[if_neg fun a:j=i=>e a.symm]
  ·rw[List.getElem?_eq_none (by rw[List.length_range];omega)];rfl
theorem GQ{f g:Nat→Value}(h:∀i,i<130→f i=g i):(dC f).toArray=(dC g).toArray:=by
 unfold dC;rw[List.map_congr_left fun i hi=>h i (List.mem_range.1 hi)]
def DTrie(W:Nat→Prop)(x:Hs)(h:ac):Nat→Nat→List Pr→Prop
 |0,b,l=>¬W b∧∃s,h[b]? =some (.cells (dC (dF true s (fun _=> []) fun _=>none)).toArray gw (0,0))∧Sl il 2 W h s l
 |m+1,b,l=>¬W b∧∃kk,h[b]? =some (.cells (dC (dF false ⟨none,0,0⟩ (fun c=>part x (12-m) c l) kk)).toArray gw (0,0))∧∀c,c<32→2≤(part x (12-m) c l).length→∃kb,kk c=some ⟨kb,0,none⟩∧DTrie W x h m kb (part x (12-m) c l)
theorem DTrie.upd{W M:Nat→Prop}{x:Hs}{h h':ac}(k:Upd M h h')(hm:∀b,M b→W b∨h.size≤b):∀{m b:Nat} {l:List Pr},DTrie W x h m b l→DTrie W x h' m b l
 |0,b,_,⟨nw,s,h1,h2⟩=>⟨nw,s,k.get h1 fun hb=>(hm b hb).elim nw fun h=>by have:=bF h1;omega,h2.upd k hm⟩
 |_+1,b,_,⟨nw,kk,h1,h2⟩=>⟨nw,kk,k.get h1 fun hb=>(hm b hb).elim nw fun h=>by have:=bF h1;omega,fun c hc a=>let⟨d,f,e⟩:=h2 c hc a;⟨d,f,DTrie.upd k hm e⟩⟩
theorem DTrie.less{W W':Nat→Prop}{x:Hs}{h:ac}(hm:∀b,W' b→W b):∀{m b:Nat} {l:List Pr},DTrie W x h m b l→DTrie W' x h m b l
 |0,b,_,⟨nw,s,h1,h2⟩=>⟨fun hb=>nw (hm b hb),s,h1,h2.less fun b hb=>.inl (hm b hb)⟩
 |_+1,b,_,⟨nw,kk,h1,h2⟩=>⟨fun hb=>nw (hm b hb),kk,h1,fun c hc a=>let⟨d,f,e⟩:=h2 c hc a;⟨d,f,DTrie.less hm e⟩⟩
abbrev Ti(x:Hs)(p:Pr):List Value:= [.int .u64 (im x p.1)]
theorem Ps(x:Hs)(p:Pr):(Ti x p).length=1∧0<1:=⟨rfl,by omega⟩
def TwoS(x:Hs)(c a:Nat)(h:ac)(so d:SliceV)(L L':List Pr):Prop:=
 ∃A B:Nat→Prop,OwnS il 2 bL A h so L∧OwnS (Ti x) 1 ni B h d L'∧(∀b,A b→c≤b∧b<a∧¬B b)∧∀b,B b→c≤b∧b<a
theorem TwoS.upd0{x:Hs}{c b:Nat}{h h':ac}{so a:SliceV}{L L':List Pr}(t:TwoS x c b h so a L L')(k:Upd No h h'):TwoS x c b h' so a L L':=by
 obtain⟨A,B,f,d,g,e⟩:=t;exact⟨A,B,f.upd k fun _ _ h=>h,d.upd k fun _ _ h=>h,g,e⟩
theorem S8{x:Hs}{e c:Nat}{h:ac}{so i:SliceV}{L L':List Pr}{p:Pr}(t:TwoS x e c h so i L L')(q:e≤c)(o:c≤h.size)(u:L.length≤1000000){xs:List Value}(hx:xs=il p){K:SliceV→ac→Prop}
  (j:∀s' h',TwoS x e h'.size h' s' i (L++ [p]) L'→Upd (fun b=>(e≤b∧b<c)∨h.size≤b) h h'→K s' h'):AppP (some [.string (⟨#[]⟩:ByteArray),.string (⟨#[]⟩:ByteArray)]) 2 32 bL so.a so.len so.cap 1 xs h K:=by
 subst hx;obtain⟨A,B,m,k,a,d⟩:=t;refine AppP.own (ys:= [p]) (m.more (M':=fun b=>A b∨h.size≤b) fun _ h=>.inl h) rfl rfl rfl rfl (by omega) (by simp only[aD];omega) (.inr (aj _)) fun s' h' n f=>?_
 have s:=f.size;refine j s' h' ⟨_,B,n.within,k.upd f fun b hb hm=>hm.elim (fun hm=>(a b hm).2.2 hb) fun hm=>by have:=(d b hb).2;omega,fun b hb=>⟨?_,hb.2,fun g=>?_⟩,fun b hb=>⟨(d b hb).1,by have:=(d b hb).2;omega⟩⟩ (f.mono fun b hb=>hb.elim (fun hb=>.inl (.inl ⟨(a b hb).1,(a b hb).2.1⟩)) .inr)
 ·rcases hb.1 with hb|hb
  ·exact(a b hb).1
  ·omega
 ·rcases hb.1 with hb|hb
  ·exact(a b hb).2.2 g
  ·have:=(d b g).2;omega
theorem appB{x:Hs}{f e:Nat}{h:ac}{so d:SliceV}{L L':List Pr}{p:Pr}(t:TwoS x f e h so d L L')(q:f≤e)(o:e≤h.size)(u:L'.length≤1000000){xs:List Value}(hx:xs=Ti x p){K:SliceV→ac→Prop}
  (j:∀s' h',TwoS x f h'.size h' so s' L (L'++ [p])→Upd (fun b=>(f≤b∧b<e)∨h.size≤b) h h'→K s' h'):AppP (some [.int .u64 0]) 1 8 ni d.a d.len d.cap 1 xs h K:=by
 subst hx;obtain⟨A,B,m,k,a,i⟩:=t;refine AppP.own (ys:= [p]) (k.more (M':=fun b=>B b∨h.size≤b) fun _ h=>.inl h) rfl rfl rfl rfl (by omega) (by simp only[aD];omega) (.inr (aj _)) fun s' h' n g=>?_
 have s:=g.size;refine j s' h' ⟨A,_,m.upd g fun b hb hm=>hm.elim (fun hm=>(a b hb).2.2 hm) fun hm=>by have:=(a b hb).2.1;omega,n.within,fun b hb=>⟨(a b hb).1,by have:=(a b hb).2.1;omega,fun c=>?_⟩,fun b hb=>⟨?_,hb.2⟩⟩ (g.mono fun b hb=>hb.elim (fun hb=>.inl (.inl (i b hb))) .inr)
 ·rcases c.1 with c|c
  ·exact(a b hb).2.2 c
  ·have:=(a b hb).2.1;omega
 ·rcases hb.1 with hb|hb
  ·exact(i b hb).1
  ·omega
theorem Ni{x:Hs}{lev c:Nat}{l:List Pr}{p:Pr}:part x lev c (l++ [p])=if ck x lev p.1=c then part x lev c l++ [p]else part x lev c l:=by
 unfold part;rw[dh,cf,ql];by_cases h:ck x lev p.1=c
 ·rw[if_pos h,if_pos (decide_eq_true h)]
 ·rw[if_neg h,if_neg (by simpa using h),bI]
abbrev xR(x:Hs)(lev:Nat)(l:List Pr)(n:Nat)(c:Nat):List Pr:=if c<n then part x lev c l else[]
theorem Gb{x:Hs}{lev n c:Nat}{l:List Pr}(h:c≠n):xR x lev l (n+1) c=xR x lev l n c:=by
 unfold xR;by_cases hc:c<n
 ·rw[if_pos hc,if_pos (by omega)]
 ·rw[if_neg hc,if_neg (by omega)]
theorem Gc{x:Hs}{lev n:Nat}{l:List Pr}:xR x lev l (n+1) n=part x lev n l:=if_pos (by omega)
theorem Ga{x:Hs}{lev n:Nat}{l:List Pr}:xR x lev l n n= []:=if_neg (by omega)
structure DOf(W:Nat→Prop)(x:Hs)(lev m:Nat)(h0 h:ac)(l:List Pr)(n:Nat)(kk:Nat→Option Addr):Prop where
 blk:h[h0.size]? =some (.cells (dC (dF false ⟨none,0,0⟩ (xR x lev l n) kk)).toArray gw (0,0))
 upd:Upd No h0 h
 kid:∀c,c<n→2≤(part x lev c l).length→∃kb,kk c=some ⟨kb,0,none⟩∧DTrie (fun y=>W y∨y=h0.size) x h m kb (part x lev c l)
theorem T8{c:Bool}{s:SliceV}{q q':Nat→List Pr}{kk b:Nat→Option Addr}{i:Nat}(h:i<2):dF c s q kk i=dF c s q' b i:=by
 unfold dF;by_cases a:i=0
 ·rw[if_pos a,if_pos a]
 ·rw[if_neg a,if_neg a,if_pos (by omega),if_pos (by omega)]
section
variable {bu:Bool} {s:SliceV} {q q':Nat→List Pr} {kk kk':Nat→Option Addr} {i:Nat}
theorem Ms(h:2≤i)(h':i<34):dF bu s q kk i=.int .i64 (KF (q (i-2))):=by
 unfold dF;rw[if_neg (by omega),if_neg (by omega),if_pos h']
theorem IC(h:34≤i)(h':i<98)(e:i%2=0):dF bu s q kk i=.string (Cd (gE (q ((i-34)/2)))).1:=by
 unfold dF;rw[if_neg (by omega),if_neg (by omega),if_neg (by omega),if_pos h',if_pos e]
theorem IA(h:34≤i)(h':i<98)(e:¬i%2=0):dF bu s q kk i=.string (Cd (gE (q ((i-34)/2)))).2:=by
 unfold dF;rw[if_neg (by omega),if_neg (by omega),if_neg (by omega),if_pos h',if_neg e]
theorem IB(h:98≤i):dF bu s q kk i=.pointer (kk (i-98)):=by
 unfold dF;rw[if_neg (by omega),if_neg (by omega),if_neg (by omega),if_neg (by omega)]
theorem Mr{c:Nat}(hc:c<32)(b:∀j,j≠c→q' j=q j)(d:∀j,j≠c→kk' j=kk j)(i:Nat):
  dF bu s q' kk' i=if i=2+c then .int .i64 (KF (q' c))else if i=34+c*2 then .string (Cd (gE (q' c))).1 else if i=34+c*2+1 then .string (Cd (gE (q' c))).2 else if i=98+c then .pointer (kk' c)else dF bu s q kk i:=by
 rcases(show i<2∨(2≤i∧i<34)∨(34≤i∧i<98)∨98≤i by omega)with h|h|h|h
 ·rw[if_neg (by omega),if_neg (by omega),if_neg (by omega),if_neg (by omega)];exact T8 h
 ·by_cases e:i=2+c
  ·rw[if_pos e,Ms h.1 h.2,show i-2=c by omega]
  ·rw[if_neg e,if_neg (by omega),if_neg (by omega),if_neg (by omega),Ms h.1 h.2,Ms h.1 h.2,b _ (by omega)]
 ·rw[if_neg (show ¬i=2+c by omega)]
  by_cases e:(i-34)/2=c
  ·by_cases a:i%2=0
   ·rw[if_pos (by omega),IC h.1 h.2 a,e]
   ·rw[if_neg (by omega),if_pos (by omega),IA h.1 h.2 a,e]
  ·rw[if_neg (by omega),if_neg (by omega),if_neg (by omega)]
   by_cases a:i%2=0
   ·rw[IC h.1 h.2 a,IC h.1 h.2 a,b _ e]
   ·rw[IA h.1 h.2 a,IA h.1 h.2 a,b _ e]
 ·rw[if_neg (by omega),if_neg (by omega),if_neg (by omega)]
  by_cases e:i=98+c
  ·rw[if_pos e,IB h,show i-98=c by omega]
  ·rw[if_neg e,IB h,IB h,d _ (by omega)]
end
theorem PJ{h:ac}{b i:Nat}{f:Nat→Value}{t:TypeId}{v:Value}{k:ac→Prop}(hb:h[b]? =some (.cells (dC f).toArray t (0,0))) (hi:i<130) (d:∀h',h'[b]? =some (.cells (dC fun j=>if j=i then v else f j).toArray t (0,0))→Upd (· =b) h h'→k h'):
  Wr h ⟨b,i,none⟩∧At (hset h ⟨b,i,none⟩ v) k:=
 ⟨f6 hb (by rw[Mu];exact hi),yv hb fun h' a c=>d h' (SW▸a) c⟩
theorem T4{h:ac}{b i:Nat}{f:Nat→Value}{t:TypeId}{v w:Value}{k:ac→Prop}(hb:h[b]? =some (.cells (dC f).toArray t (0,0))) (hi:i+1<130)
  (m:∀h',h'[b]? =some (.cells (dC fun j=>if j=i+1 then w else if j=i then v else f j).toArray t (0,0))→Upd (· =b) h h'→k h'):uj h (some ⟨b,i,none⟩) 0 [v,w]∧At (iJ h ⟨b,i,none⟩ 0 [v,w]) k:=by
 refine⟨.inr ⟨_,rfl,fun j n=>by rw[bB];exact f6 hb (by rw[Mu];simp at n;omega)⟩,bq ?_⟩
 simp only[iJ,bB,Nat.add_zero,aA];exact(PJ (k:=fun g=>k (hset g ⟨b,i+1,none⟩ w)) hb (by omega) fun g e c=>(PJ (k:=k) e hi fun o a d=>m o a (c.tr d)).2).2
set_option maxRecDepth 4000 in
theorem SC{x:Hs}:∀(m:Nat),m≤13→∀{W:Nat→Prop} {h:ac} {s sh:SliceV} {l:List Pr},Sl il 2 W h s l→(∀y,W y→y<h.size)→Sl (Ti x) 1 No h sh l→l.length≤60000→∀{K:Option Addr→ac→Prop},(∀h' b,DTrie W x h' m b l→Upd No h h'→K (some ⟨b,0,none⟩) h')→
  HC PG zn [.slice s.a s.len s.cap,.slice sh.a sh.len sh.cap,.int .i64 ((13-m:Nat):Int)] [.c .ptr] K h:=by
 intro m;induction m with
 |zero=>
  intro _ W h s sh l hs hW T hn K hk;refine I0 s sh ((13-0:Nat):Int) ?_;unfold Ej aR cx nv aC c9 pq bK qT om ML vq;refine ay.2 (aV fun f b1 k1=>?_)
  refine hk f h.size ⟨fun u=>by have:=hW _ u;omega,s,?_,hs.upd k1 fun _ h=>h.elim⟩ k1
  rw[b1];exact congrArg some (congrArg (fun c=>Obj.cells c gw (0,0)) (by kernel_rfl))
 |succ m ih=>
  intro hm W h s sh l hs hW T hn K hk;have nwh:¬W h.size:=fun u=>by have:=hW _ u;omega
  refine I0 s sh ((13-(m+1):Nat):Int) ?_;unfold Ej aR cx nv aC c9 pq bK qT om ML vq;have e13:(((13-(m+1):Nat):Int)==(13:Int))=false:=by rw[beq_eq_false_iff_ne];omega
  rw[e13];refine ah.2 (aV fun f b1 k1=>?_)
  have b1':f[h.size]? =some (.cells (dC (dF false ⟨none,0,0⟩ (xR x (12-m) l 0) fun _=>none)).toArray gw (0,0)):=by
   have:xR x (12-m) l 0=fun _=> []:=by funext c;exact if_neg (by omega)
   rw[b1,this];exact congrArg some (congrArg (fun c=>Obj.cells c gw (0,0)) (by kernel_rfl))
  clear b1;have elev:(13-(m+1):Nat)=12-m:=by omega
  rw[elev];refine LoopP.ghost (fun(g:Nat×(Nat→Option Addr)) (t:Int) h'=>t=(g.1:Int)∧g.1≤32∧DOf W x (12-m) m h h' l g.1 g.2) (fun g=>32-g.1) (0,fun _=>none) ⟨rfl,by omega,b1',k1,fun c hc=>absurd hc (iE _)⟩ ?_
  rintro I ⟨c,kk⟩ t hc ⟨rfl,hc32,F⟩ hI;simp only at hc32 F;have s1:=F.upd.size;have zc:=bF F.blk;refine aw (fun z=>?_) fun hge=>?_
  ·have z:c<32:=by have:(c:Int)<32:=z;omega
   refine Join.intro (fun(_:Unit) h'=>∃kk',DOf W x (12-m) m h h' l (c+1) kk') (fun R hR=>?_) ?_
   ·
    refine LoopP.ghost (fun(i:Nat) (t:SliceV×SliceV×Int) h'=>t.2.2=(i:Int)∧i≤l.length∧TwoS x hc.size h'.size h' t.1 t.2.1 (part x (12-m) c (l.take i)) (part x (12-m) c (l.take i))∧Upd No hc h') (fun i=>l.length-i) 0 ⟨rfl,aP _,⟨No,No,OwnS.nil iu,OwnS.nil (Ps x),fun _ h=>h.elim,fun _ h=>h.elim⟩,Upd.refl _ _⟩ ?_
    rintro I2 i ⟨so,ss,ti⟩ hi ⟨e1,hil,hT,hu⟩ hI2;simp only at e1 hT;subst e1;have hlen:=hs.len;have hlen2:=T.len;have s2:=hu.size;have hsi:=(hs.upd F.upd fun _ h=>h.elim).upd hu fun _ h=>h.elim
    have hshi:=(T.upd F.upd fun _ h=>h.elim).upd hu fun _ h=>h.elim
    refine aw (fun d=>?_) fun hge2=>?_
    ·have d:i<l.length:=by have:(i:Int)<(s.len:Int):=d;omega
     have hpl:(part x (12-m) c (l.take i)).length≤60000:=by
      have:=pv (x:=x) (lev:=12-m) (c:=c) (l:=l.take i);rw[aJ]at this;omega
     have V:part x (12-m) c (l.take (i+1))=if ck x (12-m) l[i].1=c then part x (12-m) c (l.take i)++ [l[i]]else part x (12-m) c (l.take i):=by rw[ax d,Ni]
     refine Join.intro (fun(t:SliceV×SliceV) h'=>TwoS x hc.size h'.size h' t.1 t.2 (part x (12-m) c (l.take (i+1))) (part x (12-m) c (l.take (i+1)))∧Upd No hc h') (fun R2 E=>?_) ?_
     ·obtain⟨a,ha,_,hv⟩:=hsi.at (al d)
      refine⟨⟨by simp only;omega,by simp only;omega⟩,a,ha,_,hv 0 _ rfl,_,hv 1 _ rfl,Di (p:=l[i]) fun G b3 k3=>?_⟩
      obtain⟨a',ha',_,X⟩:=(hshi.upd k3 fun _ h=>h.elim).at0 (al d)
      refine⟨⟨by simp only;omega,by simp only;omega⟩,a',ha',_,X,TA (lev:=12-m) (by omega) ?_⟩
      have hT3:=hT.upd0 k3;have s3:=k3.size;refine CondP.intro (fun e=>?_) fun e=>?_
      ·have e:ck x (12-m) l[i].1=c:=by
        have:((ck x (12-m) l[i].1:Nat):Int)=(c:Int):=by simpa using e
        omega
       rw[if_pos e]at V;rw[V]at E;have uu:∀{h':ac},Upd (fun b=>hc.size≤b) G h'→Upd No hc h':=fun k=>(hu.tr k3).trans k fun y u=>.inr u
       have hab:a'.block<h.size:=T.lt (fun e=>by rw[e]at d;simp at d) ha'
       have sD:=F.upd.size;have wide:∀{n:Nat} {f o:ac},hc.size≤f.size→Upd (fun b=>(hc.size≤b∧b<n)∨f.size≤b) f o→Upd (fun b=>hc.size≤b) f o:=fun hz k=>k.mono fun y u=>.inl (u.elim (fun h=>h.1) fun h=>by omega)
       refine⟨_,vc b3 0,_,vc b3 1,⟨by simp only;omega,by simp only;omega⟩,a',ha',_,X,?_,?_⟩
       ·refine aV fun Y S w=>⟨w.cell0 X,?_,?_⟩
        ·have s4:=w.size
         refine⟨_,mr S,S8 (p:=l[i]) (hT3.upd0 w) (by omega) (by omega) (by omega) rfl fun s5 h5 O N=>⟨N.cell (w.cell0 X) (by rw[wZ];omega),aV fun h6 b6 C=>?_⟩⟩
         have s5':=N.size;have s6:=C.size;refine⟨_,mr b6,appB (p:=l[i]) (O.upd0 C) (by omega) (by omega) (by omega) rfl fun s7 h7 J k7=>?_⟩
         exact E _ _ ⟨J,uu (((w.wide.tr (wide (by omega) N)).tr C.wide).tr (wide (by omega) k7))⟩
        ·refine aV fun h6 b6 C=>?_
         have s4:=w.size;have s6:=C.size;have z6:=bF b6;refine⟨_,mr (C.get0 S),S8 (p:=l[i]) ((hT3.upd0 w).upd0 C) (by omega) (by omega) (by omega) rfl fun s5 h5 O N=>?_⟩
         have s5':=N.size;refine⟨_,mr (N.get b6 (by omega)),appB (p:=l[i]) O (by omega) (by omega) (by omega) rfl fun s7 h7 J k7=>?_⟩
         exact E _ _ ⟨J,uu (((w.wide.tr C.wide).tr (wide (by omega) N)).tr (wide (by omega) k7))⟩
       ·refine aV fun Y S w=>⟨⟨vc (w.get0 b3) 0,vc (w.get0 b3) 1⟩,aV fun h6 b6 C=>?_⟩
        have s4:=w.size;have s6:=C.size;have z4:=bF S;refine⟨_,mr b6,S8 (p:=l[i]) ((hT3.upd0 w).upd0 C) (by omega) (by omega) (by omega) rfl fun s5 h5 O N=>?_⟩
        have s5':=N.size;refine⟨_,mr (N.get (C.get0 S) (by omega)),appB (p:=l[i]) O (by omega) (by omega) (by omega) rfl fun s7 h7 J k7=>?_⟩
        exact E _ _ ⟨J,uu (((w.wide.tr C.wide).tr (wide (by omega) N)).tr (wide (by omega) k7))⟩
      ·have e:¬ck x (12-m) l[i].1=c:=fun e'=>by
        have:¬((ck x (12-m) l[i].1:Nat):Int)=(c:Int):=by simpa using e
        omega
       rw[if_neg e]at V;rw[V]at E;obtain⟨A,B,v,Q,P,q4⟩:=hT3;exact E _ _ ⟨⟨A,B,v,Q,fun b hb=>⟨(P b hb).1,by have:=(P b hb).2.1;omega,(P b hb).2.2⟩,fun b hb=>⟨(q4 b hb).1,by have:=(q4 b hb).2;omega⟩⟩,hu.tr k3⟩
     ·rintro⟨so',ss'⟩ h' ⟨hT',hu'⟩
      simp only;rw[bN d (by omega)];exact hI2 (i+1) _ _ ⟨rfl,d,hT',hu'⟩ (by omega)
    ·have hil':i=l.length:=by have:¬(i:Int)<(s.len:Int):=hge2;omega
     subst hil';rw[ba]at hT;have hDi:h.size<hi.size:=by omega
     have hbi:=hu.get0 F.blk;have hki:∀c',c'<c→2≤(part x (12-m) c' l).length→∃L,kk c'=some ⟨L,0,none⟩∧DTrie (fun y=>W y∨y=h.size) x hi m L (part x (12-m) c' l):=fun c' f o=>let⟨L,G,Y⟩:=F.kid c' f o;⟨L,G,DTrie.upd hu (fun _ h=>h.elim) Y⟩
     obtain⟨A,B,hA,hB,hA',hB'⟩:=hT;have U:Sl il 2 (fun y=>W y∨y=h.size) hi so (part x (12-m) c l):=hA.sl fun y u _ hw=>by
      have:=(hA' y u).1;rcases hw with hw|hw
      ·have:=hW y hw;omega
      ·omega
     have hsB:Sl (Ti x) 1 No hi ss (part x (12-m) c l):=hB.sl fun _ _ _ h=>h
     have hq:=U.len;have hpl:(part x (12-m) c l).length≤l.length:=pv;have hU:=F.upd.tr hu;refine Join.plain ?_;refine CondP.intro (fun e=>?_) fun e=>?_
     ·
      have e:so.len=1:=by
       have:((so.len:Nat):Int)=1:=by simpa using e
       omega
      have hone:(part x (12-m) c l).length=1:=by omega
      obtain⟨p,hp⟩:=List.length_eq_one_iff.1 hone;rw[hp]at U;obtain⟨a,ha,_,hv⟩:=U.at (i:=0) (x:=p) rfl;refine⟨⟨by decide,by simp only;omega⟩,a,ha,_,hv 0 _ rfl,_,hv 1 _ rfl,_,rfl,⟨by omega,by omega⟩,_,rfl,?_⟩
      have ew:((c:Int).toNat*1)=c:=by omega
      have ew2:((c:Int).toNat*2)=c*2:=by omega
      simp only[ew,ew2,bZ h,bB,aA];refine PJ hbi (by omega) fun G b3 u3=>⟨⟨by omega,by omega⟩,T4 b3 (by omega) fun Y S u4=>aw (fun hl=>by omega) fun _=>?_⟩
      have D:Upd (· =h.size) hi Y:=u3.tr u4
      refine hR _ _ ⟨kk,?_,hU.own D (aj _),fun c' f o=>?_⟩
      ·rw[S]
       refine congrArg some (congrArg (fun c=>Obj.cells c gw (0,0)) (GQ fun j H=>?_))
       rw[Mr (q:=xR x (12-m) l c) (q':=xR x (12-m) l (c+1)) (kk:=kk) z (fun j H=>Gb H) (fun _ _=>rfl),Gc,hp]
       have e1:KF [p]=1:=rfl;have e2:Cd (gE [p])=p:=rfl;rw[e1,e2];by_cases v:j=2+c
       ·rw[if_neg (by omega),if_neg (by omega),if_pos v,if_pos v]
       ·by_cases Q:j=34+c*2
        ·rw[if_neg (by omega),if_pos Q,if_neg v,if_pos Q]
        ·by_cases P:j=34+c*2+1
         ·rw[if_pos P,if_neg v,if_neg Q,if_pos P]
         ·rw[if_neg P,if_neg Q,if_neg v,if_neg v,if_neg Q,if_neg P]
          by_cases q4:j=98+c
          ·rw[if_pos q4,IB (by omega),show j-98=c by omega]
          ·rw[if_neg q4]
      ·rcases bV c' c with hh|hh
       ·obtain⟨L,h3',h4'⟩:=hki c' hh o
        exact⟨L,h3',DTrie.upd D (fun y u=>.inl (.inr u)) h4'⟩
       ·rw[show c'=c by omega,hone]at o;omega
     ·have e:¬so.len=1:=fun e'=>by
       have:¬((so.len:Nat):Int)=1:=by simpa using e
       omega
      refine aw (fun Z=>?_) fun hle=>?_
      ·
       have Z:2≤(part x (12-m) c l).length:=by have:(so.len:Int)>1:=Z;omega
       refine⟨_,rfl,_,rfl,?_⟩;have e14:IntKind.wrap .i64 (((12-m:Nat):Int)+1)=((13-m:Nat):Int):=by rw[kE (by omega)];omega
       rw[e14];refine ih (by omega) U (fun y u=>u.elim (fun u=>by have:=hW y u;omega) fun u=>by omega) hsB (by omega) fun o L tk k2=>⟨⟨by omega,by omega⟩,?_⟩
       have ew:((c:Int).toNat*1)=c:=by omega
       simp only[ew,bZ h,bB,aA];refine PJ (k2.get0 hbi) (by omega) fun G b3 u3=>⟨⟨by omega,by omega⟩,PJ b3 (by omega) fun Y S u4=>?_⟩
       have D:Upd (· =h.size) o Y:=u3.tr u4
       refine hR _ _ ⟨fun j=>if j=c then some ⟨L,0,none⟩else kk j,?_,(hU.tr k2).own D (aj _),fun c' f o=>?_⟩
       ·rw[S]
        refine congrArg some (congrArg (fun c=>Obj.cells c gw (0,0)) (GQ fun j H=>?_))
        rw[Mr (q:=xR x (12-m) l c) (q':=xR x (12-m) l (c+1)) (kk:=kk) z (fun j H=>Gb H) (fun _ H=>if_neg H),Gc]
        have e1:KF (part x (12-m) c l)=2:=by unfold KF;rw[if_neg (by omega),if_pos Z]
        have e2:gE (part x (12-m) c l)=none:=by
         match part x (12-m) c l,Z with
         |a::b::r,_=>rfl
        rw[e1,e2,if_pos rfl];by_cases v:j=2+c
        ·rw[if_neg (by omega),if_pos v,if_pos v]
        ·by_cases q4:j=98+c
         ·rw[if_pos q4,if_neg v,if_neg (by omega),if_neg (by omega),if_pos q4]
         ·rw[if_neg q4,if_neg v,if_neg v]
          by_cases Q:j=34+c*2
          ·rw[if_pos Q,IC (by omega) (by omega) (by omega),show(j-34)/2=c by omega,Ga];rfl
          ·rw[if_neg Q]
           by_cases P:j=34+c*2+1
           ·rw[if_pos P,IA (by omega) (by omega) (by omega),show(j-34)/2=c by omega,Ga];rfl
           ·rw[if_neg P,if_neg q4]
       ·rcases bV c' c with hh|hh
        ·obtain⟨kb',h3',h4'⟩:=hki c' hh o
         exact⟨kb',by rw[if_neg (by omega)];exact h3',DTrie.upd D (fun y u=>.inl (.inr u)) (DTrie.upd k2 (fun _ h=>h.elim) h4')⟩
        ·obtain rfl:c'=c:=by omega
         exact⟨L,if_pos rfl,DTrie.upd D (fun y u=>.inl (.inr u)) tk⟩
      ·
       have hnil:part x (12-m) c l= []:=List.length_eq_zero_iff.1 (by have:¬(so.len:Int)>1:=hle;omega);refine hR _ _ ⟨kk,?_,hU,fun c' f o=>?_⟩
       ·rw[hbi]
        refine congrArg some (congrArg (fun c=>Obj.cells c gw (0,0)) (GQ fun j H=>?_))
        have:xR x (12-m) l (c+1)=xR x (12-m) l c:=by
         funext j;by_cases H:j=c
         ·rw[H,Gc,Ga,hnil]
         ·exact Gb H
        rw[this]
       ·rcases bV c' c with hh|hh
        ·exact hki c' hh o
        ·rw[show c'=c by omega,hnil]at o;simp at o
   ·rintro _ h' ⟨kk',hD'⟩
    rw[bN z (by omega)];exact hI (c+1,kk') _ _ ⟨rfl,z,hD'⟩ (by simp only;omega)
  ·obtain rfl:c=32:=by have:¬(c:Int)<32:=hge;omega
   refine hk hc h.size ⟨nwh,kk,?_,fun c hc hp=>let⟨L,G,Y⟩:=F.kid c hc hp;⟨L,G,DTrie.less (fun _ h=>.inl h) Y⟩⟩ F.upd
   rw[F.blk];refine congrArg some (congrArg (fun c=>Obj.cells c gw (0,0)) (GQ fun i hi=>?_))
   have:∀c,c<32→xR x (12-m) l 32 c=part x (12-m) c l:=fun c hc=>if_pos hc
   unfold dF;by_cases h0:i<34
   ·by_cases f:i=0
    ·rw[if_pos f,if_pos f]
    ·by_cases o:i=1
     ·rw[if_neg f,if_neg f,if_pos o,if_pos o]
     ·rw[if_neg f,if_neg f,if_neg o,if_neg o,if_pos h0,if_pos h0,this _ (by omega)]
   ·rw[if_neg (show ¬i=0 by omega),if_neg (show ¬i=0 by omega),if_neg (show ¬i=1 by omega),if_neg (show ¬i=1 by omega),if_neg h0,if_neg h0]
    by_cases G:i<98
    ·rw[if_pos G,if_pos G,this _ (by omega)]
    ·rw[if_neg G,if_neg G]
end Go.Proofs
namespace Go.Proofs
open Go Go.Lift
theorem O2{x:Hs}{h:ac}{s:SliceV}{l:List Pr}(z:Sl il 2 No h s l)(G:l.length≤60000)(o:∀p∈l,p.1.size≤1000000){K:Option Addr→ac→Prop}(F:∀h' b,DTrie No x h' 13 b l→Upd No h h'→K (some ⟨b,0,none⟩) h'):
  HC PG DB [.agg #[.int .u64 x.k0,.int .u64 x.k1,.int .u64 x.mask],.slice s.a s.len s.cap,.int .i64 0] [.c .ptr] K h:=by
 refine Qa (x.k0,x.k1,x.mask) s 0 ?_;unfold Jj cx ad nv Cv Cr aC pq bK qT ML;refine aV fun m b1 k1=>?_
 have u:=z.len;refine LoopP.ghost (fun(i:Nat) (t:SliceV×Int) h'=>t.2=(i:Int)∧i≤l.length∧OwnS (Ti x) 1 ni (fun b=>m.size≤b) h' t.1 (l.take i)∧Upd No m h') (fun i=>l.length-i) 0 ⟨rfl,aP _,OwnS.nil (Ps x),Upd.refl _ _⟩ ?_
 rintro I i ⟨so,Q⟩ h' ⟨C,hi,f,g⟩ D;simp only at C f;subst C;have e:=(z.upd k1 fun _ h=>h.elim).upd g fun _ h=>h.elim
 refine aw (fun c=>?_) fun k=>?_
 ·have c:i<l.length:=by have:(i:Int)<(s.len:Int):=c;omega
  refine Join.plain ?_;obtain⟨a,H,_,hv⟩:=e.at (al c);refine⟨⟨by simp only;omega,by simp only;omega⟩,a,H,_,hv 0 _ rfl,_,hv 1 _ rfl,Di (p:=l[i]) fun B b2 d=>?_⟩
  have c1:=d.get0 (g.get0 b1);refine⟨_,vc c1 0,_,vc c1 1,_,vc c1 2,_,vc b2 0,O5 (by have:=o _ (aU c);omega) fun R w=>aV fun N J A=>⟨_,mr J,?_⟩⟩
  have v:=((g.tr d).tr w).tr A;refine AppP.own (M:=fun b=>m.size≤b) (ys:= [l[i]]) (((f.upd d fun _ _ h=>h).upd w fun _ _ h=>h).upd A fun _ _ h=>h) rfl rfl rfl rfl (by omega) (by simp only[aD,aJ];omega) v.size fun P O j q=>?_
  simp only;rw[bN c (by omega)];refine D (i+1) _ _ ⟨rfl,c,?_,v.trans q fun y E=>.inr E⟩ (by omega)
  rw[ax c];exact j
 ·have n:i=l.length:=by have:¬(i:Int)<(s.len:Int):=k;omega
  subst n;rw[ba]at f;exact SC 13 (aj _) e (fun _ h=>h.elim) (f.sl fun _ _ _ h=>h) G fun B b L d=>F B b L ((k1.tr g).tr d)
theorem E5(n:Nat):IntKind.wrap .u8 (n:Int)=((UInt8.ofNat n).toNat:Int):=by rw[IntKind.wrap_u8];simp
theorem Cu{n:Nat}(e:n≤1000000000){h:ac}{K:SliceV→ac→Prop}(b:∀s' h',OwnS m8 1 bX (fun y=>h.size≤y) h' s' (kQ n 2)→Upd No h h'→K s' h'):HC PG qU [.int .i64 (n:Int)] [.c .slice] K h:=by
 refine NV (n:Int) ?_;unfold F3 QB;have d:jj (n:Int) 256=((n>>>(8*1):Nat):Int):=by rw[dX (by omega),cr];rfl
 have a:n>>>(8*1)≤n:=gu ..;rw[d,kE (by generalize n>>>(8*1)=y at a;omega),E5,E5];refine⟨by decide,aV fun c b1 k1=>b _ c ⟨rfl,rt,aj _,.inr ⟨h.size,[],rfl,aj _,b1,rfl⟩⟩ k1⟩
theorem HX{n:Nat}(f:n<4294967296){h:ac}{K:SliceV→ac→Prop}(a:∀s' h',OwnS m8 1 bX (fun y=>h.size≤y) h' s' (kQ n 4)→Upd No h h'→K s' h'):HC PG uG [.int .u32 (n:Int)] [.c .slice] K h:=by
 refine Lm (n:Int) ?_;unfold Ei Tl;have q:∀k:Nat,((n>>>k:Nat):Int)<4294967296:=fun k=>by have:n>>>k≤n:=gu ..;generalize n>>>k=y at this;omega
 have d:jj (n:Int) 256=((n>>>(8*1):Nat):Int):=by rw[dX (by omega),cr];rfl
 have b:jj (n:Int) 65536=((n>>>(8*2):Nat):Int):=by rw[dX (by omega),cr];rfl
 have e:jj (n:Int) 16777216=((n>>>(8*3):Nat):Int):=by rw[dX (by omega),cr];rfl
 have w:∀k:Nat,IntKind.wrap .u32 ((n>>>k:Nat):Int)=((n>>>k:Nat):Int):=fun k=>by have:=q k;generalize n>>>k=y at this;rw[IntKind.wrap_u32];omega
 rw[d,b,e,w,w,w,E5,E5,E5,E5];refine⟨by decide,by decide,by decide,aV fun c b1 k1=>a _ c ⟨rfl,rt,aj _,.inr ⟨h.size,[],rfl,aj _,b1,rfl⟩⟩ k1⟩
theorem wy{M W:Nat→Prop}{h:ac}{so e:SliceV}{out ys:List UInt8}{K:SliceV→ac→Prop}(c:OwnS m8 1 bX M h so out)(a:Sl m8 1 W h e ys)(hM:∀b,h.size≤b→M b)(f:out.length+ys.length≤140737488355328)
  (d:∀s' h',OwnS m8 1 bX M h' s' (out++ys)→Upd M h h'→K s' h'):∃xs,SRow h e.a (e.len*1) xs∧AppP (some [.int .u8 0]) 1 1 bX so.a so.len so.cap e.len xs h K:=
 ⟨_,a.srow,AppP.own (ys:=ys) c a.len rfl (y7 _) rfl (by omega) (by omega) (hM _ (aj _)) d⟩
theorem y6{b:ByteArray}(hb:b.size≤1000000){h:ac}{K:SliceV→ac→Prop}(k:∀s' h',OwnS m8 1 bX (fun y=>h.size≤y) h' s' (l5 b)→Upd No h h'→K s' h'):HC PG oM [.string b] [.c .slice] K h:=by
 refine Lk b ?_;unfold Ef;refine Cu (by omega) fun s d f k1=>?_
 intro c hc;have a:=Upd.push No d (.cells (bv b++dM (c-b.size) (Value.int .u8 0)).toArray bX (c,c+1));have b2:=tL d (.cells (bv b++dM (c-b.size) (Value.int .u8 0)).toArray bX (c,c+1));generalize d.push (.cells (bv b++dM (c-b.size) (Value.int .u8 0)).toArray bX (c,c+1))=h2 at a b2;have q:b.data.toList.length=b.size:=by simp
 have e:Sl m8 1 No h2 ⟨some (aH d),b.size,c⟩ b.data.toList:=by
  refine⟨by simp,rt,fun _=>⟨_,rfl,id,np b2 fun i v hv=>?_⟩⟩
  rw[aA,du,pM,List.getElem?_append_left (List.getElem?_eq_some_iff.1 hv).1];exact hv
 have o:=k1.size;have t:=a.size;refine wy (f.upd a fun _ _ h=>h) e (fun y j=>by show h.size≤y;omega) (by rw[cI];omega) fun n p g m=>k n p g ((k1.tr a).trans m fun y j=>.inr j)
theorem AD{W:Nat→Prop}{h:ac}{s:SliceV}{l:List Pr}(B:Sl il 2 W h s l)(C:Fit l)(Y:l.length≤60000){K:SliceV→ac→Prop}(H:∀s' h',OwnS m8 1 bX (fun y=>h.size≤y) h' s' (jb l)→Upd No h h'→K s' h'):
  HC PG pH [.slice s.a s.len s.cap] [.c .slice] K h:=by
 refine IY s ?_;unfold BZ cx nv aC pq bK qT;have A:=B.len;refine LoopP.ghost (fun(i:Nat) (t:SliceV×Int) h'=>t.2=(i:Int)∧i≤l.length∧OwnS m8 1 bX (fun b=>h.size≤b) h' t.1 (jb (l.take i))∧Upd No h h') (fun i=>l.length-i) 0 ⟨rfl,aP _,OwnS.nil rt,Upd.refl _ _⟩ ?_
 rintro I i ⟨so,ti⟩ h' ⟨D,hi,g,f⟩ G;simp only at D g;subst D;refine aw (fun c=>?_) fun n=>?_
 ·have c:i<l.length:=by have:(i:Int)<(s.len:Int):=c;omega
  refine Join.plain ?_;obtain⟨a,L,_,hv⟩:=(B.upd f fun _ h=>h.elim).at (al c)
  have O:=C l[i] (aU c);have j:=kO (l:=l.take i) fun q R=>C q (List.mem_of_mem_take R)
  rw[aJ,Nat.min_eq_left hi]at j;have h1:=gV l[i].1;have N:=gV l[i].2;refine⟨⟨by simp only;omega,by simp only;omega⟩,a,L,_,hv 0 _ rfl,_,hv 1 _ rfl,Di (p:=l[i]) fun N b2 w=>?_⟩
  refine⟨_,vc b2 0,_,vc b2 1,y6 (by omega) fun X h3 v e=>⟨vc (e.get0 b2) 1,?_⟩⟩
  have S:=(f.tr w).tr e;have s2:=bF b2;have P:=w.size;have J:=e.size;have s0:=f.size;refine wy (M:=fun y=>h.size≤y∧y≠h'.size) (((g.within.upd w fun _ _ h=>h).upd e fun _ _ h=>h).more fun y d=>⟨d.1,by omega⟩) (v.sl (W:=No) fun _ _ _ h=>h) (fun y d=>by omega) (by omega) fun T U m o=>⟨vc (o.get (e.get0 b2) (by omega)) 1,?_⟩
  have Q:=o.size;refine y6 (by omega) fun s5 V k x=>?_
  have F:=x.size;refine wy (M:=fun y=>h.size≤y) ((m.upd x fun _ _ h=>h).more fun y d=>d.1) (k.sl (W:=No) fun _ _ _ h=>h) (fun y d=>by show h.size≤y;omega) (by rw[ae];omega) fun s6 Z z E=>?_
  simp only;rw[bN c (by omega)];refine G (i+1) _ _ ⟨rfl,c,?_,(((S.trans o fun y d=>.inr d.1)).tr x).trans E fun y d=>.inr d⟩ (by omega)
  rw[BC c,BD,←ao];exact z
 ·have u:i=l.length:=by have:¬(i:Int)<(s.len:Int):=n;omega
  subst u;rw[ba]at g;exact H _ _ g f
theorem M9{W W':Nat→Prop}{h:ac}{s s':SliceV}{l:List UInt8}(f:Sl m8 1 W h s l)(c:Sl m8 1 W' h s' l)(o:l.length≤1000000000000){K:Bool→ac→Prop}(g:K true h):HC PG yg [.slice s.a s.len s.cap,.slice s'.a s'.len s'.cap] [.c .bool] K h:=by
 refine Ll s s' ?_;unfold Eg aR cx;have n:=f.len;have k:=c.len;rw[n,k,bne_self_eq_false];refine ah.2 ?_;refine LoopP.ghost (fun(i:Nat) (t:Int) h'=>t=(i:Int)∧i≤l.length∧h'=h) (fun i=>l.length-i) 0 ⟨rfl,aP _,rfl⟩ ?_
 rintro I i t h' ⟨rfl,hi,rfl⟩ m;refine aw (fun b=>?_) fun _=>g
 have b:i<l.length:=by omega
 obtain⟨a,j,_,hv⟩:=f.at0 (al b);obtain⟨a',e,_,d⟩:=c.at0 (al b);refine⟨⟨by omega,by omega⟩,a,j,_,hv,⟨by omega,by omega⟩,a',e,_,d,?_⟩
 rw[bne_self_eq_false];refine ah.2 ?_;rw[bN b (by omega)];exact m (i+1) _ _ ⟨rfl,b,rfl⟩ (by omega)
end Go.Proofs
namespace Go.Proofs
open Go Go.Lift
abbrev UN(lab:ByteArray)(has:Bool)(val:ByteArray)(s:SliceV)(_:Option Addr):Array Value:= #[.string lab,.bool has,.string val,sv s]
def DxF(W:Nat→Prop)(h:ac):Fo→List (Option Addr)→Prop
 | .nil,ks=>ks= []
 | .cons lab w kids rest,ks=>∃b sl val s ow ks1 ks',ks=some ⟨b,0,none⟩::ks'∧sl.data.toList=lab∧h[b]? =some (.cells (UN sl w.isSome val s ow) mF (0,0))∧val=w.getD ⟨#[]⟩∧Sl xB 1 W h s ks1∧(s.len≤s.cap∧¬W b)∧DxF W h kids ks1∧DxF W h rest ks'
def DxN(W:Nat→Prop)(h:ac)(b:Nat)(sl:ByteArray)(w:Option ByteArray)(F:Fo):Prop:=∃val s ow ks,h[b]? =some (.cells (UN sl w.isSome val s ow) mF (0,0))∧val=w.getD ⟨#[]⟩∧Sl xB 1 W h s ks∧(s.len≤s.cap∧¬W b)∧DxF W h F ks
def DKid(W:Nat→Prop)(h:ac)(k:Option Addr)(n:Bn):Prop:=∃b sl,k=some ⟨b,0,none⟩∧sl.data.toList=n.1∧DxN W h b sl n.2.1 n.2.2
def DxL(W:Nat→Prop)(h:ac)(ks:List (Option Addr))(L:List Bn):Prop:=ks.length=L.length∧∀p∈ks.zip L,DKid W h p.1 p.2
theorem zq{W:Nat→Prop}{h:ac}:∀{F:Fo} {ks:List (Option Addr)},DxF W h F ks↔DxL W h ks F.toL
 | .nil,ks=>by
  unfold DxF DxL;simp[Fo.toL]
 | .cons lab w kids rest,ks=>by
  unfold DxF DxL;rw[Fo.toL_cons];constructor
  ·rintro⟨b,sl,val,s,ow,c,d,rfl,n,g,o,f,j,i,u⟩
   obtain⟨q,t⟩:=zq.1 u;refine⟨by simp[q],fun p a=>?_⟩
   rw[ib]at a;rcases aq.1 a with rfl|a
   ·exact⟨b,sl,rfl,n,val,s,ow,c,g,o,f,j,i⟩
   ·exact t p a
  ·cases ks with
   |nil=>rintro⟨e,_⟩;simp at e
   |cons k d=>
    rintro⟨e,a⟩;rw[ib]at a;obtain⟨b,sl,v,n,val,s,ow,c,g,o,f,j,i⟩:=a _ (au ..);refine⟨b,sl,val,s,ow,c,d,by rw[←v],n,g,o,f,j,i,zq.2 ⟨by simpa using e,fun p m=>a p (aG _ m)⟩⟩
theorem DxF.upd0{W:Nat→Prop}{h h':ac}(k:Upd No h h'):∀{F:Fo} {ks:List (Option Addr)},DxF W h F ks→DxF W h' F ks
 | .nil,_,r=>r
 | .cons _ _ _ _,_,⟨b,sl,val,s,ow,ks1,ks',e0,e1,e2,e3,e4,e5,e6,e7⟩=>⟨b,sl,val,s,ow,ks1,ks',e0,e1,k.get0 e2,e3,e4.upd k fun _ h=>h.elim,e5,DxF.upd0 k e6,DxF.upd0 k e7⟩
theorem DxN.upd0{W:Nat→Prop}{h h':ac}(k:Upd No h h'){b:Nat}{sl:ByteArray}{w:Option ByteArray}{F:Fo}:DxN W h b sl w F→DxN W h' b sl w F
 |⟨val,s,ow,ks,e2,e3,e4,e5,e6⟩=>⟨val,s,ow,ks,k.get0 e2,e3,e4.upd k fun _ h=>h.elim,e5,DxF.upd0 k e6⟩
theorem DKid.upd0{W:Nat→Prop}{h h':ac}(k:Upd No h h'){a:Option Addr}{n:Bn}:DKid W h a n→DKid W h' a n
 |⟨b,sl,e1,e2,e3⟩=>⟨b,sl,e1,e2,e3.upd0 k⟩
theorem DxF.less{W W':Nat→Prop}{h:ac}(hm:∀b,W' b→W b∨h.size≤b):∀{F:Fo} {ks:List (Option Addr)},DxF W h F ks→DxF W' h F ks
 | .nil,_,r=>r
 | .cons _ _ _ _,_,⟨b,sl,val,s,ow,ks1,ks',e0,e1,e2,e3,e4,e5,e6,e7⟩=>⟨b,sl,val,s,ow,ks1,ks',e0,e1,e2,e3,e4.less hm,⟨e5.1,fun hx=>(hm _ hx).elim e5.2 fun h=>by have:=bF e2;omega⟩,DxF.less hm e6,DxF.less hm e7⟩
theorem DxN.less{W W':Nat→Prop}{h:ac}(hm:∀b,W' b→W b∨h.size≤b){b:Nat}{sl:ByteArray}{w:Option ByteArray}{F:Fo}:DxN W h b sl w F→DxN W' h b sl w F
 |⟨val,s,ow,ks,e2,e3,e4,e5,e6⟩=>⟨val,s,ow,ks,e2,e3,e4.less hm,⟨e5.1,fun hx=>(hm _ hx).elim e5.2 fun h=>by have:=bF e2;omega⟩,DxF.less hm e6⟩
theorem DxF.updM{W M:Nat→Prop}{h h':ac}(k:Upd M h h')(hm:∀b,M b→W b∨h.size≤b):∀{F:Fo} {ks:List (Option Addr)},DxF W h F ks→DxF W h' F ks
 | .nil,_,r=>r
 | .cons _ _ _ _,_,⟨b,sl,val,s,ow,ks1,ks',e0,e1,e2,e3,e4,e5,e6,e7⟩=>⟨b,sl,val,s,ow,ks1,ks',e0,e1,k.get e2 (fun hx=>(hm _ hx).elim e5.2 fun h=>by have:=bF e2;omega),e3,e4.upd k hm,e5,DxF.updM k hm e6,DxF.updM k hm e7⟩
theorem DxN.updM{W M:Nat→Prop}{h h':ac}(k:Upd M h h')(hm:∀b,M b→W b∨h.size≤b){b:Nat}{sl:ByteArray}{w:Option ByteArray}{F:Fo}:DxN W h b sl w F→DxN W h' b sl w F
 |⟨val,s,ow,ks,e2,e3,e4,e5,e6⟩=>⟨val,s,ow,ks,k.get e2 (fun hx=>(hm _ hx).elim e5.2 fun h=>by have:=bF e2;omega),e3,e4.upd k hm,e5,DxF.updM k hm e6⟩
theorem DxL.upd0{W:Nat→Prop}{h h':ac}(k:Upd No h h'){ks:List (Option Addr)}{L:List Bn}(r:DxL W h ks L):DxL W h' ks L:=⟨r.1,fun p a=>(r.2 p a).upd0 k⟩
theorem DxL.app{W:Nat→Prop}{h:ac}{ks b:List (Option Addr)}{L L':List Bn}(r:DxL W h ks L)(c:DxL W h b L'):DxL W h (ks++b) (L++L'):=by
 refine⟨by rw[ae,ae,r.1,c.1],fun p a=>?_⟩
 rw[List.zip_append r.1]at a;rcases List.mem_append.1 a with a|a
 ·exact r.2 p a
 ·exact c.2 p a
theorem DxL.one{W:Nat→Prop}{h:ac}{k:Option Addr}{n:Bn}(c:DKid W h k n):DxL W h [k] [n]:=⟨rfl,fun p a=>by rw[ib,List.zip_nil_left]at a;rw[List.mem_singleton.1 a];exact c⟩
theorem DxL.at{W:Nat→Prop}{h:ac}{ks:List (Option Addr)}{L:List Bn}(r:DxL W h ks L){i:Nat}(hi:i<L.length):∃b sl,ks[i]? =some (some ⟨b,0,none⟩)∧sl.data.toList=L[i].1∧DxN W h b sl L[i].2.1 L[i].2.2:=by
 have c:i<ks.length:=by rw[r.1];exact hi
 have a:i<(ks.zip L).length:=by rw[List.length_zip];omega
 have:=r.2 _ (aU a);rw[List.getElem_zip]at this;obtain⟨b,sl,e,d,f⟩:=this;exact⟨b,sl,by rw[al c];exact congrArg some e,d,f⟩
theorem DKid.less{W W':Nat→Prop}{h:ac}(hm:∀b,W' b→W b∨h.size≤b){a:Option Addr}{n:Bn}:DKid W h a n→DKid W' h a n
 |⟨b,sl,e1,e2,e3⟩=>⟨b,sl,e1,e2,e3.less hm⟩
theorem DKid.updM{W M:Nat→Prop}{h h':ac}(k:Upd M h h')(hm:∀b,M b→W b∨h.size≤b){a:Option Addr}{n:Bn}:DKid W h a n→DKid W h' a n
 |⟨b,sl,e1,e2,e3⟩=>⟨b,sl,e1,e2,e3.updM k hm⟩
theorem DxL.less{W W':Nat→Prop}{h:ac}(hm:∀b,W' b→W b∨h.size≤b){ks:List (Option Addr)}{L:List Bn}(r:DxL W h ks L):DxL W' h ks L:=⟨r.1,fun p a=>(r.2 p a).less hm⟩
theorem DxL.updM{W M:Nat→Prop}{h h':ac}(k:Upd M h h')(hm:∀b,M b→W b∨h.size≤b){ks:List (Option Addr)}{L:List Bn}(r:DxL W h ks L):DxL W h' ks L:=⟨r.1,fun p a=>(r.2 p a).updM k hm⟩
theorem JX{a b:ByteArray}(x:a.size≤1000000){h:ac}{K:Int→ac→Prop}(o:K (cm a.data.toList b.data.toList:Nat) h):HC PG uF [.string a,.string b] [.c (.int .i64)] K h:=by
 refine Hb a b ?_;unfold Ae;have y:a.data.toList.length=a.size:=by simp
 have z:b.data.toList.length=b.size:=by simp
 refine LoopP.ghost (fun(i:Nat) (t:Int) h'=>t=(i:Int)∧i≤min a.size b.size∧h'=h∧∀j,j<i→a.data.toList[j]? =b.data.toList[j]?) (fun i=>min a.size b.size-i) 0 ⟨rfl,aP _,rfl,fun j s=>absurd s (iE _)⟩ ?_
 rintro I i t h' ⟨rfl,hi,rfl,g⟩ w;refine Join.intro (fun t k=>k=h'∧(t=true→i<min a.size b.size∧a.data.toList[i]? =b.data.toList[i]?)∧(t=false→cm a.data.toList b.data.toList=i)) (fun R n=>?_) ?_
 ·refine aw (fun m=>?_) fun m=>n _ _ ⟨rfl,fun h=>(by cases h),fun _=>FM (by omega) (by omega) g (by omega)⟩
  refine aw (fun k=>?_) fun k=>n _ _ ⟨rfl,fun h=>(by cases h),fun _=>FM (by omega) (by omega) g (by omega)⟩
  have c:i<a.size:=by omega
  have f:i<b.size:=by omega
  have u:a.data.toList[i]? =some a[i]:=by rw[←Ir,getElem?_pos a i c]
  have q:b.data.toList[i]? =some b[i]:=by rw[←Ir,getElem?_pos b i f]
  refine⟨a[i],by omega,by rw[aF,getElem?_pos a i c],b[i],by omega,by rw[aF,getElem?_pos b i f],n _ _ ⟨rfl,fun h=>⟨by omega,?_⟩,fun h=>?_⟩⟩
  ·have:((a[i].toNat:Int))=(b[i].toNat:Int):=by simpa using h
   rw[u,q,UInt8.toNat_inj.1 (show a[i].toNat=b[i].toNat by omega)]
  ·refine FM (by omega) (by omega) g (.inr (.inr fun e=>?_))
   rw[u,q]at e;rw[bC.inj e]at h;simp at h
 ·rintro t k ⟨rfl,m,v⟩
  cases t with
  |true=>
   obtain⟨d,e⟩:=m rfl;refine ay.2 ?_;rw[bN d (by omega)];refine w (i+1) _ _ ⟨rfl,d,rfl,fun j s=>?_⟩ (by omega)
   rcases bV j i with p|p
   ·exact g j p
   ·rw[show j=i by omega];exact e
  |false=>
   refine ah.2 ?_;rw[v rfl]at o;exact o
theorem Sd:∀{x y:List UInt8} {t:Nat},t≤x.length→t≤y.length→x.take t=y.take t→t≤cm x y
 |_,_,0,_,_,_=>aP _
 | [],_,t+1,h,_,_=>by simp at h
 |_::_,[],t+1,_,h,_=>by simp at h
 |a::x,b::y,t+1,h1,h2,e=>by
  rw[dz,dz]at e;obtain⟨c,d⟩:=fj.inj e;have:=Sd (x:=x) (y:=y) (t:=t) (by simpa using h1) (by simpa using h2) d;unfold cm;rw[if_pos c];omega
def RV(t:Nat)(p:Pr):Pr:=(p.1.extract t p.1.size,p.2)
theorem Fw(t:Nat)(p:Pr):ky (RV t p)=(ky p).drop t:=DE p.1 t
def MD(B:Nat):Prop:=∀{W:Nat→Prop} {h:ac} {s:SliceV} {l:List Pr},Sl il 2 No h s l→s.len≤s.cap→Beg l []→(∀p∈l,(ky p).length≤B)→l.length≤100000→(∀y,W y→y<h.size)→∀{K:SliceV→ac→Prop},
 (∀h' s' ks L,OwnS xB 1 qH (fun y=>h.size≤y) h' s' ks→DxL W h' ks L→Row L l [] []→Upd No h h'→K s' h')→HC PG qO [.slice s.a s.len s.cap] [.c .slice] K h
def uV(to:Nat)(l:List Pr):List Pr:=(l.filter fun p=>decide ((ky p).length≠to)).map (RV to)
theorem JS{to:Nat}{l:List Pr}{i:Nat}(hi:i<l.length):uV to (l.take (i+1))=if(ky l[i]).length=to then uV to (l.take i)else uV to (l.take i)++ [RV to l[i]]:=by
 unfold uV;rw[ax hi,dh,List.map_append,cf,ql];by_cases h:(ky l[i]).length=to
 ·rw[if_pos h,if_neg (by simpa using h)];simp
 ·rw[if_neg h,if_pos (by simpa using h)];rfl
theorem K6{W:Nat→Prop}{B:Nat}(hB:B≤1000000)(X:∀B',B'<B→MD B'){h:ac}{s:SliceV}{l r:List Pr}{f g:Pr}(hs:Sl il 2 No h s l)(bg:Beg l [])(U:∀p∈l,(ky p).length≤B)(hn:l.length≤100000)(hW:∀y,W y→y<h.size)
  (w:l=f::r)(hg:l.getLast? =some g)(hb:bt 0 f=bt 0 g){K:Option Addr→ac→Prop}
  (hk:∀h' a n,DKid W h' a n→NZ n→hd n.1=bt 0 f→(∀k v,yL n k v↔RQ l [] k v)→Upd No h h'→K a h'):HC PG uE [.slice s.a s.len s.cap] [.c .ptr] K h:=by
 refine Ha s ?_;unfold Ad cx nv aC c9 pq bK qT;have hlen:=hs.len;have hl0:0<l.length:=by rw[w];simp
 have hfm:f∈l:=by rw[w];exact au ..
 have hgm:g∈l:=li hg;obtain⟨a,ha,_,hvf⟩:=hs.at (i:=0) (x:=f) (by rw[w];rfl);obtain⟨q1,q2,q3,q4,q5⟩:=FQ bg ⟨r,w⟩ hg hb;have hbc:= @K5 l (if(ky f).length=cm (ky f) (ky g)then l.drop 1 else l) [] f g bg ⟨r,w⟩ hg hb
 have hcg:cm (ky f) (ky g)=cm (ky f) (ky g):=rfl;obtain⟨to,S⟩:∃to,cm (ky f) (ky g)=to:=⟨_,rfl⟩;rw[S]at q1 q2 q3 q4 hbc;have hszf:f.1.size=(ky f).length:=(KC f.1).symm;have hfB:=U f hfm;have hle:∀p∈l,to≤(ky p).length:=fun p j=>(q4 p j).elim (fun e=>e▸q2) Nat.le_of_lt
 have hcm:∀p∈l,to≤cm (ky f) (ky p):=fun p j=>Sd q2 (hle p j) (q3 p j).symm
 have hpos:0<to:=by simpa using q1
 refine⟨⟨by decide,by omega⟩,a,ha,_,hvf 0 _ rfl,?_⟩
 refine LoopP.ghost (fun(g:Nat×Nat) (t:Int×Int) h'=>t=((g.2:Int),(g.1:Int))∧g.1≤l.length∧to≤g.2∧g.2≤(ky f).length∧(g.1=l.length→g.2=to)∧Upd No h h') (fun g=>l.length-g.1) (0,(ky f).length) ⟨by rw[hszf];rfl,aP _,q2,aj _,fun e=>by simp only at e;omega,Upd.refl _ _⟩ ?_
 rintro I ⟨i,n⟩ t h' ⟨rfl,hi,hn1,hn2,V,Y⟩ hI;simp only at hi hn1 hn2 V;refine aw (fun b=>?_) fun Q=>?_
 ·have b:i<l.length:=by have:(i:Int)<(s.len:Int):=b;omega
  have C:l[i]∈l:=aU b;refine Join.intro (fun t o=>∃n':Nat,t=(n':Int)∧to≤n'∧n'≤(ky f).length∧(i+1=l.length→n'=to)∧Upd No h o) (fun R hR=>?_) ?_
  ·obtain⟨a',T,_,hv⟩:=(hs.upd Y fun _ h=>h.elim).at (al b)
   refine⟨⟨by simp only;omega,by simp only;omega⟩,a',T,_,hv 0 _ rfl,_,hv 1 _ rfl,Di (p:=l[i]) fun o b2 k2=>?_⟩
   obtain⟨a2,ha2,_,hv2⟩:=((hs.upd Y fun _ h=>h.elim).upd k2 fun _ h=>h.elim).at (i:=0) (x:=f) (by rw[w];rfl)
   refine⟨⟨by decide,by omega⟩,a2,ha2,_,hv2 0 _ rfl,_,vc b2 0,JX (by omega) ?_⟩
   have hc1:=hcm _ C;have hc2:=(My (ky f) (ky l[i])).1;have D:i+1=l.length→l[i]=g:=fun e=>by
    rw[List.getLast?_eq_getElem?,show l.length-1=i by omega,al b]at hg
    exact bC.inj hg
   change CondP (decide ((cm (ky f) (ky l[i]):Int)<(n:Int))) _ _;refine aw (fun hc=>hR _ _ ⟨_,rfl,hc1,hc2,fun e=>?_,Y.tr k2⟩) fun hc=>hR _ _ ⟨n,rfl,hn1,hn2,fun e=>?_,Y.tr k2⟩
   ·rw[D e,S]
   ·rw[D e,S]at hc;omega
  ·rintro t o ⟨n',rfl,E,h2',N,m⟩
   simp only;rw[bN b (by omega)];exact hI (i+1,n') _ _ ⟨rfl,b,E,h2',N,m⟩ (by simp only;omega)
 obtain rfl:i=l.length:=by have:¬(i:Int)<(s.len:Int):=Q;omega
 obtain rfl:n=to:=V rfl;clear V hI;obtain⟨a',T,_,hv⟩:=(hs.upd Y fun _ h=>h.elim).at (i:=0) (x:=f) (by rw[w];rfl)
 refine⟨⟨by decide,by omega⟩,a',T,f.1,hv 0 _ rfl,⟨by omega,by simp only;omega⟩,aV fun E b1 k1=>?_⟩
 have u1:=Y.tr k1;have z1:=bF b1;have s0:=Y.size;simp only[aF]at b1⊢;have hlab:(f.1.extract 0 n).data.toList=((ky f).take n).drop ([]:List UInt8).length:=by rw[DD];rfl
 refine LoopP.ghost (fun(i:Nat) (t:SliceV×Int) o=>t.2=(i:Int)∧i≤l.length∧o[h'.size]? =some (.cells #[.string (f.1.extract 0 n),.bool (if 0<i∧(ky f).length=n then some f.2 else none:Option ByteArray).isSome,.string ((if 0<i∧(ky f).length=n then some f.2 else none:Option ByteArray).getD ⟨#[]⟩),.slice none 0 0] mF (0,0))∧
  OwnS il 2 bL (fun y=>E.size≤y) o t.1 (uV n (l.take i))∧Upd No h o∧E.size≤o.size) (fun i=>l.length-i) 0 ⟨rfl,aP _,by rw[if_neg (by omega)];exact b1,OwnS.nil iu,u1,aj _⟩ ?_
 rintro I i ⟨so,ti⟩ o ⟨e1,hi2,c2,ho,m,hz2⟩ hI;simp only at e1 ho;subst e1;refine aw (fun b=>?_) fun Q=>?_
 ·have b:i<l.length:=by have:(i:Int)<(s.len:Int):=b;omega
  have C:l[i]∈l:=aU b;have J:=JS (to:=n) b;have hszi:l[i].1.size=(ky l[i]).length:=(KC l[i].1).symm;have hiB:=U _ C;refine Join.intro (fun t N=>N[h'.size]? =some (.cells #[.string (f.1.extract 0 n),.bool (if 0<i+1∧(ky f).length=n then some f.2 else none:Option ByteArray).isSome,.string ((if 0<i+1∧(ky f).length=n then some f.2 else none:Option ByteArray).getD ⟨#[]⟩),.slice none 0 0] mF (0,0))∧
   OwnS il 2 bL (fun y=>E.size≤y) N t (uV n (l.take (i+1)))∧Upd No h N∧E.size≤N.size) (fun R hR=>?_) ?_
  ·obtain⟨a3,ha3,_,hv3⟩:=(hs.upd m fun _ h=>h.elim).at (al b)
   refine⟨⟨by simp only;omega,by simp only;omega⟩,a3,ha3,_,hv3 0 _ rfl,_,hv3 1 _ rfl,Di (p:=l[i]) fun N b3 k3=>⟨_,vc b3 0,?_⟩⟩
   have z3:=bF b3;have s3:=k3.size;have zh2:=bF c2;have c3:=k3.get0 c2;refine CondP.intro (fun z=>?_) fun z=>?_
   ·have z:(ky l[i]).length=n:=by
     have:((l[i].1.size:Nat):Int)=(n:Int):=by simpa using z
     omega
    have hfi:l[i]=f:=(q4 _ C).resolve_right (by omega);rw[if_pos z]at J;refine⟨_,vc b3 1,_,rfl,?_⟩;refine yP (i:=1) c3 (show 1<4 by decide) rfl fun h4 b4 P=>⟨vc (P.oth b3 (by omega)) 1,_,rfl,?_⟩
    refine yP (i:=2) b4 (show 2<4 by decide) rfl fun h5 b5 u5=>hR _ _ ⟨?_,?_,((m.tr k3).own P (by omega)).own u5 (by omega),?_⟩
    ·rw[if_pos (show 0<i+1∧(ky f).length=n from⟨by omega,by rw[←hfi];exact z⟩),b5,hfi];rfl
    ·rw[J]
     exact((ho.upd k3 fun _ _ h=>h).upd P fun y c e=>by have e:y=h'.size:=e;have c:E.size≤y:=c;omega).upd u5 fun y c e=>by have e:y=h'.size:=e;have c:E.size≤y:=c;omega
    ·have:=P.size;have:=u5.size;omega
   ·have z:¬(ky l[i]).length=n:=fun e=>by
     have:¬((l[i].1.size:Nat):Int)=(n:Int):=by simpa using z
     omega
    rw[if_neg z]at J;have hlei:=hle _ C;refine⟨_,vc b3 0,⟨by omega,by omega⟩,_,vc b3 1,aV fun h4 b4 O=>⟨vc (O.get0 b3) 1,vc (O.get0 b3) 0,_,mr b4,?_⟩⟩
    have s4:=O.size;have z4:=bF b4;refine AppP.own (M:=fun y=>(E.size≤y∧y<o.size)∨h4.size≤y) (ys:= [RV n l[i]]) (((ho.within.upd k3 fun _ _ h=>h).upd O fun _ _ h=>h).more fun y c=>.inl c) rfl rfl rfl rfl (by omega) ?_ (.inr (aj _)) fun s5 h5 ho5 A=>?_
    ·have:=List.length_filter_le (fun p=>decide ((ky p).length≠n)) (l.take i)
     simp only[uV,cZ,aD];rw[aJ]at this;omega
    have s5':=A.size;refine⟨vc (A.get (O.get0 b3) (by omega)) 1,vc (A.get (O.get0 b3) (by omega)) 0,hR _ _ ⟨?_,?_,((m.tr k3).tr O).trans A fun y c=>.inr (by omega),by omega⟩⟩
    ·have u:(if 0<i+1∧(ky f).length=n then some f.2 else none:Option ByteArray)=if 0<i∧(ky f).length=n then some f.2 else none:=by
      by_cases h0:0<i
      ·simp[h0]
      ·have:i=0:=by omega
       subst this;have:l[0]=f:=by simp[w]
       rw[this]at z;rw[if_neg (fun h=>z h.2),if_neg (fun h=>z h.2)]
     rw[u];exact A.get (O.get0 c3) (by omega)
    ·rw[J]
     exact ho5.more fun y c=>by show E.size≤y;omega
  ·rintro t N ⟨p1,p2,p3,p4⟩
   simp only;rw[bN b (by omega)];exact hI (i+1) _ _ ⟨rfl,b,p1,p2,p3,p4⟩ (by omega)
 obtain rfl:i=l.length:=by have:¬(i:Int)<(s.len:Int):=Q;omega
 rw[ba]at ho;have hc0:(0<l.length∧(ky f).length=n)↔(ky f).length=n:=⟨fun h=>h.2,fun h=>⟨hl0,h⟩⟩
 simp only[hc0]at c2;have H:uV n l=(if(ky f).length=n then l.drop 1 else l).map (RV n):=by
  unfold uV;congr 1
  by_cases e:(ky f).length=n
  ·rw[if_pos e,w,cf,if_neg (by simpa using e),List.drop_one,List.tail_cons]
   refine fB.2 fun p j=>?_
   have hpl:p∈l:=by rw[w];exact aG _ j
   rcases q4 p hpl with u|o
   ·rw[u]at j
    exact absurd ((bd.1 (w▸bg.up)).1 f j) (dj _)
   ·exact decide_eq_true (by omega)
  ·rw[if_neg e]
   refine fB.2 fun p j=>?_
   rcases q4 p j with u|o
   ·rw[u];exact decide_eq_true e
   ·exact decide_eq_true (by omega)
 have d:(if(ky f).length=n then l.drop 1 else l).Sublist l:=by
  split
  ·exact List.drop_sublist ..
  ·exact List.Sublist.refl _
 have Z:∀p∈(if(ky f).length=n then l.drop 1 else l),n<(ky p).length:=fun p j=>by
  rcases q4 p (d.subset j)with e|h
  ·by_cases u:(ky f).length=n
   ·rw[if_pos u,w,e]at j
    exact absurd ((bd.1 (w▸bg.up)).1 f j) (dj _)
   ·rw[e];omega
  ·exact h
 have hbeg:Beg (uV n l) []:=by
  rw[H];refine⟨?_,fun p j=>?_⟩
  ·unfold dL
   rw[List.pairwise_map];refine(bg.up.sublist d).imp_of_mem fun{p q} j G b=>?_
   rw[wU]at b⊢;have e1:=q3 p (d.subset j);have u:=q3 q (d.subset G);change Op.bytesLess (ky (RV n p)) (ky (RV n q))=true;change Op.bytesLess (ky p) (ky q)=true at b;rw[Fw,Fw];rw[←aM n (ky p),←aM n (ky q),e1,u,GX]at b;exact b
  ·obtain⟨q,G,rfl⟩:=bE.1 j
   refine⟨rfl,?_⟩;rw[Fw,aI];have:=Z q G;simp only[cc];omega
 have hkB:∀p∈uV n l,(ky p).length≤B-n:=fun p j=>by
  rw[H]at j;obtain⟨q,G,rfl⟩:=bE.1 j;rw[Fw,aI];have:=U q (d.subset G);omega
 have hrn:(uV n l).length≤100000:=by
  rw[H,cZ];exact Nat.le_trans d.length_le hn
 have s2:=m.size;have zc:=bF c2;refine X (B-n) (by omega) (W:=fun y=>W y∨y=h'.size) (ho.sl fun _ _ _ h=>h) ho.cap hbeg hkB hrn (fun y c=>c.elim (fun c=>by have:=hW y c;omega) fun c=>by omega) fun N s3 ks L ho3 hL3 hrow hu3=>?_
 obtain⟨hcF,hgF⟩:=hrow.done;have hgot:∀k v,vd (.ofL L) k v↔RQ (if(ky f).length=n then l.drop 1 else l) ((ky f).take n) k v:=fun k v=>by
  rw[hgF,H];constructor
  ·rintro⟨p,j,u,e3⟩
   obtain⟨q,G,rfl⟩:=bE.1 j;rw[Fw,gD]at u;refine⟨q,G,?_,e3⟩;rw[←u,←q3 q (d.subset G),aM]
  ·rintro⟨q,G,u,e3⟩
   refine⟨RV n q,bE.2 ⟨q,G,rfl⟩,?_,e3⟩;rw[Fw,gD,u,List.drop_left' (by rw[aJ];omega)]
 obtain⟨hcn,hhd,hin⟩:=hbc (F:=.ofL L) hcF rfl hgot rfl hlab;refine⟨_,rfl,?_⟩;refine yP (i:=3) (hu3.get0 c2) (show 3<4 by decide) rfl fun h4 b4 P=>?_
 refine hk h4 _ (_,_,_) ⟨h'.size,_,rfl,rfl,_,s3,none,ks,b4,rfl,?_,⟨ho3.cap,fun hw=>by have:=hW _ hw;omega⟩,zq.2 ?_⟩ hcn hhd hin ((m.tr hu3).own P (by omega))
 ·exact(ho3.upd P fun y c e=>by have e:y=h'.size:=e;have c:o.size≤y:=c;omega).sl fun y c _ hw=>by have:=hW y hw;have c:o.size≤y:=c;omega
 ·rw[Fo.to_of]
  exact(hL3.updM P fun y c=>.inl (.inr c)).less fun y c=>.inl (.inl c)
end Go.Proofs
namespace Go.Proofs
open Go Go.Lift
theorem Kz{B:Nat}(hB:B≤1000000)(N:∀U,U<B→MD U):MD B:=by
 intro W h s l hs hcap bg hlB hn hW K hk;refine G9 s ?_;unfold Ac cx bK;have hlen:=hs.len;refine LoopP.ghost (fun(g:Nat×List (Option Addr)×List Bn×(Nat→Prop)) (t:SliceV×Int) h'=>t.2=(g.1:Int)∧g.1≤l.length∧OwnS xB 1 qH g.2.2.2 h' t.1 g.2.1∧(∀y,g.2.2.2 y→h.size≤y∧y<h'.size)∧DxL (fun y=>W y∨g.2.2.2 y) h' g.2.1 g.2.2.1∧Row g.2.2.1 (l.take g.1) (l.drop g.1) []∧Upd No h h') (fun g=>l.length-g.1) (0,[],[],fun _=>False)
  ⟨rfl,aP _,OwnS.nil p9,fun y d=>d.elim,⟨rfl,fun p hp=>(by cases hp)⟩,Row.nil _ _,Upd.refl _ _⟩ ?_
 rintro I ⟨i,ks,L,Mo⟩ ⟨so,ti⟩ Q ⟨e1,hi,ho,v,X,f,Y⟩ hI;simp only at e1 hi ho v X f;subst e1;refine aw (fun u=>?_) fun hge=>?_
 ·have u:i<l.length:=by have:(i:Int)<(s.len:Int):=u;omega
  have J:=hs.upd Y fun _ h=>h.elim
  have P:∀j (D:j<l.length),0<(ky l[j]).length:=fun j D=>(bg.at_ _ (aU D)).2
  obtain⟨bi,hbi,hbie⟩:=PT (P i u);obtain⟨ai,hai,_,hvi⟩:=J.at (al u);refine LoopP.ghost (fun(k:Nat) (t:Int) T=>t=(k:Int)∧i≤k∧k≤l.length∧T=Q∧∀j (D:j<l.length),i≤j→j<k→bt 0 l[j]=bt 0 l[i]) (fun k=>l.length-k) i ⟨rfl,aj _,hi,rfl,fun j D Q T=>by omega⟩ ?_
  rintro I2 k t T ⟨rfl,hik,S,rfl,E⟩ hI2;refine Join.intro (fun t h3=>h3=T∧(t=true→∃hk:k<l.length,bt 0 l[k]=bt 0 l[i])∧(t=false→∀hk:k<l.length,bt 0 l[k]≠bt 0 l[i])) (fun R hR=>?_) ?_
  ·refine aw (fun a=>?_) fun a=>hR _ _ ⟨rfl,fun h=>(by cases h),fun _ hk2=>absurd (show(k:Int)<(s.len:Int) by omega) a⟩
   have a:k<l.length:=by have:(k:Int)<(s.len:Int):=a;omega
   obtain⟨bk,hbk,hbke⟩:=PT (P k a);obtain⟨ak,hak,_,hvk⟩:=J.at (al a);refine⟨⟨by omega,by omega⟩,ak,hak,_,hvk 0 _ rfl,bk,by decide,hbk,⟨by simp only;omega,by simp only;omega⟩,ai,hai,_,hvi 0 _ rfl,bi,by decide,hbi,hR _ _ ⟨rfl,fun h=>⟨a,?_⟩,fun h _=>?_⟩⟩
   ·have:(bk.toNat:Int)=(bi.toNat:Int):=by simpa using h
    omega
   ·intro e
    have:¬(bk.toNat:Int)=(bi.toNat:Int):=by simpa using h
    omega
  rintro t h3 ⟨rfl,ht,Z⟩;cases t with
  |true=>
   obtain⟨a,e⟩:=ht rfl;refine ay.2 ?_;rw[bN a (by omega)];refine hI2 (k+1) _ _ ⟨rfl,by omega,a,rfl,fun j D Q T=>?_⟩ (by omega)
   rcases bV j k with h|h
   ·exact E j D Q h
   ·have:j=k:=by omega
    subst this;exact e
  |false=>
   have Z:=Z rfl;have hik2:i<k:=by
    rcases bV i k with h|h
    ·exact h
    ·have:k=i:=by omega
     subst this;exact absurd rfl (Z u)
   refine ah.2 ⟨⟨by omega,by omega⟩,⟨by simp only;omega,by simp only;omega⟩,?_⟩
   simp only[aF];have hsA:=Sl.sub J (l:=i) (hi:=k) (m:=s.cap) (c:=s.cap-i) hik S (by omega);have V:(l.drop i).take (k-i)++l.drop k=l.drop i:=by
    conv=>rhs;rw[←aM (k-i) (l.drop i)]
    rw[List.drop_drop,show i+(k-i)=k by omega]
   have hDA:l.take i++(l.drop i).take (k-i)=l.take k:=by
    rw[show k=i+(k-i) by omega,List.take_add];congr 2;omega
   have z:∀q∈(l.drop i).take (k-i),bt 0 q=bt 0 l[i]:=fun q hq=>by
    obtain⟨j,D,e⟩:=List.getElem_of_mem hq;rw[aJ,aI]at D;rw[←e,List.getElem_take,List.getElem_drop];exact E (i+j) (by omega) (by omega) (by omega)
   have hAc:∃r,(l.drop i).take (k-i)=l[i]::r:=by
    rw[eA u,show k-i=(k-i-1)+1 by omega,dz]
    exact⟨_,rfl⟩
   have o:((l.drop i).take (k-i)).Sublist l:=(List.take_sublist _ _).trans (List.drop_sublist _ _);have hBk:∀b U,l.drop k=b::U→bt 0 b≠bt 0 l[i]:=fun b U e=>by
    have a:k<l.length:=by
     rcases bV k l.length with h|h
     ·exact h
     ·rw[List.drop_eq_nil_of_le h]at e;cases e
    rw[eA a]at e;rw[←(fj.inj e).1];exact Z a
   have hAl:((l.drop i).take (k-i)).length≤l.length:=o.length_le;generalize (l.drop i).take (k-i)=A at*;obtain⟨r,H⟩:=hAc;obtain⟨g,hg⟩:∃g,A.getLast? =some g:=by rw[H];exact⟨_,List.getLast?_eq_some_getLast (by simp)⟩
   have s1:=Y.size;refine K6 (W:=fun y=>W y∨Mo y) hB N (hsA.less fun _ h=>h.elim) (bg.sub o) (fun q hq=>hlB q (o.subset hq)) (by omega) (fun y d=>d.elim (fun d=>Nat.lt_of_lt_of_le (hW y d) s1) fun d=>(v y d).2) H hg (z g (li hg)).symm fun h4 ka n kd hcn hhd hin hu4=>aV fun F b5 k5=>⟨_,mr b5,?_⟩
   have C:=hu4.tr k5;have z35:=C.size;have hLn:L.length≤256:=by
    rcases AC (c:=0) f.up fun _ _=>aP _ with e|e
    ·rw[e];simp
    ·omega
   have hkl':=X.1;refine AppP.own (M:=fun y=>Mo y∨F.size≤y) (ys:= [ka]) ((ho.upd C fun _ _ h=>h).more fun y d=>.inl d) rfl rfl rfl rfl (by omega) (by simp only[aD];omega) (.inr (aj _)) fun s6 h6 ho6 G=>?_
   have z6:=G.size;have w:=f;rw[←V]at w;have O:Beg (A++l.drop k) []:=by rw[V];exact bg.sub (List.drop_sublist _ _)
   have x:=w.more O (p:=l[i]) (by rw[H];exact au ..) z hBk hcn hhd hin;rw[hDA]at x;refine hI (k,ks++ [ka],L++ [n],fun y=>(Mo y∨F.size≤y)∧y<h6.size) _ _ ⟨rfl,S,ho6.within,fun y d=>⟨?_,d.2⟩,?_,x,?_⟩ (by simp only;omega)
   ·rcases d.1 with h|h
    ·exact(v y h).1
    ·omega
   ·have hl:∀b,(W b∨((Mo b∨F.size≤b)∧b<h6.size))→(W b∨Mo b)∨F.size≤b:=fun b hb=>by
     rcases hb with h|⟨h|h,_⟩
     ·exact .inl (.inl h)
     ·exact .inl (.inr h)
     ·exact .inr h
    have hm:∀b,(Mo b∨F.size≤b)→(W b∨((Mo b∨F.size≤b)∧b<h6.size))∨F.size≤b:=fun b hb=>by
     rcases hb with h|h
     ·exact .inl (.inr ⟨.inl h,by have:=(v b h).2;omega⟩)
     ·exact .inr h
    exact(((X.upd0 C).app (DxL.one (kd.upd0 k5))).less hl).updM G hm
   ·exact(Y.tr C).trans G fun y d=>.inr (by
     rcases d with h|h
     ·exact(v y h).1
     ·omega)
 ·obtain rfl:i=l.length:=by have:¬(i:Int)<(s.len:Int):=hge;omega
  rw[ba,List.drop_length]at f;exact hk Q _ ks L (ho.more fun y d=>(v y d).1) (X.less fun y d=>.inl (.inl d)) f Y
theorem Po(B:Nat):B≤1000000→MD B:=by
 induction B using Nat.strongRecOn with
 |_ B ih=>exact fun b=>Kz b fun a h=>ih a h (by omega)
theorem Q1{h:ac}{s:SliceV}{l:List Pr}(N:Sl il 2 No h s l)(u:s.len≤s.cap)(T:dL l)(hn:l.length≤60000)(hB:∀p∈l,(ky p).length≤1000000){K:Option Addr→ac→Prop}
  (hk:∀h' b w F,DxN No h' b ⟨#[]⟩ w F→gf F→oq w F=LV l→Upd No h h'→K (some ⟨b,0,none⟩) h'):HC PG Dz [.slice s.a s.len s.cap] [.c .ptr] K h:=by
 refine P9 s ?_;unfold Ji cx c9 bK Tj;have j:=N.len;refine aV fun g b1 k1=>?_
 have z1:=bF b1;have z:=N.upd k1 fun _ h=>h.elim
 refine Join.intro (fun(t:SliceV) f=>∃(w:Option ByteArray) (l':List Pr),f[h.size]? =some (.cells #[.string ⟨#[]⟩,.bool w.isSome,.string (w.getD ⟨#[]⟩),.slice none 0 0] mF (0,0))∧Sl il 2 No f t l'∧t.len≤t.cap∧Beg l' []∧l'.length≤l.length∧(∀p∈l',p∈l)∧(∀k v,((k= []∧w=some v)∨RQ l' [] k v)↔∃p∈l,p.1.data.toList=k∧p.2=v)∧Upd No h f) (fun R X=>?_) ?_
 ·refine Join.plain ?_
  rcases l with _|⟨p,r⟩
  ·refine aw (fun hgt=>?_) fun _=>ah.2 (X _ _ ⟨none,[],b1,z,u,⟨cQ,fun p Q=>(by cases Q)⟩,aj _,fun _ h=>h,fun k v=>⟨?_,?_⟩,k1⟩)
   ·simp only[cc]at j;omega
   ·rintro(⟨_,h⟩|⟨q,d,_⟩)
    ·cases h
    ·cases d
   ·rintro⟨q,d,_⟩;cases d
  ·simp only[aN]at j
   obtain⟨a,ha,_,hv⟩:=z.at (i:=0) (x:=p) rfl;refine aw (fun _=>⟨⟨by decide,by omega⟩,a,ha,_,hv 0 _ rfl,?_⟩) fun U=>absurd (show(s.len:Int)>0 by omega) U
   have B:=bd.1 T;have n:∀q∈r,0<(ky q).length:=fun q d=>by
    have g:=wU.1 (B.1 q d);refine List.length_pos_iff.2 fun Y=>?_
    change Op.bytesLess (ky p) (ky q)=true at g;rw[Y,K7]at g;cases g
   rw[mc];by_cases J:p.1=⟨#[]⟩
   ·have ek:ky p= []:=by unfold ky;rw[J]
    rw[decide_eq_true J];refine ay.2 ⟨⟨by decide,by omega⟩,a,ha,_,hv 1 _ rfl,_,rfl,?_⟩
    refine yP (i:=1) b1 (show 1<4 by decide) rfl fun f b2 I=>⟨_,rfl,?_⟩
    refine yP (i:=2) b2 (show 2<4 by decide) rfl fun h3 b3 H=>⟨⟨by decide,by omega⟩,X _ _ ⟨some p.2,r,b3,?_,by simp only;omega,⟨B.2,fun q d=>⟨rfl,n q d⟩⟩,by simp,fun q d=>aG _ d,fun k v=>?_,(k1.own I (aj _)).own H (aj _)⟩⟩
    ·have O:Upd (fun y=>y=h.size) g h3:=I.tr H
     have:=Sl.sub ((((N.less (W':=fun y=>y=h.size) fun y o=>.inr (by omega)).upd k1 fun _ h=>h.elim).upd O fun y o=>.inl o)) (l:=1) (hi:=(p::r).length) (m:=s.cap) (c:=s.cap-1) (by simp) (aj _) (by simp only[aN];omega)
     rw[List.drop_one,List.tail_cons,List.take_of_length_le (by simp)]at this;have Y:(p::r).length-1=s.len-1:=by simp only[aN];omega
     rw[Y]at this;exact this.less fun _ h=>h.elim
    ·constructor
     ·rintro(⟨rfl,h⟩|⟨q,d,g,f⟩)
      ·exact⟨p,au ..,ek,bC.inj h⟩
      ·exact⟨q,aG _ d,g,f⟩
     ·rintro⟨q,d,g,f⟩
      rcases aq.1 d with rfl|d
      ·exact .inl ⟨by rw[←g];exact ek,by rw[f]⟩
      ·exact .inr ⟨q,d,g,f⟩
   ·rw[decide_eq_false J]
    have hpp:0<(ky p).length:=List.length_pos_iff.2 fun e=>J (DT.1 e)
    refine ah.2 (X _ _ ⟨none,p::r,b1,z,u,⟨T,fun q d=>⟨rfl,?_⟩⟩,aj _,fun _ h=>h,fun k v=>?_,k1⟩)
    ·rcases aq.1 d with rfl|d
     ·exact hpp
     ·exact n q d
    ·constructor
     ·rintro(⟨_,h⟩|⟨q,d,g,f⟩)
      ·cases h
      ·exact⟨q,d,g,f⟩
     ·rintro⟨q,d,g,f⟩
      exact .inr ⟨q,d,g,f⟩
 rintro t f ⟨w,l',b2,P,hc2,Z,hll,A,C,I⟩;have z2:=bF b2;refine Po 1000000 (aj _) (W:=fun y=>y=h.size) P hc2 Z (fun p Q=>hB p (A p Q)) (by omega) (fun y o=>by omega) fun h3 s3 ks L D hL3 G H=>⟨_,rfl,?_⟩
 obtain⟨E,V⟩:=G.done;refine yP (i:=3) (H.get0 b2) (show 3<4 by decide) rfl fun h4 b4 S=>?_
 refine hk h4 h.size w (.ofL L) ⟨_,s3,none,ks,b4,rfl,?_,⟨D.cap,id⟩,zq.2 ?_⟩ E (Gj E T fun k v=>?_) ((I.tr H).own S (aj _))
 ·exact(D.upd S fun y o e=>by have e:y=h.size:=e;have o:f.size≤y:=o;omega).sl fun _ _ _ h=>h
 ·rw[Fo.to_of]
  exact(hL3.updM S fun y o=>.inl o).less fun _ h=>h.elim
 ·rw[ra]
  unfold wz;rw[V,C]
def Tc(n:Bn):Prop:=∀{h:ac} {b:Nat} {sl:ByteArray},DxN No h b sl n.2.1 n.2.2→sl.data.toList=n.1→(gy n).length≤140737488355328→∀{K:SliceV→ac→Prop},(∀s' h',OwnS m8 1 bX (fun y=>h.size≤y) h' s' (gy n)→Upd No h h'→K s' h')→
 HC PG r7 [.pointer (some ⟨b,0,none⟩)] [.c .slice] K h
theorem Mq{lab:List UInt8}{w:Option ByteArray}{c:Fo}(hl:lab.length≤10000)(hw:∀v,w=some v→v.size≤10000)(Z:c.toL.length≤256)(ih:∀m∈c.toL,Tc m):Tc (lab,w,c):=by
 intro h b sl r q hx K hk;simp only at r q;have F:(⟨lab.toArray⟩:ByteArray)=sl:=by rw[←q]
 have hsz:sl.size=lab.length:=by rw[←q];simp
 obtain⟨val,s,ow,ks,hb,hv,hs,hcap,hF⟩:=r;have hL:=zq.1 hF;have o:=hs.len;rw[hL.1]at o;have ex:gy (lab,w,c)=l5 sl++sX w++kQ c.toL.length 2++c.toL.flatMap gy:=by
  show qp lab w c.toL.length++mI c=_
  rw[vF];unfold qp;rw[F];simp only[ao]
 rw[ex]at hx hk;simp only[ae]at hx;have g:∀{h':ac} {i:Nat},Upd No h h'→aX h' (adr ⟨b,0,none⟩ i)=(UN sl w.isSome val s ow)[i]?:=fun k=>vc (k.get0 hb) _
 have r0:=Upd.refl No h;refine IX (some ⟨b,0,none⟩) ?_;unfold BX aR cx bj bK eY;refine⟨_,rfl,sl,g (i:=0) r0,y6 (by omega) fun s1 h1 H k1=>?_⟩
 refine Join.intro (fun t B=>OwnS m8 1 bX (fun y=>h.size≤y) B t (l5 sl++sX w)∧Upd No h B) (fun R O=>?_) ?_
 ·refine⟨_,rfl,w.isSome,g (i:=1) k1,?_⟩
  have s1':=k1.size;cases w with
  |none=>
   refine ah.2 (aV fun B b2 p=>⟨_,mr b2,?_⟩)
   have s2:=p.size;refine AppP.own (ys:= [(0:UInt8)]) (H.upd p fun _ _ h=>h) rfl rfl rfl rfl (by omega) (by simp only[aD];simp only[sX,aD]at hx;omega) (by show h.size≤B.size;omega) fun s3 C f z=>?_
   exact O _ _ ⟨f,(k1.tr p).trans z fun y j=>.inr j⟩
  |some v=>
   have hvs:=hw v rfl;have u:val=v:=hv;subst u;refine ay.2 ⟨_,rfl,_,g (i:=2) k1,aV fun B b2 p=>⟨g (i:=2) (k1.tr p),_,mr b2,?_⟩⟩
   have s2:=p.size;have hvl:(sX (some val)).length=1+(l5 val).length:=by unfold sX;simp;omega
   rw[hvl]at hx;refine AppP.own (ys:= [(1:UInt8)]) (H.upd p fun _ _ h=>h) rfl rfl rfl rfl (by omega) (by simp only[aD];omega) (by show h.size≤B.size;omega) fun s3 C f z=>?_
   have E:Upd No h C:=(k1.tr p).trans z fun y j=>.inr j
   refine⟨g (i:=2) E,y6 (by omega) fun s4 h4 n A=>?_⟩
   have G:=E.size;have s4':=A.size;refine wy (f.upd A fun _ _ h=>h) (n.sl (W:=No) fun _ _ _ h=>h) (fun y j=>by show h.size≤y;omega) (by rw[ae,aD];omega) fun s5 h5 x D=>?_
   refine O _ _ ⟨?_,(E.tr A).trans D fun y j=>.inr j⟩
   have e:l5 sl++sX (some val)=l5 sl++ [1]++l5 val:=by unfold sX;simp
   rw[e];exact x
 rintro t2 B ⟨T,Y⟩;refine Join.intro (fun t C=>OwnS m8 1 bX (fun y=>h.size≤y) C t (l5 sl++sX w++kQ c.toL.length 2)∧Upd No h C) (fun R O=>?_) ?_
 ·refine⟨_,rfl,s,g (i:=3) Y,?_⟩
  rw[o];refine Cu (by omega) fun s3 C f S=>?_
  have s2':=Y.size;have G:=S.size;refine wy (T.upd S fun _ _ h=>h) (f.sl (W:=No) fun _ _ _ h=>h) (fun y j=>by show h.size≤y;omega) (by rw[ae];omega) fun s4 h4 n X=>?_
  exact O _ _ ⟨n,(Y.tr S).trans X fun y j=>.inr j⟩
 rintro t3 C ⟨f,E⟩;refine⟨_,rfl,s,g (i:=3) E,?_⟩;refine LoopP.ghost (fun(i:Nat) (t:SliceV×Int) h'=>t.2=(i:Int)∧i≤c.toL.length∧OwnS m8 1 bX (fun y=>h.size≤y) h' t.1 (l5 sl++sX w++kQ c.toL.length 2++(c.toL.take i).flatMap gy)∧Upd No h h') (fun i=>c.toL.length-i) 0 ⟨rfl,aP _,by simpa using f,E⟩ ?_
 rintro I i ⟨so,ti⟩ h' ⟨e1,hi,P,J⟩ hI;simp only at e1 P;subst e1;refine aw (fun d=>?_) fun V=>?_
 ·have d:i<c.toL.length:=by have:(i:Int)<(s.len:Int):=d;omega
  refine Join.plain ?_;obtain⟨kb,ksl,hki,Q,U⟩:=(hL.upd0 J).at d;obtain⟨a,ha,_,u⟩:=(hs.upd J fun _ h=>h.elim).at0 hki
  have N:((c.toL.take i).flatMap gy).length+(gy c.toL[i]).length≤(c.toL.flatMap gy).length:=by
   have e:c.toL=c.toL.take i++c.toL[i]::c.toL.drop (i+1):=by rw[List.getElem_cons_drop,aM]
   have:=congrArg (fun L=>(List.flatMap gy L).length) e
   simp only[bA,aK,ae]at this;omega
  refine⟨⟨by simp only;omega,by simp only;omega⟩,a,ha,_,u,ih _ (aU d) U Q (by omega) fun s4 h4 n A=>?_⟩
  have G:=J.size;have s4':=A.size;refine wy (P.upd A fun _ _ h=>h) (n.sl (W:=No) fun _ _ _ h=>h) (fun y j=>by show h.size≤y;omega) (by simp only[ae];omega) fun s5 h5 x D=>?_
  simp only;rw[bN d (by omega)];refine hI (i+1) _ _ ⟨rfl,d,?_,(J.tr A).trans D fun y j=>.inr j⟩ (by omega)
  rw[ax d,bA,aK,List.flatMap_nil,bI,←ao];exact x
 ·obtain rfl:i=c.toL.length:=by have:¬(i:Int)<(s.len:Int):=V;omega
  rw[ba]at P;exact hk _ _ P J
theorem DL:∀{F:Fo},Hh F→∀n∈F.toL,Tc n
 | .nil,_,n,a=>by simp[Fo.toL]at a
 | .cons lab w kids rest,h,n,a=>by
  rcases aq.1 a with rfl|a
  ·exact Mq h.1 h.2.1 h.2.2.1 (DL h.2.2.2.1)
  ·exact DL h.2.2.2.2 n a
end Go.Proofs
