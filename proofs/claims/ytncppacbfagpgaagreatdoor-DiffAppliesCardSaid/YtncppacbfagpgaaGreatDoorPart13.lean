/- A part of the proof that the named laws of this program answer true, whatever the input. -/
import Derived.Test.YtncppacbfagpgaaGreatDoorPart12
import Derived.Test.YtncppacbfagpgaaGreatDoorPart4
import Derived.Test.YtncppacbfagpgaaGreatDoorPart3
import Derived.Test.YtncppacbfagpgaaGreatDoorPart9
open Int renaming tdiv→md,tdiv_eq_ediv_of_nonneg→f8,toNat_natCast→aU
open List renaming getElem?_toArray→gG,length_map→dH,length_singleton→aE,filter_append→fZ,filter_cons→bV,filter_nil→m9,append_nil→aL,length_take→aH,take_succ_eq_append_getElem→aX,getElem?_eq_getElem→af,take_length→bS,getElem_mem→aZ,replicate→fg,length_append→ac,append_assoc→ar,zip_cons_cons→kJ,mem_cons→aA,mem_cons_self→aw,mem_cons_of_mem→aB,take_succ_cons→dL,cons→eT,mem_of_getLast?→fY,drop_one→tB,tail_cons→rO,filter_eq_self→gr,pairwise_cons→aJ,drop_sublist→rW,take_append_drop→aI,mem_map→gi,length_drop→aV,length_nil→aG,nil_append→cB,drop_eq_getElem_cons→dI,length_cons→ao,length_pos_iff→fI,flatMap_append→bO,flatMap_cons→aO
open List.Pairwise renaming nil→gF
open Nat renaming le_refl→al,zero_add→aR,not_lt_zero→kU,zero_le→aS,lt_or_ge→bW,shiftRight_eq_div_pow→cO,shiftRight_le→jH
open Option renaming some→bR
namespace Go.Proofs
open Go Go.Lift
def RE(q:List Pr):Int:=if q.length=1 then 1 else if 2≤q.length then 2 else 0
def dF(a:Bool)(s:SliceV)(q:Nat→List Pr)(kk:Nat→Option Addr)(i:Nat):Value:=
 if i=0 then .bool a else if i=1 then sv s else if i<34 then .int .i64 (RE (q (i-2)))else if i<98 then(if i%2=0 then .string (E5 (jM (q ((i-34)/2)))).1 else .string (E5 (jM (q ((i-34)/2)))).2)else .pointer (kk (i-98))
def dC(f:Nat→Value):List Value:=(List.range 130).map f
theorem IV{f:Nat→Value}{i:Nat}(h:i<130):(dC f).toArray[i]? =some (f i):=by
 unfold dC;simp[h]
theorem TV(f:Nat→Value):(dC f).toArray.size=130:=by simp[dC]
theorem aam{f:Nat→Value}{i:Nat}{v:Value}:(dC f).toArray.setIfInBounds i v=(dC fun j=>if j=i then v else f j).toArray:=by
 unfold dC;apply Array.ext_getElem?;intro j;rw[Array.getElem?_setIfInBounds];simp only[gG,List.getElem?_map,List.size_toArray,dH,List.length_range];by_cases e:i=j
 ·subst e
  by_cases h:i<130
  ·simp[h]
  ·simp[h]
 ·rw[if_neg e]
  by_cases h:j<130
  ·rw[List.getElem?_range h];simp only[Option.map_some];rw[if_neg fun a:j=i=>e a.symm]
  ·rw[List.getElem?_eq_none (by rw[List.length_range];omega)];rfl
theorem NB{f g:Nat→Value}(h:∀i,i<130→f i=g i):(dC f).toArray=(dC g).toArray:=by
 unfold dC;rw[List.map_congr_left fun i hi=>h i (List.mem_range.1 hi)]
def DTrie(W:Nat→Prop)(x:Hs)(h:ae):Nat→Nat→List Pr→Prop
 |0,b,l=>¬W b∧∃s,h[b]? =some (.cells (dC (dF true s (fun _=> []) fun _=>none)).toArray jK (0,0))∧Sl eC 2 W h s l
 |m+1,b,l=>¬W b∧∃kk,h[b]? =some (.cells (dC (dF false ⟨none,0,0⟩ (fun c=>part x (12-m) c l) kk)).toArray jK (0,0))∧∀c,c<32→2≤(part x (12-m) c l).length→∃kb,kk c=some ⟨kb,0,none⟩∧DTrie W x h m kb (part x (12-m) c l)
theorem DTrie.upd{W M:Nat→Prop}{x:Hs}{h h':ae}(k:Upd M h h')(hm:∀b,M b→W b∨h.size≤b):∀{m b:Nat} {l:List Pr},DTrie W x h m b l→DTrie W x h' m b l
 |0,b,_,⟨nw,s,h1,h2⟩=>⟨nw,s,k.get h1 fun a=>(hm b a).elim nw fun h=>by have:=bD h1;omega,h2.upd k hm⟩
 |_+1,b,_,⟨nw,kk,h1,h2⟩=>⟨nw,kk,k.get h1 fun a=>(hm b a).elim nw fun h=>by have:=bD h1;omega,fun c hc g=>let⟨e,d,f⟩:=h2 c hc g;⟨e,d,DTrie.upd k hm f⟩⟩
theorem DTrie.less{W W':Nat→Prop}{x:Hs}{h:ae}(hm:∀b,W' b→W b):∀{m b:Nat} {l:List Pr},DTrie W x h m b l→DTrie W' x h m b l
 |0,b,_,⟨nw,s,h1,h2⟩=>⟨fun a=>nw (hm b a),s,h1,h2.less fun b a=>.inl (hm b a)⟩
 |_+1,b,_,⟨nw,kk,h1,h2⟩=>⟨fun a=>nw (hm b a),kk,h1,fun c hc g=>let⟨e,d,f⟩:=h2 c hc g;⟨e,d,DTrie.less hm f⟩⟩
abbrev aaC(x:Hs)(p:Pr):List Value:= [.int .u64 (eP x p.1)]
theorem W3(x:Hs)(p:Pr):(aaC x p).length=1∧0<1:=⟨rfl,by omega⟩
def TwoS(x:Hs)(n0 a:Nat)(h:ae)(so c:SliceV)(L L':List Pr):Prop:=
 ∃A B:Nat→Prop,OwnS eC 2 cq A h so L∧OwnS (aaC x) 1 qR B h c L'∧(∀b,A b→n0≤b∧b<a∧¬B b)∧∀b,B b→n0≤b∧b<a
theorem TwoS.upd0{x:Hs}{n0 a:Nat}{h h':ae}{so b:SliceV}{L L':List Pr}(t:TwoS x n0 a h so b L L')(k:Upd No h h'):TwoS x n0 a h' so b L L':=by
 obtain⟨A,B,d,h2,c,e⟩:=t;exact⟨A,B,d.upd k fun _ _ h=>h,h2.upd k fun _ _ h=>h,c,e⟩
theorem aat{x:Hs}{n0 d:Nat}{h:ae}{so i:SliceV}{L L':List Pr}{p:Pr}(t:TwoS x n0 d h so i L L')(o:n0≤d)(n:d≤h.size)(q:L.length≤1000000){xs:List Value}(hx:xs=eC p){K:SliceV→ae→Prop}
  (k:∀s' h',TwoS x n0 h'.size h' s' i (L++ [p]) L'→Upd (fun b=>(n0≤b∧b<d)∨h.size≤b) h h'→K s' h'):AppP (some [.string (⟨#[]⟩:ByteArray),.string (⟨#[]⟩:ByteArray)]) 2 32 cq so.a so.len so.cap 1 xs h K:=by
 subst hx;obtain⟨A,B,m,h2,c,e⟩:=t;refine AppP.own (ys:= [p]) (m.more (M':=fun b=>A b∨h.size≤b) fun _ h=>.inl h) rfl rfl rfl rfl (by omega) (by simp only[aE];omega) (.inr (al _)) fun s' h' j f=>?_
 have s:=f.size;refine k s' h' ⟨_,B,j.within,h2.upd f fun b a hm=>hm.elim (fun hm=>(c b hm).2.2 a) fun hm=>by have:=(e b a).2;omega,fun b a=>⟨?_,a.2,fun g=>?_⟩,fun b a=>⟨(e b a).1,by have:=(e b a).2;omega⟩⟩ (f.mono fun b a=>a.elim (fun a=>.inl (.inl ⟨(c b a).1,(c b a).2.1⟩)) .inr)
 ·rcases a.1 with a|a
  ·exact(c b a).1
  ·omega
 ·rcases a.1 with a|a
  ·exact(c b a).2.2 g
  ·have:=(e b g).2;omega
theorem appB{x:Hs}{n0 e:Nat}{h:ae}{so f:SliceV}{L L':List Pr}{p:Pr}(t:TwoS x n0 e h so f L L')(o:n0≤e)(n:e≤h.size)(q:L'.length≤1000000){xs:List Value}(hx:xs=aaC x p){K:SliceV→ae→Prop}
  (k:∀s' h',TwoS x n0 h'.size h' so s' L (L'++ [p])→Upd (fun b=>(n0≤b∧b<e)∨h.size≤b) h h'→K s' h'):AppP (some [.int .u64 0]) 1 8 qR f.a f.len f.cap 1 xs h K:=by
 subst hx;obtain⟨A,B,m,h2,c,i⟩:=t;refine AppP.own (ys:= [p]) (h2.more (M':=fun b=>B b∨h.size≤b) fun _ h=>.inl h) rfl rfl rfl rfl (by omega) (by simp only[aE];omega) (.inr (al _)) fun s' h' j g=>?_
 have s:=g.size;refine k s' h' ⟨A,_,m.upd g fun b a hm=>hm.elim (fun hm=>(c b a).2.2 hm) fun hm=>by have:=(c b a).2.1;omega,j.within,fun b a=>⟨(c b a).1,by have:=(c b a).2.1;omega,fun d=>?_⟩,fun b a=>⟨?_,a.2⟩⟩ (g.mono fun b a=>a.elim (fun a=>.inl (.inl (i b a))) .inr)
 ·rcases d.1 with d|d
  ·exact(c b a).2.2 d
  ·have:=(c b a).2.1;omega
 ·rcases a.1 with a|a
  ·exact(i b a).1
  ·omega
theorem UO{x:Hs}{lev c:Nat}{l:List Pr}{p:Pr}:part x lev c (l++ [p])=if ck x lev p.1=c then part x lev c l++ [p]else part x lev c l:=by
 unfold part;rw[fZ,bV,m9];by_cases h:ck x lev p.1=c
 ·rw[if_pos h,if_pos (decide_eq_true h)]
 ·rw[if_neg h,if_neg (by simpa using h),aL]
abbrev BT(x:Hs)(lev:Nat)(l:List Pr)(n:Nat)(c:Nat):List Pr:=if c<n then part x lev c l else[]
theorem ML{x:Hs}{lev n c:Nat}{l:List Pr}(h:c≠n):BT x lev l (n+1) c=BT x lev l n c:=by
 unfold BT;by_cases hc:c<n
 ·rw[if_pos hc,if_pos (by omega)]
 ·rw[if_neg hc,if_neg (by omega)]
theorem MM{x:Hs}{lev n:Nat}{l:List Pr}:BT x lev l (n+1) n=part x lev n l:=if_pos (by omega)
theorem MK{x:Hs}{lev n:Nat}{l:List Pr}:BT x lev l n n= []:=if_neg (by omega)
structure DOf(W:Nat→Prop)(x:Hs)(lev m:Nat)(h0 h:ae)(l:List Pr)(n:Nat)(kk:Nat→Option Addr):Prop where
 blk:h[h0.size]? =some (.cells (dC (dF false ⟨none,0,0⟩ (BT x lev l n) kk)).toArray jK (0,0))
 upd:Upd No h0 h
 kid:∀c,c<n→2≤(part x lev c l).length→∃kb,kk c=some ⟨kb,0,none⟩∧DTrie (fun y=>W y∨y=h0.size) x h m kb (part x lev c l)
theorem abf{c:Bool}{s:SliceV}{q q':Nat→List Pr}{kk b:Nat→Option Addr}{i:Nat}(h:i<2):dF c s q kk i=dF c s q' b i:=by
 unfold dF;by_cases a:i=0
 ·rw[if_pos a,if_pos a]
 ·rw[if_neg a,if_neg a,if_pos (by omega),if_pos (by omega)]
section
variable {bu:Bool} {s:SliceV} {q q':Nat→List Pr} {kk kk':Nat→Option Addr} {i:Nat}
theorem TU(h:2≤i)(h':i<34):dF bu s q kk i=.int .i64 (RE (q (i-2))):=by
 unfold dF;rw[if_neg (by omega),if_neg (by omega),if_pos h']
theorem PM(h:34≤i)(h':i<98)(e:i%2=0):dF bu s q kk i=.string (E5 (jM (q ((i-34)/2)))).1:=by
 unfold dF;rw[if_neg (by omega),if_neg (by omega),if_neg (by omega),if_pos h',if_pos e]
theorem PK(h:34≤i)(h':i<98)(e:¬i%2=0):dF bu s q kk i=.string (E5 (jM (q ((i-34)/2)))).2:=by
 unfold dF;rw[if_neg (by omega),if_neg (by omega),if_neg (by omega),if_pos h',if_neg e]
theorem PL(h:98≤i):dF bu s q kk i=.pointer (kk (i-98)):=by
 unfold dF;rw[if_neg (by omega),if_neg (by omega),if_neg (by omega),if_neg (by omega)]
theorem TT{c:Nat}(hc:c<32)(b:∀j,j≠c→q' j=q j)(d:∀j,j≠c→kk' j=kk j)(i:Nat):
  dF bu s q' kk' i=if i=2+c then .int .i64 (RE (q' c))else if i=34+c*2 then .string (E5 (jM (q' c))).1 else if i=34+c*2+1 then .string (E5 (jM (q' c))).2 else if i=98+c then .pointer (kk' c)else dF bu s q kk i:=by
 rcases(show i<2∨(2≤i∧i<34)∨(34≤i∧i<98)∨98≤i by omega)with h|h|h|h
 ·rw[if_neg (by omega),if_neg (by omega),if_neg (by omega),if_neg (by omega)];exact abf h
 ·by_cases e:i=2+c
  ·rw[if_pos e,TU h.1 h.2,show i-2=c by omega]
  ·rw[if_neg e,if_neg (by omega),if_neg (by omega),if_neg (by omega),TU h.1 h.2,TU h.1 h.2,b _ (by omega)]
 ·rw[if_neg (show ¬i=2+c by omega)]
  by_cases e:(i-34)/2=c
  ·by_cases a:i%2=0
   ·rw[if_pos (by omega),PM h.1 h.2 a,e]
   ·rw[if_neg (by omega),if_pos (by omega),PK h.1 h.2 a,e]
  ·rw[if_neg (by omega),if_neg (by omega),if_neg (by omega)]
   by_cases a:i%2=0
   ·rw[PM h.1 h.2 a,PM h.1 h.2 a,b _ e]
   ·rw[PK h.1 h.2 a,PK h.1 h.2 a,b _ e]
 ·rw[if_neg (by omega),if_neg (by omega),if_neg (by omega)]
  by_cases e:i=98+c
  ·rw[if_pos e,PL h,show i-98=c by omega]
  ·rw[if_neg e,PL h,PL h,d _ (by omega)]
end
theorem Xg{h:ae}{b i:Nat}{f:Nat→Value}{t:TypeId}{v:Value}{k:ae→Prop}(c:h[b]? =some (.cells (dC f).toArray t (0,0))) (hi:i<130) (e:∀h',h'[b]? =some (.cells (dC fun j=>if j=i then v else f j).toArray t (0,0))→Upd (· =b) h h'→k h'):
  Wr h ⟨b,i,none⟩∧At (hset h ⟨b,i,none⟩ v) k:=
 ⟨iV c (by rw[TV];exact hi),un c fun h' a d=>e h' (aam▸a) d⟩
theorem abd{h:ae}{b i:Nat}{f:Nat→Value}{t:TypeId}{v w:Value}{k:ae→Prop}(g:h[b]? =some (.cells (dC f).toArray t (0,0))) (hi:i+1<130)
  (n:∀h',h'[b]? =some (.cells (dC fun j=>if j=i+1 then w else if j=i then v else f j).toArray t (0,0))→Upd (· =b) h h'→k h'):u6 h (some ⟨b,i,none⟩) 0 [v,w]∧At (iP h ⟨b,i,none⟩ 0 [v,w]) k:=by
 refine⟨.inr ⟨_,rfl,fun j o=>by rw[cj];exact iV g (by rw[TV];simp at o;omega)⟩,bP ?_⟩
 simp only[iP,cj,Nat.add_zero,aR];exact(Xg (k:=fun m=>k (hset m ⟨b,i+1,none⟩ w)) g (by omega) fun m c d=>(Xg (k:=k) c hi fun h2 e a=>n h2 e (d.tr a)).2).2
set_option maxRecDepth 4000 in
theorem ZY{x:Hs}:∀(m:Nat),m≤13→∀{W:Nat→Prop} {h:ae} {s sh:SliceV} {l:List Pr},Sl eC 2 W h s l→(∀y,W y→y<h.size)→Sl (aaC x) 1 No h sh l→l.length≤60000→∀{K:Option Addr→ae→Prop},(∀h' b,DTrie W x h' m b l→Upd No h h'→K (some ⟨b,0,none⟩) h')→
  HC PG Dx [.slice s.a s.len s.cap,.slice sh.a sh.len sh.cap,.int .i64 ((13-m:Nat):Int)] [.c .ptr] K h:=by
 intro m;induction m with
 |zero=>
  intro _ W h s sh l hs hW S hn K hk;refine P9 s sh ((13-0:Nat):Int) ?_;unfold JG bI cl aK db nv ax lM hP Uh ng lP;refine au.2 (aW fun f b1 k1=>?_)
  refine hk f h.size ⟨fun o=>by have:=hW _ o;omega,s,?_,hs.upd k1 fun _ h=>h.elim⟩ k1
  rw[b1];exact congrArg some (congrArg (fun c=>Obj.cells c jK (0,0)) (by kernel_rfl))
 |succ m ih=>
  intro hm W h s sh l hs hW S hn K hk;have nwh:¬W h.size:=fun o=>by have:=hW _ o;omega
  refine P9 s sh ((13-(m+1):Nat):Int) ?_;unfold JG bI cl aK db nv ax lM hP Uh ng lP;have e13:(((13-(m+1):Nat):Int)==(13:Int))=false:=by rw[beq_eq_false_iff_ne];omega
  rw[e13];refine aj.2 (aW fun f b1 k1=>?_)
  have b1':f[h.size]? =some (.cells (dC (dF false ⟨none,0,0⟩ (BT x (12-m) l 0) fun _=>none)).toArray jK (0,0)):=by
   have:BT x (12-m) l 0=fun _=> []:=by funext c;exact if_neg (by omega)
   rw[b1,this];exact congrArg some (congrArg (fun c=>Obj.cells c jK (0,0)) (by kernel_rfl))
  clear b1;have elev:(13-(m+1):Nat)=12-m:=by omega
  rw[elev];refine LoopP.ghost (fun(g:Nat×(Nat→Option Addr)) (t:Int) h'=>t=(g.1:Int)∧g.1≤32∧DOf W x (12-m) m h h' l g.1 g.2) (fun g=>32-g.1) (0,fun _=>none) ⟨rfl,by omega,b1',k1,fun c hc=>absurd hc (kU _)⟩ ?_
  rintro I ⟨c,kk⟩ t hc ⟨rfl,hc32,E⟩ hI;simp only at hc32 E;have s1:=E.upd.size;have zc:=bD E.blk;refine az (fun D=>?_) fun hge=>?_
  ·have D:c<32:=by have:(c:Int)<32:=D;omega
   refine Join.intro (fun(_:Unit) h'=>∃kk',DOf W x (12-m) m h h' l (c+1) kk') (fun R hR=>?_) ?_
   ·
    refine LoopP.ghost (fun(i:Nat) (t:SliceV×SliceV×Int) h'=>t.2.2=(i:Int)∧i≤l.length∧TwoS x hc.size h'.size h' t.1 t.2.1 (part x (12-m) c (l.take i)) (part x (12-m) c (l.take i))∧Upd No hc h') (fun i=>l.length-i) 0 ⟨rfl,aS _,⟨No,No,OwnS.nil gq,OwnS.nil (W3 x),fun _ h=>h.elim,fun _ h=>h.elim⟩,Upd.refl _ _⟩ ?_
    rintro I2 i ⟨so,ss,ti⟩ hi ⟨e1,hil,hT,hu⟩ hI2;simp only at e1 hT;subst e1;have hlen:=hs.len;have hlen2:=S.len;have s2:=hu.size;have hsi:=(hs.upd E.upd fun _ h=>h.elim).upd hu fun _ h=>h.elim
    have hshi:=(S.upd E.upd fun _ h=>h.elim).upd hu fun _ h=>h.elim
    refine az (fun d=>?_) fun hge2=>?_
    ·have d:i<l.length:=by have:(i:Int)<(s.len:Int):=d;omega
     have hpl:(part x (12-m) c (l.take i)).length≤60000:=by
      have:=kB (x:=x) (lev:=12-m) (c:=c) (l:=l.take i);rw[aH]at this;omega
     have T:part x (12-m) c (l.take (i+1))=if ck x (12-m) l[i].1=c then part x (12-m) c (l.take i)++ [l[i]]else part x (12-m) c (l.take i):=by rw[aX d,UO]
     refine Join.intro (fun(t:SliceV×SliceV) h'=>TwoS x hc.size h'.size h' t.1 t.2 (part x (12-m) c (l.take (i+1))) (part x (12-m) c (l.take (i+1)))∧Upd No hc h') (fun R2 w=>?_) ?_
     ·obtain⟨a,ha,_,hv⟩:=hsi.at (af d)
      refine⟨⟨by simp only;omega,by simp only;omega⟩,a,ha,_,hv 0 _ rfl,_,hv 1 _ rfl,uB (p:=l[i]) fun F b3 k3=>?_⟩
      obtain⟨a',ha',_,X⟩:=(hshi.upd k3 fun _ h=>h.elim).at0 (af d)
      refine⟨⟨by simp only;omega,by simp only;omega⟩,a',ha',_,X,aaX (lev:=12-m) (by omega) ?_⟩
      have Q:=hT.upd0 k3;have s3:=k3.size;refine CondP.intro (fun e=>?_) fun e=>?_
      ·have e:ck x (12-m) l[i].1=c:=by
        have:((ck x (12-m) l[i].1:Nat):Int)=(c:Int):=by simpa using e
        omega
       rw[if_pos e]at T;rw[T]at w;have uu:∀{h':ae},Upd (fun b=>hc.size≤b) F h'→Upd No hc h':=fun k=>(hu.tr k3).trans k fun y o=>.inr o
       have hab:a'.block<h.size:=S.lt (fun e=>by rw[e]at d;simp at d) ha'
       have sD:=E.upd.size;have wide:∀{n:Nat} {f h2:ae},hc.size≤f.size→Upd (fun b=>(hc.size≤b∧b<n)∨f.size≤b) f h2→Upd (fun b=>hc.size≤b) f h2:=fun hz k=>k.mono fun y o=>.inl (o.elim (fun h=>h.1) fun h=>by omega)
       refine⟨_,vc b3 0,_,vc b3 1,⟨by simp only;omega,by simp only;omega⟩,a',ha',_,X,?_,?_⟩
       ·refine aW fun V U u=>⟨u.cell0 X,?_,?_⟩
        ·have s4:=u.size
         refine⟨_,mB U,aat (p:=l[i]) (Q.upd0 u) (by omega) (by omega) (by omega) rfl fun s5 h5 H G=>⟨G.cell (u.cell0 X) (by rw[AQ];omega),aW fun h6 b6 z=>?_⟩⟩
         have s5':=G.size;have s6:=z.size;refine⟨_,mB b6,appB (p:=l[i]) (H.upd0 z) (by omega) (by omega) (by omega) rfl fun s7 h7 L k7=>?_⟩
         exact w _ _ ⟨L,uu (((u.wide.tr (wide (by omega) G)).tr z.wide).tr (wide (by omega) k7))⟩
        ·refine aW fun h6 b6 z=>?_
         have s4:=u.size;have s6:=z.size;have z6:=bD b6;refine⟨_,mB (z.get0 U),aat (p:=l[i]) ((Q.upd0 u).upd0 z) (by omega) (by omega) (by omega) rfl fun s5 h5 H G=>?_⟩
         have s5':=G.size;refine⟨_,mB (G.get b6 (by omega)),appB (p:=l[i]) H (by omega) (by omega) (by omega) rfl fun s7 h7 L k7=>?_⟩
         exact w _ _ ⟨L,uu (((u.wide.tr z.wide).tr (wide (by omega) G)).tr (wide (by omega) k7))⟩
       ·refine aW fun V U u=>⟨⟨vc (u.get0 b3) 0,vc (u.get0 b3) 1⟩,aW fun h6 b6 z=>?_⟩
        have s4:=u.size;have s6:=z.size;have z4:=bD U;refine⟨_,mB b6,aat (p:=l[i]) ((Q.upd0 u).upd0 z) (by omega) (by omega) (by omega) rfl fun s5 h5 H G=>?_⟩
        have s5':=G.size;refine⟨_,mB (G.get (z.get0 U) (by omega)),appB (p:=l[i]) H (by omega) (by omega) (by omega) rfl fun s7 h7 L k7=>?_⟩
        exact w _ _ ⟨L,uu (((u.wide.tr z.wide).tr (wide (by omega) G)).tr (wide (by omega) k7))⟩
      ·have e:¬ck x (12-m) l[i].1=c:=fun e'=>by
        have:¬((ck x (12-m) l[i].1:Nat):Int)=(c:Int):=by simpa using e
        omega
       rw[if_neg e]at T;rw[T]at w;obtain⟨A,B,v,O,M,q4⟩:=Q;exact w _ _ ⟨⟨A,B,v,O,fun b hb=>⟨(M b hb).1,by have:=(M b hb).2.1;omega,(M b hb).2.2⟩,fun b hb=>⟨(q4 b hb).1,by have:=(q4 b hb).2;omega⟩⟩,hu.tr k3⟩
     ·rintro⟨so',ss'⟩ h' ⟨hT',hu'⟩
      simp only;rw[dd d (by omega)];exact hI2 (i+1) _ _ ⟨rfl,d,hT',hu'⟩ (by omega)
    ·have hil':i=l.length:=by have:¬(i:Int)<(s.len:Int):=hge2;omega
     subst hil';rw[bS]at hT;have hDi:h.size<hi.size:=by omega
     have hbi:=hu.get0 E.blk;have hki:∀c',c'<c→2≤(part x (12-m) c' l).length→∃N,kk c'=some ⟨N,0,none⟩∧DTrie (fun y=>W y∨y=h.size) x hi m N (part x (12-m) c' l):=fun c' f h2=>let⟨N,F,V⟩:=E.kid c' f h2;⟨N,F,DTrie.upd hu (fun _ h=>h.elim) V⟩
     obtain⟨A,B,hA,hB,hA',hB'⟩:=hT;have P:Sl eC 2 (fun y=>W y∨y=h.size) hi so (part x (12-m) c l):=hA.sl fun y o _ hw=>by
      have:=(hA' y o).1;rcases hw with hw|hw
      ·have:=hW y hw;omega
      ·omega
     have hsB:Sl (aaC x) 1 No hi ss (part x (12-m) c l):=hB.sl fun _ _ _ h=>h
     have hq:=P.len;have hpl:(part x (12-m) c l).length≤l.length:=kB;have hU:=E.upd.tr hu;refine Join.plain ?_;refine CondP.intro (fun e=>?_) fun e=>?_
     ·
      have e:so.len=1:=by
       have:((so.len:Nat):Int)=1:=by simpa using e
       omega
      have hone:(part x (12-m) c l).length=1:=by omega
      obtain⟨p,hp⟩:=List.length_eq_one_iff.1 hone;rw[hp]at P;obtain⟨a,ha,_,hv⟩:=P.at (i:=0) (x:=p) rfl;refine⟨⟨by decide,by simp only;omega⟩,a,ha,_,hv 0 _ rfl,_,hv 1 _ rfl,_,rfl,⟨by omega,by omega⟩,_,rfl,?_⟩
      have ew:((c:Int).toNat*1)=c:=by omega
      have ew2:((c:Int).toNat*2)=c*2:=by omega
      simp only[ew,ew2,cY h,cj,aR];refine Xg hbi (by omega) fun F b3 u3=>⟨⟨by omega,by omega⟩,abd b3 (by omega) fun V U u4=>az (fun hl=>by omega) fun _=>?_⟩
      have C:Upd (· =h.size) hi V:=u3.tr u4
      refine hR _ _ ⟨kk,?_,hU.own C (al _),fun c' f h2=>?_⟩
      ·rw[U]
       refine congrArg some (congrArg (fun c=>Obj.cells c jK (0,0)) (NB fun j J=>?_))
       rw[TT (q:=BT x (12-m) l c) (q':=BT x (12-m) l (c+1)) (kk:=kk) D (fun j J=>ML J) (fun _ _=>rfl),MM,hp]
       have e1:RE [p]=1:=rfl;have e2:E5 (jM [p])=p:=rfl;rw[e1,e2];by_cases v:j=2+c
       ·rw[if_neg (by omega),if_neg (by omega),if_pos v,if_pos v]
       ·by_cases O:j=34+c*2
        ·rw[if_neg (by omega),if_pos O,if_neg v,if_pos O]
        ·by_cases M:j=34+c*2+1
         ·rw[if_pos M,if_neg v,if_neg O,if_pos M]
         ·rw[if_neg M,if_neg O,if_neg v,if_neg v,if_neg O,if_neg M]
          by_cases q4:j=98+c
          ·rw[if_pos q4,PL (by omega),show j-98=c by omega]
          ·rw[if_neg q4]
      ·rcases bW c' c with Z|Z
       ·obtain⟨N,h3',h4'⟩:=hki c' Z h2
        exact⟨N,h3',DTrie.upd C (fun y o=>.inl (.inr o)) h4'⟩
       ·rw[show c'=c by omega,hone]at h2;omega
     ·have e:¬so.len=1:=fun e'=>by
       have:¬((so.len:Nat):Int)=1:=by simpa using e
       omega
      refine az (fun Y=>?_) fun hle=>?_
      ·
       have Y:2≤(part x (12-m) c l).length:=by have:(so.len:Int)>1:=Y;omega
       refine⟨_,rfl,_,rfl,?_⟩;have e14:IntKind.wrap .i64 (((12-m:Nat):Int)+1)=((13-m:Nat):Int):=by rw[fx (by omega)];omega
       rw[e14];refine ih (by omega) P (fun y o=>o.elim (fun o=>by have:=hW y o;omega) fun o=>by omega) hsB (by omega) fun h2 N tk k2=>⟨⟨by omega,by omega⟩,?_⟩
       have ew:((c:Int).toNat*1)=c:=by omega
       simp only[ew,cY h,cj,aR];refine Xg (k2.get0 hbi) (by omega) fun F b3 u3=>⟨⟨by omega,by omega⟩,Xg b3 (by omega) fun V U u4=>?_⟩
       have C:Upd (· =h.size) h2 V:=u3.tr u4
       refine hR _ _ ⟨fun j=>if j=c then some ⟨N,0,none⟩else kk j,?_,(hU.tr k2).own C (al _),fun c' f h2=>?_⟩
       ·rw[U]
        refine congrArg some (congrArg (fun c=>Obj.cells c jK (0,0)) (NB fun j J=>?_))
        rw[TT (q:=BT x (12-m) l c) (q':=BT x (12-m) l (c+1)) (kk:=kk) D (fun j J=>ML J) (fun _ J=>if_neg J),MM]
        have e1:RE (part x (12-m) c l)=2:=by unfold RE;rw[if_neg (by omega),if_pos Y]
        have e2:jM (part x (12-m) c l)=none:=by
         match part x (12-m) c l,Y with
         |a::b::r,_=>rfl
        rw[e1,e2,if_pos rfl];by_cases v:j=2+c
        ·rw[if_neg (by omega),if_pos v,if_pos v]
        ·by_cases q4:j=98+c
         ·rw[if_pos q4,if_neg v,if_neg (by omega),if_neg (by omega),if_pos q4]
         ·rw[if_neg q4,if_neg v,if_neg v]
          by_cases O:j=34+c*2
          ·rw[if_pos O,PM (by omega) (by omega) (by omega),show(j-34)/2=c by omega,MK];rfl
          ·rw[if_neg O]
           by_cases M:j=34+c*2+1
           ·rw[if_pos M,PK (by omega) (by omega) (by omega),show(j-34)/2=c by omega,MK];rfl
           ·rw[if_neg M,if_neg q4]
       ·rcases bW c' c with Z|Z
        ·obtain⟨kb',h3',h4'⟩:=hki c' Z h2
         exact⟨kb',by rw[if_neg (by omega)];exact h3',DTrie.upd C (fun y o=>.inl (.inr o)) (DTrie.upd k2 (fun _ h=>h.elim) h4')⟩
        ·obtain rfl:c'=c:=by omega
         exact⟨N,if_pos rfl,DTrie.upd C (fun y o=>.inl (.inr o)) tk⟩
      ·
       have hnil:part x (12-m) c l= []:=List.length_eq_zero_iff.1 (by have:¬(so.len:Int)>1:=hle;omega);refine hR _ _ ⟨kk,?_,hU,fun c' f h2=>?_⟩
       ·rw[hbi]
        refine congrArg some (congrArg (fun c=>Obj.cells c jK (0,0)) (NB fun j J=>?_))
        have:BT x (12-m) l (c+1)=BT x (12-m) l c:=by
         funext j;by_cases J:j=c
         ·rw[J,MM,MK,hnil]
         ·exact ML J
        rw[this]
       ·rcases bW c' c with Z|Z
        ·exact hki c' Z h2
        ·rw[show c'=c by omega,hnil]at h2;simp at h2
   ·rintro _ h' ⟨kk',hD'⟩
    rw[dd D (by omega)];exact hI (c+1,kk') _ _ ⟨rfl,D,hD'⟩ (by simp only;omega)
  ·obtain rfl:c=32:=by have:¬(c:Int)<32:=hge;omega
   refine hk hc h.size ⟨nwh,kk,?_,fun c hc hp=>let⟨N,F,V⟩:=E.kid c hc hp;⟨N,F,DTrie.less (fun _ h=>.inl h) V⟩⟩ E.upd
   rw[E.blk];refine congrArg some (congrArg (fun c=>Obj.cells c jK (0,0)) (NB fun i hi=>?_))
   have:∀c,c<32→BT x (12-m) l 32 c=part x (12-m) c l:=fun c hc=>if_pos hc
   unfold dF;by_cases h0:i<34
   ·by_cases f:i=0
    ·rw[if_pos f,if_pos f]
    ·by_cases h2:i=1
     ·rw[if_neg f,if_neg f,if_pos h2,if_pos h2]
     ·rw[if_neg f,if_neg f,if_neg h2,if_neg h2,if_pos h0,if_pos h0,this _ (by omega)]
   ·rw[if_neg (show ¬i=0 by omega),if_neg (show ¬i=0 by omega),if_neg (show ¬i=1 by omega),if_neg (show ¬i=1 by omega),if_neg h0,if_neg h0]
    by_cases F:i<98
    ·rw[if_pos F,if_pos F,this _ (by omega)]
    ·rw[if_neg F,if_neg F]
end Go.Proofs
namespace Go.Proofs
open Go Go.Lift
theorem WD{x:Hs}{h:ae}{s:SliceV}{l:List Pr}(w:Sl eC 2 No h s l)(L:l.length≤60000)(m:∀p∈l,p.1.size≤1000000){K:Option Addr→ae→Prop}(H:∀h' b,DTrie No x h' 13 b l→Upd No h h'→K (some ⟨b,0,none⟩) h'):
  HC PG IP [.agg #[.int .u64 x.k0,.int .u64 x.k1,.int .u64 x.mask],.slice s.a s.len s.cap,.int .i64 0] [.c .ptr] K h:=by
 refine XO (x.k0,x.k1,x.mask) s 0 ?_;unfold Qm cl ag aK nv AC vO ax lM hP Uh;refine aW fun j b1 k1=>?_
 have C:=w.len;refine LoopP.ghost (fun(i:Nat) (t:SliceV×Int) h'=>t.2=(i:Int)∧i≤l.length∧OwnS (aaC x) 1 qR (fun b=>j.size≤b) h' t.1 (l.take i)∧Upd No j h') (fun i=>l.length-i) 0 ⟨rfl,aS _,OwnS.nil (W3 x),Upd.refl _ _⟩ ?_
 rintro I i ⟨so,Q⟩ h' ⟨A,hi,g,f⟩ F;simp only at A g;subst A;have e:=(w.upd k1 fun _ h=>h.elim).upd f fun _ h=>h.elim
 refine az (fun c=>?_) fun q=>?_
 ·have c:i<l.length:=by have:(i:Int)<(s.len:Int):=c;omega
  refine Join.plain ?_;obtain⟨a,D,_,hv⟩:=e.at (af c);refine⟨⟨by simp only;omega,by simp only;omega⟩,a,D,_,hv 0 _ rfl,_,hv 1 _ rfl,uB (p:=l[i]) fun h2 b2 d=>?_⟩
  have k:=d.get0 (f.get0 b1);refine⟨_,vc k 0,_,vc k 1,_,vc k 2,_,vc b2 0,WE (by have:=m _ (aZ c);omega) fun R B=>aW fun P E v=>⟨_,mB E,?_⟩⟩
  have z:=((f.tr d).tr B).tr v;refine AppP.own (M:=fun b=>j.size≤b) (ys:= [l[i]]) (((g.upd d fun _ _ h=>h).upd B fun _ _ h=>h).upd v fun _ _ h=>h) rfl rfl rfl rfl (by omega) (by simp only[aE,aH];omega) z.size fun O N u n=>?_
  simp only;rw[dd c (by omega)];refine F (i+1) _ _ ⟨rfl,c,?_,z.trans n fun y J=>.inr J⟩ (by omega)
  rw[aX c];exact u
 ·have o:i=l.length:=by have:¬(i:Int)<(s.len:Int):=q;omega
  subst o;rw[bS]at g;exact ZY 13 (al _) e (fun _ h=>h.elim) (g.sl fun _ _ _ h=>h) L fun h2 b G d=>H h2 b G ((k1.tr f).tr d)
theorem Lk(n:Nat):IntKind.wrap .u8 (n:Int)=((UInt8.ofNat n).toNat:Int):=by rw[IntKind.wrap_u8];simp
theorem Hg{n:Nat}(e:n≤1000000000){h:ae}{K:SliceV→ae→Prop}(d:∀s' h',OwnS qI 1 cM (fun y=>h.size≤y) h' s' (ol n 2)→Upd No h h'→K s' h'):HC PG u0 [.int .i64 (n:Int)] [.c .slice] K h:=by
 refine Vz (n:Int) ?_;unfold Mv X8;have b:md (n:Int) 256=((n>>>(8*1):Nat):Int):=by rw[f8 (by omega),cO];rfl
 have a:n>>>(8*1)≤n:=jH ..;rw[b,fx (by generalize n>>>(8*1)=y at a;omega),Lk,Lk];refine⟨by decide,aW fun c b1 k1=>d _ c ⟨rfl,um,al _,.inr ⟨h.size,[],rfl,al _,b1,rfl⟩⟩ k1⟩
theorem O3{n:Nat}(f:n<4294967296){h:ae}{K:SliceV→ae→Prop}(e:∀s' h',OwnS qI 1 cM (fun y=>h.size≤y) h' s' (ol n 4)→Upd No h h'→K s' h'):HC PG yy [.int .u32 (n:Int)] [.c .slice] K h:=by
 refine SF (n:Int) ?_;unfold JF aaH;have q:∀k:Nat,((n>>>k:Nat):Int)<4294967296:=fun k=>by have:n>>>k≤n:=jH ..;generalize n>>>k=y at this;omega
 have b:md (n:Int) 256=((n>>>(8*1):Nat):Int):=by rw[f8 (by omega),cO];rfl
 have a:md (n:Int) 65536=((n>>>(8*2):Nat):Int):=by rw[f8 (by omega),cO];rfl
 have d:md (n:Int) 16777216=((n>>>(8*3):Nat):Int):=by rw[f8 (by omega),cO];rfl
 have w:∀k:Nat,IntKind.wrap .u32 ((n>>>k:Nat):Int)=((n>>>k:Nat):Int):=fun k=>by have:=q k;generalize n>>>k=y at this;rw[IntKind.wrap_u32];omega
 rw[b,a,d,w,w,w,Lk,Lk,Lk,Lk];refine⟨by decide,by decide,by decide,aW fun c b1 k1=>e _ c ⟨rfl,um,al _,.inr ⟨h.size,[],rfl,al _,b1,rfl⟩⟩ k1⟩
theorem Ab{M W:Nat→Prop}{h:ae}{so e:SliceV}{out ys:List UInt8}{K:SliceV→ae→Prop}(c:OwnS qI 1 cM M h so out)(a:Sl qI 1 W h e ys)(hM:∀b,h.size≤b→M b)(f:out.length+ys.length≤140737488355328)
  (d:∀s' h',OwnS qI 1 cM M h' s' (out++ys)→Upd M h h'→K s' h'):∃xs,SRow h e.a (e.len*1) xs∧AppP (some [.int .u8 0]) 1 1 cM so.a so.len so.cap e.len xs h K:=
 ⟨_,a.srow,AppP.own (ys:=ys) c a.len rfl (Df _) rfl (by omega) (by omega) (hM _ (al _)) d⟩
theorem Dd{b:ByteArray}(s:b.size≤1000000){h:ae}{K:SliceV→ae→Prop}(m:∀s' h',OwnS qI 1 cM (fun y=>h.size≤y) h' s' (pH b)→Upd No h h'→K s' h'):HC PG sJ [.string b] [.c .slice] K h:=by
 refine SD b ?_;unfold JC;refine Hg (by omega) fun t a f k1=>?_
 intro c hc;have d:=Upd.push No a (.cells (eo b++fg (c-b.size) (Value.int .u8 0)).toArray cM (c,c+1));have b2:=zw a (.cells (eo b++fg (c-b.size) (Value.int .u8 0)).toArray cM (c,c+1));generalize a.push (.cells (eo b++fg (c-b.size) (Value.int .u8 0)).toArray cM (c,c+1))=h2 at d b2;have u:b.data.toList.length=b.size:=by simp
 have g:Sl qI 1 No h2 ⟨some (aF a),b.size,c⟩ b.data.toList:=by
  refine⟨by simp,um,fun _=>⟨_,rfl,id,oI b2 fun i v hv=>?_⟩⟩
  rw[aR,gG,ws,List.getElem?_append_left (List.getElem?_eq_some_iff.1 hv).1];exact hv
 have p:=k1.size;have q:=d.size;refine Ab (f.upd d fun _ _ h=>h) g (fun y j=>by show h.size≤y;omega) (by rw[dS];omega) fun n k e o=>m n k e ((k1.tr d).trans o fun y j=>.inr j)
theorem ET{W:Nat→Prop}{h:ae}{s:SliceV}{l:List Pr}(A:Sl eC 2 W h s l)(C:Fit l)(hn:l.length≤60000){K:SliceV→ae→Prop}(O:∀s' h',OwnS qI 1 cM (fun y=>h.size≤y) h' s' (l0 l)→Upd No h h'→K s' h'):
  HC PG tP [.slice s.a s.len s.cap] [.c .slice] K h:=by
 refine P7 s ?_;unfold GB cl aK nv ax lM hP;have D:=A.len;refine LoopP.ghost (fun(i:Nat) (t:SliceV×Int) h'=>t.2=(i:Int)∧i≤l.length∧OwnS qI 1 cM (fun b=>h.size≤b) h' t.1 (l0 (l.take i))∧Upd No h h') (fun i=>l.length-i) 0 ⟨rfl,aS _,OwnS.nil um,Upd.refl _ _⟩ ?_
 rintro I i ⟨so,ti⟩ h' ⟨B,hi,g,f⟩ H;simp only at B g;subst B;refine az (fun c=>?_) fun v=>?_
 ·have c:i<l.length:=by have:(i:Int)<(s.len:Int):=c;omega
  refine Join.plain ?_;obtain⟨a,E,_,hv⟩:=(A.upd f fun _ h=>h.elim).at (af c)
  have G:=C l[i] (aZ c);have o:=oe (l:=l.take i) fun q Q=>C q (List.mem_of_mem_take Q)
  rw[aH,Nat.min_eq_left hi]at o;have V:=ko l[i].1;have h2:=ko l[i].2;refine⟨⟨by simp only;omega,by simp only;omega⟩,a,E,_,hv 0 _ rfl,_,hv 1 _ rfl,uB (p:=l[i]) fun h2 b2 n=>?_⟩
  refine⟨_,vc b2 0,_,vc b2 1,Dd (by omega) fun Z h3 x e=>⟨vc (e.get0 b2) 1,?_⟩⟩
  have R:=(f.tr n).tr e;have s2:=bD b2;have L:=n.size;have N:=e.size;have T:=f.size;refine Ab (M:=fun y=>h.size≤y∧y≠h'.size) (((g.within.upd n fun _ _ h=>h).upd e fun _ _ h=>h).more fun y d=>⟨d.1,by omega⟩) (x.sl (W:=No) fun _ _ _ h=>h) (fun y d=>by omega) (by omega) fun X Y m j=>⟨vc (j.get (e.get0 b2) (by omega)) 1,?_⟩
  have P:=j.size;refine Dd (by omega) fun U S z k=>?_
  have F:=k.size;refine Ab (M:=fun y=>h.size≤y) ((m.upd k fun _ _ h=>h).more fun y d=>d.1) (z.sl (W:=No) fun _ _ _ h=>h) (fun y d=>by show h.size≤y;omega) (by rw[ac];omega) fun s6 h6 w J=>?_
  simp only;rw[dd c (by omega)];refine H (i+1) _ _ ⟨rfl,c,?_,(((R.trans j fun y d=>.inr d.1)).tr k).trans J fun y d=>.inr d⟩ (by omega)
  rw[F9 c,Ga,←ar];exact w
 ·have u:i=l.length:=by have:¬(i:Int)<(s.len:Int):=v;omega
  subst u;rw[bS]at g;exact O _ _ g f
theorem UH{W W':Nat→Prop}{h:ae}{s s':SliceV}{l:List UInt8}(f:Sl qI 1 W h s l)(c:Sl qI 1 W' h s' l)(n:l.length≤1000000000000){K:Bool→ae→Prop}(j:K true h):HC PG Cl [.slice s.a s.len s.cap,.slice s'.a s'.len s'.cap] [.c .bool] K h:=by
 refine SE s s' ?_;unfold JD bI cl;have k:=f.len;have h2:=c.len;rw[k,h2,bne_self_eq_false];refine aj.2 ?_;refine LoopP.ghost (fun(i:Nat) (t:Int) h'=>t=(i:Int)∧i≤l.length∧h'=h) (fun i=>l.length-i) 0 ⟨rfl,aS _,rfl⟩ ?_
 rintro I i t h' ⟨rfl,hi,rfl⟩ m;refine az (fun b=>?_) fun _=>j
 have b:i<l.length:=by omega
 obtain⟨a,g,_,hv⟩:=f.at0 (af b);obtain⟨a',e,_,d⟩:=c.at0 (af b);refine⟨⟨by omega,by omega⟩,a,g,_,hv,⟨by omega,by omega⟩,a',e,_,d,?_⟩
 rw[bne_self_eq_false];refine aj.2 ?_;rw[dd b (by omega)];exact m (i+1) _ _ ⟨rfl,b,rfl⟩ (by omega)
end Go.Proofs
namespace Go.Proofs
open Go Go.Lift
abbrev abY(lab:ByteArray)(has:Bool)(val:ByteArray)(s:SliceV)(_:Option Addr):Array Value:= #[.string lab,.bool has,.string val,sv s]
def DxF(W:Nat→Prop)(h:ae):Fo→List (Option Addr)→Prop
 | .nil,ks=>ks= []
 | .cons lab w kids rest,ks=>∃b sl val s ow ks1 ks',ks=some ⟨b,0,none⟩::ks'∧sl.data.toList=lab∧h[b]? =some (.cells (abY sl w.isSome val s ow) qg (0,0))∧val=w.getD ⟨#[]⟩∧Sl pj 1 W h s ks1∧(s.len≤s.cap∧¬W b)∧DxF W h kids ks1∧DxF W h rest ks'
def DxN(W:Nat→Prop)(h:ae)(b:Nat)(sl:ByteArray)(w:Option ByteArray)(F:Fo):Prop:=∃val s ow ks,h[b]? =some (.cells (abY sl w.isSome val s ow) qg (0,0))∧val=w.getD ⟨#[]⟩∧Sl pj 1 W h s ks∧(s.len≤s.cap∧¬W b)∧DxF W h F ks
def DKid(W:Nat→Prop)(h:ae)(k:Option Addr)(n:Bn):Prop:=∃b sl,k=some ⟨b,0,none⟩∧sl.data.toList=n.1∧DxN W h b sl n.2.1 n.2.2
def DxL(W:Nat→Prop)(h:ae)(ks:List (Option Addr))(L:List Bn):Prop:=ks.length=L.length∧∀p∈ks.zip L,DKid W h p.1 p.2
theorem DC{W:Nat→Prop}{h:ae}:∀{F:Fo} {ks:List (Option Addr)},DxF W h F ks↔DxL W h ks F.toL
 | .nil,ks=>by
  unfold DxF DxL;simp[Fo.toL]
 | .cons lab w kids rest,ks=>by
  unfold DxF DxL;rw[Fo.toL_cons];constructor
  ·rintro⟨b,sl,val,s,ow,c,d,rfl,i,g,j,f,m,n,t⟩
   obtain⟨q,u⟩:=DC.1 t;refine⟨by simp[q],fun p a=>?_⟩
   rw[kJ]at a;rcases aA.1 a with rfl|a
   ·exact⟨b,sl,rfl,i,val,s,ow,c,g,j,f,m,n⟩
   ·exact u p a
  ·cases ks with
   |nil=>rintro⟨e,_⟩;simp at e
   |cons k d=>
    rintro⟨e,a⟩;rw[kJ]at a;obtain⟨b,sl,v,i,val,s,ow,c,g,j,f,m,n⟩:=a _ (aw ..);refine⟨b,sl,val,s,ow,c,d,by rw[←v],i,g,j,f,m,n,DC.2 ⟨by simpa using e,fun p o=>a p (aB _ o)⟩⟩
theorem DxF.upd0{W:Nat→Prop}{h h':ae}(k:Upd No h h'):∀{F:Fo} {ks:List (Option Addr)},DxF W h F ks→DxF W h' F ks
 | .nil,_,r=>r
 | .cons _ _ _ _,_,⟨b,sl,val,s,ow,ks1,ks',e0,e1,e2,e3,e4,e5,e6,e7⟩=>⟨b,sl,val,s,ow,ks1,ks',e0,e1,k.get0 e2,e3,e4.upd k fun _ h=>h.elim,e5,DxF.upd0 k e6,DxF.upd0 k e7⟩
theorem DxN.upd0{W:Nat→Prop}{h h':ae}(k:Upd No h h'){b:Nat}{sl:ByteArray}{w:Option ByteArray}{F:Fo}:DxN W h b sl w F→DxN W h' b sl w F
 |⟨val,s,ow,ks,e2,e3,e4,e5,e6⟩=>⟨val,s,ow,ks,k.get0 e2,e3,e4.upd k fun _ h=>h.elim,e5,DxF.upd0 k e6⟩
theorem DKid.upd0{W:Nat→Prop}{h h':ae}(k:Upd No h h'){a:Option Addr}{n:Bn}:DKid W h a n→DKid W h' a n
 |⟨b,sl,e1,e2,e3⟩=>⟨b,sl,e1,e2,e3.upd0 k⟩
theorem DxF.less{W W':Nat→Prop}{h:ae}(hm:∀b,W' b→W b∨h.size≤b):∀{F:Fo} {ks:List (Option Addr)},DxF W h F ks→DxF W' h F ks
 | .nil,_,r=>r
 | .cons _ _ _ _,_,⟨b,sl,val,s,ow,ks1,ks',e0,e1,e2,e3,e4,e5,e6,e7⟩=>⟨b,sl,val,s,ow,ks1,ks',e0,e1,e2,e3,e4.less hm,⟨e5.1,fun hx=>(hm _ hx).elim e5.2 fun h=>by have:=bD e2;omega⟩,DxF.less hm e6,DxF.less hm e7⟩
theorem DxN.less{W W':Nat→Prop}{h:ae}(hm:∀b,W' b→W b∨h.size≤b){b:Nat}{sl:ByteArray}{w:Option ByteArray}{F:Fo}:DxN W h b sl w F→DxN W' h b sl w F
 |⟨val,s,ow,ks,e2,e3,e4,e5,e6⟩=>⟨val,s,ow,ks,e2,e3,e4.less hm,⟨e5.1,fun hx=>(hm _ hx).elim e5.2 fun h=>by have:=bD e2;omega⟩,DxF.less hm e6⟩
theorem DxF.updM{W M:Nat→Prop}{h h':ae}(k:Upd M h h')(hm:∀b,M b→W b∨h.size≤b):∀{F:Fo} {ks:List (Option Addr)},DxF W h F ks→DxF W h' F ks
 | .nil,_,r=>r
 | .cons _ _ _ _,_,⟨b,sl,val,s,ow,ks1,ks',e0,e1,e2,e3,e4,e5,e6,e7⟩=>⟨b,sl,val,s,ow,ks1,ks',e0,e1,k.get e2 (fun hx=>(hm _ hx).elim e5.2 fun h=>by have:=bD e2;omega),e3,e4.upd k hm,e5,DxF.updM k hm e6,DxF.updM k hm e7⟩
theorem DxN.updM{W M:Nat→Prop}{h h':ae}(k:Upd M h h')(hm:∀b,M b→W b∨h.size≤b){b:Nat}{sl:ByteArray}{w:Option ByteArray}{F:Fo}:DxN W h b sl w F→DxN W h' b sl w F
 |⟨val,s,ow,ks,e2,e3,e4,e5,e6⟩=>⟨val,s,ow,ks,k.get e2 (fun hx=>(hm _ hx).elim e5.2 fun h=>by have:=bD e2;omega),e3,e4.upd k hm,e5,DxF.updM k hm e6⟩
theorem DxL.upd0{W:Nat→Prop}{h h':ae}(k:Upd No h h'){ks:List (Option Addr)}{L:List Bn}(r:DxL W h ks L):DxL W h' ks L:=⟨r.1,fun p a=>(r.2 p a).upd0 k⟩
theorem DxL.app{W:Nat→Prop}{h:ae}{ks b:List (Option Addr)}{L L':List Bn}(r:DxL W h ks L)(c:DxL W h b L'):DxL W h (ks++b) (L++L'):=by
 refine⟨by rw[ac,ac,r.1,c.1],fun p a=>?_⟩
 rw[List.zip_append r.1]at a;rcases List.mem_append.1 a with a|a
 ·exact r.2 p a
 ·exact c.2 p a
theorem DxL.one{W:Nat→Prop}{h:ae}{k:Option Addr}{n:Bn}(c:DKid W h k n):DxL W h [k] [n]:=⟨rfl,fun p a=>by rw[kJ,List.zip_nil_left]at a;rw[List.mem_singleton.1 a];exact c⟩
theorem DxL.at{W:Nat→Prop}{h:ae}{ks:List (Option Addr)}{L:List Bn}(r:DxL W h ks L){i:Nat}(hi:i<L.length):∃b sl,ks[i]? =some (some ⟨b,0,none⟩)∧sl.data.toList=L[i].1∧DxN W h b sl L[i].2.1 L[i].2.2:=by
 have d:i<ks.length:=by rw[r.1];exact hi
 have f:i<(ks.zip L).length:=by rw[List.length_zip];omega
 have:=r.2 _ (aZ f);rw[List.getElem_zip]at this;obtain⟨b,sl,c,a,e⟩:=this;exact⟨b,sl,by rw[af d];exact congrArg some c,a,e⟩
theorem DKid.less{W W':Nat→Prop}{h:ae}(hm:∀b,W' b→W b∨h.size≤b){a:Option Addr}{n:Bn}:DKid W h a n→DKid W' h a n
 |⟨b,sl,e1,e2,e3⟩=>⟨b,sl,e1,e2,e3.less hm⟩
theorem DKid.updM{W M:Nat→Prop}{h h':ae}(k:Upd M h h')(hm:∀b,M b→W b∨h.size≤b){a:Option Addr}{n:Bn}:DKid W h a n→DKid W h' a n
 |⟨b,sl,e1,e2,e3⟩=>⟨b,sl,e1,e2,e3.updM k hm⟩
theorem DxL.less{W W':Nat→Prop}{h:ae}(hm:∀b,W' b→W b∨h.size≤b){ks:List (Option Addr)}{L:List Bn}(r:DxL W h ks L):DxL W' h ks L:=⟨r.1,fun p a=>(r.2 p a).less hm⟩
theorem DxL.updM{W M:Nat→Prop}{h h':ae}(k:Upd M h h')(hm:∀b,M b→W b∨h.size≤b){ks:List (Option Addr)}{L:List Bn}(r:DxL W h ks L):DxL W h' ks L:=⟨r.1,fun p a=>(r.2 p a).updM k hm⟩
theorem Q8{a b:ByteArray}(w:a.size≤1000000){h:ae}{K:Int→ae→Prop}(p:K (cm a.data.toList b.data.toList:Nat) h):HC PG yx [.string a,.string b] [.c (.int .i64)] K h:=by
 refine NX a b ?_;unfold Eo;have x:a.data.toList.length=a.size:=by simp
 have y:b.data.toList.length=b.size:=by simp
 refine LoopP.ghost (fun(i:Nat) (t:Int) h'=>t=(i:Int)∧i≤min a.size b.size∧h'=h∧∀j,j<i→a.data.toList[j]? =b.data.toList[j]?) (fun i=>min a.size b.size-i) 0 ⟨rfl,aS _,rfl,fun j q=>absurd q (kU _)⟩ ?_
 rintro I i t h' ⟨rfl,hi,rfl,g⟩ v;refine Join.intro (fun t h2=>h2=h'∧(t=true→i<min a.size b.size∧a.data.toList[i]? =b.data.toList[i]?)∧(t=false→cm a.data.toList b.data.toList=i)) (fun R k=>?_) ?_
 ·refine az (fun m=>?_) fun m=>k _ _ ⟨rfl,fun h=>(by cases h),fun _=>Mi (by omega) (by omega) g (by omega)⟩
  refine az (fun h2=>?_) fun h2=>k _ _ ⟨rfl,fun h=>(by cases h),fun _=>Mi (by omega) (by omega) g (by omega)⟩
  have c:i<a.size:=by omega
  have f:i<b.size:=by omega
  have o:a.data.toList[i]? =some a[i]:=by rw[←PA,getElem?_pos a i c]
  have n:b.data.toList[i]? =some b[i]:=by rw[←PA,getElem?_pos b i f]
  refine⟨a[i],by omega,by rw[aU,getElem?_pos a i c],b[i],by omega,by rw[aU,getElem?_pos b i f],k _ _ ⟨rfl,fun h=>⟨by omega,?_⟩,fun h=>?_⟩⟩
  ·have:((a[i].toNat:Int))=(b[i].toNat:Int):=by simpa using h
   rw[o,n,UInt8.toNat_inj.1 (show a[i].toNat=b[i].toNat by omega)]
  ·refine Mi (by omega) (by omega) g (.inr (.inr fun e=>?_))
   rw[o,n]at e;rw[bR.inj e]at h;simp at h
 ·rintro t h2 ⟨rfl,m,u⟩
  cases t with
  |true=>
   obtain⟨d,e⟩:=m rfl;refine au.2 ?_;rw[dd d (by omega)];refine v (i+1) _ _ ⟨rfl,d,rfl,fun j q=>?_⟩ (by omega)
   rcases bW j i with s|s
   ·exact g j s
   ·rw[show j=i by omega];exact e
  |false=>
   refine aj.2 ?_;rw[u rfl]at p;exact p
theorem ZD:∀{x y:List UInt8} {t:Nat},t≤x.length→t≤y.length→x.take t=y.take t→t≤cm x y
 |_,_,0,_,_,_=>aS _
 | [],_,t+1,h,_,_=>by simp at h
 |_::_,[],t+1,_,h,_=>by simp at h
 |a::x,b::y,t+1,h1,h2,e=>by
  rw[dL,dL]at e;obtain⟨d,c⟩:=eT.inj e;have:=ZD (x:=x) (y:=y) (t:=t) (by simpa using h1) (by simpa using h2) c;unfold cm;rw[if_pos d];omega
def Zl(t:Nat)(p:Pr):Pr:=(p.1.extract t p.1.size,p.2)
theorem LS(t:Nat)(p:Pr):ky (Zl t p)=(ky p).drop t:=DB p.1 t
def T9(B:Nat):Prop:=∀{W:Nat→Prop} {h:ae} {s:SliceV} {l:List Pr},Sl eC 2 No h s l→s.len≤s.cap→Beg l []→(∀p∈l,(ky p).length≤B)→l.length≤100000→(∀y,W y→y<h.size)→∀{K:SliceV→ae→Prop},
 (∀h' s' ks L,OwnS pj 1 uM (fun y=>h.size≤y) h' s' ks→DxL W h' ks L→Row L l [] []→Upd No h h'→K s' h')→HC PG uS [.slice s.a s.len s.cap] [.c .slice] K h
def yT(to:Nat)(l:List Pr):List Pr:=(l.filter fun p=>decide ((ky p).length≠to)).map (Zl to)
theorem Q2{to:Nat}{l:List Pr}{i:Nat}(hi:i<l.length):yT to (l.take (i+1))=if(ky l[i]).length=to then yT to (l.take i)else yT to (l.take i)++ [Zl to l[i]]:=by
 unfold yT;rw[aX hi,fZ,List.map_append,bV,m9];by_cases h:(ky l[i]).length=to
 ·rw[if_pos h,if_neg (by simpa using h)];simp
 ·rw[if_neg h,if_pos (by simpa using h)];rfl
theorem Sg{W:Nat→Prop}{B:Nat}(hB:B≤1000000)(U:∀B',B'<B→T9 B'){h:ae}{s:SliceV}{l r:List Pr}{f g:Pr}(hs:Sl eC 2 No h s l)(bg:Beg l [])(Q:∀p∈l,(ky p).length≤B)(hn:l.length≤100000)(hW:∀y,W y→y<h.size)
  (u:l=f::r)(hg:l.getLast? =some g)(hb:bt 0 f=bt 0 g){K:Option Addr→ae→Prop}
  (hk:∀h' a n,DKid W h' a n→K4 n→hd n.1=bt 0 f→(∀k v,vd n k v↔VU l [] k v)→Upd No h h'→K a h'):HC PG yw [.slice s.a s.len s.cap] [.c .ptr] K h:=by
 refine NW s ?_;unfold En cl aK db nv ax lM hP;have hlen:=hs.len;have hl0:0<l.length:=by rw[u];simp
 have hfm:f∈l:=by rw[u];exact aw ..
 have hgm:g∈l:=fY hg;obtain⟨a,ha,_,hvf⟩:=hs.at (i:=0) (x:=f) (by rw[u];rfl);obtain⟨q1,q2,q3,q4,q5⟩:=Fl bg ⟨r,u⟩ hg hb;have hbc:= @Jc l (if(ky f).length=cm (ky f) (ky g)then l.drop 1 else l) [] f g bg ⟨r,u⟩ hg hb
 have hcg:cm (ky f) (ky g)=cm (ky f) (ky g):=rfl;obtain⟨to,Y⟩:∃to,cm (ky f) (ky g)=to:=⟨_,rfl⟩;rw[Y]at q1 q2 q3 q4 hbc;have hszf:f.1.size=(ky f).length:=(Iz f.1).symm;have hfB:=Q f hfm;have hle:∀p∈l,to≤(ky p).length:=fun p j=>(q4 p j).elim (fun e=>e▸q2) Nat.le_of_lt
 have hcm:∀p∈l,to≤cm (ky f) (ky p):=fun p j=>ZD q2 (hle p j) (q3 p j).symm
 have hpos:0<to:=by simpa using q1
 refine⟨⟨by decide,by omega⟩,a,ha,_,hvf 0 _ rfl,?_⟩
 refine LoopP.ghost (fun(g:Nat×Nat) (t:Int×Int) h'=>t=((g.2:Int),(g.1:Int))∧g.1≤l.length∧to≤g.2∧g.2≤(ky f).length∧(g.1=l.length→g.2=to)∧Upd No h h') (fun g=>l.length-g.1) (0,(ky f).length) ⟨by rw[hszf];rfl,aS _,q2,al _,fun e=>by simp only at e;omega,Upd.refl _ _⟩ ?_
 rintro I ⟨i,n⟩ t h' ⟨rfl,hi,hn1,hn2,S,V⟩ hI;simp only at hi hn1 hn2 S;refine az (fun b=>?_) fun P=>?_
 ·have b:i<l.length:=by have:(i:Int)<(s.len:Int):=b;omega
  have C:l[i]∈l:=aZ b;refine Join.intro (fun t h2=>∃n':Nat,t=(n':Int)∧to≤n'∧n'≤(ky f).length∧(i+1=l.length→n'=to)∧Upd No h h2) (fun R hR=>?_) ?_
  ·obtain⟨a',X,_,hv⟩:=(hs.upd V fun _ h=>h.elim).at (af b)
   refine⟨⟨by simp only;omega,by simp only;omega⟩,a',X,_,hv 0 _ rfl,_,hv 1 _ rfl,uB (p:=l[i]) fun h2 b2 k2=>?_⟩
   obtain⟨a2,ha2,_,hv2⟩:=((hs.upd V fun _ h=>h.elim).upd k2 fun _ h=>h.elim).at (i:=0) (x:=f) (by rw[u];rfl)
   refine⟨⟨by decide,by omega⟩,a2,ha2,_,hv2 0 _ rfl,_,vc b2 0,Q8 (by omega) ?_⟩
   have hc1:=hcm _ C;have hc2:=(TZ (ky f) (ky l[i])).1;have z:i+1=l.length→l[i]=g:=fun e=>by
    rw[List.getLast?_eq_getElem?,show l.length-1=i by omega,af b]at hg
    exact bR.inj hg
   change CondP (decide ((cm (ky f) (ky l[i]):Int)<(n:Int))) _ _;refine az (fun hc=>hR _ _ ⟨_,rfl,hc1,hc2,fun e=>?_,V.tr k2⟩) fun hc=>hR _ _ ⟨n,rfl,hn1,hn2,fun e=>?_,V.tr k2⟩
   ·rw[z e,Y]
   ·rw[z e,Y]at hc;omega
  ·rintro t h2 ⟨n',rfl,D,h2',J,m⟩
   simp only;rw[dd b (by omega)];exact hI (i+1,n') _ _ ⟨rfl,b,D,h2',J,m⟩ (by simp only;omega)
 obtain rfl:i=l.length:=by have:¬(i:Int)<(s.len:Int):=P;omega
 obtain rfl:n=to:=S rfl;clear S hI;obtain⟨a',X,_,hv⟩:=(hs.upd V fun _ h=>h.elim).at (i:=0) (x:=f) (by rw[u];rfl)
 refine⟨⟨by decide,by omega⟩,a',X,f.1,hv 0 _ rfl,⟨by omega,by simp only;omega⟩,aW fun D b1 k1=>?_⟩
 have u1:=V.tr k1;have z1:=bD b1;have s0:=V.size;simp only[aU]at b1⊢;have hlab:(f.1.extract 0 n).data.toList=((ky f).take n).drop ([]:List UInt8).length:=by rw[Dz];rfl
 refine LoopP.ghost (fun(i:Nat) (t:SliceV×Int) h2=>t.2=(i:Int)∧i≤l.length∧h2[h'.size]? =some (.cells #[.string (f.1.extract 0 n),.bool (if 0<i∧(ky f).length=n then some f.2 else none:Option ByteArray).isSome,.string ((if 0<i∧(ky f).length=n then some f.2 else none:Option ByteArray).getD ⟨#[]⟩),.slice none 0 0] qg (0,0))∧
  OwnS eC 2 cq (fun y=>D.size≤y) h2 t.1 (yT n (l.take i))∧Upd No h h2∧D.size≤h2.size) (fun i=>l.length-i) 0 ⟨rfl,aS _,by rw[if_neg (by omega)];exact b1,OwnS.nil gq,u1,al _⟩ ?_
 rintro I i ⟨so,ti⟩ h2 ⟨e1,hi2,c2,Z,m,hz2⟩ hI;simp only at e1 Z;subst e1;refine az (fun b=>?_) fun P=>?_
 ·have b:i<l.length:=by have:(i:Int)<(s.len:Int):=b;omega
  have C:l[i]∈l:=aZ b;have G:=Q2 (to:=n) b;have hszi:l[i].1.size=(ky l[i]).length:=(Iz l[i].1).symm;have hiB:=Q _ C;refine Join.intro (fun t J=>J[h'.size]? =some (.cells #[.string (f.1.extract 0 n),.bool (if 0<i+1∧(ky f).length=n then some f.2 else none:Option ByteArray).isSome,.string ((if 0<i+1∧(ky f).length=n then some f.2 else none:Option ByteArray).getD ⟨#[]⟩),.slice none 0 0] qg (0,0))∧
   OwnS eC 2 cq (fun y=>D.size≤y) J t (yT n (l.take (i+1)))∧Upd No h J∧D.size≤J.size) (fun R hR=>?_) ?_
  ·obtain⟨a3,ha3,_,hv3⟩:=(hs.upd m fun _ h=>h.elim).at (af b)
   refine⟨⟨by simp only;omega,by simp only;omega⟩,a3,ha3,_,hv3 0 _ rfl,_,hv3 1 _ rfl,uB (p:=l[i]) fun J b3 k3=>⟨_,vc b3 0,?_⟩⟩
   have z3:=bD b3;have s3:=k3.size;have zh2:=bD c2;have c3:=k3.get0 c2;refine CondP.intro (fun w=>?_) fun w=>?_
   ·have w:(ky l[i]).length=n:=by
     have:((l[i].1.size:Nat):Int)=(n:Int):=by simpa using w
     omega
    have hfi:l[i]=f:=(q4 _ C).resolve_right (by omega);rw[if_pos w]at G;refine⟨_,vc b3 1,_,rfl,?_⟩;refine qN (i:=1) c3 (show 1<4 by decide) rfl fun h4 b4 O=>⟨vc (O.oth b3 (by omega)) 1,_,rfl,?_⟩
    refine qN (i:=2) b4 (show 2<4 by decide) rfl fun h5 b5 u5=>hR _ _ ⟨?_,?_,((m.tr k3).own O (by omega)).own u5 (by omega),?_⟩
    ·rw[if_pos (show 0<i+1∧(ky f).length=n from⟨by omega,by rw[←hfi];exact w⟩),b5,hfi];rfl
    ·rw[G]
     exact((Z.upd k3 fun _ _ h=>h).upd O fun y c e=>by have e:y=h'.size:=e;have c:D.size≤y:=c;omega).upd u5 fun y c e=>by have e:y=h'.size:=e;have c:D.size≤y:=c;omega
    ·have:=O.size;have:=u5.size;omega
   ·have w:¬(ky l[i]).length=n:=fun e=>by
     have:¬((l[i].1.size:Nat):Int)=(n:Int):=by simpa using w
     omega
    rw[if_neg w]at G;have hlei:=hle _ C;refine⟨_,vc b3 0,⟨by omega,by omega⟩,_,vc b3 1,aW fun h4 b4 N=>⟨vc (N.get0 b3) 1,vc (N.get0 b3) 0,_,mB b4,?_⟩⟩
    have s4:=N.size;have z4:=bD b4;refine AppP.own (M:=fun y=>(D.size≤y∧y<h2.size)∨h4.size≤y) (ys:= [Zl n l[i]]) (((Z.within.upd k3 fun _ _ h=>h).upd N fun _ _ h=>h).more fun y c=>.inl c) rfl rfl rfl rfl (by omega) ?_ (.inr (al _)) fun s5 h5 ho5 A=>?_
    ·have:=List.length_filter_le (fun p=>decide ((ky p).length≠n)) (l.take i)
     simp only[yT,dH,aE];rw[aH]at this;omega
    have s5':=A.size;refine⟨vc (A.get (N.get0 b3) (by omega)) 1,vc (A.get (N.get0 b3) (by omega)) 0,hR _ _ ⟨?_,?_,((m.tr k3).tr N).trans A fun y c=>.inr (by omega),by omega⟩⟩
    ·have o:(if 0<i+1∧(ky f).length=n then some f.2 else none:Option ByteArray)=if 0<i∧(ky f).length=n then some f.2 else none:=by
      by_cases h0:0<i
      ·simp[h0]
      ·have:i=0:=by omega
       subst this;have:l[0]=f:=by simp[u]
       rw[this]at w;rw[if_neg (fun h=>w h.2),if_neg (fun h=>w h.2)]
     rw[o];exact A.get (N.get0 c3) (by omega)
    ·rw[G]
     exact ho5.more fun y c=>by show D.size≤y;omega
  ·rintro t J ⟨p1,p2,p3,p4⟩
   simp only;rw[dd b (by omega)];exact hI (i+1) _ _ ⟨rfl,b,p1,p2,p3,p4⟩ (by omega)
 obtain rfl:i=l.length:=by have:¬(i:Int)<(s.len:Int):=P;omega
 rw[bS]at Z;have hc0:(0<l.length∧(ky f).length=n)↔(ky f).length=n:=⟨fun h=>h.2,fun h=>⟨hl0,h⟩⟩
 simp only[hc0]at c2;have H:yT n l=(if(ky f).length=n then l.drop 1 else l).map (Zl n):=by
  unfold yT;congr 1
  by_cases e:(ky f).length=n
  ·rw[if_pos e,u,bV,if_neg (by simpa using e),tB,rO]
   refine gr.2 fun p j=>?_
   have hpl:p∈l:=by rw[u];exact aB _ j
   rcases q4 p hpl with o|h2
   ·rw[o]at j
    exact absurd ((aJ.1 (u▸bg.up)).1 f j) (cr _)
   ·exact decide_eq_true (by omega)
  ·rw[if_neg e]
   refine gr.2 fun p j=>?_
   rcases q4 p j with o|h2
   ·rw[o];exact decide_eq_true e
   ·exact decide_eq_true (by omega)
 have d:(if(ky f).length=n then l.drop 1 else l).Sublist l:=by
  split
  ·exact rW ..
  ·exact List.Sublist.refl _
 have T:∀p∈(if(ky f).length=n then l.drop 1 else l),n<(ky p).length:=fun p j=>by
  rcases q4 p (d.subset j)with e|h
  ·by_cases o:(ky f).length=n
   ·rw[if_pos o,u,e]at j
    exact absurd ((aJ.1 (u▸bg.up)).1 f j) (cr _)
   ·rw[e];omega
  ·exact h
 have hbeg:Beg (yT n l) []:=by
  rw[H];refine⟨?_,fun p j=>?_⟩
  ·unfold cf
   rw[List.pairwise_map];refine(bg.up.sublist d).imp_of_mem fun{p q} j E b=>?_
   rw[uN]at b⊢;have e1:=q3 p (d.subset j);have o:=q3 q (d.subset E);change Op.bytesLess (ky (Zl n p)) (ky (Zl n q))=true;change Op.bytesLess (ky p) (ky q)=true at b;rw[LS,LS];rw[←aI n (ky p),←aI n (ky q),e1,o,NL]at b;exact b
  ·obtain⟨q,E,rfl⟩:=gi.1 j
   refine⟨rfl,?_⟩;rw[LS,aV];have:=T q E;simp only[aG];omega
 have hkB:∀p∈yT n l,(ky p).length≤B-n:=fun p j=>by
  rw[H]at j;obtain⟨q,E,rfl⟩:=gi.1 j;rw[LS,aV];have:=Q q (d.subset E);omega
 have hrn:(yT n l).length≤100000:=by
  rw[H,dH];exact Nat.le_trans d.length_le hn
 have s2:=m.size;have zc:=bD c2;refine U (B-n) (by omega) (W:=fun y=>W y∨y=h'.size) (Z.sl fun _ _ _ h=>h) Z.cap hbeg hkB hrn (fun y c=>c.elim (fun c=>by have:=hW y c;omega) fun c=>by omega) fun J s3 ks L ho3 hL3 hrow hu3=>?_
 obtain⟨hcF,hgF⟩:=hrow.done;have hgot:∀k v,rZ (.ofL L) k v↔VU (if(ky f).length=n then l.drop 1 else l) ((ky f).take n) k v:=fun k v=>by
  rw[hgF,H];constructor
  ·rintro⟨p,j,o,e3⟩
   obtain⟨q,E,rfl⟩:=gi.1 j;rw[LS,cB]at o;refine⟨q,E,?_,e3⟩;rw[←o,←q3 q (d.subset E),aI]
  ·rintro⟨q,E,o,e3⟩
   refine⟨Zl n q,gi.2 ⟨q,E,rfl⟩,?_,e3⟩;rw[LS,cB,o,List.drop_left' (by rw[aH];omega)]
 obtain⟨hcn,hhd,hin⟩:=hbc (F:=.ofL L) hcF rfl hgot rfl hlab;refine⟨_,rfl,?_⟩;refine qN (i:=3) (hu3.get0 c2) (show 3<4 by decide) rfl fun h4 b4 O=>?_
 refine hk h4 _ (_,_,_) ⟨h'.size,_,rfl,rfl,_,s3,none,ks,b4,rfl,?_,⟨ho3.cap,fun hw=>by have:=hW _ hw;omega⟩,DC.2 ?_⟩ hcn hhd hin ((m.tr hu3).own O (by omega))
 ·exact(ho3.upd O fun y c e=>by have e:y=h'.size:=e;have c:h2.size≤y:=c;omega).sl fun y c _ hw=>by have:=hW y hw;have c:h2.size≤y:=c;omega
 ·rw[Fo.to_of]
  exact(hL3.updM O fun y c=>.inl (.inr c)).less fun y c=>.inl (.inl c)
end Go.Proofs
namespace Go.Proofs
open Go Go.Lift
theorem RB{B:Nat}(hB:B≤1000000)(N:∀U,U<B→T9 U):T9 B:=by
 intro W h s l hs hcap bg hlB hn hW K hk;refine NV s ?_;unfold Em cl aK;have hlen:=hs.len;refine LoopP.ghost (fun(g:Nat×List (Option Addr)×List Bn×(Nat→Prop)) (t:SliceV×Int) h'=>t.2=(g.1:Int)∧g.1≤l.length∧OwnS pj 1 uM g.2.2.2 h' t.1 g.2.1∧(∀y,g.2.2.2 y→h.size≤y∧y<h'.size)∧DxL (fun y=>W y∨g.2.2.2 y) h' g.2.1 g.2.2.1∧Row g.2.2.1 (l.take g.1) (l.drop g.1) []∧Upd No h h') (fun g=>l.length-g.1) (0,[],[],fun _=>False)
  ⟨rfl,aS _,OwnS.nil nh,fun y d=>d.elim,⟨rfl,fun p hp=>(by cases hp)⟩,Row.nil _ _,Upd.refl _ _⟩ ?_
 rintro I ⟨i,ks,L,Mo⟩ ⟨so,ti⟩ P ⟨e1,hi,ho,u,V,f,Y⟩ hI;simp only at e1 hi ho u V f;subst e1;refine az (fun v=>?_) fun hge=>?_
 ·have v:i<l.length:=by have:(i:Int)<(s.len:Int):=v;omega
  have G:=hs.upd Y fun _ h=>h.elim
  have S:∀j (E:j<l.length),0<(ky l[j]).length:=fun j E=>(bg.at_ _ (aZ E)).2
  obtain⟨bi,hbi,hbie⟩:=NI (S i v);obtain⟨ai,hai,_,hvi⟩:=G.at (af v);refine LoopP.ghost (fun(k:Nat) (t:Int) h2=>t=(k:Int)∧i≤k∧k≤l.length∧h2=P∧∀j (E:j<l.length),i≤j→j<k→bt 0 l[j]=bt 0 l[i]) (fun k=>l.length-k) i ⟨rfl,al _,hi,rfl,fun j E P h2=>by omega⟩ ?_
  rintro I2 k t h2 ⟨rfl,hik,Q,rfl,D⟩ hI2;refine Join.intro (fun t h3=>h3=h2∧(t=true→∃hk:k<l.length,bt 0 l[k]=bt 0 l[i])∧(t=false→∀hk:k<l.length,bt 0 l[k]≠bt 0 l[i])) (fun R hR=>?_) ?_
  ·refine az (fun a=>?_) fun a=>hR _ _ ⟨rfl,fun h=>(by cases h),fun _ hk2=>absurd (show(k:Int)<(s.len:Int) by omega) a⟩
   have a:k<l.length:=by have:(k:Int)<(s.len:Int):=a;omega
   obtain⟨bk,hbk,hbke⟩:=NI (S k a);obtain⟨ak,hak,_,Z⟩:=G.at (af a);refine⟨⟨by omega,by omega⟩,ak,hak,_,Z 0 _ rfl,bk,by decide,hbk,⟨by simp only;omega,by simp only;omega⟩,ai,hai,_,hvi 0 _ rfl,bi,by decide,hbi,hR _ _ ⟨rfl,fun h=>⟨a,?_⟩,fun h _=>?_⟩⟩
   ·have:(bk.toNat:Int)=(bi.toNat:Int):=by simpa using h
    omega
   ·intro e
    have:¬(bk.toNat:Int)=(bi.toNat:Int):=by simpa using h
    omega
  rintro t h3 ⟨rfl,ht,X⟩;cases t with
  |true=>
   obtain⟨a,e⟩:=ht rfl;refine au.2 ?_;rw[dd a (by omega)];refine hI2 (k+1) _ _ ⟨rfl,by omega,a,rfl,fun j E P h2=>?_⟩ (by omega)
   rcases bW j k with h|h
   ·exact D j E P h
   ·have:j=k:=by omega
    subst this;exact e
  |false=>
   have X:=X rfl;have hik2:i<k:=by
    rcases bW i k with h|h
    ·exact h
    ·have:k=i:=by omega
     subst this;exact absurd rfl (X v)
   refine aj.2 ⟨⟨by omega,by omega⟩,⟨by simp only;omega,by simp only;omega⟩,?_⟩
   simp only[aU];have hsA:=Sl.sub G (l:=i) (hi:=k) (m:=s.cap) (c:=s.cap-i) hik Q (by omega);have T:(l.drop i).take (k-i)++l.drop k=l.drop i:=by
    conv=>rhs;rw[←aI (k-i) (l.drop i)]
    rw[List.drop_drop,show i+(k-i)=k by omega]
   have hDA:l.take i++(l.drop i).take (k-i)=l.take k:=by
    rw[show k=i+(k-i) by omega,List.take_add];congr 2;omega
   have z:∀q∈(l.drop i).take (k-i),bt 0 q=bt 0 l[i]:=fun q hq=>by
    obtain⟨j,E,e⟩:=List.getElem_of_mem hq;rw[aH,aV]at E;rw[←e,List.getElem_take,List.getElem_drop];exact D (i+j) (by omega) (by omega) (by omega)
   have hAc:∃r,(l.drop i).take (k-i)=l[i]::r:=by
    rw[dI v,show k-i=(k-i-1)+1 by omega,dL]
    exact⟨_,rfl⟩
   have o:((l.drop i).take (k-i)).Sublist l:=(List.take_sublist _ _).trans (rW _ _);have hBk:∀b U,l.drop k=b::U→bt 0 b≠bt 0 l[i]:=fun b U e=>by
    have a:k<l.length:=by
     rcases bW k l.length with h|h
     ·exact h
     ·rw[List.drop_eq_nil_of_le h]at e;cases e
    rw[dI a]at e;rw[←(eT.inj e).1];exact X a
   have hAl:((l.drop i).take (k-i)).length≤l.length:=o.length_le;generalize (l.drop i).take (k-i)=A at*;obtain⟨r,H⟩:=hAc;obtain⟨g,hg⟩:∃g,A.getLast? =some g:=by rw[H];exact⟨_,List.getLast?_eq_some_getLast (by simp)⟩
   have s1:=Y.size;refine Sg (W:=fun y=>W y∨Mo y) hB N (hsA.less fun _ h=>h.elim) (bg.sub o) (fun q hq=>hlB q (o.subset hq)) (by omega) (fun y d=>d.elim (fun d=>Nat.lt_of_lt_of_le (hW y d) s1) fun d=>(u y d).2) H hg (z g (fY hg)).symm fun h4 ka n kd hcn hhd hin hu4=>aW fun F b5 k5=>⟨_,mB b5,?_⟩
   have C:=hu4.tr k5;have z35:=C.size;have hLn:L.length≤256:=by
    rcases Ay (c:=0) f.up fun _ _=>aS _ with e|e
    ·rw[e];simp
    ·omega
   have hkl':=V.1;refine AppP.own (M:=fun y=>Mo y∨F.size≤y) (ys:= [ka]) ((ho.upd C fun _ _ h=>h).more fun y d=>.inl d) rfl rfl rfl rfl (by omega) (by simp only[aE];omega) (.inr (al _)) fun s6 h6 ho6 J=>?_
   have z6:=J.size;have x:=f;rw[←T]at x;have O:Beg (A++l.drop k) []:=by rw[T];exact bg.sub (rW _ _)
   have w:=x.more O (p:=l[i]) (by rw[H];exact aw ..) z hBk hcn hhd hin;rw[hDA]at w;refine hI (k,ks++ [ka],L++ [n],fun y=>(Mo y∨F.size≤y)∧y<h6.size) _ _ ⟨rfl,Q,ho6.within,fun y d=>⟨?_,d.2⟩,?_,w,?_⟩ (by simp only;omega)
   ·rcases d.1 with h|h
    ·exact(u y h).1
    ·omega
   ·have hl:∀b,(W b∨((Mo b∨F.size≤b)∧b<h6.size))→(W b∨Mo b)∨F.size≤b:=fun b hb=>by
     rcases hb with h|⟨h|h,_⟩
     ·exact .inl (.inl h)
     ·exact .inl (.inr h)
     ·exact .inr h
    have hm:∀b,(Mo b∨F.size≤b)→(W b∨((Mo b∨F.size≤b)∧b<h6.size))∨F.size≤b:=fun b hb=>by
     rcases hb with h|h
     ·exact .inl (.inr ⟨.inl h,by have:=(u b h).2;omega⟩)
     ·exact .inr h
    exact(((V.upd0 C).app (DxL.one (kd.upd0 k5))).less hl).updM J hm
   ·exact(Y.tr C).trans J fun y d=>.inr (by
     rcases d with h|h
     ·exact(u y h).1
     ·omega)
 ·obtain rfl:i=l.length:=by have:¬(i:Int)<(s.len:Int):=hge;omega
  rw[bS,List.drop_length]at f;exact hk P _ ks L (ho.more fun y d=>(u y d).1) (V.less fun y d=>.inl (.inl d)) f Y
theorem W1(B:Nat):B≤1000000→T9 B:=by
 induction B using Nat.strongRecOn with
 |_ B ih=>exact fun b=>RB b fun a h=>ih a h (by omega)
theorem Yz{h:ae}{s:SliceV}{l:List Pr}(N:Sl eC 2 No h s l)(j:s.len≤s.cap)(P:cf l)(hn:l.length≤60000)(hB:∀p∈l,(ky p).length≤1000000){K:Option Addr→ae→Prop}
  (hk:∀h' b w F,DxN No h' b ⟨#[]⟩ w F→fV F→wZ w F=Td l→Upd No h h'→K (some ⟨b,0,none⟩) h'):HC PG IM [.slice s.a s.len s.cap] [.c .ptr] K h:=by
 refine XN s ?_;unfold Ql cl aK db aaF;have n:=N.len;refine aW fun f b1 k1=>?_
 have z1:=bD b1;have u:=N.upd k1 fun _ h=>h.elim
 refine Join.intro (fun(t:SliceV) h2=>∃(w:Option ByteArray) (l':List Pr),h2[h.size]? =some (.cells #[.string ⟨#[]⟩,.bool w.isSome,.string (w.getD ⟨#[]⟩),.slice none 0 0] qg (0,0))∧Sl eC 2 No h2 t l'∧t.len≤t.cap∧Beg l' []∧l'.length≤l.length∧(∀p∈l',p∈l)∧(∀k v,((k= []∧w=some v)∨VU l' [] k v)↔∃p∈l,p.1.data.toList=k∧p.2=v)∧Upd No h h2) (fun R U=>?_) ?_
 ·refine Join.plain ?_
  rcases l with _|⟨p,r⟩
  ·refine az (fun hgt=>?_) fun _=>aj.2 (U _ _ ⟨none,[],b1,u,j,⟨gF,fun p Z=>(by cases Z)⟩,al _,fun _ h=>h,fun k v=>⟨?_,?_⟩,k1⟩)
   ·simp only[aG]at n;omega
   ·rintro(⟨_,h⟩|⟨q,d,_⟩)
    ·cases h
    ·cases d
   ·rintro⟨q,d,_⟩;cases d
  ·simp only[ao]at n
   obtain⟨a,ha,_,hv⟩:=u.at (i:=0) (x:=p) rfl;refine az (fun _=>⟨⟨by decide,by omega⟩,a,ha,_,hv 0 _ rfl,?_⟩) fun Y=>absurd (show(s.len:Int)>0 by omega) Y
   have z:=aJ.1 P;have g:∀q∈r,0<(ky q).length:=fun q d=>by
    have f:=uN.1 (z.1 q d);refine fI.2 fun V=>?_
    change Op.bytesLess (ky p) (ky q)=true at f;rw[V,Je]at f;cases f
   rw[ey];by_cases I:p.1=⟨#[]⟩
   ·have ek:ky p= []:=by unfold ky;rw[I]
    rw[decide_eq_true I];refine au.2 ⟨⟨by decide,by omega⟩,a,ha,_,hv 1 _ rfl,_,rfl,?_⟩
    refine qN (i:=1) b1 (show 1<4 by decide) rfl fun h2 b2 H=>⟨_,rfl,?_⟩
    refine qN (i:=2) b2 (show 2<4 by decide) rfl fun h3 b3 G=>⟨⟨by decide,by omega⟩,U _ _ ⟨some p.2,r,b3,?_,by simp only;omega,⟨z.2,fun q d=>⟨rfl,g q d⟩⟩,by simp,fun q d=>aB _ d,fun k v=>?_,(k1.own H (al _)).own G (al _)⟩⟩
    ·have S:Upd (fun y=>y=h.size) f h3:=H.tr G
     have:=Sl.sub ((((N.less (W':=fun y=>y=h.size) fun y o=>.inr (by omega)).upd k1 fun _ h=>h.elim).upd S fun y o=>.inl o)) (l:=1) (hi:=(p::r).length) (m:=s.cap) (c:=s.cap-1) (by simp) (al _) (by simp only[ao];omega)
     rw[tB,rO,List.take_of_length_le (by simp)]at this;have V:(p::r).length-1=s.len-1:=by simp only[ao];omega
     rw[V]at this;exact this.less fun _ h=>h.elim
    ·constructor
     ·rintro(⟨rfl,h⟩|⟨q,d,f,h2⟩)
      ·exact⟨p,aw ..,ek,bR.inj h⟩
      ·exact⟨q,aB _ d,f,h2⟩
     ·rintro⟨q,d,f,h2⟩
      rcases aA.1 d with rfl|d
      ·exact .inl ⟨by rw[←f];exact ek,by rw[h2]⟩
      ·exact .inr ⟨q,d,f,h2⟩
   ·rw[decide_eq_false I]
    have M:0<(ky p).length:=fI.2 fun e=>I (qt.1 e)
    refine aj.2 (U _ _ ⟨none,p::r,b1,u,j,⟨P,fun q d=>⟨rfl,?_⟩⟩,al _,fun _ h=>h,fun k v=>?_,k1⟩)
    ·rcases aA.1 d with rfl|d
     ·exact M
     ·exact g q d
    ·constructor
     ·rintro(⟨_,h⟩|⟨q,d,f,h2⟩)
      ·cases h
      ·exact⟨q,d,f,h2⟩
     ·rintro⟨q,d,f,h2⟩
      exact .inr ⟨q,d,f,h2⟩
 rintro t h2 ⟨w,l',b2,Q,T,O,hll,A,E,H⟩;have z2:=bD b2;refine W1 1000000 (al _) (W:=fun y=>y=h.size) Q T O (fun p Z=>hB p (A p Z)) (by omega) (fun y o=>by omega) fun h3 s3 ks L C J D G=>⟨_,rfl,?_⟩
 obtain⟨B,X⟩:=D.done;refine qN (i:=3) (G.get0 b2) (show 3<4 by decide) rfl fun h4 b4 u4=>?_
 refine hk h4 h.size w (.ofL L) ⟨_,s3,none,ks,b4,rfl,?_,⟨C.cap,id⟩,DC.2 ?_⟩ B (M0 B P fun k v=>?_) ((H.tr G).own u4 (al _))
 ·exact(C.upd u4 fun y o e=>by have e:y=h.size:=e;have o:h2.size≤y:=o;omega).sl fun _ _ _ h=>h
 ·rw[Fo.to_of]
  exact(J.updM u4 fun y o=>.inl o).less fun _ h=>h.elim
 ·rw[jR]
  unfold tW;rw[X,E]
def aaw(n:Bn):Prop:=∀{h:ae} {b:Nat} {sl:ByteArray},DxN No h b sl n.2.1 n.2.2→sl.data.toList=n.1→(jN n).length≤140737488355328→∀{K:SliceV→ae→Prop},(∀s' h',OwnS qI 1 cM (fun y=>h.size≤y) h' s' (jN n)→Upd No h h'→K s' h')→
 HC PG wg [.pointer (some ⟨b,0,none⟩)] [.c .slice] K h
theorem TS{lab:List UInt8}{w:Option ByteArray}{c:Fo}(hl:lab.length≤10000)(hw:∀v,w=some v→v.size≤10000)(Y:c.toL.length≤256)(ih:∀m∈c.toL,aaw m):aaw (lab,w,c):=by
 intro h b sl r u hx K hk;simp only at r u;have F:(⟨lab.toArray⟩:ByteArray)=sl:=by rw[←u]
 have hsz:sl.size=lab.length:=by rw[←u];simp
 obtain⟨val,s,ow,ks,hb,hv,hs,hcap,hF⟩:=r;have hL:=DC.1 hF;have p:=hs.len;rw[hL.1]at p;have ex:jN (lab,w,c)=pH sl++wW w++ol c.toL.length 2++c.toL.flatMap jN:=by
  show uA lab w c.toL.length++qi c=_
  rw[zq];unfold uA;rw[F];simp only[ar]
 rw[ex]at hx hk;simp only[ac]at hx;have g:∀{h':ae} {i:Nat},Upd No h h'→aP h' (adr ⟨b,0,none⟩ i)=(abY sl w.isSome val s ow)[i]?:=fun k=>vc (k.get0 hb) _
 have r0:=Upd.refl No h;refine P6 (some ⟨b,0,none⟩) ?_;unfold GA bI cl aK cD bU;refine⟨_,rfl,sl,g (i:=0) r0,Dd (by omega) fun s1 h1 H k1=>?_⟩
 refine Join.intro (fun t h2=>OwnS qI 1 cM (fun y=>h.size≤y) h2 t (pH sl++wW w)∧Upd No h h2) (fun R M=>?_) ?_
 ·refine⟨_,rfl,w.isSome,g (i:=1) k1,?_⟩
  have s1':=k1.size;cases w with
  |none=>
   refine aj.2 (aW fun h2 b2 o=>⟨_,mB b2,?_⟩)
   have s2:=o.size;refine AppP.own (ys:= [(0:UInt8)]) (H.upd o fun _ _ h=>h) rfl rfl rfl rfl (by omega) (by simp only[aE];simp only[wW,aE]at hx;omega) (by show h.size≤h2.size;omega) fun s3 B f x=>?_
   exact M _ _ ⟨f,(k1.tr o).trans x fun y j=>.inr j⟩
  |some v=>
   have hvs:=hw v rfl;have z:val=v:=hv;subst z;refine au.2 ⟨_,rfl,_,g (i:=2) k1,aW fun h2 b2 o=>⟨g (i:=2) (k1.tr o),_,mB b2,?_⟩⟩
   have s2:=o.size;have O:(wW (some val)).length=1+(pH val).length:=by unfold wW;simp;omega
   rw[O]at hx;refine AppP.own (ys:= [(1:UInt8)]) (H.upd o fun _ _ h=>h) rfl rfl rfl rfl (by omega) (by simp only[aE];omega) (by show h.size≤h2.size;omega) fun s3 B f x=>?_
   have D:Upd No h B:=(k1.tr o).trans x fun y j=>.inr j
   refine⟨g (i:=2) D,Dd (by omega) fun s4 h4 n q=>?_⟩
   have G:=D.size;have X:=q.size;refine Ab (f.upd q fun _ _ h=>h) (n.sl (W:=No) fun _ _ _ h=>h) (fun y j=>by show h.size≤y;omega) (by rw[ac,aE];omega) fun s5 h5 C A=>?_
   refine M _ _ ⟨?_,(D.tr q).trans A fun y j=>.inr j⟩
   have e:pH sl++wW (some val)=pH sl++ [1]++pH val:=by unfold wW;simp
   rw[e];exact C
 rintro t2 h2 ⟨ho2,Q⟩;refine Join.intro (fun t B=>OwnS qI 1 cM (fun y=>h.size≤y) B t (pH sl++wW w++ol c.toL.length 2)∧Upd No h B) (fun R M=>?_) ?_
 ·refine⟨_,rfl,s,g (i:=3) Q,?_⟩
  rw[p];refine Hg (by omega) fun s3 B f V=>?_
  have s2':=Q.size;have G:=V.size;refine Ab (ho2.upd V fun _ _ h=>h) (f.sl (W:=No) fun _ _ _ h=>h) (fun y j=>by show h.size≤y;omega) (by rw[ac];omega) fun s4 h4 n P=>?_
  exact M _ _ ⟨n,(Q.tr V).trans P fun y j=>.inr j⟩
 rintro t3 B ⟨f,D⟩;refine⟨_,rfl,s,g (i:=3) D,?_⟩;refine LoopP.ghost (fun(i:Nat) (t:SliceV×Int) h'=>t.2=(i:Int)∧i≤c.toL.length∧OwnS qI 1 cM (fun y=>h.size≤y) h' t.1 (pH sl++wW w++ol c.toL.length 2++(c.toL.take i).flatMap jN)∧Upd No h h') (fun i=>c.toL.length-i) 0 ⟨rfl,aS _,by simpa using f,D⟩ ?_
 rintro I i ⟨so,ti⟩ h' ⟨e1,hi,N,E⟩ hI;simp only at e1 N;subst e1;refine az (fun d=>?_) fun U=>?_
 ·have d:i<c.toL.length:=by have:(i:Int)<(s.len:Int):=d;omega
  refine Join.plain ?_;obtain⟨kb,ksl,T,Z,S⟩:=(hL.upd0 E).at d;obtain⟨a,ha,_,z⟩:=(hs.upd E fun _ h=>h.elim).at0 T
  have J:((c.toL.take i).flatMap jN).length+(jN c.toL[i]).length≤(c.toL.flatMap jN).length:=by
   have e:c.toL=c.toL.take i++c.toL[i]::c.toL.drop (i+1):=by rw[List.getElem_cons_drop,aI]
   have:=congrArg (fun L=>(List.flatMap jN L).length) e
   simp only[bO,aO,ac]at this;omega
  refine⟨⟨by simp only;omega,by simp only;omega⟩,a,ha,_,z,ih _ (aZ d) S Z (by omega) fun s4 h4 n q=>?_⟩
  have G:=E.size;have X:=q.size;refine Ab (N.upd q fun _ _ h=>h) (n.sl (W:=No) fun _ _ _ h=>h) (fun y j=>by show h.size≤y;omega) (by simp only[ac];omega) fun s5 h5 C A=>?_
  simp only;rw[dd d (by omega)];refine hI (i+1) _ _ ⟨rfl,d,?_,(E.tr q).trans A fun y j=>.inr j⟩ (by omega)
  rw[aX d,bO,aO,List.flatMap_nil,aL,←ar];exact C
 ·obtain rfl:i=c.toL.length:=by have:¬(i:Int)<(s.len:Int):=U;omega
  rw[bS]at N;exact hk _ _ N E
theorem IU:∀{F:Fo},N5 F→∀n∈F.toL,aaw n
 | .nil,_,n,a=>by simp[Fo.toL]at a
 | .cons lab w kids rest,h,n,a=>by
  rcases aA.1 a with rfl|a
  ·exact TS h.1 h.2.1 h.2.2.1 (IU h.2.2.2.1)
  ·exact IU h.2.2.2.2 n a
end Go.Proofs
