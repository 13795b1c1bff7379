/- A part of the proof that the named laws of this program answer true, whatever the input. -/
import Derived.Test.YtncppacbfagpgaaGreatDoorPart7
import Derived.Test.YtncppacbfagpgaaGreatDoorPart3
import Derived.Test.YtncppacbfagpgaaGreatDoorPart6
import Derived.Test.YtncppacbfagpgaaGreatDoorPart2
import Derived.Test.YtncppacbfagpgaaGreatDoorPart5
open Int renaming tdiv→kP,tdiv_eq_ediv_of_nonneg→eu,toNat_natCast→aM
open List renaming getElem?_toArray→fK,length_map→cg,length_singleton→aw,filter_append→fa,filter_cons→dV,filter_nil→oQ,append_nil→aE,length_take→aD,take_succ_eq_append_getElem→aX,getElem?_eq_getElem→ae,take_length→bQ,getElem_mem→bN,replicate→dJ,length_append→ac,append_assoc→ao,zip_cons_cons→eY,mem_cons→az,mem_cons_self→au,mem_cons_of_mem→aH,take_succ_cons→dW,cons→eg,mem_of_getLast?→fh,filter_eq_self→gz,pairwise_cons→aS,drop_sublist→nf,take_append_drop→aA,mem_map→gI,length_drop→aV,length_nil→aI,nil_append→cd,drop_eq_getElem_cons→dN,length_cons→ap,length_pos_iff→gw,flatMap_append→bC,flatMap_cons→aN
open List.Pairwise renaming nil→gk
open Nat renaming le_refl→ag,zero_add→aR,not_lt_zero→gp,zero_le→aK,lt_or_ge→cf,shiftRight_eq_div_pow→cj,shiftRight_le→gi
open Option renaming some→bF
namespace Go.Proofs
open Go Go.Lift
def HS(q:List Pr):Int:=if q.length=1 then 1 else if 2≤q.length then 2 else 0
def dF(bu:Bool)(s:SliceV)(q:Nat→List Pr)(kk:Nat→Option Addr)(i:Nat):Value:=
 if i=0 then .bool bu else if i=1 then sv s else if i<34 then .int .i64 (HS (q (i-2)))else if i<98 then(if i%2=0 then .string (Er (fM (q ((i-34)/2)))).1 else .string (Er (fM (q ((i-34)/2)))).2)else .pointer (kk (i-98))
def dC(f:Nat→Value):List Value:=(List.range 130).map f
theorem Ba{f:Nat→Value}{i:Nat}(h:i<130):(dC f).toArray[i]? =some (f i):=by
 unfold dC;simp[h]
theorem Jz(f:Nat→Value):(dC f).toArray.size=130:=by simp[dC]
theorem Pl{f:Nat→Value}{i:Nat}{v:Value}:(dC f).toArray.setIfInBounds i v=(dC fun j=>if j=i then v else f j).toArray:=by
 unfold dC;apply Array.ext_getElem?;intro j;rw[Array.getElem?_setIfInBounds];simp only[fK,List.getElem?_map,List.size_toArray,cg,List.length_range];by_cases e:i=j
 ·subst e
  by_cases h:i<130
  ·simp[h]
  ·simp[h]
 ·rw[if_neg e]
  by_cases h:j<130
  ·rw[List.getElem?_range h];simp only[Option.map_some];rw[if_neg fun e':j=i=>e e'.symm]
  ·rw[List.getElem?_eq_none (by rw[List.length_range];omega)];rfl
theorem Ey{f g:Nat→Value}(h:∀i,i<130→f i=g i):(dC f).toArray=(dC g).toArray:=by
 unfold dC;rw[List.map_congr_left fun i hi=>h i (List.mem_range.1 hi)]
def DTrie(W:Nat→Prop)(x:Hs)(h:ad):Nat→Nat→List Pr→Prop
 |0,b,l=>¬W b∧∃s,h[b]? =some (.cells (dC (dF true s (fun _=> []) fun _=>none)).toArray gl (0,0))∧Sl dD 2 W h s l
 |m+1,b,l=>¬W b∧∃kk,h[b]? =some (.cells (dC (dF false ⟨none,0,0⟩ (fun c=>part x (12-m) c l) kk)).toArray gl (0,0))∧∀c,c<32→2≤(part x (12-m) c l).length→∃kb,kk c=some ⟨kb,0,none⟩∧DTrie W x h m kb (part x (12-m) c l)
theorem DTrie.upd{W M:Nat→Prop}{x:Hs}{h h':ad}(k:Upd M h h')(hm:∀b,M b→W b∨h.size≤b):∀{m b:Nat} {l:List Pr},DTrie W x h m b l→DTrie W x h' m b l
 |0,b,_,⟨nw,s,h1,h2⟩=>⟨nw,s,k.get h1 fun hb=>(hm b hb).elim nw fun h=>by have:=bw h1;omega,h2.upd k hm⟩
 |_+1,b,_,⟨nw,kk,h1,h2⟩=>⟨nw,kk,k.get h1 fun hb=>(hm b hb).elim nw fun h=>by have:=bw h1;omega,fun c hc hp=>let⟨kb,h3,h4⟩:=h2 c hc hp;⟨kb,h3,DTrie.upd k hm h4⟩⟩
theorem DTrie.less{W W':Nat→Prop}{x:Hs}{h:ad}(hm:∀b,W' b→W b):∀{m b:Nat} {l:List Pr},DTrie W x h m b l→DTrie W' x h m b l
 |0,b,_,⟨nw,s,h1,h2⟩=>⟨fun hb=>nw (hm b hb),s,h1,h2.less fun b hb=>.inl (hm b hb)⟩
 |_+1,b,_,⟨nw,kk,h1,h2⟩=>⟨fun hb=>nw (hm b hb),kk,h1,fun c hc hp=>let⟨kb,h3,h4⟩:=h2 c hc hp;⟨kb,h3,DTrie.less hm h4⟩⟩
abbrev PD(x:Hs)(p:Pr):List Value:= [.int .u64 (ga x p.1)]
theorem Ml(x:Hs)(p:Pr):(PD x p).length=1∧0<1:=⟨rfl,by omega⟩
def TwoS(x:Hs)(n0 n1:Nat)(h:ad)(so ss:SliceV)(L L':List Pr):Prop:=
 ∃A B:Nat→Prop,OwnS dD 2 bG A h so L∧OwnS (PD x) 1 mH B h ss L'∧(∀b,A b→n0≤b∧b<n1∧¬B b)∧∀b,B b→n0≤b∧b<n1
theorem TwoS.upd0{x:Hs}{n0 n1:Nat}{h h':ad}{so ss:SliceV}{L L':List Pr}(t:TwoS x n0 n1 h so ss L L')(k:Upd No h h'):TwoS x n0 n1 h' so ss L L':=by
 obtain⟨A,B,h1,h2,h3,h4⟩:=t;exact⟨A,B,h1.upd k fun _ _ h=>h,h2.upd k fun _ _ h=>h,h3,h4⟩
theorem Pw{x:Hs}{n0 n1:Nat}{h:ad}{so ss:SliceV}{L L':List Pr}{p:Pr}(t:TwoS x n0 n1 h so ss L L')(hn:n0≤n1)(hn1:n1≤h.size)(hl:L.length≤1000000){xs:List Value}(hx:xs=dD p){K:SliceV→ad→Prop}
  (hk:∀s' h',TwoS x n0 h'.size h' s' ss (L++ [p]) L'→Upd (fun b=>(n0≤b∧b<n1)∨h.size≤b) h h'→K s' h'):AppP (some [.string (⟨#[]⟩:ByteArray),.string (⟨#[]⟩:ByteArray)]) 2 32 bG so.a so.len so.cap 1 xs h K:=by
 subst hx;obtain⟨A,B,h1,h2,h3,h4⟩:=t;refine AppP.own (ys:= [p]) (h1.more (M':=fun b=>A b∨h.size≤b) fun _ h=>.inl h) rfl rfl rfl rfl (by omega) (by simp only[aw];omega) (.inr (ag _)) fun s' h' ho hu=>?_
 have s:=hu.size;refine hk s' h' ⟨_,B,ho.within,h2.upd hu fun b hb hm=>hm.elim (fun hm=>(h3 b hm).2.2 hb) fun hm=>by have:=(h4 b hb).2;omega,fun b hb=>⟨?_,hb.2,fun hB=>?_⟩,fun b hb=>⟨(h4 b hb).1,by have:=(h4 b hb).2;omega⟩⟩ (hu.mono fun b hb=>hb.elim (fun hb=>.inl (.inl ⟨(h3 b hb).1,(h3 b hb).2.1⟩)) .inr)
 ·rcases hb.1 with hb|hb
  ·exact(h3 b hb).1
  ·omega
 ·rcases hb.1 with hb|hb
  ·exact(h3 b hb).2.2 hB
  ·have:=(h4 b hB).2;omega
theorem appB{x:Hs}{n0 n1:Nat}{h:ad}{so ss:SliceV}{L L':List Pr}{p:Pr}(t:TwoS x n0 n1 h so ss L L')(hn:n0≤n1)(hn1:n1≤h.size)(hl:L'.length≤1000000){xs:List Value}(hx:xs=PD x p){K:SliceV→ad→Prop}
  (hk:∀s' h',TwoS x n0 h'.size h' so s' L (L'++ [p])→Upd (fun b=>(n0≤b∧b<n1)∨h.size≤b) h h'→K s' h'):AppP (some [.int .u64 0]) 1 8 mH ss.a ss.len ss.cap 1 xs h K:=by
 subst hx;obtain⟨A,B,h1,h2,h3,h4⟩:=t;refine AppP.own (ys:= [p]) (h2.more (M':=fun b=>B b∨h.size≤b) fun _ h=>.inl h) rfl rfl rfl rfl (by omega) (by simp only[aw];omega) (.inr (ag _)) fun s' h' ho hu=>?_
 have s:=hu.size;refine hk s' h' ⟨A,_,h1.upd hu fun b hb hm=>hm.elim (fun hm=>(h3 b hb).2.2 hm) fun hm=>by have:=(h3 b hb).2.1;omega,ho.within,fun b hb=>⟨(h3 b hb).1,by have:=(h3 b hb).2.1;omega,fun hB=>?_⟩,fun b hb=>⟨?_,hb.2⟩⟩ (hu.mono fun b hb=>hb.elim (fun hb=>.inl (.inl (h4 b hb))) .inr)
 ·rcases hB.1 with hB|hB
  ·exact(h3 b hb).2.2 hB
  ·have:=(h3 b hb).2.1;omega
 ·rcases hb.1 with hb|hb
  ·exact(h4 b hb).1
  ·omega
theorem Kl{x:Hs}{lev c:Nat}{l:List Pr}{p:Pr}:part x lev c (l++ [p])=if ck x lev p.1=c then part x lev c l++ [p]else part x lev c l:=by
 unfold part;rw[fa,dV,oQ];by_cases h:ck x lev p.1=c
 ·rw[if_pos h,if_pos (decide_eq_true h)]
 ·rw[if_neg h,if_neg (by simpa using h),aE]
abbrev vh(x:Hs)(lev:Nat)(l:List Pr)(n:Nat)(c:Nat):List Pr:=if c<n then part x lev c l else[]
theorem D1{x:Hs}{lev n c:Nat}{l:List Pr}(h:c≠n):vh x lev l (n+1) c=vh x lev l n c:=by
 unfold vh;by_cases hc:c<n
 ·rw[if_pos hc,if_pos (by omega)]
 ·rw[if_neg hc,if_neg (by omega)]
theorem D2{x:Hs}{lev n:Nat}{l:List Pr}:vh x lev l (n+1) n=part x lev n l:=if_pos (by omega)
theorem D0{x:Hs}{lev n:Nat}{l:List Pr}:vh x lev l n n= []:=if_neg (by omega)
structure DOf(W:Nat→Prop)(x:Hs)(lev m:Nat)(h0 h:ad)(l:List Pr)(n:Nat)(kk:Nat→Option Addr):Prop where
 blk:h[h0.size]? =some (.cells (dC (dF false ⟨none,0,0⟩ (vh x lev l n) kk)).toArray gl (0,0))
 upd:Upd No h0 h
 kid:∀c,c<n→2≤(part x lev c l).length→∃kb,kk c=some ⟨kb,0,none⟩∧DTrie (fun y=>W y∨y=h0.size) x h m kb (part x lev c l)
theorem P5{bu:Bool}{s:SliceV}{q q':Nat→List Pr}{kk kk':Nat→Option Addr}{i:Nat}(h:i<2):dF bu s q kk i=dF bu s q' kk' i:=by
 unfold dF;by_cases h0:i=0
 ·rw[if_pos h0,if_pos h0]
 ·rw[if_neg h0,if_neg h0,if_pos (by omega),if_pos (by omega)]
section
variable {bu:Bool} {s:SliceV} {q q':Nat→List Pr} {kk kk':Nat→Option Addr} {i:Nat}
theorem Jy(h:2≤i)(h':i<34):dF bu s q kk i=.int .i64 (HS (q (i-2))):=by
 unfold dF;rw[if_neg (by omega),if_neg (by omega),if_pos h']
theorem Gc(h:34≤i)(h':i<98)(e:i%2=0):dF bu s q kk i=.string (Er (fM (q ((i-34)/2)))).1:=by
 unfold dF;rw[if_neg (by omega),if_neg (by omega),if_neg (by omega),if_pos h',if_pos e]
theorem Ga(h:34≤i)(h':i<98)(e:¬i%2=0):dF bu s q kk i=.string (Er (fM (q ((i-34)/2)))).2:=by
 unfold dF;rw[if_neg (by omega),if_neg (by omega),if_neg (by omega),if_pos h',if_neg e]
theorem Gb(h:98≤i):dF bu s q kk i=.pointer (kk (i-98)):=by
 unfold dF;rw[if_neg (by omega),if_neg (by omega),if_neg (by omega),if_neg (by omega)]
theorem Jx{c:Nat}(hc:c<32)(hq:∀j,j≠c→q' j=q j)(hk:∀j,j≠c→kk' j=kk j)(i:Nat):
  dF bu s q' kk' i=if i=2+c then .int .i64 (HS (q' c))else if i=34+c*2 then .string (Er (fM (q' c))).1 else if i=34+c*2+1 then .string (Er (fM (q' c))).2 else if i=98+c then .pointer (kk' c)else dF bu s q kk i:=by
 rcases(show i<2∨(2≤i∧i<34)∨(34≤i∧i<98)∨98≤i by omega)with h|h|h|h
 ·rw[if_neg (by omega),if_neg (by omega),if_neg (by omega),if_neg (by omega)];exact P5 h
 ·by_cases e:i=2+c
  ·rw[if_pos e,Jy h.1 h.2,show i-2=c by omega]
  ·rw[if_neg e,if_neg (by omega),if_neg (by omega),if_neg (by omega),Jy h.1 h.2,Jy h.1 h.2,hq _ (by omega)]
 ·rw[if_neg (show ¬i=2+c by omega)]
  by_cases e:(i-34)/2=c
  ·by_cases e2:i%2=0
   ·rw[if_pos (by omega),Gc h.1 h.2 e2,e]
   ·rw[if_neg (by omega),if_pos (by omega),Ga h.1 h.2 e2,e]
  ·rw[if_neg (by omega),if_neg (by omega),if_neg (by omega)]
   by_cases e2:i%2=0
   ·rw[Gc h.1 h.2 e2,Gc h.1 h.2 e2,hq _ e]
   ·rw[Ga h.1 h.2 e2,Ga h.1 h.2 e2,hq _ e]
 ·rw[if_neg (by omega),if_neg (by omega),if_neg (by omega)]
  by_cases e:i=98+c
  ·rw[if_pos e,Gb h,show i-98=c by omega]
  ·rw[if_neg e,Gb h,Gb h,hk _ (by omega)]
end
theorem MC{h:ad}{b i:Nat}{f:Nat→Value}{t:TypeId}{v:Value}{k:ad→Prop}(hb:h[b]? =some (.cells (dC f).toArray t (0,0))) (hi:i<130) (hk:∀h',h'[b]? =some (.cells (dC fun j=>if j=i then v else f j).toArray t (0,0))→Upd (· =b) h h'→k h'):
  Wr h ⟨b,i,none⟩∧At (hset h ⟨b,i,none⟩ v) k:=
 ⟨gB hb (by rw[Jz];exact hi),rU hb fun h' hb' hu=>hk h' (Pl▸hb') hu⟩
theorem P3{h:ad}{b i:Nat}{f:Nat→Value}{t:TypeId}{v w:Value}{k:ad→Prop}(hb:h[b]? =some (.cells (dC f).toArray t (0,0))) (hi:i+1<130)
  (hk:∀h',h'[b]? =some (.cells (dC fun j=>if j=i+1 then w else if j=i then v else f j).toArray t (0,0))→Upd (· =b) h h'→k h'):uv h (some ⟨b,i,none⟩) 0 [v,w]∧At (iM h ⟨b,i,none⟩ 0 [v,w]) k:=by
 refine⟨.inr ⟨_,rfl,fun j hj=>by rw[cc];exact gB hb (by rw[Jz];simp at hj;omega)⟩,bM ?_⟩
 simp only[iM,cc,Nat.add_zero,aR];exact(MC (k:=fun h1=>k (hset h1 ⟨b,i+1,none⟩ w)) hb (by omega) fun h1 hb1 hu1=>(MC (k:=k) hb1 hi fun h2 hb2 hu2=>hk h2 hb2 (hu1.tr hu2)).2).2
set_option maxRecDepth 4000 in
theorem O0{x:Hs}:∀(m:Nat),m≤13→∀{W:Nat→Prop} {h:ad} {s sh:SliceV} {l:List Pr},Sl dD 2 W h s l→(∀y,W y→y<h.size)→Sl (PD x) 1 No h sh l→l.length≤60000→∀{K:Option Addr→ad→Prop},(∀h' b,DTrie W x h' m b l→Upd No h h'→K (some ⟨b,0,none⟩) h')→
  HC PG wS [.slice s.a s.len s.cap,.slice sh.a sh.len sh.cap,.int .i64 ((13-m:Nat):Int)] [.c .ptr] K h:=by
 intro m;induction m with
 |zero=>
  intro _ W h s sh l hs hW hsh hn K hk;refine Gx s sh ((13-0:Nat):Int) ?_;unfold BM bR cn nv jm bV aL aF d6 im JS lC oC;refine aB.2 (aQ fun h1 b1 k1=>?_)
  refine hk h1 h.size ⟨fun hy=>by have:=hW _ hy;omega,s,?_,hs.upd k1 fun _ h=>h.elim⟩ k1
  rw[b1];exact congrArg some (congrArg (fun c=>Obj.cells c gl (0,0)) (by kernel_rfl))
 |succ m ih=>
  intro hm W h s sh l hs hW hsh hn K hk;have nwh:¬W h.size:=fun hy=>by have:=hW _ hy;omega
  refine Gx s sh ((13-(m+1):Nat):Int) ?_;unfold BM bR cn nv jm bV aL aF d6 im JS lC oC;have e13:(((13-(m+1):Nat):Int)==(13:Int))=false:=by rw[beq_eq_false_iff_ne];omega
  rw[e13];refine aj.2 (aQ fun h1 b1 k1=>?_)
  have b1':h1[h.size]? =some (.cells (dC (dF false ⟨none,0,0⟩ (vh x (12-m) l 0) fun _=>none)).toArray gl (0,0)):=by
   have:vh x (12-m) l 0=fun _=> []:=by funext c;exact if_neg (by omega)
   rw[b1,this];exact congrArg some (congrArg (fun c=>Obj.cells c gl (0,0)) (by kernel_rfl))
  clear b1;have elev:(13-(m+1):Nat)=12-m:=by omega
  rw[elev];refine LoopP.ghost (fun(g:Nat×(Nat→Option Addr)) (t:Int) h'=>t=(g.1:Int)∧g.1≤32∧DOf W x (12-m) m h h' l g.1 g.2) (fun g=>32-g.1) (0,fun _=>none) ⟨rfl,by omega,b1',k1,fun c hc=>absurd hc (gp _)⟩ ?_
  rintro I ⟨c,kk⟩ t hc ⟨rfl,hc32,hD⟩ hI;simp only at hc32 hD;have s1:=hD.upd.size;have zc:=bw hD.blk;refine av (fun hlt=>?_) fun hge=>?_
  ·have hlt:c<32:=by have:(c:Int)<32:=hlt;omega
   refine Join.intro (fun(_:Unit) h'=>∃kk',DOf W x (12-m) m h h' l (c+1) kk') (fun R hR=>?_) ?_
   ·
    refine LoopP.ghost (fun(i:Nat) (t:SliceV×SliceV×Int) h'=>t.2.2=(i:Int)∧i≤l.length∧TwoS x hc.size h'.size h' t.1 t.2.1 (part x (12-m) c (l.take i)) (part x (12-m) c (l.take i))∧Upd No hc h') (fun i=>l.length-i) 0 ⟨rfl,aK _,⟨No,No,OwnS.nil fq,OwnS.nil (Ml x),fun _ h=>h.elim,fun _ h=>h.elim⟩,Upd.refl _ _⟩ ?_
    rintro I2 i ⟨so,ss,ti⟩ hi ⟨e1,hil,hT,hu⟩ hI2;simp only at e1 hT;subst e1;have hlen:=hs.len;have hlen2:=hsh.len;have s2:=hu.size;have hsi:=(hs.upd hD.upd fun _ h=>h.elim).upd hu fun _ h=>h.elim
    have hshi:=(hsh.upd hD.upd fun _ h=>h.elim).upd hu fun _ h=>h.elim
    refine av (fun hlt2=>?_) fun hge2=>?_
    ·have hlt2:i<l.length:=by have:(i:Int)<(s.len:Int):=hlt2;omega
     have hpl:(part x (12-m) c (l.take i)).length≤60000:=by
      have:=nZ (x:=x) (lev:=12-m) (c:=c) (l:=l.take i);rw[aD]at this;omega
     have hps:part x (12-m) c (l.take (i+1))=if ck x (12-m) l[i].1=c then part x (12-m) c (l.take i)++ [l[i]]else part x (12-m) c (l.take i):=by rw[aX hlt2,Kl]
     refine Join.intro (fun(t:SliceV×SliceV) h'=>TwoS x hc.size h'.size h' t.1 t.2 (part x (12-m) c (l.take (i+1))) (part x (12-m) c (l.take (i+1)))∧Upd No hc h') (fun R2 hR2=>?_) ?_
     ·obtain⟨a,ha,_,hv⟩:=hsi.at (ae hlt2)
      refine⟨⟨by simp only;omega,by simp only;omega⟩,a,ha,_,hv 0 _ rfl,_,hv 1 _ rfl,py (p:=l[i]) fun h3 b3 k3=>?_⟩
      obtain⟨a',ha',_,hv'⟩:=(hshi.upd k3 fun _ h=>h.elim).at0 (ae hlt2)
      refine⟨⟨by simp only;omega,by simp only;omega⟩,a',ha',_,hv',PW (lev:=12-m) (by omega) ?_⟩
      have hT3:=hT.upd0 k3;have s3:=k3.size;refine CondP.intro (fun e=>?_) fun e=>?_
      ·have e:ck x (12-m) l[i].1=c:=by
        have:((ck x (12-m) l[i].1:Nat):Int)=(c:Int):=by simpa using e
        omega
       rw[if_pos e]at hps;rw[hps]at hR2;have uu:∀{h':ad},Upd (fun b=>hc.size≤b) h3 h'→Upd No hc h':=fun k=>(hu.tr k3).trans k fun y hy=>.inr hy
       have hab:a'.block<h.size:=hsh.lt (fun e=>by rw[e]at hlt2;simp at hlt2) ha'
       have sD:=hD.upd.size;have wide:∀{n:Nat} {h1 h2:ad},hc.size≤h1.size→Upd (fun b=>(hc.size≤b∧b<n)∨h1.size≤b) h1 h2→Upd (fun b=>hc.size≤b) h1 h2:=fun hz k=>k.mono fun y hy=>.inl (hy.elim (fun h=>h.1) fun h=>by omega)
       refine⟨_,vc b3 0,_,vc b3 1,⟨by simp only;omega,by simp only;omega⟩,a',ha',_,hv',?_,?_⟩
       ·refine aQ fun h4 b4 k4=>⟨k4.cell0 hv',?_,?_⟩
        ·have s4:=k4.size
         refine⟨_,jo b4,Pw (p:=l[i]) (hT3.upd0 k4) (by omega) (by omega) (by omega) rfl fun s5 h5 hT5 k5=>⟨k5.cell (k4.cell0 hv') (by rw[uk];omega),aQ fun h6 b6 k6=>?_⟩⟩
         have s5':=k5.size;have s6:=k6.size;refine⟨_,jo b6,appB (p:=l[i]) (hT5.upd0 k6) (by omega) (by omega) (by omega) rfl fun s7 h7 hT7 k7=>?_⟩
         exact hR2 _ _ ⟨hT7,uu (((k4.wide.tr (wide (by omega) k5)).tr k6.wide).tr (wide (by omega) k7))⟩
        ·refine aQ fun h6 b6 k6=>?_
         have s4:=k4.size;have s6:=k6.size;have z6:=bw b6;refine⟨_,jo (k6.get0 b4),Pw (p:=l[i]) ((hT3.upd0 k4).upd0 k6) (by omega) (by omega) (by omega) rfl fun s5 h5 hT5 k5=>?_⟩
         have s5':=k5.size;refine⟨_,jo (k5.get b6 (by omega)),appB (p:=l[i]) hT5 (by omega) (by omega) (by omega) rfl fun s7 h7 hT7 k7=>?_⟩
         exact hR2 _ _ ⟨hT7,uu (((k4.wide.tr k6.wide).tr (wide (by omega) k5)).tr (wide (by omega) k7))⟩
       ·refine aQ fun h4 b4 k4=>⟨⟨vc (k4.get0 b3) 0,vc (k4.get0 b3) 1⟩,aQ fun h6 b6 k6=>?_⟩
        have s4:=k4.size;have s6:=k6.size;have z4:=bw b4;refine⟨_,jo b6,Pw (p:=l[i]) ((hT3.upd0 k4).upd0 k6) (by omega) (by omega) (by omega) rfl fun s5 h5 hT5 k5=>?_⟩
        have s5':=k5.size;refine⟨_,jo (k5.get (k6.get0 b4) (by omega)),appB (p:=l[i]) hT5 (by omega) (by omega) (by omega) rfl fun s7 h7 hT7 k7=>?_⟩
        exact hR2 _ _ ⟨hT7,uu (((k4.wide.tr k6.wide).tr (wide (by omega) k5)).tr (wide (by omega) k7))⟩
      ·have e:¬ck x (12-m) l[i].1=c:=fun e'=>by
        have:¬((ck x (12-m) l[i].1:Nat):Int)=(c:Int):=by simpa using e
        omega
       rw[if_neg e]at hps;rw[hps]at hR2;obtain⟨A,B,q1,q2,q3,q4⟩:=hT3;exact hR2 _ _ ⟨⟨A,B,q1,q2,fun b hb=>⟨(q3 b hb).1,by have:=(q3 b hb).2.1;omega,(q3 b hb).2.2⟩,fun b hb=>⟨(q4 b hb).1,by have:=(q4 b hb).2;omega⟩⟩,hu.tr k3⟩
     ·rintro⟨so',ss'⟩ h' ⟨hT',hu'⟩
      simp only;rw[cl hlt2 (by omega)];exact hI2 (i+1) _ _ ⟨rfl,hlt2,hT',hu'⟩ (by omega)
    ·have hil':i=l.length:=by have:¬(i:Int)<(s.len:Int):=hge2;omega
     subst hil';rw[bQ]at hT;have hDi:h.size<hi.size:=by omega
     have hbi:=hu.get0 hD.blk;have hki:∀c',c'<c→2≤(part x (12-m) c' l).length→∃kb,kk c'=some ⟨kb,0,none⟩∧DTrie (fun y=>W y∨y=h.size) x hi m kb (part x (12-m) c' l):=fun c' h1 h2=>let⟨kb,h3,h4⟩:=hD.kid c' h1 h2;⟨kb,h3,DTrie.upd hu (fun _ h=>h.elim) h4⟩
     obtain⟨A,B,hA,hB,hA',hB'⟩:=hT;have hsA:Sl dD 2 (fun y=>W y∨y=h.size) hi so (part x (12-m) c l):=hA.sl fun y hy _ hw=>by
      have:=(hA' y hy).1;rcases hw with hw|hw
      ·have:=hW y hw;omega
      ·omega
     have hsB:Sl (PD x) 1 No hi ss (part x (12-m) c l):=hB.sl fun _ _ _ h=>h
     have hq:=hsA.len;have hpl:(part x (12-m) c l).length≤l.length:=nZ;have hU:=hD.upd.tr hu;refine Join.plain ?_;refine CondP.intro (fun e=>?_) fun e=>?_
     ·
      have e:so.len=1:=by
       have:((so.len:Nat):Int)=1:=by simpa using e
       omega
      have hone:(part x (12-m) c l).length=1:=by omega
      obtain⟨p,hp⟩:=List.length_eq_one_iff.1 hone;rw[hp]at hsA;obtain⟨a,ha,_,hv⟩:=hsA.at (i:=0) (x:=p) rfl;refine⟨⟨by decide,by simp only;omega⟩,a,ha,_,hv 0 _ rfl,_,hv 1 _ rfl,_,rfl,⟨by omega,by omega⟩,_,rfl,?_⟩
      have ew:((c:Int).toNat*1)=c:=by omega
      have ew2:((c:Int).toNat*2)=c*2:=by omega
      simp only[ew,ew2,fk h,cc,aR];refine MC hbi (by omega) fun h3 b3 u3=>⟨⟨by omega,by omega⟩,P3 b3 (by omega) fun h4 b4 u4=>av (fun hl=>by omega) fun _=>?_⟩
      have u34:Upd (· =h.size) hi h4:=u3.tr u4
      refine hR _ _ ⟨kk,?_,hU.own u34 (ag _),fun c' h1 h2=>?_⟩
      ·rw[b4]
       refine congrArg some (congrArg (fun c=>Obj.cells c gl (0,0)) (Ey fun j hj=>?_))
       rw[Jx (q:=vh x (12-m) l c) (q':=vh x (12-m) l (c+1)) (kk:=kk) hlt (fun j hj=>D1 hj) (fun _ _=>rfl),D2,hp]
       have e1:HS [p]=1:=rfl;have e2:Er (fM [p])=p:=rfl;rw[e1,e2];by_cases q1:j=2+c
       ·rw[if_neg (by omega),if_neg (by omega),if_pos q1,if_pos q1]
       ·by_cases q2:j=34+c*2
        ·rw[if_neg (by omega),if_pos q2,if_neg q1,if_pos q2]
        ·by_cases q3:j=34+c*2+1
         ·rw[if_pos q3,if_neg q1,if_neg q2,if_pos q3]
         ·rw[if_neg q3,if_neg q2,if_neg q1,if_neg q1,if_neg q2,if_neg q3]
          by_cases q4:j=98+c
          ·rw[if_pos q4,Gb (by omega),show j-98=c by omega]
          ·rw[if_neg q4]
      ·rcases cf c' c with hh|hh
       ·obtain⟨kb,h3',h4'⟩:=hki c' hh h2
        exact⟨kb,h3',DTrie.upd u34 (fun y hy=>.inl (.inr hy)) h4'⟩
       ·rw[show c'=c by omega,hone]at h2;omega
     ·have e:¬so.len=1:=fun e'=>by
       have:¬((so.len:Nat):Int)=1:=by simpa using e
       omega
      refine av (fun hgt=>?_) fun hle=>?_
      ·
       have hgt:2≤(part x (12-m) c l).length:=by have:(so.len:Int)>1:=hgt;omega
       refine⟨_,rfl,_,rfl,?_⟩;have e14:IntKind.wrap .i64 (((12-m:Nat):Int)+1)=((13-m:Nat):Int):=by rw[fL (by omega)];omega
       rw[e14];refine ih (by omega) hsA (fun y hy=>hy.elim (fun hy=>by have:=hW y hy;omega) fun hy=>by omega) hsB (by omega) fun h2 kb tk k2=>⟨⟨by omega,by omega⟩,?_⟩
       have ew:((c:Int).toNat*1)=c:=by omega
       simp only[ew,fk h,cc,aR];refine MC (k2.get0 hbi) (by omega) fun h3 b3 u3=>⟨⟨by omega,by omega⟩,MC b3 (by omega) fun h4 b4 u4=>?_⟩
       have u34:Upd (· =h.size) h2 h4:=u3.tr u4
       refine hR _ _ ⟨fun j=>if j=c then some ⟨kb,0,none⟩else kk j,?_,(hU.tr k2).own u34 (ag _),fun c' h1 h2=>?_⟩
       ·rw[b4]
        refine congrArg some (congrArg (fun c=>Obj.cells c gl (0,0)) (Ey fun j hj=>?_))
        rw[Jx (q:=vh x (12-m) l c) (q':=vh x (12-m) l (c+1)) (kk:=kk) hlt (fun j hj=>D1 hj) (fun _ hj=>if_neg hj),D2]
        have e1:HS (part x (12-m) c l)=2:=by unfold HS;rw[if_neg (by omega),if_pos hgt]
        have e2:fM (part x (12-m) c l)=none:=by
         match part x (12-m) c l,hgt with
         |a::b::r,_=>rfl
        rw[e1,e2,if_pos rfl];by_cases q1:j=2+c
        ·rw[if_neg (by omega),if_pos q1,if_pos q1]
        ·by_cases q4:j=98+c
         ·rw[if_pos q4,if_neg q1,if_neg (by omega),if_neg (by omega),if_pos q4]
         ·rw[if_neg q4,if_neg q1,if_neg q1]
          by_cases q2:j=34+c*2
          ·rw[if_pos q2,Gc (by omega) (by omega) (by omega),show(j-34)/2=c by omega,D0];rfl
          ·rw[if_neg q2]
           by_cases q3:j=34+c*2+1
           ·rw[if_pos q3,Ga (by omega) (by omega) (by omega),show(j-34)/2=c by omega,D0];rfl
           ·rw[if_neg q3,if_neg q4]
       ·rcases cf c' c with hh|hh
        ·obtain⟨kb',h3',h4'⟩:=hki c' hh h2
         exact⟨kb',by rw[if_neg (by omega)];exact h3',DTrie.upd u34 (fun y hy=>.inl (.inr hy)) (DTrie.upd k2 (fun _ h=>h.elim) h4')⟩
        ·obtain rfl:c'=c:=by omega
         exact⟨kb,if_pos rfl,DTrie.upd u34 (fun y hy=>.inl (.inr hy)) tk⟩
      ·
       have hnil:part x (12-m) c l= []:=List.length_eq_zero_iff.1 (by have:¬(so.len:Int)>1:=hle;omega);refine hR _ _ ⟨kk,?_,hU,fun c' h1 h2=>?_⟩
       ·rw[hbi]
        refine congrArg some (congrArg (fun c=>Obj.cells c gl (0,0)) (Ey fun j hj=>?_))
        have:vh x (12-m) l (c+1)=vh x (12-m) l c:=by
         funext j;by_cases hj:j=c
         ·rw[hj,D2,D0,hnil]
         ·exact D1 hj
        rw[this]
       ·rcases cf c' c with hh|hh
        ·exact hki c' hh h2
        ·rw[show c'=c by omega,hnil]at h2;simp at h2
   ·rintro _ h' ⟨kk',hD'⟩
    rw[cl hlt (by omega)];exact hI (c+1,kk') _ _ ⟨rfl,hlt,hD'⟩ (by simp only;omega)
  ·obtain rfl:c=32:=by have:¬(c:Int)<32:=hge;omega
   refine hk hc h.size ⟨nwh,kk,?_,fun c hc hp=>let⟨kb,h3,h4⟩:=hD.kid c hc hp;⟨kb,h3,DTrie.less (fun _ h=>.inl h) h4⟩⟩ hD.upd
   rw[hD.blk];refine congrArg some (congrArg (fun c=>Obj.cells c gl (0,0)) (Ey fun i hi=>?_))
   have:∀c,c<32→vh x (12-m) l 32 c=part x (12-m) c l:=fun c hc=>if_pos hc
   unfold dF;by_cases h0:i<34
   ·by_cases h1:i=0
    ·rw[if_pos h1,if_pos h1]
    ·by_cases h2:i=1
     ·rw[if_neg h1,if_neg h1,if_pos h2,if_pos h2]
     ·rw[if_neg h1,if_neg h1,if_neg h2,if_neg h2,if_pos h0,if_pos h0,this _ (by omega)]
   ·rw[if_neg (show ¬i=0 by omega),if_neg (show ¬i=0 by omega),if_neg (show ¬i=1 by omega),if_neg (show ¬i=1 by omega),if_neg h0,if_neg h0]
    by_cases h3:i<98
    ·rw[if_pos h3,if_pos h3,this _ (by omega)]
    ·rw[if_neg h3,if_neg h3]
end Go.Proofs
namespace Go.Proofs
open Go Go.Lift
theorem LZ{x:Hs}{h:ad}{s:SliceV}{l:List Pr}(hs:Sl dD 2 No h s l)(hn:l.length≤60000)(hk1:∀p∈l,p.1.size≤1000000){K:Option Addr→ad→Prop}(hk:∀h' b,DTrie No x h' 13 b l→Upd No h h'→K (some ⟨b,0,none⟩) h'):
  HC PG A6 [.agg #[.int .u64 x.k0,.int .u64 x.k1,.int .u64 x.mask],.slice s.a s.len s.cap,.int .i64 0] [.c .ptr] K h:=by
 refine MZ (x.k0,x.k1,x.mask) s 0 ?_;unfold GF cn ar nv uJ un jm aL aF im is JS;refine aQ fun h1 b1 k1=>?_
 have hlen:=hs.len;refine LoopP.ghost (fun(i:Nat) (t:SliceV×Int) h'=>t.2=(i:Int)∧i≤l.length∧OwnS (PD x) 1 mH (fun b=>h1.size≤b) h' t.1 (l.take i)∧Upd No h1 h') (fun i=>l.length-i) 0 ⟨rfl,aK _,OwnS.nil (Ml x),Upd.refl _ _⟩ ?_
 rintro I i ⟨so,ti⟩ h' ⟨e1,hi,ho,hu⟩ hI;simp only at e1 ho;subst e1;have hs':=(hs.upd k1 fun _ h=>h.elim).upd hu fun _ h=>h.elim
 refine av (fun hlt=>?_) fun hge=>?_
 ·have hlt:i<l.length:=by have:(i:Int)<(s.len:Int):=hlt;omega
  refine Join.plain ?_;obtain⟨a,ha,_,hv⟩:=hs'.at (ae hlt);refine⟨⟨by simp only;omega,by simp only;omega⟩,a,ha,_,hv 0 _ rfl,_,hv 1 _ rfl,py (p:=l[i]) fun h2 b2 k2=>?_⟩
  have c1:=k2.get0 (hu.get0 b1);refine⟨_,vc c1 0,_,vc c1 1,_,vc c1 2,_,vc b2 0,L1 (by have:=hk1 _ (bN hlt);omega) fun h3 k3=>aQ fun h4 b4 k4=>⟨_,jo b4,?_⟩⟩
  have s4:=((hu.tr k2).tr k3).tr k4;refine AppP.own (M:=fun b=>h1.size≤b) (ys:= [l[i]]) (((ho.upd k2 fun _ _ h=>h).upd k3 fun _ _ h=>h).upd k4 fun _ _ h=>h) rfl rfl rfl rfl (by omega) (by simp only[aw,aD];omega) s4.size fun s5 h5 ho5 hu5=>?_
  simp only;rw[cl hlt (by omega)];refine hI (i+1) _ _ ⟨rfl,hlt,?_,s4.trans hu5 fun y hy=>.inr hy⟩ (by omega)
  rw[aX hlt];exact ho5
 ·have hil:i=l.length:=by have:¬(i:Int)<(s.len:Int):=hge;omega
  subst hil;rw[bQ]at ho;exact O0 13 (ag _) hs' (fun _ h=>h.elim) (ho.sl fun _ _ _ h=>h) hn fun h2 b td k2=>hk h2 b td ((k1.tr hu).tr k2)
theorem CY(n:Nat):IntKind.wrap .u8 (n:Int)=((UInt8.ofNat n).toNat:Int):=by rw[IntKind.wrap_u8];simp
theorem zP{n:Nat}(hn:n≤1000000000){h:ad}{K:SliceV→ad→Prop}(hk:∀s' h',OwnS l8 1 ci (fun y=>h.size≤y) h' s' (kB n 2)→Upd No h h'→K s' h'):HC PG pu [.int .i64 (n:Int)] [.c .slice] K h:=by
 refine KZ (n:Int) ?_;unfold DQ Nm;have e1:kP (n:Int) 256=((n>>>(8*1):Nat):Int):=by rw[eu (by omega),cj];rfl
 have hle:n>>>(8*1)≤n:=gi ..;rw[e1,fL (by generalize n>>>(8*1)=y at hle;omega),CY,CY];refine⟨by decide,aQ fun h1 b1 k1=>hk _ h1 ⟨rfl,oL,ag _,.inr ⟨h.size,[],rfl,ag _,b1,rfl⟩⟩ k1⟩
theorem Fw{n:Nat}(hn:n<4294967296){h:ad}{K:SliceV→ad→Prop}(hk:∀s' h',OwnS l8 1 ci (fun y=>h.size≤y) h' s' (kB n 4)→Upd No h h'→K s' h'):HC PG rQ [.int .u32 (n:Int)] [.c .slice] K h:=by
 refine Ix (n:Int) ?_;unfold BL PK;have q:∀k:Nat,((n>>>k:Nat):Int)<4294967296:=fun k=>by have:n>>>k≤n:=gi ..;generalize n>>>k=y at this;omega
 have e1:kP (n:Int) 256=((n>>>(8*1):Nat):Int):=by rw[eu (by omega),cj];rfl
 have e2:kP (n:Int) 65536=((n>>>(8*2):Nat):Int):=by rw[eu (by omega),cj];rfl
 have e3:kP (n:Int) 16777216=((n>>>(8*3):Nat):Int):=by rw[eu (by omega),cj];rfl
 have w:∀k:Nat,IntKind.wrap .u32 ((n>>>k:Nat):Int)=((n>>>k:Nat):Int):=fun k=>by have:=q k;generalize n>>>k=y at this;rw[IntKind.wrap_u32];omega
 rw[e1,e2,e3,w,w,w,CY,CY,CY,CY];refine⟨by decide,by decide,by decide,aQ fun h1 b1 k1=>hk _ h1 ⟨rfl,oL,ag _,.inr ⟨h.size,[],rfl,ag _,b1,rfl⟩⟩ k1⟩
theorem tH{M W:Nat→Prop}{h:ad}{so e:SliceV}{out ys:List UInt8}{K:SliceV→ad→Prop}(ho:OwnS l8 1 ci M h so out)(he:Sl l8 1 W h e ys)(hM:∀b,h.size≤b→M b)(hn:out.length+ys.length≤140737488355328)
  (hk:∀s' h',OwnS l8 1 ci M h' s' (out++ys)→Upd M h h'→K s' h'):∃xs,SRow h e.a (e.len*1) xs∧AppP (some [.int .u8 0]) 1 1 ci so.a so.len so.cap e.len xs h K:=
 ⟨_,he.srow,AppP.own (ys:=ys) ho he.len rfl (wB _) rfl (by omega) (by omega) (hM _ (ag _)) hk⟩
theorem wz{b:ByteArray}(hb:b.size≤1000000){h:ad}{K:SliceV→ad→Prop}(hk:∀s' h',OwnS l8 1 ci (fun y=>h.size≤y) h' s' (lF b)→Upd No h h'→K s' h'):HC PG nF [.string b] [.c .slice] K h:=by
 refine Iu b ?_;unfold BI;refine zP (by omega) fun s1 h1 ho1 k1=>?_
 intro c hc;have k2:=Upd.push No h1 (.cells (dd b++dJ (c-b.size) (Value.int .u8 0)).toArray ci (c,c+1));have b2:=sQ h1 (.cells (dd b++dJ (c-b.size) (Value.int .u8 0)).toArray ci (c,c+1));generalize h1.push (.cells (dd b++dJ (c-b.size) (Value.int .u8 0)).toArray ci (c,c+1))=h2 at k2 b2;have hl:b.data.toList.length=b.size:=by simp
 have hsl:Sl l8 1 No h2 ⟨some (aC h1),b.size,c⟩ b.data.toList:=by
  refine⟨by simp,oL,fun _=>⟨_,rfl,id,pb b2 fun i v hv=>?_⟩⟩
  rw[aR,fK,mC,List.getElem?_append_left (List.getElem?_eq_some_iff.1 hv).1];exact hv
 have s1':=k1.size;have s2:=k2.size;refine tH (ho1.upd k2 fun _ _ h=>h) hsl (fun y hy=>by show h.size≤y;omega) (by rw[cY];omega) fun s3 h3 ho3 k3=>hk s3 h3 ho3 ((k1.tr k2).trans k3 fun y hy=>.inr hy)
theorem x7{W:Nat→Prop}{h:ad}{s:SliceV}{l:List Pr}(hs:Sl dD 2 W h s l)(hf:Fit l)(hn:l.length≤60000){K:SliceV→ad→Prop}(hk:∀s' h',OwnS l8 1 ci (fun y=>h.size≤y) h' s' (iW l)→Upd No h h'→K s' h'):
  HC PG oo [.slice s.a s.len s.cap] [.c .slice] K h:=by
 refine Gv s ?_;unfold zk cn nv jm aL aF im;have hlen:=hs.len;refine LoopP.ghost (fun(i:Nat) (t:SliceV×Int) h'=>t.2=(i:Int)∧i≤l.length∧OwnS l8 1 ci (fun b=>h.size≤b) h' t.1 (iW (l.take i))∧Upd No h h') (fun i=>l.length-i) 0 ⟨rfl,aK _,OwnS.nil oL,Upd.refl _ _⟩ ?_
 rintro I i ⟨so,ti⟩ h' ⟨e1,hi,ho,hu⟩ hI;simp only at e1 ho;subst e1;refine av (fun hlt=>?_) fun hge=>?_
 ·have hlt:i<l.length:=by have:(i:Int)<(s.len:Int):=hlt;omega
  refine Join.plain ?_;obtain⟨a,ha,_,hv⟩:=(hs.upd hu fun _ h=>h.elim).at (ae hlt)
  have hfi:=hf l[i] (bN hlt);have htl:=kA (l:=l.take i) fun q hq=>hf q (List.mem_of_mem_take hq)
  rw[aD,Nat.min_eq_left hi]at htl;have h1:=gR l[i].1;have h2:=gR l[i].2;refine⟨⟨by simp only;omega,by simp only;omega⟩,a,ha,_,hv 0 _ rfl,_,hv 1 _ rfl,py (p:=l[i]) fun h2 b2 k2=>?_⟩
  refine⟨_,vc b2 0,_,vc b2 1,wz (by omega) fun s3 h3 ho3 k3=>⟨vc (k3.get0 b2) 1,?_⟩⟩
  have u3:=(hu.tr k2).tr k3;have s2:=bw b2;have s2':=k2.size;have s3':=k3.size;have s0:=hu.size;refine tH (M:=fun y=>h.size≤y∧y≠h'.size) (((ho.within.upd k2 fun _ _ h=>h).upd k3 fun _ _ h=>h).more fun y hy=>⟨hy.1,by omega⟩) (ho3.sl (W:=No) fun _ _ _ h=>h) (fun y hy=>by omega) (by omega) fun s4 h4 ho4 k4=>⟨vc (k4.get (k3.get0 b2) (by omega)) 1,?_⟩
  have s4':=k4.size;refine wz (by omega) fun s5 h5 ho5 k5=>?_
  have s5':=k5.size;refine tH (M:=fun y=>h.size≤y) ((ho4.upd k5 fun _ _ h=>h).more fun y hy=>hy.1) (ho5.sl (W:=No) fun _ _ _ h=>h) (fun y hy=>by show h.size≤y;omega) (by rw[ac];omega) fun s6 h6 ho6 k6=>?_
  simp only;rw[cl hlt (by omega)];refine hI (i+1) _ _ ⟨rfl,hlt,?_,(((u3.trans k4 fun y hy=>.inr hy.1)).tr k5).trans k6 fun y hy=>.inr hy⟩ (by omega)
  rw[yU hlt,yV,←ao];exact ho6
 ·have hil:i=l.length:=by have:¬(i:Int)<(s.len:Int):=hge;omega
  subst hil;rw[bQ]at ho;exact hk _ _ ho hu
theorem Kj{W W':Nat→Prop}{h:ad}{s s':SliceV}{l:List UInt8}(hs:Sl l8 1 W h s l)(hs':Sl l8 1 W' h s' l)(hn:l.length≤1000000000000){K:Bool→ad→Prop}(hk:K true h):HC PG vG [.slice s.a s.len s.cap,.slice s'.a s'.len s'.cap] [.c .bool] K h:=by
 refine Iw s s' ?_;unfold BJ bR cn;have h1:=hs.len;have h2:=hs'.len;rw[h1,h2,bne_self_eq_false];refine aj.2 ?_;refine LoopP.ghost (fun(i:Nat) (t:Int) h'=>t=(i:Int)∧i≤l.length∧h'=h) (fun i=>l.length-i) 0 ⟨rfl,aK _,rfl⟩ ?_
 rintro I i t h' ⟨rfl,hi,rfl⟩ hI;refine av (fun hlt=>?_) fun _=>hk
 have hlt:i<l.length:=by omega
 obtain⟨a,ha,_,hv⟩:=hs.at0 (ae hlt);obtain⟨a',ha',_,hv'⟩:=hs'.at0 (ae hlt);refine⟨⟨by omega,by omega⟩,a,ha,_,hv,⟨by omega,by omega⟩,a',ha',_,hv',?_⟩
 rw[bne_self_eq_false];refine aj.2 ?_;rw[cl hlt (by omega)];exact hI (i+1) _ _ ⟨rfl,hlt,rfl⟩ (by omega)
end Go.Proofs
namespace Go.Proofs
open Go Go.Lift
abbrev Qy(lab:ByteArray)(has:Bool)(val:ByteArray)(s:SliceV)(_:Option Addr):Array Value:= #[.string lab,.bool has,.string val,sv s]
def DxF(W:Nat→Prop)(h:ad):Fo→List (Option Addr)→Prop
 | .nil,ks=>ks= []
 | .cons lab w kids rest,ks=>∃b sl val s ow ks1 ks',ks=some ⟨b,0,none⟩::ks'∧sl.data.toList=lab∧h[b]? =some (.cells (Qy sl w.isSome val s ow) md (0,0))∧val=w.getD ⟨#[]⟩∧Sl yQ 1 W h s ks1∧(s.len≤s.cap∧¬W b)∧DxF W h kids ks1∧DxF W h rest ks'
def DxN(W:Nat→Prop)(h:ad)(b:Nat)(sl:ByteArray)(w:Option ByteArray)(F:Fo):Prop:=∃val s ow ks,h[b]? =some (.cells (Qy sl w.isSome val s ow) md (0,0))∧val=w.getD ⟨#[]⟩∧Sl yQ 1 W h s ks∧(s.len≤s.cap∧¬W b)∧DxF W h F ks
def DKid(W:Nat→Prop)(h:ad)(k:Option Addr)(n:Bn):Prop:=∃b sl,k=some ⟨b,0,none⟩∧sl.data.toList=n.1∧DxN W h b sl n.2.1 n.2.2
def DxL(W:Nat→Prop)(h:ad)(ks:List (Option Addr))(L:List Bn):Prop:=ks.length=L.length∧∀p∈ks.zip L,DKid W h p.1 p.2
theorem wV{W:Nat→Prop}{h:ad}:∀{F:Fo} {ks:List (Option Addr)},DxF W h F ks↔DxL W h ks F.toL
 | .nil,ks=>by
  unfold DxF DxL;simp[Fo.toL]
 | .cons lab w kids rest,ks=>by
  unfold DxF DxL;rw[Fo.toL_cons];constructor
  ·rintro⟨b,sl,val,s,ow,ks1,ks',rfl,e1,e2,e3,e4,e5,e6,e7⟩
   obtain⟨e8,e9⟩:=wV.1 e7;refine⟨by simp[e8],fun p hp=>?_⟩
   rw[eY]at hp;rcases az.1 hp with rfl|hp
   ·exact⟨b,sl,rfl,e1,val,s,ow,ks1,e2,e3,e4,e5,e6⟩
   ·exact e9 p hp
  ·cases ks with
   |nil=>rintro⟨e,_⟩;simp at e
   |cons k ks'=>
    rintro⟨e,hp⟩;rw[eY]at hp;obtain⟨b,sl,e0,e1,val,s,ow,ks1,e2,e3,e4,e5,e6⟩:=hp _ (au ..);refine⟨b,sl,val,s,ow,ks1,ks',by rw[←e0],e1,e2,e3,e4,e5,e6,wV.2 ⟨by simpa using e,fun p hp'=>hp p (aH _ hp')⟩⟩
theorem DxF.upd0{W:Nat→Prop}{h h':ad}(k:Upd No h h'):∀{F:Fo} {ks:List (Option Addr)},DxF W h F ks→DxF W h' F ks
 | .nil,_,r=>r
 | .cons _ _ _ _,_,⟨b,sl,val,s,ow,ks1,ks',e0,e1,e2,e3,e4,e5,e6,e7⟩=>⟨b,sl,val,s,ow,ks1,ks',e0,e1,k.get0 e2,e3,e4.upd k fun _ h=>h.elim,e5,DxF.upd0 k e6,DxF.upd0 k e7⟩
theorem DxN.upd0{W:Nat→Prop}{h h':ad}(k:Upd No h h'){b:Nat}{sl:ByteArray}{w:Option ByteArray}{F:Fo}:DxN W h b sl w F→DxN W h' b sl w F
 |⟨val,s,ow,ks,e2,e3,e4,e5,e6⟩=>⟨val,s,ow,ks,k.get0 e2,e3,e4.upd k fun _ h=>h.elim,e5,DxF.upd0 k e6⟩
theorem DKid.upd0{W:Nat→Prop}{h h':ad}(k:Upd No h h'){a:Option Addr}{n:Bn}:DKid W h a n→DKid W h' a n
 |⟨b,sl,e1,e2,e3⟩=>⟨b,sl,e1,e2,e3.upd0 k⟩
theorem DxF.less{W W':Nat→Prop}{h:ad}(hm:∀b,W' b→W b∨h.size≤b):∀{F:Fo} {ks:List (Option Addr)},DxF W h F ks→DxF W' h F ks
 | .nil,_,r=>r
 | .cons _ _ _ _,_,⟨b,sl,val,s,ow,ks1,ks',e0,e1,e2,e3,e4,e5,e6,e7⟩=>⟨b,sl,val,s,ow,ks1,ks',e0,e1,e2,e3,e4.less hm,⟨e5.1,fun hx=>(hm _ hx).elim e5.2 fun h=>by have:=bw e2;omega⟩,DxF.less hm e6,DxF.less hm e7⟩
theorem DxN.less{W W':Nat→Prop}{h:ad}(hm:∀b,W' b→W b∨h.size≤b){b:Nat}{sl:ByteArray}{w:Option ByteArray}{F:Fo}:DxN W h b sl w F→DxN W' h b sl w F
 |⟨val,s,ow,ks,e2,e3,e4,e5,e6⟩=>⟨val,s,ow,ks,e2,e3,e4.less hm,⟨e5.1,fun hx=>(hm _ hx).elim e5.2 fun h=>by have:=bw e2;omega⟩,DxF.less hm e6⟩
theorem DxF.updM{W M:Nat→Prop}{h h':ad}(k:Upd M h h')(hm:∀b,M b→W b∨h.size≤b):∀{F:Fo} {ks:List (Option Addr)},DxF W h F ks→DxF W h' F ks
 | .nil,_,r=>r
 | .cons _ _ _ _,_,⟨b,sl,val,s,ow,ks1,ks',e0,e1,e2,e3,e4,e5,e6,e7⟩=>⟨b,sl,val,s,ow,ks1,ks',e0,e1,k.get e2 (fun hx=>(hm _ hx).elim e5.2 fun h=>by have:=bw e2;omega),e3,e4.upd k hm,e5,DxF.updM k hm e6,DxF.updM k hm e7⟩
theorem DxN.updM{W M:Nat→Prop}{h h':ad}(k:Upd M h h')(hm:∀b,M b→W b∨h.size≤b){b:Nat}{sl:ByteArray}{w:Option ByteArray}{F:Fo}:DxN W h b sl w F→DxN W h' b sl w F
 |⟨val,s,ow,ks,e2,e3,e4,e5,e6⟩=>⟨val,s,ow,ks,k.get e2 (fun hx=>(hm _ hx).elim e5.2 fun h=>by have:=bw e2;omega),e3,e4.upd k hm,e5,DxF.updM k hm e6⟩
theorem DxL.upd0{W:Nat→Prop}{h h':ad}(k:Upd No h h'){ks:List (Option Addr)}{L:List Bn}(r:DxL W h ks L):DxL W h' ks L:=⟨r.1,fun p hp=>(r.2 p hp).upd0 k⟩
theorem DxL.app{W:Nat→Prop}{h:ad}{ks ks':List (Option Addr)}{L L':List Bn}(r:DxL W h ks L)(r':DxL W h ks' L'):DxL W h (ks++ks') (L++L'):=by
 refine⟨by rw[ac,ac,r.1,r'.1],fun p hp=>?_⟩
 rw[List.zip_append r.1]at hp;rcases List.mem_append.1 hp with hp|hp
 ·exact r.2 p hp
 ·exact r'.2 p hp
theorem DxL.one{W:Nat→Prop}{h:ad}{k:Option Addr}{n:Bn}(c:DKid W h k n):DxL W h [k] [n]:=⟨rfl,fun p hp=>by rw[eY,List.zip_nil_left]at hp;rw[List.mem_singleton.1 hp];exact c⟩
theorem DxL.at{W:Nat→Prop}{h:ad}{ks:List (Option Addr)}{L:List Bn}(r:DxL W h ks L){i:Nat}(hi:i<L.length):∃b sl,ks[i]? =some (some ⟨b,0,none⟩)∧sl.data.toList=L[i].1∧DxN W h b sl L[i].2.1 L[i].2.2:=by
 have hk:i<ks.length:=by rw[r.1];exact hi
 have hz:i<(ks.zip L).length:=by rw[List.length_zip];omega
 have:=r.2 _ (bN hz);rw[List.getElem_zip]at this;obtain⟨b,sl,e1,e2,e3⟩:=this;exact⟨b,sl,by rw[ae hk];exact congrArg some e1,e2,e3⟩
theorem DKid.less{W W':Nat→Prop}{h:ad}(hm:∀b,W' b→W b∨h.size≤b){a:Option Addr}{n:Bn}:DKid W h a n→DKid W' h a n
 |⟨b,sl,e1,e2,e3⟩=>⟨b,sl,e1,e2,e3.less hm⟩
theorem DKid.updM{W M:Nat→Prop}{h h':ad}(k:Upd M h h')(hm:∀b,M b→W b∨h.size≤b){a:Option Addr}{n:Bn}:DKid W h a n→DKid W h' a n
 |⟨b,sl,e1,e2,e3⟩=>⟨b,sl,e1,e2,e3.updM k hm⟩
theorem DxL.less{W W':Nat→Prop}{h:ad}(hm:∀b,W' b→W b∨h.size≤b){ks:List (Option Addr)}{L:List Bn}(r:DxL W h ks L):DxL W' h ks L:=⟨r.1,fun p hp=>(r.2 p hp).less hm⟩
theorem DxL.updM{W M:Nat→Prop}{h h':ad}(k:Upd M h h')(hm:∀b,M b→W b∨h.size≤b){ks:List (Option Addr)}{L:List Bn}(r:DxL W h ks L):DxL W h' ks L:=⟨r.1,fun p hp=>(r.2 p hp).updM k hm⟩
theorem Ho{a b:ByteArray}(ha:a.size≤1000000){h:ad}{K:Int→ad→Prop}(hk:K (cm a.data.toList b.data.toList:Nat) h):HC PG rP [.string a,.string b] [.c (.int .i64)] K h:=by
 refine ER a b ?_;unfold xC;have la:a.data.toList.length=a.size:=by simp
 have lb:b.data.toList.length=b.size:=by simp
 refine LoopP.ghost (fun(i:Nat) (t:Int) h'=>t=(i:Int)∧i≤min a.size b.size∧h'=h∧∀j,j<i→a.data.toList[j]? =b.data.toList[j]?) (fun i=>min a.size b.size-i) 0 ⟨rfl,aK _,rfl,fun j hj=>absurd hj (gp _)⟩ ?_
 rintro I i t h' ⟨rfl,hi,rfl,he⟩ hI;refine Join.intro (fun t h2=>h2=h'∧(t=true→i<min a.size b.size∧a.data.toList[i]? =b.data.toList[i]?)∧(t=false→cm a.data.toList b.data.toList=i)) (fun R hR=>?_) ?_
 ·refine av (fun h1=>?_) fun h1=>hR _ _ ⟨rfl,fun h=>(by cases h),fun _=>DI (by omega) (by omega) he (by omega)⟩
  refine av (fun h2=>?_) fun h2=>hR _ _ ⟨rfl,fun h=>(by cases h),fun _=>DI (by omega) (by omega) he (by omega)⟩
  have hia:i<a.size:=by omega
  have hib:i<b.size:=by omega
  have e1:a.data.toList[i]? =some a[i]:=by rw[←F3,getElem?_pos a i hia]
  have e2:b.data.toList[i]? =some b[i]:=by rw[←F3,getElem?_pos b i hib]
  refine⟨a[i],by omega,by rw[aM,getElem?_pos a i hia],b[i],by omega,by rw[aM,getElem?_pos b i hib],hR _ _ ⟨rfl,fun h=>⟨by omega,?_⟩,fun h=>?_⟩⟩
  ·have:((a[i].toNat:Int))=(b[i].toNat:Int):=by simpa using h
   rw[e1,e2,UInt8.toNat_inj.1 (show a[i].toNat=b[i].toNat by omega)]
  ·refine DI (by omega) (by omega) he (.inr (.inr fun e=>?_))
   rw[e1,e2]at e;rw[bF.inj e]at h;simp at h
 ·rintro t h2 ⟨rfl,h1,h0⟩
  cases t with
  |true=>
   obtain⟨hlt,e⟩:=h1 rfl;refine aB.2 ?_;rw[cl hlt (by omega)];refine hI (i+1) _ _ ⟨rfl,hlt,rfl,fun j hj=>?_⟩ (by omega)
   rcases cf j i with hl|hl
   ·exact he j hl
   ·rw[show j=i by omega];exact e
  |false=>
   refine aj.2 ?_;rw[h0 rfl]at hk;exact hk
theorem OI:∀{x y:List UInt8} {t:Nat},t≤x.length→t≤y.length→x.take t=y.take t→t≤cm x y
 |_,_,0,_,_,_=>aK _
 | [],_,t+1,h,_,_=>by simp at h
 |_::_,[],t+1,_,h,_=>by simp at h
 |a::x,b::y,t+1,h1,h2,e=>by
  rw[dW,dW]at e;obtain⟨e1,e2⟩:=eg.inj e;have:=OI (x:=x) (y:=y) (t:=t) (by simpa using h1) (by simpa using h2) e2;unfold cm;rw[if_pos e1];omega
def Ox(t:Nat)(p:Pr):Pr:=(p.1.extract t p.1.size,p.2)
theorem Dp(t:Nat)(p:Pr):ky (Ox t p)=(ky p).drop t:=Mx p.1 t
def JJ(B:Nat):Prop:=∀{W:Nat→Prop} {h:ad} {s:SliceV} {l:List Pr},Sl dD 2 No h s l→s.len≤s.cap→Beg l []→(∀p∈l,(ky p).length≤B)→l.length≤100000→(∀y,W y→y<h.size)→∀{K:SliceV→ad→Prop},
 (∀h' s' ks L,OwnS yQ 1 pa (fun y=>h.size≤y) h' s' ks→DxL W h' ks L→Row L l [] []→Upd No h h'→K s' h')→HC PG pf [.slice s.a s.len s.cap] [.c .slice] K h
def se(to:Nat)(l:List Pr):List Pr:=(l.filter fun p=>decide ((ky p).length≠to)).map (Ox to)
theorem Hh{to:Nat}{l:List Pr}{i:Nat}(hi:i<l.length):se to (l.take (i+1))=if(ky l[i]).length=to then se to (l.take i)else se to (l.take i)++ [Ox to l[i]]:=by
 unfold se;rw[aX hi,fa,List.map_append,dV,oQ];by_cases h:(ky l[i]).length=to
 ·rw[if_pos h,if_neg (by simpa using h)];simp
 ·rw[if_neg h,if_pos (by simpa using h)];rfl
theorem Ia{W:Nat→Prop}{B:Nat}(hB:B≤1000000)(hkids:∀B',B'<B→JJ B'){h:ad}{s:SliceV}{l r:List Pr}{f g:Pr}(hs:Sl dD 2 No h s l)(bg:Beg l [])(hlB:∀p∈l,(ky p).length≤B)(hn:l.length≤100000)(hW:∀y,W y→y<h.size)
  (hf:l=f::r)(hg:l.getLast? =some g)(hb:bt 0 f=bt 0 g){K:Option Addr→ad→Prop}
  (hk:∀h' a n,DKid W h' a n→II n→hd n.1=bt 0 f→(∀k v,Il n k v↔Lk l [] k v)→Upd No h h'→K a h'):HC PG rO [.slice s.a s.len s.cap] [.c .ptr] K h:=by
 refine EP s ?_;unfold xB cn nv jm bV aL aF d6 im;have hlen:=hs.len;have hl0:0<l.length:=by rw[hf];simp
 have hfm:f∈l:=by rw[hf];exact au ..
 have hgm:g∈l:=fh hg;obtain⟨a,ha,_,hvf⟩:=hs.at (i:=0) (x:=f) (by rw[hf];rfl);obtain⟨q1,q2,q3,q4,q5⟩:=yo bg ⟨r,hf⟩ hg hb;have hbc:= @Bj l (if(ky f).length=cm (ky f) (ky g)then l.drop 1 else l) [] f g bg ⟨r,hf⟩ hg hb
 have hcg:cm (ky f) (ky g)=cm (ky f) (ky g):=rfl;obtain⟨to,hto⟩:∃to,cm (ky f) (ky g)=to:=⟨_,rfl⟩;rw[hto]at q1 q2 q3 q4 hbc;have hszf:f.1.size=(ky f).length:=(AW f.1).symm;have hfB:=hlB f hfm;have hle:∀p∈l,to≤(ky p).length:=fun p hp=>(q4 p hp).elim (fun e=>e▸q2) Nat.le_of_lt
 have hcm:∀p∈l,to≤cm (ky f) (ky p):=fun p hp=>OI q2 (hle p hp) (q3 p hp).symm
 have hpos:0<to:=by simpa using q1
 refine⟨⟨by decide,by omega⟩,a,ha,_,hvf 0 _ rfl,?_⟩
 refine LoopP.ghost (fun(g:Nat×Nat) (t:Int×Int) h'=>t=((g.2:Int),(g.1:Int))∧g.1≤l.length∧to≤g.2∧g.2≤(ky f).length∧(g.1=l.length→g.2=to)∧Upd No h h') (fun g=>l.length-g.1) (0,(ky f).length) ⟨by rw[hszf];rfl,aK _,q2,ag _,fun e=>by simp only at e;omega,Upd.refl _ _⟩ ?_
 rintro I ⟨i,n⟩ t h' ⟨rfl,hi,hn1,hn2,hn3,hu⟩ hI;simp only at hi hn1 hn2 hn3;refine av (fun hlt=>?_) fun hge=>?_
 ·have hlt:i<l.length:=by have:(i:Int)<(s.len:Int):=hlt;omega
  have hpi:l[i]∈l:=bN hlt;refine Join.intro (fun t h2=>∃n':Nat,t=(n':Int)∧to≤n'∧n'≤(ky f).length∧(i+1=l.length→n'=to)∧Upd No h h2) (fun R hR=>?_) ?_
  ·obtain⟨a',ha',_,hv⟩:=(hs.upd hu fun _ h=>h.elim).at (ae hlt)
   refine⟨⟨by simp only;omega,by simp only;omega⟩,a',ha',_,hv 0 _ rfl,_,hv 1 _ rfl,py (p:=l[i]) fun h2 b2 k2=>?_⟩
   obtain⟨a2,ha2,_,hv2⟩:=((hs.upd hu fun _ h=>h.elim).upd k2 fun _ h=>h.elim).at (i:=0) (x:=f) (by rw[hf];rfl)
   refine⟨⟨by decide,by omega⟩,a2,ha2,_,hv2 0 _ rfl,_,vc b2 0,Ho (by omega) ?_⟩
   have hc1:=hcm _ hpi;have hc2:=(MH (ky f) (ky l[i])).1;have hlast:i+1=l.length→l[i]=g:=fun e=>by
    rw[List.getLast?_eq_getElem?,show l.length-1=i by omega,ae hlt]at hg
    exact bF.inj hg
   change CondP (decide ((cm (ky f) (ky l[i]):Int)<(n:Int))) _ _;refine av (fun hc=>hR _ _ ⟨_,rfl,hc1,hc2,fun e=>?_,hu.tr k2⟩) fun hc=>hR _ _ ⟨n,rfl,hn1,hn2,fun e=>?_,hu.tr k2⟩
   ·rw[hlast e,hto]
   ·rw[hlast e,hto]at hc;omega
  ·rintro t h2 ⟨n',rfl,h1,h2',h3,hu2⟩
   simp only;rw[cl hlt (by omega)];exact hI (i+1,n') _ _ ⟨rfl,hlt,h1,h2',h3,hu2⟩ (by simp only;omega)
 obtain rfl:i=l.length:=by have:¬(i:Int)<(s.len:Int):=hge;omega
 obtain rfl:n=to:=hn3 rfl;clear hn3 hI;obtain⟨a',ha',_,hv⟩:=(hs.upd hu fun _ h=>h.elim).at (i:=0) (x:=f) (by rw[hf];rfl)
 refine⟨⟨by decide,by omega⟩,a',ha',f.1,hv 0 _ rfl,⟨by omega,by simp only;omega⟩,aQ fun h1 b1 k1=>?_⟩
 have u1:=hu.tr k1;have z1:=bw b1;have s0:=hu.size;simp only[aM]at b1⊢;have hlab:(f.1.extract 0 n).data.toList=((ky f).take n).drop ([]:List UInt8).length:=by rw[Mw];rfl
 refine LoopP.ghost (fun(i:Nat) (t:SliceV×Int) h2=>t.2=(i:Int)∧i≤l.length∧h2[h'.size]? =some (.cells #[.string (f.1.extract 0 n),.bool (if 0<i∧(ky f).length=n then some f.2 else none:Option ByteArray).isSome,.string ((if 0<i∧(ky f).length=n then some f.2 else none:Option ByteArray).getD ⟨#[]⟩),.slice none 0 0] md (0,0))∧
  OwnS dD 2 bG (fun y=>h1.size≤y) h2 t.1 (se n (l.take i))∧Upd No h h2∧h1.size≤h2.size) (fun i=>l.length-i) 0 ⟨rfl,aK _,by rw[if_neg (by omega)];exact b1,OwnS.nil fq,u1,ag _⟩ ?_
 rintro I i ⟨so,ti⟩ h2 ⟨e1,hi2,c2,ho,hu2,hz2⟩ hI;simp only at e1 ho;subst e1;refine av (fun hlt=>?_) fun hge=>?_
 ·have hlt:i<l.length:=by have:(i:Int)<(s.len:Int):=hlt;omega
  have hpi:l[i]∈l:=bN hlt;have hrs:=Hh (to:=n) hlt;have hszi:l[i].1.size=(ky l[i]).length:=(AW l[i].1).symm;have hiB:=hlB _ hpi;refine Join.intro (fun t h3=>h3[h'.size]? =some (.cells #[.string (f.1.extract 0 n),.bool (if 0<i+1∧(ky f).length=n then some f.2 else none:Option ByteArray).isSome,.string ((if 0<i+1∧(ky f).length=n then some f.2 else none:Option ByteArray).getD ⟨#[]⟩),.slice none 0 0] md (0,0))∧
   OwnS dD 2 bG (fun y=>h1.size≤y) h3 t (se n (l.take (i+1)))∧Upd No h h3∧h1.size≤h3.size) (fun R hR=>?_) ?_
  ·obtain⟨a3,ha3,_,hv3⟩:=(hs.upd hu2 fun _ h=>h.elim).at (ae hlt)
   refine⟨⟨by simp only;omega,by simp only;omega⟩,a3,ha3,_,hv3 0 _ rfl,_,hv3 1 _ rfl,py (p:=l[i]) fun h3 b3 k3=>⟨_,vc b3 0,?_⟩⟩
   have z3:=bw b3;have s3:=k3.size;have zh2:=bw c2;have c3:=k3.get0 c2;refine CondP.intro (fun ec=>?_) fun ec=>?_
   ·have ec:(ky l[i]).length=n:=by
     have:((l[i].1.size:Nat):Int)=(n:Int):=by simpa using ec
     omega
    have hfi:l[i]=f:=(q4 _ hpi).resolve_right (by omega);rw[if_pos ec]at hrs;refine⟨_,vc b3 1,_,rfl,?_⟩;refine rx (i:=1) c3 (show 1<4 by decide) rfl fun h4 b4 u4=>⟨vc (u4.oth b3 (by omega)) 1,_,rfl,?_⟩
    refine rx (i:=2) b4 (show 2<4 by decide) rfl fun h5 b5 u5=>hR _ _ ⟨?_,?_,((hu2.tr k3).own u4 (by omega)).own u5 (by omega),?_⟩
    ·rw[if_pos (show 0<i+1∧(ky f).length=n from⟨by omega,by rw[←hfi];exact ec⟩),b5,hfi];rfl
    ·rw[hrs]
     exact((ho.upd k3 fun _ _ h=>h).upd u4 fun y hy e=>by have e:y=h'.size:=e;have hy:h1.size≤y:=hy;omega).upd u5 fun y hy e=>by have e:y=h'.size:=e;have hy:h1.size≤y:=hy;omega
    ·have:=u4.size;have:=u5.size;omega
   ·have ec:¬(ky l[i]).length=n:=fun e=>by
     have:¬((l[i].1.size:Nat):Int)=(n:Int):=by simpa using ec
     omega
    rw[if_neg ec]at hrs;have hlei:=hle _ hpi;refine⟨_,vc b3 0,⟨by omega,by omega⟩,_,vc b3 1,aQ fun h4 b4 k4=>⟨vc (k4.get0 b3) 1,vc (k4.get0 b3) 0,_,jo b4,?_⟩⟩
    have s4:=k4.size;have z4:=bw b4;refine AppP.own (M:=fun y=>(h1.size≤y∧y<h2.size)∨h4.size≤y) (ys:= [Ox n l[i]]) (((ho.within.upd k3 fun _ _ h=>h).upd k4 fun _ _ h=>h).more fun y hy=>.inl hy) rfl rfl rfl rfl (by omega) ?_ (.inr (ag _)) fun s5 h5 ho5 hu5=>?_
    ·have:=List.length_filter_le (fun p=>decide ((ky p).length≠n)) (l.take i)
     simp only[se,cg,aw];rw[aD]at this;omega
    have s5':=hu5.size;refine⟨vc (hu5.get (k4.get0 b3) (by omega)) 1,vc (hu5.get (k4.get0 b3) (by omega)) 0,hR _ _ ⟨?_,?_,((hu2.tr k3).tr k4).trans hu5 fun y hy=>.inr (by omega),by omega⟩⟩
    ·have e2:(if 0<i+1∧(ky f).length=n then some f.2 else none:Option ByteArray)=if 0<i∧(ky f).length=n then some f.2 else none:=by
      by_cases h0:0<i
      ·simp[h0]
      ·have:i=0:=by omega
       subst this;have:l[0]=f:=by simp[hf]
       rw[this]at ec;rw[if_neg (fun h=>ec h.2),if_neg (fun h=>ec h.2)]
     rw[e2];exact hu5.get (k4.get0 c3) (by omega)
    ·rw[hrs]
     exact ho5.more fun y hy=>by show h1.size≤y;omega
  ·rintro t h3 ⟨p1,p2,p3,p4⟩
   simp only;rw[cl hlt (by omega)];exact hI (i+1) _ _ ⟨rfl,hlt,p1,p2,p3,p4⟩ (by omega)
 obtain rfl:i=l.length:=by have:¬(i:Int)<(s.len:Int):=hge;omega
 rw[bQ]at ho;have hc0:(0<l.length∧(ky f).length=n)↔(ky f).length=n:=⟨fun h=>h.2,fun h=>⟨hl0,h⟩⟩
 simp only[hc0]at c2;have hrl:se n l=(if(ky f).length=n then l.drop 1 else l).map (Ox n):=by
  unfold se;congr 1
  by_cases e:(ky f).length=n
  ·rw[if_pos e,hf,dV,if_neg (by simpa using e),List.drop_one,List.tail_cons]
   refine gz.2 fun p hp=>?_
   have hpl:p∈l:=by rw[hf];exact aH _ hp
   rcases q4 p hpl with e2|h2
   ·rw[e2]at hp
    exact absurd ((aS.1 (hf▸bg.up)).1 f hp) (dw _)
   ·exact decide_eq_true (by omega)
  ·rw[if_neg e]
   refine gz.2 fun p hp=>?_
   rcases q4 p hp with e2|h2
   ·rw[e2];exact decide_eq_true e
   ·exact decide_eq_true (by omega)
 have hsub:(if(ky f).length=n then l.drop 1 else l).Sublist l:=by
  split
  ·exact nf ..
  ·exact List.Sublist.refl _
 have hlong:∀p∈(if(ky f).length=n then l.drop 1 else l),n<(ky p).length:=fun p hp=>by
  rcases q4 p (hsub.subset hp)with e|h
  ·by_cases e2:(ky f).length=n
   ·rw[if_pos e2,hf,e]at hp
    exact absurd ((aS.1 (hf▸bg.up)).1 f hp) (dw _)
   ·rw[e];omega
  ·exact h
 have hbeg:Beg (se n l) []:=by
  rw[hrl];refine⟨?_,fun p hp=>?_⟩
  ·unfold d9
   rw[List.pairwise_map];refine(bg.up.sublist hsub).imp_of_mem fun{p q} hp hq hlt=>?_
   rw[nR]at hlt⊢;have e1:=q3 p (hsub.subset hp);have e2:=q3 q (hsub.subset hq);change Op.bytesLess (ky (Ox n p)) (ky (Ox n q))=true;change Op.bytesLess (ky p) (ky q)=true at hlt;rw[Dp,Dp];rw[←aA n (ky p),←aA n (ky q),e1,e2,EG]at hlt;exact hlt
  ·obtain⟨q,hq,rfl⟩:=gI.1 hp
   refine⟨rfl,?_⟩;rw[Dp,aV];have:=hlong q hq;simp only[aI];omega
 have hkB:∀p∈se n l,(ky p).length≤B-n:=fun p hp=>by
  rw[hrl]at hp;obtain⟨q,hq,rfl⟩:=gI.1 hp;rw[Dp,aV];have:=hlB q (hsub.subset hq);omega
 have hrn:(se n l).length≤100000:=by
  rw[hrl,cg];exact Nat.le_trans hsub.length_le hn
 have s2:=hu2.size;have zc:=bw c2;refine hkids (B-n) (by omega) (W:=fun y=>W y∨y=h'.size) (ho.sl fun _ _ _ h=>h) ho.cap hbeg hkB hrn (fun y hy=>hy.elim (fun hy=>by have:=hW y hy;omega) fun hy=>by omega) fun h3 s3 ks L ho3 hL3 hrow hu3=>?_
 obtain⟨hcF,hgF⟩:=hrow.done;have hgot:∀k v,y9 (.ofL L) k v↔Lk (if(ky f).length=n then l.drop 1 else l) ((ky f).take n) k v:=fun k v=>by
  rw[hgF,hrl];constructor
  ·rintro⟨p,hp,e2,e3⟩
   obtain⟨q,hq,rfl⟩:=gI.1 hp;rw[Dp,cd]at e2;refine⟨q,hq,?_,e3⟩;rw[←e2,←q3 q (hsub.subset hq),aA]
  ·rintro⟨q,hq,e2,e3⟩
   refine⟨Ox n q,gI.2 ⟨q,hq,rfl⟩,?_,e3⟩;rw[Dp,cd,e2,List.drop_left' (by rw[aD];omega)]
 obtain⟨hcn,hhd,hin⟩:=hbc (F:=.ofL L) hcF rfl hgot rfl hlab;refine⟨_,rfl,?_⟩;refine rx (i:=3) (hu3.get0 c2) (show 3<4 by decide) rfl fun h4 b4 u4=>?_
 refine hk h4 _ (_,_,_) ⟨h'.size,_,rfl,rfl,_,s3,none,ks,b4,rfl,?_,⟨ho3.cap,fun hw=>by have:=hW _ hw;omega⟩,wV.2 ?_⟩ hcn hhd hin ((hu2.tr hu3).own u4 (by omega))
 ·exact(ho3.upd u4 fun y hy e=>by have e:y=h'.size:=e;have hy:h2.size≤y:=hy;omega).sl fun y hy _ hw=>by have:=hW y hw;have hy:h2.size≤y:=hy;omega
 ·rw[Fo.to_of]
  exact(hL3.updM u4 fun y hy=>.inl (.inr hy)).less fun y hy=>.inl (.inl hy)
end Go.Proofs
namespace Go.Proofs
open Go Go.Lift
theorem HO{B:Nat}(hB:B≤1000000)(hkids:∀B',B'<B→JJ B'):JJ B:=by
 intro W h s l hs hcap bg hlB hn hW K hk;refine EO s ?_;unfold xA cn aL;have hlen:=hs.len;refine LoopP.ghost (fun(g:Nat×List (Option Addr)×List Bn×(Nat→Prop)) (t:SliceV×Int) h'=>t.2=(g.1:Int)∧g.1≤l.length∧OwnS yQ 1 pa g.2.2.2 h' t.1 g.2.1∧(∀y,g.2.2.2 y→h.size≤y∧y<h'.size)∧DxL (fun y=>W y∨g.2.2.2 y) h' g.2.1 g.2.2.1∧Row g.2.2.1 (l.take g.1) (l.drop g.1) []∧Upd No h h') (fun g=>l.length-g.1) (0,[],[],fun _=>False)
  ⟨rfl,aK _,OwnS.nil vr,fun y hy=>hy.elim,⟨rfl,fun p hp=>(by cases hp)⟩,Row.nil _ _,Upd.refl _ _⟩ ?_
 rintro I ⟨i,ks,L,Mo⟩ ⟨so,ti⟩ h1 ⟨e1,hi,ho,hMo,hL,hrow,hu⟩ hI;simp only at e1 hi ho hMo hL hrow;subst e1;refine av (fun hlt=>?_) fun hge=>?_
 ·have hlt:i<l.length:=by have:(i:Int)<(s.len:Int):=hlt;omega
  have hs1:=hs.upd hu fun _ h=>h.elim
  have hbt:∀j (hj:j<l.length),0<(ky l[j]).length:=fun j hj=>(bg.at_ _ (bN hj)).2
  obtain⟨bi,hbi,hbie⟩:=EC (hbt i hlt);obtain⟨ai,hai,_,hvi⟩:=hs1.at (ae hlt);refine LoopP.ghost (fun(k:Nat) (t:Int) h2=>t=(k:Int)∧i≤k∧k≤l.length∧h2=h1∧∀j (hj:j<l.length),i≤j→j<k→bt 0 l[j]=bt 0 l[i]) (fun k=>l.length-k) i ⟨rfl,ag _,hi,rfl,fun j hj h1 h2=>by omega⟩ ?_
  rintro I2 k t h2 ⟨rfl,hik,hkl,rfl,hall⟩ hI2;refine Join.intro (fun t h3=>h3=h2∧(t=true→∃hk:k<l.length,bt 0 l[k]=bt 0 l[i])∧(t=false→∀hk:k<l.length,bt 0 l[k]≠bt 0 l[i])) (fun R hR=>?_) ?_
  ·refine av (fun hk1=>?_) fun hk1=>hR _ _ ⟨rfl,fun h=>(by cases h),fun _ hk2=>absurd (show(k:Int)<(s.len:Int) by omega) hk1⟩
   have hk1:k<l.length:=by have:(k:Int)<(s.len:Int):=hk1;omega
   obtain⟨bk,hbk,hbke⟩:=EC (hbt k hk1);obtain⟨ak,hak,_,hvk⟩:=hs1.at (ae hk1);refine⟨⟨by omega,by omega⟩,ak,hak,_,hvk 0 _ rfl,bk,by decide,hbk,⟨by simp only;omega,by simp only;omega⟩,ai,hai,_,hvi 0 _ rfl,bi,by decide,hbi,hR _ _ ⟨rfl,fun h=>⟨hk1,?_⟩,fun h _=>?_⟩⟩
   ·have:(bk.toNat:Int)=(bi.toNat:Int):=by simpa using h
    omega
   ·intro e
    have:¬(bk.toNat:Int)=(bi.toNat:Int):=by simpa using h
    omega
  rintro t h3 ⟨rfl,ht,hf⟩;cases t with
  |true=>
   obtain⟨hk1,e⟩:=ht rfl;refine aB.2 ?_;rw[cl hk1 (by omega)];refine hI2 (k+1) _ _ ⟨rfl,by omega,hk1,rfl,fun j hj h1 h2=>?_⟩ (by omega)
   rcases cf j k with h|h
   ·exact hall j hj h1 h
   ·have:j=k:=by omega
    subst this;exact e
  |false=>
   have hf:=hf rfl;have hik2:i<k:=by
    rcases cf i k with h|h
    ·exact h
    ·have:k=i:=by omega
     subst this;exact absurd rfl (hf hlt)
   refine aj.2 ⟨⟨by omega,by omega⟩,⟨by simp only;omega,by simp only;omega⟩,?_⟩
   simp only[aM];have hsA:=Sl.sub hs1 (l:=i) (hi:=k) (m:=s.cap) (c:=s.cap-i) hik hkl (by omega);have hAB:(l.drop i).take (k-i)++l.drop k=l.drop i:=by
    conv=>rhs;rw[←aA (k-i) (l.drop i)]
    rw[List.drop_drop,show i+(k-i)=k by omega]
   have hDA:l.take i++(l.drop i).take (k-i)=l.take k:=by
    rw[show k=i+(k-i) by omega,List.take_add];congr 2;omega
   have hmemA:∀q∈(l.drop i).take (k-i),bt 0 q=bt 0 l[i]:=fun q hq=>by
    obtain⟨j,hj,e⟩:=List.getElem_of_mem hq;rw[aD,aV]at hj;rw[←e,List.getElem_take,List.getElem_drop];exact hall (i+j) (by omega) (by omega) (by omega)
   have hAc:∃r,(l.drop i).take (k-i)=l[i]::r:=by
    rw[dN hlt,show k-i=(k-i-1)+1 by omega,dW]
    exact⟨_,rfl⟩
   have hsubA:((l.drop i).take (k-i)).Sublist l:=(List.take_sublist _ _).trans (nf _ _);have hBk:∀b B',l.drop k=b::B'→bt 0 b≠bt 0 l[i]:=fun b B' e=>by
    have hk1:k<l.length:=by
     rcases cf k l.length with h|h
     ·exact h
     ·rw[List.drop_eq_nil_of_le h]at e;cases e
    rw[dN hk1]at e;rw[←(eg.inj e).1];exact hf hk1
   have hAl:((l.drop i).take (k-i)).length≤l.length:=hsubA.length_le;generalize (l.drop i).take (k-i)=A at*;obtain⟨r,hAr⟩:=hAc;obtain⟨g,hg⟩:∃g,A.getLast? =some g:=by rw[hAr];exact⟨_,List.getLast?_eq_some_getLast (by simp)⟩
   have s1:=hu.size;refine Ia (W:=fun y=>W y∨Mo y) hB hkids (hsA.less fun _ h=>h.elim) (bg.sub hsubA) (fun q hq=>hlB q (hsubA.subset hq)) (by omega) (fun y hy=>hy.elim (fun hy=>Nat.lt_of_lt_of_le (hW y hy) s1) fun hy=>(hMo y hy).2) hAr hg (hmemA g (fh hg)).symm fun h4 ka n kd hcn hhd hin hu4=>aQ fun h5 b5 k5=>⟨_,jo b5,?_⟩
   have u35:=hu4.tr k5;have z35:=u35.size;have hLn:L.length≤256:=by
    rcases tZ (c:=0) hrow.up fun _ _=>aK _ with e|e
    ·rw[e];simp
    ·omega
   have hkl':=hL.1;refine AppP.own (M:=fun y=>Mo y∨h5.size≤y) (ys:= [ka]) ((ho.upd u35 fun _ _ h=>h).more fun y hy=>.inl hy) rfl rfl rfl rfl (by omega) (by simp only[aw];omega) (.inr (ag _)) fun s6 h6 ho6 hu6=>?_
   have z6:=hu6.size;have hrow':=hrow;rw[←hAB]at hrow';have bgAB:Beg (A++l.drop k) []:=by rw[hAB];exact bg.sub (nf _ _)
   have hmore:=hrow'.more bgAB (p:=l[i]) (by rw[hAr];exact au ..) hmemA hBk hcn hhd hin;rw[hDA]at hmore;refine hI (k,ks++ [ka],L++ [n],fun y=>(Mo y∨h5.size≤y)∧y<h6.size) _ _ ⟨rfl,hkl,ho6.within,fun y hy=>⟨?_,hy.2⟩,?_,hmore,?_⟩ (by simp only;omega)
   ·rcases hy.1 with h|h
    ·exact(hMo y h).1
    ·omega
   ·have hl:∀b,(W b∨((Mo b∨h5.size≤b)∧b<h6.size))→(W b∨Mo b)∨h5.size≤b:=fun b hb=>by
     rcases hb with h|⟨h|h,_⟩
     ·exact .inl (.inl h)
     ·exact .inl (.inr h)
     ·exact .inr h
    have hm:∀b,(Mo b∨h5.size≤b)→(W b∨((Mo b∨h5.size≤b)∧b<h6.size))∨h5.size≤b:=fun b hb=>by
     rcases hb with h|h
     ·exact .inl (.inr ⟨.inl h,by have:=(hMo b h).2;omega⟩)
     ·exact .inr h
    exact(((hL.upd0 u35).app (DxL.one (kd.upd0 k5))).less hl).updM hu6 hm
   ·exact(hu.tr u35).trans hu6 fun y hy=>.inr (by
     rcases hy with h|h
     ·exact(hMo y h).1
     ·omega)
 ·obtain rfl:i=l.length:=by have:¬(i:Int)<(s.len:Int):=hge;omega
  rw[bQ,List.drop_length]at hrow;exact hk h1 _ ks L (ho.more fun y hy=>(hMo y hy).1) (hL.less fun y hy=>.inl (.inl hy)) hrow hu
theorem Mj(B:Nat):B≤1000000→JJ B:=by
 induction B using Nat.strongRecOn with
 |_ B ih=>exact fun hB=>HO hB fun B' h=>ih B' h (by omega)
theorem NI{h:ad}{s:SliceV}{l:List Pr}(hs:Sl dD 2 No h s l)(hcap:s.len≤s.cap)(hr:d9 l)(hn:l.length≤60000)(hB:∀p∈l,(ky p).length≤1000000){K:Option Addr→ad→Prop}
  (hk:∀h' b w F,DxN No h' b ⟨#[]⟩ w F→jA F→lv w F=Al l→Upd No h h'→K (some ⟨b,0,none⟩) h'):HC PG A5 [.slice s.a s.len s.cap] [.c .ptr] K h:=by
 refine MY s ?_;unfold GE cn aL d6 PF;have hlen:=hs.len;refine aQ fun h1 b1 k1=>?_
 have z1:=bw b1;have hs1:=hs.upd k1 fun _ h=>h.elim
 refine Join.intro (fun(t:SliceV) h2=>∃(w:Option ByteArray) (l':List Pr),h2[h.size]? =some (.cells #[.string ⟨#[]⟩,.bool w.isSome,.string (w.getD ⟨#[]⟩),.slice none 0 0] md (0,0))∧Sl dD 2 No h2 t l'∧t.len≤t.cap∧Beg l' []∧l'.length≤l.length∧(∀p∈l',p∈l)∧(∀k v,((k= []∧w=some v)∨Lk l' [] k v)↔∃p∈l,p.1.data.toList=k∧p.2=v)∧Upd No h h2) (fun R hR=>?_) ?_
 ·refine Join.plain ?_
  rcases l with _|⟨p,r⟩
  ·refine av (fun hgt=>?_) fun _=>aj.2 (hR _ _ ⟨none,[],b1,hs1,hcap,⟨gk,fun p hp=>(by cases hp)⟩,ag _,fun _ h=>h,fun k v=>⟨?_,?_⟩,k1⟩)
   ·simp only[aI]at hlen;omega
   ·rintro(⟨_,h⟩|⟨q,hq,_⟩)
    ·cases h
    ·cases hq
   ·rintro⟨q,hq,_⟩;cases hq
  ·simp only[ap]at hlen
   obtain⟨a,ha,_,hv⟩:=hs1.at (i:=0) (x:=p) rfl;refine av (fun _=>⟨⟨by decide,by omega⟩,a,ha,_,hv 0 _ rfl,?_⟩) fun hle=>absurd (show(s.len:Int)>0 by omega) hle
   have hrc:=aS.1 hr;have hpos:∀q∈r,0<(ky q).length:=fun q hq=>by
    have h1:=nR.1 (hrc.1 q hq);refine gw.2 fun e2=>?_
    change Op.bytesLess (ky p) (ky q)=true at h1;rw[e2,Bk]at h1;cases h1
   rw[w8];by_cases e0:p.1=⟨#[]⟩
   ·have ek:ky p= []:=by unfold ky;rw[e0]
    rw[decide_eq_true e0];refine aB.2 ⟨⟨by decide,by omega⟩,a,ha,_,hv 1 _ rfl,_,rfl,?_⟩
    refine rx (i:=1) b1 (show 1<4 by decide) rfl fun h2 b2 u2=>⟨_,rfl,?_⟩
    refine rx (i:=2) b2 (show 2<4 by decide) rfl fun h3 b3 u3=>⟨⟨by decide,by omega⟩,hR _ _ ⟨some p.2,r,b3,?_,by simp only;omega,⟨hrc.2,fun q hq=>⟨rfl,hpos q hq⟩⟩,by simp,fun q hq=>aH _ hq,fun k v=>?_,(k1.own u2 (ag _)).own u3 (ag _)⟩⟩
    ·have u13:Upd (fun y=>y=h.size) h1 h3:=u2.tr u3
     have:=Sl.sub ((((hs.less (W':=fun y=>y=h.size) fun y hy=>.inr (by omega)).upd k1 fun _ h=>h.elim).upd u13 fun y hy=>.inl hy)) (l:=1) (hi:=(p::r).length) (m:=s.cap) (c:=s.cap-1) (by simp) (ag _) (by simp only[ap];omega)
     rw[List.drop_one,List.tail_cons,List.take_of_length_le (by simp)]at this;have e2:(p::r).length-1=s.len-1:=by simp only[ap];omega
     rw[e2]at this;exact this.less fun _ h=>h.elim
    ·constructor
     ·rintro(⟨rfl,h⟩|⟨q,hq,h1,h2⟩)
      ·exact⟨p,au ..,ek,bF.inj h⟩
      ·exact⟨q,aH _ hq,h1,h2⟩
     ·rintro⟨q,hq,h1,h2⟩
      rcases az.1 hq with rfl|hq
      ·exact .inl ⟨by rw[←h1];exact ek,by rw[h2]⟩
      ·exact .inr ⟨q,hq,h1,h2⟩
   ·rw[decide_eq_false e0]
    have hpp:0<(ky p).length:=gw.2 fun e=>e0 (vO.1 e)
    refine aj.2 (hR _ _ ⟨none,p::r,b1,hs1,hcap,⟨hr,fun q hq=>⟨rfl,?_⟩⟩,ag _,fun _ h=>h,fun k v=>?_,k1⟩)
    ·rcases az.1 hq with rfl|hq
     ·exact hpp
     ·exact hpos q hq
    ·constructor
     ·rintro(⟨_,h⟩|⟨q,hq,h1,h2⟩)
      ·cases h
      ·exact⟨q,hq,h1,h2⟩
     ·rintro⟨q,hq,h1,h2⟩
      exact .inr ⟨q,hq,h1,h2⟩
 rintro t h2 ⟨w,l',b2,hs2,hc2,hbg,hll,hsub,hiff,u2⟩;have z2:=bw b2;refine Mj 1000000 (ag _) (W:=fun y=>y=h.size) hs2 hc2 hbg (fun p hp=>hB p (hsub p hp)) (by omega) (fun y hy=>by omega) fun h3 s3 ks L ho3 hL3 hrow u3=>⟨_,rfl,?_⟩
 obtain⟨hcF,hgF⟩:=hrow.done;refine rx (i:=3) (u3.get0 b2) (show 3<4 by decide) rfl fun h4 b4 u4=>?_
 refine hk h4 h.size w (.ofL L) ⟨_,s3,none,ks,b4,rfl,?_,⟨ho3.cap,id⟩,wV.2 ?_⟩ hcF (zO hcF hr fun k v=>?_) ((u2.tr u3).own u4 (ag _))
 ·exact(ho3.upd u4 fun y hy e=>by have e:y=h.size:=e;have hy:h2.size≤y:=hy;omega).sl fun _ _ _ h=>h
 ·rw[Fo.to_of]
  exact(hL3.updM u4 fun y hy=>.inl hy).less fun _ h=>h.elim
 ·rw[od]
  unfold Gn;rw[hgF,hiff]
def Pz(n:Bn):Prop:=∀{h:ad} {b:Nat} {sl:ByteArray},DxN No h b sl n.2.1 n.2.2→sl.data.toList=n.1→(gm n).length≤140737488355328→∀{K:SliceV→ad→Prop},(∀s' h',OwnS l8 1 ci (fun y=>h.size≤y) h' s' (gm n)→Upd No h h'→K s' h')→
 HC PG qh [.pointer (some ⟨b,0,none⟩)] [.c .slice] K h
theorem Jw{lab:List UInt8}{w:Option ByteArray}{kids:Fo}(hl:lab.length≤10000)(hw:∀v,w=some v→v.size≤10000)(hk256:kids.toL.length≤256)(ih:∀m∈kids.toL,Pz m):Pz (lab,w,kids):=by
 intro h b sl r hsl hx K hk;simp only at r hsl;have hsle:(⟨lab.toArray⟩:ByteArray)=sl:=by rw[←hsl]
 have hsz:sl.size=lab.length:=by rw[←hsl];simp
 obtain⟨val,s,ow,ks,hb,hv,hs,hcap,hF⟩:=r;have hL:=wV.1 hF;have hlen:=hs.len;rw[hL.1]at hlen;have ex:gm (lab,w,kids)=lF sl++qF w++kB kids.toL.length 2++kids.toL.flatMap gm:=by
  show oW lab w kids.toL.length++mf kids=_
  rw[sM];unfold oW;rw[hsle];simp only[ao]
 rw[ex]at hx hk;simp only[ac]at hx;have g:∀{h':ad} {i:Nat},Upd No h h'→aO h' (adr ⟨b,0,none⟩ i)=(Qy sl w.isSome val s ow)[i]?:=fun k=>vc (k.get0 hb) _
 have r0:=Upd.refl No h;refine Gu (some ⟨b,0,none⟩) ?_;unfold zj bR cn aL hH bU;refine⟨_,rfl,sl,g (i:=0) r0,wz (by omega) fun s1 h1 ho1 k1=>?_⟩
 refine Join.intro (fun t h2=>OwnS l8 1 ci (fun y=>h.size≤y) h2 t (lF sl++qF w)∧Upd No h h2) (fun R hR=>?_) ?_
 ·refine⟨_,rfl,w.isSome,g (i:=1) k1,?_⟩
  have s1':=k1.size;cases w with
  |none=>
   refine aj.2 (aQ fun h2 b2 k2=>⟨_,jo b2,?_⟩)
   have s2:=k2.size;refine AppP.own (ys:= [(0:UInt8)]) (ho1.upd k2 fun _ _ h=>h) rfl rfl rfl rfl (by omega) (by simp only[aw];simp only[qF,aw]at hx;omega) (by show h.size≤h2.size;omega) fun s3 h3 ho3 hu3=>?_
   exact hR _ _ ⟨ho3,(k1.tr k2).trans hu3 fun y hy=>.inr hy⟩
  |some v=>
   have hvs:=hw v rfl;have hv':val=v:=hv;subst hv';refine aB.2 ⟨_,rfl,_,g (i:=2) k1,aQ fun h2 b2 k2=>⟨g (i:=2) (k1.tr k2),_,jo b2,?_⟩⟩
   have s2:=k2.size;have hvl:(qF (some val)).length=1+(lF val).length:=by unfold qF;simp;omega
   rw[hvl]at hx;refine AppP.own (ys:= [(1:UInt8)]) (ho1.upd k2 fun _ _ h=>h) rfl rfl rfl rfl (by omega) (by simp only[aw];omega) (by show h.size≤h2.size;omega) fun s3 h3 ho3 hu3=>?_
   have u3:Upd No h h3:=(k1.tr k2).trans hu3 fun y hy=>.inr hy
   refine⟨g (i:=2) u3,wz (by omega) fun s4 h4 ho4 k4=>?_⟩
   have s3':=u3.size;have s4':=k4.size;refine tH (ho3.upd k4 fun _ _ h=>h) (ho4.sl (W:=No) fun _ _ _ h=>h) (fun y hy=>by show h.size≤y;omega) (by rw[ac,aw];omega) fun s5 h5 ho5 hu5=>?_
   refine hR _ _ ⟨?_,(u3.tr k4).trans hu5 fun y hy=>.inr hy⟩
   have e:lF sl++qF (some val)=lF sl++ [1]++lF val:=by unfold qF;simp
   rw[e];exact ho5
 rintro t2 h2 ⟨ho2,u2⟩;refine Join.intro (fun t h3=>OwnS l8 1 ci (fun y=>h.size≤y) h3 t (lF sl++qF w++kB kids.toL.length 2)∧Upd No h h3) (fun R hR=>?_) ?_
 ·refine⟨_,rfl,s,g (i:=3) u2,?_⟩
  rw[hlen];refine zP (by omega) fun s3 h3 ho3 k3=>?_
  have s2':=u2.size;have s3':=k3.size;refine tH (ho2.upd k3 fun _ _ h=>h) (ho3.sl (W:=No) fun _ _ _ h=>h) (fun y hy=>by show h.size≤y;omega) (by rw[ac];omega) fun s4 h4 ho4 hu4=>?_
  exact hR _ _ ⟨ho4,(u2.tr k3).trans hu4 fun y hy=>.inr hy⟩
 rintro t3 h3 ⟨ho3,u3⟩;refine⟨_,rfl,s,g (i:=3) u3,?_⟩;refine LoopP.ghost (fun(i:Nat) (t:SliceV×Int) h'=>t.2=(i:Int)∧i≤kids.toL.length∧OwnS l8 1 ci (fun y=>h.size≤y) h' t.1 (lF sl++qF w++kB kids.toL.length 2++(kids.toL.take i).flatMap gm)∧Upd No h h') (fun i=>kids.toL.length-i) 0 ⟨rfl,aK _,by simpa using ho3,u3⟩ ?_
 rintro I i ⟨so,ti⟩ h' ⟨e1,hi,ho,hu⟩ hI;simp only at e1 ho;subst e1;refine av (fun hlt=>?_) fun hge=>?_
 ·have hlt:i<kids.toL.length:=by have:(i:Int)<(s.len:Int):=hlt;omega
  refine Join.plain ?_;obtain⟨kb,ksl,hki,hkl,hkn⟩:=(hL.upd0 hu).at hlt;obtain⟨a,ha,_,hv'⟩:=(hs.upd hu fun _ h=>h.elim).at0 hki
  have hsplit:((kids.toL.take i).flatMap gm).length+(gm kids.toL[i]).length≤(kids.toL.flatMap gm).length:=by
   have e:kids.toL=kids.toL.take i++kids.toL[i]::kids.toL.drop (i+1):=by rw[List.getElem_cons_drop,aA]
   have:=congrArg (fun L=>(List.flatMap gm L).length) e
   simp only[bC,aN,ac]at this;omega
  refine⟨⟨by simp only;omega,by simp only;omega⟩,a,ha,_,hv',ih _ (bN hlt) hkn hkl (by omega) fun s4 h4 ho4 k4=>?_⟩
  have s3':=hu.size;have s4':=k4.size;refine tH (ho.upd k4 fun _ _ h=>h) (ho4.sl (W:=No) fun _ _ _ h=>h) (fun y hy=>by show h.size≤y;omega) (by simp only[ac];omega) fun s5 h5 ho5 hu5=>?_
  simp only;rw[cl hlt (by omega)];refine hI (i+1) _ _ ⟨rfl,hlt,?_,(hu.tr k4).trans hu5 fun y hy=>.inr hy⟩ (by omega)
  rw[aX hlt,bC,aN,List.flatMap_nil,aE,←ao];exact ho5
 ·obtain rfl:i=kids.toL.length:=by have:¬(i:Int)<(s.len:Int):=hge;omega
  rw[bQ]at ho;exact hk _ _ ho hu
theorem A9:∀{F:Fo},EY F→∀n∈F.toL,Pz n
 | .nil,_,n,hn=>by simp[Fo.toL]at hn
 | .cons lab w kids rest,h,n,hn=>by
  rcases az.1 hn with rfl|hn
  ·exact Jw h.1 h.2.1 h.2.2.1 (A9 h.2.2.2.1)
  ·exact A9 h.2.2.2.2 n hn
end Go.Proofs
