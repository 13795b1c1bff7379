/- A part of the proof that the named laws of this program answer true, whatever the input. -/
import Derived.Test.YtncppacbfagpgaaGreatDoorPart12
import Derived.Test.YtncppacbfagpgaaGreatDoorPart4
import Derived.Test.YtncppacbfagpgaaGreatDoorPart3
import Derived.Test.YtncppacbfagpgaaGreatDoorPart9
open Int renaming tdiv→gj,tdiv_eq_ediv_of_nonneg→dB,toNat_natCast→aR
open List renaming getElem?_toArray→gR,getElem?_eq_getElem→ae,filter_eq_self→gK,range→gg,map_append→du,length_append→ac,length_map→dw,length_range→tq,length_singleton→aE,filter_append→gi,filter_cons→bW,filter_nil→nY,append_nil→aL,length_take→aI,take_succ_eq_append_getElem→aV,take_length→bT,getElem_mem→bw,replicate→iP,append_assoc→ar,zip_cons_cons→lH,mem_cons→aB,mem_cons_self→av,mem_cons_of_mem→aC,take_succ_cons→eA,cons→fi,mem_of_getLast?→gh,drop_one→uE,tail_cons→th,pairwise_cons→aA,drop_sublist→tC,take_append_drop→aK,mem_map→gA,length_drop→aU,length_nil→aJ,nil_append→cz,drop_eq_getElem_cons→eH,length_cons→al,length_pos_iff→fL,flatMap_append→bR,flatMap_cons→aP
open List.Pairwise renaming nil→fT
open Nat renaming zero_add→aQ,zero_le→aS,add_zero→eN,lt_or_ge→bZ,le_refl→aj,not_lt_zero→lU,shiftRight_eq_div_pow→cL,shiftRight_le→ko
open Option renaming some→bQ
namespace Go.Proofs
open Go Go.Lift
abbrev abg(n:Nat):List Value:= [.int .i64 (n:Int)]
theorem abR(n:Nat):(abg n).length=1∧0<1:=⟨rfl,by omega⟩
theorem FK{h:ad}{b:Nat}{c:Array Value}{t:TypeId}(a:h[b]? =some (.cells c t (0,0))):aO h ⟨b,0,none⟩=c[0]?:=bF a
theorem II{h:ad}{b:Nat}{c c':Array Value}{t:TypeId}{v:Value}{k:ad→Prop}(d:h[b]? =some (.cells c t (0,0))) (hi:0<c.size) (e:c.setIfInBounds 0 v=c') (f:∀h',h'[b]? =some (.cells c' t (0,0))→Upd (· =b) h h'→k h'):Wr h ⟨b,0,none⟩∧At (hset h ⟨b,0,none⟩ v) k:=
 ⟨iw d hi,wK d fun h' a g=>f h' (e▸a) g⟩
theorem nf{h:ad}{b:Nat}{cs:List Value}{t:TypeId}(a:h[b]? =some (.cells cs.toArray t (0,0))):SRow h (some ⟨b,0,none⟩) cs.length cs:=
 ⟨rfl,.inr ⟨_,rfl,pI a fun i v hv=>by rw[aQ,gR];exact hv⟩⟩
theorem JG{W:Nat→Prop}{x:Hs}{k:ByteArray}{h:ad}{s:SliceV}{way:List Nat}(e:Sl abg 1 W h s way)(n:way.length≤13)(f:∀i c,way[i]? =some c→ck x i k=c) {K:Bool→ad→Prop} (j:K true h):HC PG qz [.int .u64 (eP x k),.slice s.a s.len s.cap] [.c .bool] K h:=by
 refine LR (eP x k) s ?_;unfold CE bE bX od;have d:=e.len;refine LoopP.ghost (fun(i:Nat) (t:Int) h'=>t=(i:Int)∧i≤way.length∧h'=h) (fun i=>way.length-i) 0 ⟨rfl,aS _,rfl⟩ ?_
 rintro I i t h' ⟨rfl,hi,rfl⟩ m;refine ax (fun b=>?_) fun _=>j
 have b:i<way.length:=by omega
 obtain⟨a,g,_,hv⟩:=e.at0 (ae b);refine⟨⟨by omega,by omega⟩,a,g,_,hv,TM (x:=x) (k:=k) (lev:=i) (by omega) ?_⟩
 rw[f i _ (ae b),bne_self_eq_false];refine ag.2 ?_;rw[db b (by omega)];exact m (i+1) _ _ ⟨rfl,b,rfl⟩ (by omega)
theorem WF{W:Nat→Prop}{h:ad}{s:SliceV}{l:List Pr}(e:Sl eu 2 W h s l)(g:bS l)(p:l.length≤1000000){K:Bool→ad→Prop}(m:K true h):HC PG zH [.slice s.a s.len s.cap] [.c .bool] K h:=by
 refine Ph s ?_;unfold Fx bE bX ay;have f:=e.len;refine LoopP.ghost (fun(i:Nat) (t:Int) h'=>t=((i+1:Nat):Int)∧h'=h) (fun i=>l.length-i) 0 ⟨rfl,rfl⟩ ?_
 rintro I i t h' ⟨rfl,rfl⟩ o;refine ax (fun b=>?_) fun _=>m
 have b:i+1<l.length:=by omega
 have k:IntKind.wrap .i64 (((i+1:Nat):Int)-1)=(i:Int):=by rw[dI (by omega)];omega
 rw[k];obtain⟨a,j,_,hv⟩:=e.at (ae (show i<l.length by omega))
 obtain⟨a',d,_,c⟩:=e.at (ae b);refine⟨⟨by omega,by omega⟩,a,j,_,hv 0 _ rfl,⟨by omega,by omega⟩,a',d,_,c 0 _ rfl,?_⟩
 have:=List.pairwise_iff_getElem.1 g i (i+1) (by omega) b (by omega);have n:Op.bytesLess l[i].1.toList l[i+1].1.toList=true:=this;rw[n];refine ag.2 ?_;rw[db b (by omega)];exact o (i+1) _ _ ⟨rfl,rfl⟩ (by omega)
theorem V3(x:Hs)(lev:Nat)(l:List Pr):(ix x lev l).length+(mA x lev l).flatten.length=l.length:=by
 have h:=yy x lev l 32;have d:(l.filter fun p=>decide (ck x lev p.1<32))=l:=gK.2 fun p _=>decide_eq_true (Af ..)
 rw[d]at h;have:∀n,(fm (fun c=>kz (part x lev c l)) n).length+(fm (fun c=>fY (part x lev c l)) n).flatten.length=((gg n).map fun c=>(part x lev c l).length).sum:=by
  intro n;induction n with
  |zero=>simp[fm]
  |succ n ih=>
   rw[jP,jP,List.range_succ,du,List.sum_append];simp only[ac,List.flatten_append,List.map_cons,List.map_nil,List.sum_cons,List.sum_nil,eN];generalize part x lev n l=q;have:(kz q).toList.length+(fY q).toList.flatten.length=q.length:=by
    match q with
    | []=>simp[kz,fY]
    | [a]=>simp[kz,fY]
    |a::b::q=>simp[kz,fY]
   omega
 have:=this 32;unfold ix mA;omega
theorem OE{β:Type}{g:Nat→Option β}{k:Nat}:∀{c:Nat},k≤c→(∀j,k≤j→j<c→g j=none)→fm g c=fm g k
 |0,h,_=>by rw[show k=0 by omega]
 |c+1,h,hn=>by
  rcases bZ k (c+1)with a|a
  ·rw[jP,hn c (by omega) (by omega),OE (by omega) fun j b h2=>hn j b (by omega)];simp
  ·rw[show k=c+1 by omega]
end Go.Proofs
namespace Go.Proofs
open Go Go.Lift
def To(q:List Pr):Int:=if q.length=1 then 1 else if 2≤q.length then 2 else 0
def dF(a:Bool)(s:SliceV)(q:Nat→List Pr)(kk:Nat→Option Addr)(i:Nat):Value:=
 if i=0 then .bool a else if i=1 then sv s else if i<34 then .int .i64 (To (q (i-2)))else if i<98 then(if i%2=0 then .string (Gd (kz (q ((i-34)/2)))).1 else .string (Gd (kz (q ((i-34)/2)))).2)else .pointer (kk (i-98))
def dC(f:Nat→Value):List Value:=(gg 130).map f
theorem Kd{f:Nat→Value}{i:Nat}(h:i<130):(dC f).toArray[i]? =some (f i):=by
 unfold dC;simp[h]
theorem VB(f:Nat→Value):(dC f).toArray.size=130:=by simp[dC]
theorem ab4{f:Nat→Value}{i:Nat}{v:Value}:(dC f).toArray.setIfInBounds i v=(dC fun j=>if j=i then v else f j).toArray:=by
 unfold dC;apply Array.ext_getElem?;intro j;rw[Array.getElem?_setIfInBounds];simp only[gR,List.getElem?_map,List.size_toArray,dw,tq];by_cases e:i=j
 ·subst e
  by_cases h:i<130
  ·simp[h]
  ·simp[h]
 ·rw[if_neg e]
  by_cases h:j<130
  ·rw[List.getElem?_range h];simp only[Option.map_some];rw[if_neg fun a:j=i=>e a.symm]
  ·rw[List.getElem?_eq_none (by rw[tq];omega)];rfl
theorem OQ{f g:Nat→Value}(h:∀i,i<130→f i=g i):(dC f).toArray=(dC g).toArray:=by
 unfold dC;rw[List.map_congr_left fun i hi=>h i (List.mem_range.1 hi)]
def DTrie(W:Nat→Prop)(x:Hs)(h:ad):Nat→Nat→List Pr→Prop
 |0,b,l=>¬W b∧∃s,h[b]? =some (.cells (dC (dF true s (fun _=> []) fun _=>none)).toArray kw (0,0))∧Sl eu 2 W h s l
 |m+1,b,l=>¬W b∧∃kk,h[b]? =some (.cells (dC (dF false ⟨none,0,0⟩ (fun c=>part x (12-m) c l) kk)).toArray kw (0,0))∧∀c,c<32→2≤(part x (12-m) c l).length→∃kb,kk c=some ⟨kb,0,none⟩∧DTrie W x h m kb (part x (12-m) c l)
theorem DTrie.upd{W M:Nat→Prop}{x:Hs}{h h':ad}(k:Upd M h h')(hm:∀b,M b→W b∨h.size≤b):∀{m b:Nat} {l:List Pr},DTrie W x h m b l→DTrie W x h' m b l
 |0,b,_,⟨nw,s,h1,h2⟩=>⟨nw,s,k.get h1 fun a=>(hm b a).elim nw fun h=>by have:=bC h1;omega,h2.upd k hm⟩
 |_+1,b,_,⟨nw,kk,h1,h2⟩=>⟨nw,kk,k.get h1 fun a=>(hm b a).elim nw fun h=>by have:=bC h1;omega,fun c hc e=>let⟨g,f,d⟩:=h2 c hc e;⟨g,f,DTrie.upd k hm d⟩⟩
theorem DTrie.less{W W':Nat→Prop}{x:Hs}{h:ad}(hm:∀b,W' b→W b):∀{m b:Nat} {l:List Pr},DTrie W x h m b l→DTrie W' x h m b l
 |0,b,_,⟨nw,s,h1,h2⟩=>⟨fun a=>nw (hm b a),s,h1,h2.less fun b a=>.inl (hm b a)⟩
 |_+1,b,_,⟨nw,kk,h1,h2⟩=>⟨fun a=>nw (hm b a),kk,h1,fun c hc e=>let⟨g,f,d⟩:=h2 c hc e;⟨g,f,DTrie.less hm d⟩⟩
abbrev acj(x:Hs)(p:Pr):List Value:= [.int .u64 (eP x p.1)]
theorem YQ(x:Hs)(p:Pr):(acj x p).length=1∧0<1:=⟨rfl,by omega⟩
def TwoS(x:Hs)(n0 a:Nat)(h:ad)(so c:SliceV)(L L':List Pr):Prop:=
 ∃A B:Nat→Prop,OwnS eu 2 cj A h so L∧OwnS (acj x) 1 rW B h c L'∧(∀b,A b→n0≤b∧b<a∧¬B b)∧∀b,B b→n0≤b∧b<a
theorem TwoS.upd0{x:Hs}{n0 a:Nat}{h h':ad}{so b:SliceV}{L L':List Pr}(t:TwoS x n0 a h so b L L')(k:Upd No h h'):TwoS x n0 a h' so b L L':=by
 obtain⟨A,B,c,h2,e,d⟩:=t;exact⟨A,B,c.upd k fun _ _ h=>h,h2.upd k fun _ _ h=>h,e,d⟩
theorem ace{x:Hs}{n0 e:Nat}{h:ad}{so i:SliceV}{L L':List Pr}{p:Pr}(t:TwoS x n0 e h so i L L')(q:n0≤e)(k:e≤h.size)(o:L.length≤1000000){xs:List Value}(hx:xs=eu p){K:SliceV→ad→Prop}
  (n:∀s' h',TwoS x n0 h'.size h' s' i (L++ [p]) L'→Upd (fun b=>(n0≤b∧b<e)∨h.size≤b) h h'→K s' h'):AppP (some [.string (⟨#[]⟩:ByteArray),.string (⟨#[]⟩:ByteArray)]) 2 32 cj so.a so.len so.cap 1 xs h K:=by
 subst hx;obtain⟨A,B,j,h2,c,d⟩:=t;refine AppP.own (ys:= [p]) (j.more (M':=fun b=>A b∨h.size≤b) fun _ h=>.inl h) rfl rfl rfl rfl (by omega) (by simp only[aE];omega) (.inr (aj _)) fun s' h' m f=>?_
 have s:=f.size;refine n s' h' ⟨_,B,m.within,h2.upd f fun b a hm=>hm.elim (fun hm=>(c b hm).2.2 a) fun hm=>by have:=(d b a).2;omega,fun b a=>⟨?_,a.2,fun g=>?_⟩,fun b a=>⟨(d b a).1,by have:=(d b a).2;omega⟩⟩ (f.mono fun b a=>a.elim (fun a=>.inl (.inl ⟨(c b a).1,(c b a).2.1⟩)) .inr)
 ·rcases a.1 with a|a
  ·exact(c b a).1
  ·omega
 ·rcases a.1 with a|a
  ·exact(c b a).2.2 g
  ·have:=(d b g).2;omega
theorem appB{x:Hs}{n0 e:Nat}{h:ad}{so f:SliceV}{L L':List Pr}{p:Pr}(t:TwoS x n0 e h so f L L')(q:n0≤e)(k:e≤h.size)(o:L'.length≤1000000){xs:List Value}(hx:xs=acj x p){K:SliceV→ad→Prop}
  (n:∀s' h',TwoS x n0 h'.size h' so s' L (L'++ [p])→Upd (fun b=>(n0≤b∧b<e)∨h.size≤b) h h'→K s' h'):AppP (some [.int .u64 0]) 1 8 rW f.a f.len f.cap 1 xs h K:=by
 subst hx;obtain⟨A,B,j,h2,c,i⟩:=t;refine AppP.own (ys:= [p]) (h2.more (M':=fun b=>B b∨h.size≤b) fun _ h=>.inl h) rfl rfl rfl rfl (by omega) (by simp only[aE];omega) (.inr (aj _)) fun s' h' m g=>?_
 have s:=g.size;refine n s' h' ⟨A,_,j.upd g fun b a hm=>hm.elim (fun hm=>(c b a).2.2 hm) fun hm=>by have:=(c b a).2.1;omega,m.within,fun b a=>⟨(c b a).1,by have:=(c b a).2.1;omega,fun d=>?_⟩,fun b a=>⟨?_,a.2⟩⟩ (g.mono fun b a=>a.elim (fun a=>.inl (.inl (i b a))) .inr)
 ·rcases d.1 with d|d
  ·exact(c b a).2.2 d
  ·have:=(c b a).2.1;omega
 ·rcases a.1 with a|a
  ·exact(i b a).1
  ·omega
theorem WB{x:Hs}{lev c:Nat}{l:List Pr}{p:Pr}:part x lev c (l++ [p])=if ck x lev p.1=c then part x lev c l++ [p]else part x lev c l:=by
 unfold part;rw[gi,bW,nY];by_cases h:ck x lev p.1=c
 ·rw[if_pos h,if_pos (decide_eq_true h)]
 ·rw[if_neg h,if_neg (by simpa using h),aL]
abbrev CX(x:Hs)(lev:Nat)(l:List Pr)(n:Nat)(c:Nat):List Pr:=if c<n then part x lev c l else[]
theorem NZ{x:Hs}{lev n c:Nat}{l:List Pr}(h:c≠n):CX x lev l (n+1) c=CX x lev l n c:=by
 unfold CX;by_cases hc:c<n
 ·rw[if_pos hc,if_pos (by omega)]
 ·rw[if_neg hc,if_neg (by omega)]
theorem N0{x:Hs}{lev n:Nat}{l:List Pr}:CX x lev l (n+1) n=part x lev n l:=if_pos (by omega)
theorem NY{x:Hs}{lev n:Nat}{l:List Pr}:CX x lev l n n= []:=if_neg (by omega)
structure DOf(W:Nat→Prop)(x:Hs)(lev m:Nat)(h0 h:ad)(l:List Pr)(n:Nat)(kk:Nat→Option Addr):Prop where
 blk:h[h0.size]? =some (.cells (dC (dF false ⟨none,0,0⟩ (CX x lev l n) kk)).toArray kw (0,0))
 upd:Upd No h0 h
 kid:∀c,c<n→2≤(part x lev c l).length→∃kb,kk c=some ⟨kb,0,none⟩∧DTrie (fun y=>W y∨y=h0.size) x h m kb (part x lev c l)
theorem acW{c:Bool}{s:SliceV}{q q':Nat→List Pr}{kk b:Nat→Option Addr}{i:Nat}(h:i<2):dF c s q kk i=dF c s q' b i:=by
 unfold dF;by_cases a:i=0
 ·rw[if_pos a,if_pos a]
 ·rw[if_neg a,if_neg a,if_pos (by omega),if_pos (by omega)]
section
variable {bu:Bool} {s:SliceV} {q q':Nat→List Pr} {kk kk':Nat→Option Addr} {i:Nat}
theorem VA(h:2≤i)(h':i<34):dF bu s q kk i=.int .i64 (To (q (i-2))):=by
 unfold dF;rw[if_neg (by omega),if_neg (by omega),if_pos h']
theorem Rb(h:34≤i)(h':i<98)(e:i%2=0):dF bu s q kk i=.string (Gd (kz (q ((i-34)/2)))).1:=by
 unfold dF;rw[if_neg (by omega),if_neg (by omega),if_neg (by omega),if_pos h',if_pos e]
theorem Q9(h:34≤i)(h':i<98)(e:¬i%2=0):dF bu s q kk i=.string (Gd (kz (q ((i-34)/2)))).2:=by
 unfold dF;rw[if_neg (by omega),if_neg (by omega),if_neg (by omega),if_pos h',if_neg e]
theorem Ra(h:98≤i):dF bu s q kk i=.pointer (kk (i-98)):=by
 unfold dF;rw[if_neg (by omega),if_neg (by omega),if_neg (by omega),if_neg (by omega)]
theorem Vz{c:Nat}(hc:c<32)(b:∀j,j≠c→q' j=q j)(d:∀j,j≠c→kk' j=kk j)(i:Nat):
  dF bu s q' kk' i=if i=2+c then .int .i64 (To (q' c))else if i=34+c*2 then .string (Gd (kz (q' c))).1 else if i=34+c*2+1 then .string (Gd (kz (q' c))).2 else if i=98+c then .pointer (kk' c)else dF bu s q kk i:=by
 rcases(show i<2∨(2≤i∧i<34)∨(34≤i∧i<98)∨98≤i by omega)with h|h|h|h
 ·rw[if_neg (by omega),if_neg (by omega),if_neg (by omega),if_neg (by omega)];exact acW h
 ·by_cases e:i=2+c
  ·rw[if_pos e,VA h.1 h.2,show i-2=c by omega]
  ·rw[if_neg e,if_neg (by omega),if_neg (by omega),if_neg (by omega),VA h.1 h.2,VA h.1 h.2,b _ (by omega)]
 ·rw[if_neg (show ¬i=2+c by omega)]
  by_cases e:(i-34)/2=c
  ·by_cases a:i%2=0
   ·rw[if_pos (by omega),Rb h.1 h.2 a,e]
   ·rw[if_neg (by omega),if_pos (by omega),Q9 h.1 h.2 a,e]
  ·rw[if_neg (by omega),if_neg (by omega),if_neg (by omega)]
   by_cases a:i%2=0
   ·rw[Rb h.1 h.2 a,Rb h.1 h.2 a,b _ e]
   ·rw[Q9 h.1 h.2 a,Q9 h.1 h.2 a,b _ e]
 ·rw[if_neg (by omega),if_neg (by omega),if_neg (by omega)]
  by_cases e:i=98+c
  ·rw[if_pos e,Ra h,show i-98=c by omega]
  ·rw[if_neg e,Ra h,Ra h,d _ (by omega)]
end
theorem Y3{h:ad}{b i:Nat}{f:Nat→Value}{t:TypeId}{v:Value}{k:ad→Prop}(c:h[b]? =some (.cells (dC f).toArray t (0,0))) (hi:i<130) (d:∀h',h'[b]? =some (.cells (dC fun j=>if j=i then v else f j).toArray t (0,0))→Upd (· =b) h h'→k h'):
  Wr h ⟨b,i,none⟩∧At (hset h ⟨b,i,none⟩ v) k:=
 ⟨iw c (by rw[VB];exact hi),wK c fun h' a e=>d h' (ab4▸a) e⟩
theorem acU{h:ad}{b i:Nat}{f:Nat→Value}{t:TypeId}{v w:Value}{k:ad→Prop}(m:h[b]? =some (.cells (dC f).toArray t (0,0))) (hi:i+1<130)
  (o:∀h',h'[b]? =some (.cells (dC fun j=>if j=i+1 then w else if j=i then v else f j).toArray t (0,0))→Upd (· =b) h h'→k h'):wn h (some ⟨b,i,none⟩) 0 [v,w]∧At (jj h ⟨b,i,none⟩ 0 [v,w]) k:=by
 refine⟨.inr ⟨_,rfl,fun j n=>by rw[cp];exact iw m (by rw[VB];simp at n;omega)⟩,bM ?_⟩
 simp only[jj,cp,eN,aQ];exact(Y3 (k:=fun g=>k (hset g ⟨b,i+1,none⟩ w)) m (by omega) fun g d a=>(Y3 (k:=k) d hi fun h2 e c=>o h2 e (a.tr c)).2).2
set_option maxRecDepth 4000 in
theorem abI{x:Hs}:∀(m:Nat),m≤13→∀{W:Nat→Prop} {h:ad} {s sh:SliceV} {l:List Pr},Sl eu 2 W h s l→(∀y,W y→y<h.size)→Sl (acj x) 1 No h sh l→l.length≤60000→∀{K:Option Addr→ad→Prop},(∀h' b,DTrie W x h' m b l→Upd No h h'→K (some ⟨b,0,none⟩) h')→
  HC PG EE [.slice s.a s.len s.cap,.slice sh.a sh.len sh.cap,.int .i64 ((13-m:Nat):Int)] [.c .ptr] K h:=by
 intro m;induction m with
 |zero=>
  intro _ W h s sh l hs hW X hn K hk;refine RA s sh ((13-0:Nat):Int) ?_;unfold KZ bE bX nv ay az lN is dG VU od gD;refine au.2 (aW fun o b1 k1=>?_)
  refine hk o h.size ⟨fun f=>by have:=hW _ f;omega,s,?_,hs.upd k1 fun _ h=>h.elim⟩ k1
  rw[b1];exact congrArg some (congrArg (fun c=>Obj.cells c kw (0,0)) (by kernel_rfl))
 |succ m ih=>
  intro hm W h s sh l hs hW X hn K hk;have nwh:¬W h.size:=fun f=>by have:=hW _ f;omega
  refine RA s sh ((13-(m+1):Nat):Int) ?_;unfold KZ bE bX nv ay az lN is dG VU od gD;have e13:(((13-(m+1):Nat):Int)==(13:Int))=false:=by rw[beq_eq_false_iff_ne];omega
  rw[e13];refine ag.2 (aW fun o b1 k1=>?_)
  have b1':o[h.size]? =some (.cells (dC (dF false ⟨none,0,0⟩ (CX x (12-m) l 0) fun _=>none)).toArray kw (0,0)):=by
   have:CX x (12-m) l 0=fun _=> []:=by funext c;exact if_neg (by omega)
   rw[b1,this];exact congrArg some (congrArg (fun c=>Obj.cells c kw (0,0)) (by kernel_rfl))
  clear b1;have elev:(13-(m+1):Nat)=12-m:=by omega
  rw[elev];refine LoopP.ghost (fun(g:Nat×(Nat→Option Addr)) (t:Int) h'=>t=(g.1:Int)∧g.1≤32∧DOf W x (12-m) m h h' l g.1 g.2) (fun g=>32-g.1) (0,fun _=>none) ⟨rfl,by omega,b1',k1,fun c hc=>absurd hc (lU _)⟩ ?_
  rintro I ⟨c,kk⟩ t hc ⟨rfl,hc32,F⟩ hI;simp only at hc32 F;have s1:=F.upd.size;have zc:=bC F.blk;refine ax (fun z=>?_) fun hge=>?_
  ·have z:c<32:=by have:(c:Int)<32:=z;omega
   refine Join.intro (fun(_:Unit) h'=>∃kk',DOf W x (12-m) m h h' l (c+1) kk') (fun R hR=>?_) ?_
   ·
    refine LoopP.ghost (fun(i:Nat) (t:SliceV×SliceV×Int) h'=>t.2.2=(i:Int)∧i≤l.length∧TwoS x hc.size h'.size h' t.1 t.2.1 (part x (12-m) c (l.take i)) (part x (12-m) c (l.take i))∧Upd No hc h') (fun i=>l.length-i) 0 ⟨rfl,aS _,⟨No,No,OwnS.nil gu,OwnS.nil (YQ x),fun _ h=>h.elim,fun _ h=>h.elim⟩,Upd.refl _ _⟩ ?_
    rintro I2 i ⟨so,ss,ti⟩ hi ⟨e1,hil,hT,hu⟩ hI2;simp only at e1 hT;subst e1;have hlen:=hs.len;have hlen2:=X.len;have s2:=hu.size;have hsi:=(hs.upd F.upd fun _ h=>h.elim).upd hu fun _ h=>h.elim
    have hshi:=(X.upd F.upd fun _ h=>h.elim).upd hu fun _ h=>h.elim
    refine ax (fun d=>?_) fun hge2=>?_
    ·have d:i<l.length:=by have:(i:Int)<(s.len:Int):=d;omega
     have hpl:(part x (12-m) c (l.take i)).length≤60000:=by
      have:=lx (x:=x) (lev:=12-m) (c:=c) (l:=l.take i);rw[aI]at this;omega
     have U:part x (12-m) c (l.take (i+1))=if ck x (12-m) l[i].1=c then part x (12-m) c (l.take i)++ [l[i]]else part x (12-m) c (l.take i):=by rw[aV d,WB]
     refine Join.intro (fun(t:SliceV×SliceV) h'=>TwoS x hc.size h'.size h' t.1 t.2 (part x (12-m) c (l.take (i+1))) (part x (12-m) c (l.take (i+1)))∧Upd No hc h') (fun R2 D=>?_) ?_
     ·obtain⟨a,ha,_,hv⟩:=hsi.at (ae d)
      refine⟨⟨by simp only;omega,by simp only;omega⟩,a,ha,_,hv 0 _ rfl,_,hv 1 _ rfl,tG (p:=l[i]) fun E b3 k3=>?_⟩
      obtain⟨a',ha',_,S⟩:=(hshi.upd k3 fun _ h=>h.elim).at0 (ae d)
      refine⟨⟨by simp only;omega,by simp only;omega⟩,a',ha',_,S,acE (lev:=12-m) (by omega) ?_⟩
      have P:=hT.upd0 k3;have s3:=k3.size;refine CondP.intro (fun e=>?_) fun e=>?_
      ·have e:ck x (12-m) l[i].1=c:=by
        have:((ck x (12-m) l[i].1:Nat):Int)=(c:Int):=by simpa using e
        omega
       rw[if_pos e]at U;rw[U]at D;have uu:∀{h':ad},Upd (fun b=>hc.size≤b) E h'→Upd No hc h':=fun k=>(hu.tr k3).trans k fun y f=>.inr f
       have hab:a'.block<h.size:=X.lt (fun e=>by rw[e]at d;simp at d) ha'
       have sD:=F.upd.size;have wide:∀{n:Nat} {o h2:ad},hc.size≤o.size→Upd (fun b=>(hc.size≤b∧b<n)∨o.size≤b) o h2→Upd (fun b=>hc.size≤b) o h2:=fun hz k=>k.mono fun y f=>.inl (f.elim (fun h=>h.1) fun h=>by omega)
       refine⟨_,vc b3 0,_,vc b3 1,⟨by simp only;omega,by simp only;omega⟩,a',ha',_,S,?_,?_⟩
       ·refine aW fun V Y v=>⟨v.cell0 S,?_,?_⟩
        ·have s4:=v.size
         refine⟨_,nf Y,ace (p:=l[i]) (P.upd0 v) (by omega) (by omega) (by omega) rfl fun s5 h5 L M=>⟨M.cell (v.cell0 S) (by rw[BX];omega),aW fun h6 b6 w=>?_⟩⟩
         have s5':=M.size;have s6:=w.size;refine⟨_,nf b6,appB (p:=l[i]) (L.upd0 w) (by omega) (by omega) (by omega) rfl fun s7 h7 G k7=>?_⟩
         exact D _ _ ⟨G,uu (((v.wide.tr (wide (by omega) M)).tr w.wide).tr (wide (by omega) k7))⟩
        ·refine aW fun h6 b6 w=>?_
         have s4:=v.size;have s6:=w.size;have z6:=bC b6;refine⟨_,nf (w.get0 Y),ace (p:=l[i]) ((P.upd0 v).upd0 w) (by omega) (by omega) (by omega) rfl fun s5 h5 L M=>?_⟩
         have s5':=M.size;refine⟨_,nf (M.get b6 (by omega)),appB (p:=l[i]) L (by omega) (by omega) (by omega) rfl fun s7 h7 G k7=>?_⟩
         exact D _ _ ⟨G,uu (((v.wide.tr w.wide).tr (wide (by omega) M)).tr (wide (by omega) k7))⟩
       ·refine aW fun V Y v=>⟨⟨vc (v.get0 b3) 0,vc (v.get0 b3) 1⟩,aW fun h6 b6 w=>?_⟩
        have s4:=v.size;have s6:=w.size;have z4:=bC Y;refine⟨_,nf b6,ace (p:=l[i]) ((P.upd0 v).upd0 w) (by omega) (by omega) (by omega) rfl fun s5 h5 L M=>?_⟩
        have s5':=M.size;refine⟨_,nf (M.get (w.get0 Y) (by omega)),appB (p:=l[i]) L (by omega) (by omega) (by omega) rfl fun s7 h7 G k7=>?_⟩
        exact D _ _ ⟨G,uu (((v.wide.tr w.wide).tr (wide (by omega) M)).tr (wide (by omega) k7))⟩
      ·have e:¬ck x (12-m) l[i].1=c:=fun e'=>by
        have:¬((ck x (12-m) l[i].1:Nat):Int)=(c:Int):=by simpa using e
        omega
       rw[if_neg e]at U;rw[U]at D;obtain⟨A,B,u,O,H,q4⟩:=P;exact D _ _ ⟨⟨A,B,u,O,fun b hb=>⟨(H b hb).1,by have:=(H b hb).2.1;omega,(H b hb).2.2⟩,fun b hb=>⟨(q4 b hb).1,by have:=(q4 b hb).2;omega⟩⟩,hu.tr k3⟩
     ·rintro⟨so',ss'⟩ h' ⟨hT',hu'⟩
      simp only;rw[db d (by omega)];exact hI2 (i+1) _ _ ⟨rfl,d,hT',hu'⟩ (by omega)
    ·have hil':i=l.length:=by have:¬(i:Int)<(s.len:Int):=hge2;omega
     subst hil';rw[bT]at hT;have hDi:h.size<hi.size:=by omega
     have hbi:=hu.get0 F.blk;have hki:∀c',c'<c→2≤(part x (12-m) c' l).length→∃N,kk c'=some ⟨N,0,none⟩∧DTrie (fun y=>W y∨y=h.size) x hi m N (part x (12-m) c' l):=fun c' o h2=>let⟨N,E,V⟩:=F.kid c' o h2;⟨N,E,DTrie.upd hu (fun _ h=>h.elim) V⟩
     obtain⟨A,B,hA,hB,hA',hB'⟩:=hT;have T:Sl eu 2 (fun y=>W y∨y=h.size) hi so (part x (12-m) c l):=hA.sl fun y f _ hw=>by
      have:=(hA' y f).1;rcases hw with hw|hw
      ·have:=hW y hw;omega
      ·omega
     have hsB:Sl (acj x) 1 No hi ss (part x (12-m) c l):=hB.sl fun _ _ _ h=>h
     have hq:=T.len;have hpl:(part x (12-m) c l).length≤l.length:=lx;have hU:=F.upd.tr hu;refine Join.plain ?_;refine CondP.intro (fun e=>?_) fun e=>?_
     ·
      have e:so.len=1:=by
       have:((so.len:Nat):Int)=1:=by simpa using e
       omega
      have Z:(part x (12-m) c l).length=1:=by omega
      obtain⟨p,hp⟩:=List.length_eq_one_iff.1 Z;rw[hp]at T;obtain⟨a,ha,_,hv⟩:=T.at (i:=0) (x:=p) rfl;refine⟨⟨by decide,by simp only;omega⟩,a,ha,_,hv 0 _ rfl,_,hv 1 _ rfl,_,rfl,⟨by omega,by omega⟩,_,rfl,?_⟩
      have ew:((c:Int).toNat*1)=c:=by omega
      have ew2:((c:Int).toNat*2)=c*2:=by omega
      simp only[ew,ew2,cR h,cp,aQ];refine Y3 hbi (by omega) fun E b3 u3=>⟨⟨by omega,by omega⟩,acU b3 (by omega) fun V Y u4=>ax (fun hl=>by omega) fun _=>?_⟩
      have C:Upd (· =h.size) hi V:=u3.tr u4
      refine hR _ _ ⟨kk,?_,hU.own C (aj _),fun c' o h2=>?_⟩
      ·rw[Y]
       refine congrArg some (congrArg (fun c=>Obj.cells c kw (0,0)) (OQ fun j J=>?_))
       rw[Vz (q:=CX x (12-m) l c) (q':=CX x (12-m) l (c+1)) (kk:=kk) z (fun j J=>NZ J) (fun _ _=>rfl),N0,hp]
       have e1:To [p]=1:=rfl;have e2:Gd (kz [p])=p:=rfl;rw[e1,e2];by_cases u:j=2+c
       ·rw[if_neg (by omega),if_neg (by omega),if_pos u,if_pos u]
       ·by_cases O:j=34+c*2
        ·rw[if_neg (by omega),if_pos O,if_neg u,if_pos O]
        ·by_cases H:j=34+c*2+1
         ·rw[if_pos H,if_neg u,if_neg O,if_pos H]
         ·rw[if_neg H,if_neg O,if_neg u,if_neg u,if_neg O,if_neg H]
          by_cases q4:j=98+c
          ·rw[if_pos q4,Ra (by omega),show j-98=c by omega]
          ·rw[if_neg q4]
      ·rcases bZ c' c with hh|hh
       ·obtain⟨N,h3',h4'⟩:=hki c' hh h2
        exact⟨N,h3',DTrie.upd C (fun y f=>.inl (.inr f)) h4'⟩
       ·rw[show c'=c by omega,Z]at h2;omega
     ·have e:¬so.len=1:=fun e'=>by
       have:¬((so.len:Nat):Int)=1:=by simpa using e
       omega
      refine ax (fun Q=>?_) fun hle=>?_
      ·
       have Q:2≤(part x (12-m) c l).length:=by have:(so.len:Int)>1:=Q;omega
       refine⟨_,rfl,_,rfl,?_⟩;have e14:IntKind.wrap .i64 (((12-m:Nat):Int)+1)=((13-m:Nat):Int):=by rw[dI (by omega)];omega
       rw[e14];refine ih (by omega) T (fun y f=>f.elim (fun f=>by have:=hW y f;omega) fun f=>by omega) hsB (by omega) fun h2 N tk k2=>⟨⟨by omega,by omega⟩,?_⟩
       have ew:((c:Int).toNat*1)=c:=by omega
       simp only[ew,cR h,cp,aQ];refine Y3 (k2.get0 hbi) (by omega) fun E b3 u3=>⟨⟨by omega,by omega⟩,Y3 b3 (by omega) fun V Y u4=>?_⟩
       have C:Upd (· =h.size) h2 V:=u3.tr u4
       refine hR _ _ ⟨fun j=>if j=c then some ⟨N,0,none⟩else kk j,?_,(hU.tr k2).own C (aj _),fun c' o h2=>?_⟩
       ·rw[Y]
        refine congrArg some (congrArg (fun c=>Obj.cells c kw (0,0)) (OQ fun j J=>?_))
        rw[Vz (q:=CX x (12-m) l c) (q':=CX x (12-m) l (c+1)) (kk:=kk) z (fun j J=>NZ J) (fun _ J=>if_neg J),N0]
        have e1:To (part x (12-m) c l)=2:=by unfold To;rw[if_neg (by omega),if_pos Q]
        have e2:kz (part x (12-m) c l)=none:=by
         match part x (12-m) c l,Q with
         |a::b::r,_=>rfl
        rw[e1,e2,if_pos rfl];by_cases u:j=2+c
        ·rw[if_neg (by omega),if_pos u,if_pos u]
        ·by_cases q4:j=98+c
         ·rw[if_pos q4,if_neg u,if_neg (by omega),if_neg (by omega),if_pos q4]
         ·rw[if_neg q4,if_neg u,if_neg u]
          by_cases O:j=34+c*2
          ·rw[if_pos O,Rb (by omega) (by omega) (by omega),show(j-34)/2=c by omega,NY];rfl
          ·rw[if_neg O]
           by_cases H:j=34+c*2+1
           ·rw[if_pos H,Q9 (by omega) (by omega) (by omega),show(j-34)/2=c by omega,NY];rfl
           ·rw[if_neg H,if_neg q4]
       ·rcases bZ c' c with hh|hh
        ·obtain⟨kb',h3',h4'⟩:=hki c' hh h2
         exact⟨kb',by rw[if_neg (by omega)];exact h3',DTrie.upd C (fun y f=>.inl (.inr f)) (DTrie.upd k2 (fun _ h=>h.elim) h4')⟩
        ·obtain rfl:c'=c:=by omega
         exact⟨N,if_pos rfl,DTrie.upd C (fun y f=>.inl (.inr f)) tk⟩
      ·
       have hnil:part x (12-m) c l= []:=List.length_eq_zero_iff.1 (by have:¬(so.len:Int)>1:=hle;omega);refine hR _ _ ⟨kk,?_,hU,fun c' o h2=>?_⟩
       ·rw[hbi]
        refine congrArg some (congrArg (fun c=>Obj.cells c kw (0,0)) (OQ fun j J=>?_))
        have:CX x (12-m) l (c+1)=CX x (12-m) l c:=by
         funext j;by_cases J:j=c
         ·rw[J,N0,NY,hnil]
         ·exact NZ J
        rw[this]
       ·rcases bZ c' c with hh|hh
        ·exact hki c' hh h2
        ·rw[show c'=c by omega,hnil]at h2;simp at h2
   ·rintro _ h' ⟨kk',hD'⟩
    rw[db z (by omega)];exact hI (c+1,kk') _ _ ⟨rfl,z,hD'⟩ (by simp only;omega)
  ·obtain rfl:c=32:=by have:¬(c:Int)<32:=hge;omega
   refine hk hc h.size ⟨nwh,kk,?_,fun c hc hp=>let⟨N,E,V⟩:=F.kid c hc hp;⟨N,E,DTrie.less (fun _ h=>.inl h) V⟩⟩ F.upd
   rw[F.blk];refine congrArg some (congrArg (fun c=>Obj.cells c kw (0,0)) (OQ fun i hi=>?_))
   have:∀c,c<32→CX x (12-m) l 32 c=part x (12-m) c l:=fun c hc=>if_pos hc
   unfold dF;by_cases h0:i<34
   ·by_cases o:i=0
    ·rw[if_pos o,if_pos o]
    ·by_cases h2:i=1
     ·rw[if_neg o,if_neg o,if_pos h2,if_pos h2]
     ·rw[if_neg o,if_neg o,if_neg h2,if_neg h2,if_pos h0,if_pos h0,this _ (by omega)]
   ·rw[if_neg (show ¬i=0 by omega),if_neg (show ¬i=0 by omega),if_neg (show ¬i=1 by omega),if_neg (show ¬i=1 by omega),if_neg h0,if_neg h0]
    by_cases E:i<98
    ·rw[if_pos E,if_pos E,this _ (by omega)]
    ·rw[if_neg E,if_neg E]
end Go.Proofs
namespace Go.Proofs
open Go Go.Lift
theorem Yo{x:Hs}{h:ad}{s:SliceV}{l:List Pr}(B:Sl eu 2 No h s l)(L:l.length≤60000)(m:∀p∈l,p.1.size≤1000000){K:Option Addr→ad→Prop}(J:∀h' b,DTrie No x h' 13 b l→Upd No h h'→K (some ⟨b,0,none⟩) h'):
  HC PG JY [.agg #[.int .u64 x.k0,.int .u64 x.k1,.int .u64 x.mask],.slice s.a s.len s.cap,.int .i64 0] [.c .ptr] K h:=by
 refine ZC (x.k0,x.k1,x.mask) s 0 ?_;unfold RQ bX af nv BK xa ay az lN is VU;refine aW fun o b1 k1=>?_
 have C:=B.len;refine LoopP.ghost (fun(i:Nat) (t:SliceV×Int) h'=>t.2=(i:Int)∧i≤l.length∧OwnS (acj x) 1 rW (fun b=>o.size≤b) h' t.1 (l.take i)∧Upd No o h') (fun i=>l.length-i) 0 ⟨rfl,aS _,OwnS.nil (YQ x),Upd.refl _ _⟩ ?_
 rintro I i ⟨so,P⟩ h' ⟨z,hi,g,f⟩ D;simp only at z g;subst z;have e:=(B.upd k1 fun _ h=>h.elim).upd f fun _ h=>h.elim
 refine ax (fun c=>?_) fun q=>?_
 ·have c:i<l.length:=by have:(i:Int)<(s.len:Int):=c;omega
  refine Join.plain ?_;obtain⟨a,G,_,hv⟩:=e.at (ae c);refine⟨⟨by simp only;omega,by simp only;omega⟩,a,G,_,hv 0 _ rfl,_,hv 1 _ rfl,tG (p:=l[i]) fun h2 b2 d=>?_⟩
  have j:=d.get0 (f.get0 b1);refine⟨_,vc j 0,_,vc j 1,_,vc j 2,_,vc b2 0,Yq (by have:=m _ (bw c);omega) fun Q v=>aW fun R E w=>⟨_,nf E,?_⟩⟩
  have A:=((f.tr d).tr v).tr w;refine AppP.own (M:=fun b=>o.size≤b) (ys:= [l[i]]) (((g.upd d fun _ _ h=>h).upd v fun _ _ h=>h).upd w fun _ _ h=>h) rfl rfl rfl rfl (by omega) (by simp only[aE,aI];omega) A.size fun O N n k=>?_
  simp only;rw[db c (by omega)];refine D (i+1) _ _ ⟨rfl,c,?_,A.trans k fun y H=>.inr H⟩ (by omega)
  rw[aV c];exact n
 ·have u:i=l.length:=by have:¬(i:Int)<(s.len:Int):=q;omega
  subst u;rw[bT]at g;exact abI 13 (aj _) e (fun _ h=>h.elim) (g.sl fun _ _ _ h=>h) L fun h2 b F d=>J h2 b F ((k1.tr f).tr d)
theorem My(n:Nat):IntKind.wrap .u8 (n:Int)=((UInt8.ofNat n).toNat:Int):=by rw[IntKind.wrap_u8];simp
theorem Ig{n:Nat}(e:n≤1000000000){h:ad}{K:SliceV→ad→Prop}(d:∀s' h',OwnS rO 1 cP (fun y=>h.size≤y) h' s' (pm n 2)→Upd No h h'→K s' h'):HC PG wg [.int .i64 (n:Int)] [.c .slice] K h:=by
 refine Xk (n:Int) ?_;unfold NL ZW;have c:gj (n:Int) 256=((n>>>(8*1):Nat):Int):=by rw[dB (by omega),cL];rfl
 have a:n>>>(8*1)≤n:=ko ..;rw[c,dI (by generalize n>>>(8*1)=y at a;omega),My,My];refine⟨by decide,aW fun b b1 k1=>d _ b ⟨rfl,wJ,aj _,.inr ⟨h.size,[],rfl,aj _,b1,rfl⟩⟩ k1⟩
theorem Qq{n:Nat}(f:n<4294967296){h:ad}{K:SliceV→ad→Prop}(e:∀s' h',OwnS rO 1 cP (fun y=>h.size≤y) h' s' (pm n 4)→Upd No h h'→K s' h'):HC PG zE [.int .u32 (n:Int)] [.c .slice] K h:=by
 refine Uk (n:Int) ?_;unfold KY acr;have q:∀k:Nat,((n>>>k:Nat):Int)<4294967296:=fun k=>by have:n>>>k≤n:=ko ..;generalize n>>>k=y at this;omega
 have d:gj (n:Int) 256=((n>>>(8*1):Nat):Int):=by rw[dB (by omega),cL];rfl
 have b:gj (n:Int) 65536=((n>>>(8*2):Nat):Int):=by rw[dB (by omega),cL];rfl
 have c:gj (n:Int) 16777216=((n>>>(8*3):Nat):Int):=by rw[dB (by omega),cL];rfl
 have w:∀k:Nat,IntKind.wrap .u32 ((n>>>k:Nat):Int)=((n>>>k:Nat):Int):=fun k=>by have:=q k;generalize n>>>k=y at this;rw[IntKind.wrap_u32];omega
 rw[d,b,c,w,w,w,My,My,My,My];refine⟨by decide,by decide,by decide,aW fun a b1 k1=>e _ a ⟨rfl,wJ,aj _,.inr ⟨h.size,[],rfl,aj _,b1,rfl⟩⟩ k1⟩
theorem Bi{M W:Nat→Prop}{h:ad}{so e:SliceV}{out ys:List UInt8}{K:SliceV→ad→Prop}(c:OwnS rO 1 cP M h so out)(a:Sl rO 1 W h e ys)(hM:∀b,h.size≤b→M b)(f:out.length+ys.length≤140737488355328)
  (d:∀s' h',OwnS rO 1 cP M h' s' (out++ys)→Upd M h h'→K s' h'):∃xs,SRow h e.a (e.len*1) xs∧AppP (some [.int .u8 0]) 1 1 cP so.a so.len so.cap e.len xs h K:=
 ⟨_,a.srow,AppP.own (ys:=ys) c a.len rfl (Ek _) rfl (by omega) (by omega) (hM _ (aj _)) d⟩
theorem Ej{b:ByteArray}(s:b.size≤1000000){h:ad}{K:SliceV→ad→Prop}(o:∀s' h',OwnS rO 1 cP (fun y=>h.size≤y) h' s' (qw b)→Upd No h h'→K s' h'):HC PG tY [.string b] [.c .slice] K h:=by
 refine Ui b ?_;unfold KU;refine Ig (by omega) fun q a e k1=>?_
 intro c hc;have d:=Upd.push No a (.cells (eM b++iP (c-b.size) (Value.int .u8 0)).toArray cP (c,c+1));have b2:=AJ a (.cells (eM b++iP (c-b.size) (Value.int .u8 0)).toArray cP (c,c+1));generalize a.push (.cells (eM b++iP (c-b.size) (Value.int .u8 0)).toArray cP (c,c+1))=h2 at d b2;have t:b.data.toList.length=b.size:=by simp
 have g:Sl rO 1 No h2 ⟨some (aG a),b.size,c⟩ b.data.toList:=by
  refine⟨by simp,wJ,fun _=>⟨_,rfl,id,pI b2 fun i v hv=>?_⟩⟩
  rw[aQ,gR,uV,List.getElem?_append_left (List.getElem?_eq_some_iff.1 hv).1];exact hv
 have p:=k1.size;have u:=d.size;refine Bi (e.upd d fun _ _ h=>h) g (fun y j=>by show h.size≤y;omega) (by rw[dS];omega) fun n m f k=>o n m f ((k1.tr d).trans k fun y j=>.inr j)
theorem F3{W:Nat→Prop}{h:ad}{s:SliceV}{l:List Pr}(C:Sl eu 2 W h s l)(A:Fit l)(hn:l.length≤60000){K:SliceV→ad→Prop}(P:∀s' h',OwnS rO 1 cP (fun y=>h.size≤y) h' s' (mL l)→Upd No h h'→K s' h'):
  HC PG uP [.slice s.a s.len s.cap] [.c .slice] K h:=by
 refine Ry s ?_;unfold HA bX nv ay az lN is;have D:=C.len;refine LoopP.ghost (fun(i:Nat) (t:SliceV×Int) h'=>t.2=(i:Int)∧i≤l.length∧OwnS rO 1 cP (fun b=>h.size≤b) h' t.1 (mL (l.take i))∧Upd No h h') (fun i=>l.length-i) 0 ⟨rfl,aS _,OwnS.nil wJ,Upd.refl _ _⟩ ?_
 rintro I i ⟨so,Y⟩ h' ⟨B,hi,g,f⟩ F;simp only at B g;subst B;refine ax (fun c=>?_) fun x=>?_
 ·have c:i<l.length:=by have:(i:Int)<(s.len:Int):=c;omega
  refine Join.plain ?_;obtain⟨a,N,_,hv⟩:=(C.upd f fun _ h=>h.elim).at (ae c)
  have L:=A l[i] (bw c);have n:=pj (l:=l.take i) fun q E=>A q (List.mem_of_mem_take E)
  rw[aI,Nat.min_eq_left hi]at n;have Z:=li l[i].1;have h2:=li l[i].2;refine⟨⟨by simp only;omega,by simp only;omega⟩,a,N,_,hv 0 _ rfl,_,hv 1 _ rfl,tG (p:=l[i]) fun h2 b2 j=>?_⟩
  refine⟨_,vc b2 0,_,vc b2 1,Ej (by omega) fun s3 h3 u e=>⟨vc (e.get0 b2) 1,?_⟩⟩
  have O:=(f.tr j).tr e;have V:=bC b2;have J:=j.size;have Q:=e.size;have S:=f.size;refine Bi (M:=fun y=>h.size≤y∧y≠h'.size) (((g.within.upd j fun _ _ h=>h).upd e fun _ _ h=>h).more fun y d=>⟨d.1,by omega⟩) (u.sl (W:=No) fun _ _ _ h=>h) (fun y d=>by omega) (by omega) fun U h4 v o=>⟨vc (o.get (e.get0 b2) (by omega)) 1,?_⟩
  have R:=o.size;refine Ej (by omega) fun X T k w=>?_
  have H:=w.size;refine Bi (M:=fun y=>h.size≤y) ((v.upd w fun _ _ h=>h).more fun y d=>d.1) (k.sl (W:=No) fun _ _ _ h=>h) (fun y d=>by show h.size≤y;omega) (by rw[ac];omega) fun s6 h6 m G=>?_
  simp only;rw[db c (by omega)];refine F (i+1) _ _ ⟨rfl,c,?_,(((O.trans o fun y d=>.inr d.1)).tr w).trans G fun y d=>.inr d⟩ (by omega)
  rw[Ha c,Hb,←ar];exact m
 ·have z:i=l.length:=by have:¬(i:Int)<(s.len:Int):=x;omega
  subst z;rw[bT]at g;exact P _ _ g f
theorem Wo{W W':Nat→Prop}{h:ad}{s s':SliceV}{l:List UInt8}(f:Sl rO 1 W h s l)(c:Sl rO 1 W' h s' l)(n:l.length≤1000000000000){K:Bool→ad→Prop}(k:K true h):HC PG Dz [.slice s.a s.len s.cap,.slice s'.a s'.len s'.cap] [.c .bool] K h:=by
 refine Uj s s' ?_;unfold KV bE bX;have g:=f.len;have h2:=c.len;rw[g,h2,bne_self_eq_false];refine ag.2 ?_;refine LoopP.ghost (fun(i:Nat) (t:Int) h'=>t=(i:Int)∧i≤l.length∧h'=h) (fun i=>l.length-i) 0 ⟨rfl,aS _,rfl⟩ ?_
 rintro I i t h' ⟨rfl,hi,rfl⟩ m;refine ax (fun b=>?_) fun _=>k
 have b:i<l.length:=by omega
 obtain⟨a,j,_,hv⟩:=f.at0 (ae b);obtain⟨a',e,_,d⟩:=c.at0 (ae b);refine⟨⟨by omega,by omega⟩,a,j,_,hv,⟨by omega,by omega⟩,a',e,_,d,?_⟩
 rw[bne_self_eq_false];refine ag.2 ?_;rw[db b (by omega)];exact m (i+1) _ _ ⟨rfl,b,rfl⟩ (by omega)
end Go.Proofs
namespace Go.Proofs
open Go Go.Lift
abbrev adD(lab:ByteArray)(has:Bool)(val:ByteArray)(s:SliceV)(_:Option Addr):Array Value:= #[.string lab,.bool has,.string val,sv s]
def DxF(W:Nat→Prop)(h:ad):Fo→List (Option Addr)→Prop
 | .nil,ks=>ks= []
 | .cons lab w kids rest,ks=>∃b sl val s ow ks1 ks',ks=some ⟨b,0,none⟩::ks'∧sl.data.toList=lab∧h[b]? =some (.cells (adD sl w.isSome val s ow) re (0,0))∧val=w.getD ⟨#[]⟩∧Sl qd 1 W h s ks1∧(s.len≤s.cap∧¬W b)∧DxF W h kids ks1∧DxF W h rest ks'
def DxN(W:Nat→Prop)(h:ad)(b:Nat)(sl:ByteArray)(w:Option ByteArray)(F:Fo):Prop:=∃val s ow ks,h[b]? =some (.cells (adD sl w.isSome val s ow) re (0,0))∧val=w.getD ⟨#[]⟩∧Sl qd 1 W h s ks∧(s.len≤s.cap∧¬W b)∧DxF W h F ks
def DKid(W:Nat→Prop)(h:ad)(k:Option Addr)(n:Bn):Prop:=∃b sl,k=some ⟨b,0,none⟩∧sl.data.toList=n.1∧DxN W h b sl n.2.1 n.2.2
def DxL(W:Nat→Prop)(h:ad)(ks:List (Option Addr))(L:List Bn):Prop:=ks.length=L.length∧∀p∈ks.zip L,DKid W h p.1 p.2
theorem EI{W:Nat→Prop}{h:ad}:∀{F:Fo} {ks:List (Option Addr)},DxF W h F ks↔DxL W h ks F.toL
 | .nil,ks=>by
  unfold DxF DxL;simp[Fo.toL]
 | .cons lab w kids rest,ks=>by
  unfold DxF DxL;rw[Fo.toL_cons];constructor
  ·rintro⟨b,sl,val,s,ow,c,d,rfl,j,i,m,f,n,o,q⟩
   obtain⟨t,u⟩:=EI.1 q;refine⟨by simp[t],fun p a=>?_⟩
   rw[lH]at a;rcases aB.1 a with rfl|a
   ·exact⟨b,sl,rfl,j,val,s,ow,c,i,m,f,n,o⟩
   ·exact u p a
  ·cases ks with
   |nil=>rintro⟨e,_⟩;simp at e
   |cons k d=>
    rintro⟨e,a⟩;rw[lH]at a;obtain⟨b,sl,v,j,val,s,ow,c,i,m,f,n,o⟩:=a _ (av ..);refine⟨b,sl,val,s,ow,c,d,by rw[←v],j,i,m,f,n,o,EI.2 ⟨by simpa using e,fun p g=>a p (aC _ g)⟩⟩
theorem DxF.upd0{W:Nat→Prop}{h h':ad}(k:Upd No h h'):∀{F:Fo} {ks:List (Option Addr)},DxF W h F ks→DxF W h' F ks
 | .nil,_,r=>r
 | .cons _ _ _ _,_,⟨b,sl,val,s,ow,ks1,ks',e0,e1,e2,e3,e4,e5,e6,e7⟩=>⟨b,sl,val,s,ow,ks1,ks',e0,e1,k.get0 e2,e3,e4.upd k fun _ h=>h.elim,e5,DxF.upd0 k e6,DxF.upd0 k e7⟩
theorem DxN.upd0{W:Nat→Prop}{h h':ad}(k:Upd No h h'){b:Nat}{sl:ByteArray}{w:Option ByteArray}{F:Fo}:DxN W h b sl w F→DxN W h' b sl w F
 |⟨val,s,ow,ks,e2,e3,e4,e5,e6⟩=>⟨val,s,ow,ks,k.get0 e2,e3,e4.upd k fun _ h=>h.elim,e5,DxF.upd0 k e6⟩
theorem DKid.upd0{W:Nat→Prop}{h h':ad}(k:Upd No h h'){a:Option Addr}{n:Bn}:DKid W h a n→DKid W h' a n
 |⟨b,sl,e1,e2,e3⟩=>⟨b,sl,e1,e2,e3.upd0 k⟩
theorem DxF.less{W W':Nat→Prop}{h:ad}(hm:∀b,W' b→W b∨h.size≤b):∀{F:Fo} {ks:List (Option Addr)},DxF W h F ks→DxF W' h F ks
 | .nil,_,r=>r
 | .cons _ _ _ _,_,⟨b,sl,val,s,ow,ks1,ks',e0,e1,e2,e3,e4,e5,e6,e7⟩=>⟨b,sl,val,s,ow,ks1,ks',e0,e1,e2,e3,e4.less hm,⟨e5.1,fun hx=>(hm _ hx).elim e5.2 fun h=>by have:=bC e2;omega⟩,DxF.less hm e6,DxF.less hm e7⟩
theorem DxN.less{W W':Nat→Prop}{h:ad}(hm:∀b,W' b→W b∨h.size≤b){b:Nat}{sl:ByteArray}{w:Option ByteArray}{F:Fo}:DxN W h b sl w F→DxN W' h b sl w F
 |⟨val,s,ow,ks,e2,e3,e4,e5,e6⟩=>⟨val,s,ow,ks,e2,e3,e4.less hm,⟨e5.1,fun hx=>(hm _ hx).elim e5.2 fun h=>by have:=bC e2;omega⟩,DxF.less hm e6⟩
theorem DxF.updM{W M:Nat→Prop}{h h':ad}(k:Upd M h h')(hm:∀b,M b→W b∨h.size≤b):∀{F:Fo} {ks:List (Option Addr)},DxF W h F ks→DxF W h' F ks
 | .nil,_,r=>r
 | .cons _ _ _ _,_,⟨b,sl,val,s,ow,ks1,ks',e0,e1,e2,e3,e4,e5,e6,e7⟩=>⟨b,sl,val,s,ow,ks1,ks',e0,e1,k.get e2 (fun hx=>(hm _ hx).elim e5.2 fun h=>by have:=bC e2;omega),e3,e4.upd k hm,e5,DxF.updM k hm e6,DxF.updM k hm e7⟩
theorem DxN.updM{W M:Nat→Prop}{h h':ad}(k:Upd M h h')(hm:∀b,M b→W b∨h.size≤b){b:Nat}{sl:ByteArray}{w:Option ByteArray}{F:Fo}:DxN W h b sl w F→DxN W h' b sl w F
 |⟨val,s,ow,ks,e2,e3,e4,e5,e6⟩=>⟨val,s,ow,ks,k.get e2 (fun hx=>(hm _ hx).elim e5.2 fun h=>by have:=bC e2;omega),e3,e4.upd k hm,e5,DxF.updM k hm e6⟩
theorem DxL.upd0{W:Nat→Prop}{h h':ad}(k:Upd No h h'){ks:List (Option Addr)}{L:List Bn}(r:DxL W h ks L):DxL W h' ks L:=⟨r.1,fun p a=>(r.2 p a).upd0 k⟩
theorem DxL.app{W:Nat→Prop}{h:ad}{ks b:List (Option Addr)}{L L':List Bn}(r:DxL W h ks L)(c:DxL W h b L'):DxL W h (ks++b) (L++L'):=by
 refine⟨by rw[ac,ac,r.1,c.1],fun p a=>?_⟩
 rw[List.zip_append r.1]at a;rcases List.mem_append.1 a with a|a
 ·exact r.2 p a
 ·exact c.2 p a
theorem DxL.one{W:Nat→Prop}{h:ad}{k:Option Addr}{n:Bn}(c:DKid W h k n):DxL W h [k] [n]:=⟨rfl,fun p a=>by rw[lH,List.zip_nil_left]at a;rw[List.mem_singleton.1 a];exact c⟩
theorem DxL.at{W:Nat→Prop}{h:ad}{ks:List (Option Addr)}{L:List Bn}(r:DxL W h ks L){i:Nat}(hi:i<L.length):∃b sl,ks[i]? =some (some ⟨b,0,none⟩)∧sl.data.toList=L[i].1∧DxN W h b sl L[i].2.1 L[i].2.2:=by
 have e:i<ks.length:=by rw[r.1];exact hi
 have f:i<(ks.zip L).length:=by rw[List.length_zip];omega
 have:=r.2 _ (bw f);rw[List.getElem_zip]at this;obtain⟨b,sl,c,a,d⟩:=this;exact⟨b,sl,by rw[ae e];exact congrArg some c,a,d⟩
theorem DKid.less{W W':Nat→Prop}{h:ad}(hm:∀b,W' b→W b∨h.size≤b){a:Option Addr}{n:Bn}:DKid W h a n→DKid W' h a n
 |⟨b,sl,e1,e2,e3⟩=>⟨b,sl,e1,e2,e3.less hm⟩
theorem DKid.updM{W M:Nat→Prop}{h h':ad}(k:Upd M h h')(hm:∀b,M b→W b∨h.size≤b){a:Option Addr}{n:Bn}:DKid W h a n→DKid W h' a n
 |⟨b,sl,e1,e2,e3⟩=>⟨b,sl,e1,e2,e3.updM k hm⟩
theorem DxL.less{W W':Nat→Prop}{h:ad}(hm:∀b,W' b→W b∨h.size≤b){ks:List (Option Addr)}{L:List Bn}(r:DxL W h ks L):DxL W' h ks L:=⟨r.1,fun p a=>(r.2 p a).less hm⟩
theorem DxL.updM{W M:Nat→Prop}{h h':ad}(k:Upd M h h')(hm:∀b,M b→W b∨h.size≤b){ks:List (Option Addr)}{L:List Bn}(r:DxL W h ks L):DxL W h' ks L:=⟨r.1,fun p a=>(r.2 p a).updM k hm⟩
theorem SR{a b:ByteArray}(w:a.size≤1000000){h:ad}{K:Int→ad→Prop}(p:K (cm a.data.toList b.data.toList:Nat) h):HC PG zD [.string a,.string b] [.c (.int .i64)] K h:=by
 refine Pf a b ?_;unfold Fv;have x:a.data.toList.length=a.size:=by simp
 have y:b.data.toList.length=b.size:=by simp
 refine LoopP.ghost (fun(i:Nat) (t:Int) h'=>t=(i:Int)∧i≤min a.size b.size∧h'=h∧∀j,j<i→a.data.toList[j]? =b.data.toList[j]?) (fun i=>min a.size b.size-i) 0 ⟨rfl,aS _,rfl,fun j q=>absurd q (lU _)⟩ ?_
 rintro I i t h' ⟨rfl,hi,rfl,g⟩ v;refine Join.intro (fun t h2=>h2=h'∧(t=true→i<min a.size b.size∧a.data.toList[i]? =b.data.toList[i]?)∧(t=false→cm a.data.toList b.data.toList=i)) (fun R m=>?_) ?_
 ·refine ax (fun k=>?_) fun k=>m _ _ ⟨rfl,fun h=>(by cases h),fun _=>Nx (by omega) (by omega) g (by omega)⟩
  refine ax (fun h2=>?_) fun h2=>m _ _ ⟨rfl,fun h=>(by cases h),fun _=>Nx (by omega) (by omega) g (by omega)⟩
  have d:i<a.size:=by omega
  have f:i<b.size:=by omega
  have o:a.data.toList[i]? =some a[i]:=by rw[←QZ,getElem?_pos a i d]
  have n:b.data.toList[i]? =some b[i]:=by rw[←QZ,getElem?_pos b i f]
  refine⟨a[i],by omega,by rw[aR,getElem?_pos a i d],b[i],by omega,by rw[aR,getElem?_pos b i f],m _ _ ⟨rfl,fun h=>⟨by omega,?_⟩,fun h=>?_⟩⟩
  ·have:((a[i].toNat:Int))=(b[i].toNat:Int):=by simpa using h
   rw[o,n,UInt8.toNat_inj.1 (show a[i].toNat=b[i].toNat by omega)]
  ·refine Nx (by omega) (by omega) g (.inr (.inr fun e=>?_))
   rw[o,n]at e;rw[bQ.inj e]at h;simp at h
 ·rintro t h2 ⟨rfl,k,u⟩
  cases t with
  |true=>
   obtain⟨c,e⟩:=k rfl;refine au.2 ?_;rw[db c (by omega)];refine v (i+1) _ _ ⟨rfl,c,rfl,fun j q=>?_⟩ (by omega)
   rcases bZ j i with s|s
   ·exact g j s
   ·rw[show j=i by omega];exact e
  |false=>
   refine ag.2 ?_;rw[u rfl]at p;exact p
theorem abo:∀{x y:List UInt8} {t:Nat},t≤x.length→t≤y.length→x.take t=y.take t→t≤cm x y
 |_,_,0,_,_,_=>aS _
 | [],_,t+1,h,_,_=>by simp at h
 |_::_,[],t+1,_,h,_=>by simp at h
 |a::x,b::y,t+1,h1,h2,e=>by
  rw[eA,eA]at e;obtain⟨d,c⟩:=fi.inj e;have:=abo (x:=x) (y:=y) (t:=t) (by simpa using h1) (by simpa using h2) c;unfold cm;rw[if_pos d];omega
def aa9(t:Nat)(p:Pr):Pr:=(p.1.extract t p.1.size,p.2)
theorem M8(t:Nat)(p:Pr):ky (aa9 t p)=(ky p).drop t:=EH p.1 t
def VL(B:Nat):Prop:=∀{W:Nat→Prop} {h:ad} {s:SliceV} {l:List Pr},Sl eu 2 No h s l→s.len≤s.cap→Beg l []→(∀p∈l,(ky p).length≤B)→l.length≤100000→(∀y,W y→y<h.size)→∀{K:SliceV→ad→Prop},
 (∀h' s' ks L,OwnS qd 1 vK (fun y=>h.size≤y) h' s' ks→DxL W h' ks L→Row L l [] []→Upd No h h'→K s' h')→HC PG vQ [.slice s.a s.len s.cap] [.c .slice] K h
def Aa(to:Nat)(l:List Pr):List Pr:=(l.filter fun p=>decide ((ky p).length≠to)).map (aa9 to)
theorem SM{to:Nat}{l:List Pr}{i:Nat}(hi:i<l.length):Aa to (l.take (i+1))=if(ky l[i]).length=to then Aa to (l.take i)else Aa to (l.take i)++ [aa9 to l[i]]:=by
 unfold Aa;rw[aV hi,gi,du,bW,nY];by_cases h:(ky l[i]).length=to
 ·rw[if_pos h,if_neg (by simpa using h)];simp
 ·rw[if_neg h,if_pos (by simpa using h)];rfl
theorem TR{W:Nat→Prop}{B:Nat}(hB:B≤1000000)(T:∀B',B'<B→VL B'){h:ad}{s:SliceV}{l r:List Pr}{f g:Pr}(Z:Sl eu 2 No h s l)(bg:Beg l [])(Q:∀p∈l,(ky p).length≤B)(hn:l.length≤100000)(hW:∀y,W y→y<h.size)
  (u:l=f::r)(hg:l.getLast? =some g)(hb:bt 0 f=bt 0 g){K:Option Addr→ad→Prop}
  (hk:∀h' a n,DKid W h' a n→Mi n→hd n.1=bt 0 f→(∀k v,wr n k v↔XD l [] k v)→Upd No h h'→K a h'):HC PG zC [.slice s.a s.len s.cap] [.c .ptr] K h:=by
 refine Pe s ?_;unfold Ft bX nv ay az lN is dG;have hlen:=Z.len;have hl0:0<l.length:=by rw[u];simp
 have hfm:f∈l:=by rw[u];exact av ..
 have hgm:g∈l:=gh hg;obtain⟨a,ha,_,hvf⟩:=Z.at (i:=0) (x:=f) (by rw[u];rfl);obtain⟨q1,q2,q3,q4,q5⟩:=Gt bg ⟨r,u⟩ hg hb;have hbc:= @Ko l (if(ky f).length=cm (ky f) (ky g)then l.drop 1 else l) [] f g bg ⟨r,u⟩ hg hb
 have hcg:cm (ky f) (ky g)=cm (ky f) (ky g):=rfl;obtain⟨to,U⟩:∃to,cm (ky f) (ky g)=to:=⟨_,rfl⟩;rw[U]at q1 q2 q3 q4 hbc;have hszf:f.1.size=(ky f).length:=(JL f.1).symm;have hfB:=Q f hfm;have hle:∀p∈l,to≤(ky p).length:=fun p j=>(q4 p j).elim (fun e=>e▸q2) Nat.le_of_lt
 have hcm:∀p∈l,to≤cm (ky f) (ky p):=fun p j=>abo q2 (hle p j) (q3 p j).symm
 have hpos:0<to:=by simpa using q1
 refine⟨⟨by decide,by omega⟩,a,ha,_,hvf 0 _ rfl,?_⟩
 refine LoopP.ghost (fun(g:Nat×Nat) (t:Int×Int) h'=>t=((g.2:Int),(g.1:Int))∧g.1≤l.length∧to≤g.2∧g.2≤(ky f).length∧(g.1=l.length→g.2=to)∧Upd No h h') (fun g=>l.length-g.1) (0,(ky f).length) ⟨by rw[hszf];rfl,aS _,q2,aj _,fun e=>by simp only at e;omega,Upd.refl _ _⟩ ?_
 rintro I ⟨i,n⟩ t h' ⟨rfl,hi,hn1,hn2,P,V⟩ hI;simp only at hi hn1 hn2 P;refine ax (fun b=>?_) fun Y=>?_
 ·have b:i<l.length:=by have:(i:Int)<(s.len:Int):=b;omega
  have C:l[i]∈l:=bw b;refine Join.intro (fun t h2=>∃n':Nat,t=(n':Int)∧to≤n'∧n'≤(ky f).length∧(i+1=l.length→n'=to)∧Upd No h h2) (fun R hR=>?_) ?_
  ·obtain⟨a',X,_,hv⟩:=(Z.upd V fun _ h=>h.elim).at (ae b)
   refine⟨⟨by simp only;omega,by simp only;omega⟩,a',X,_,hv 0 _ rfl,_,hv 1 _ rfl,tG (p:=l[i]) fun h2 b2 k2=>?_⟩
   obtain⟨a2,ha2,_,hv2⟩:=((Z.upd V fun _ h=>h.elim).upd k2 fun _ h=>h.elim).at (i:=0) (x:=f) (by rw[u];rfl)
   refine⟨⟨by decide,by omega⟩,a2,ha2,_,hv2 0 _ rfl,_,vc b2 0,SR (by omega) ?_⟩
   have hc1:=hcm _ C;have hc2:=(VF (ky f) (ky l[i])).1;have A:i+1=l.length→l[i]=g:=fun e=>by
    rw[List.getLast?_eq_getElem?,show l.length-1=i by omega,ae b]at hg
    exact bQ.inj hg
   change CondP (decide ((cm (ky f) (ky l[i]):Int)<(n:Int))) _ _;refine ax (fun hc=>hR _ _ ⟨_,rfl,hc1,hc2,fun e=>?_,V.tr k2⟩) fun hc=>hR _ _ ⟨n,rfl,hn1,hn2,fun e=>?_,V.tr k2⟩
   ·rw[A e,U]
   ·rw[A e,U]at hc;omega
  ·rintro t h2 ⟨n',rfl,E,h2',G,m⟩
   simp only;rw[db b (by omega)];exact hI (i+1,n') _ _ ⟨rfl,b,E,h2',G,m⟩ (by simp only;omega)
 obtain rfl:i=l.length:=by have:¬(i:Int)<(s.len:Int):=Y;omega
 obtain rfl:n=to:=P rfl;clear P hI;obtain⟨a',X,_,hv⟩:=(Z.upd V fun _ h=>h.elim).at (i:=0) (x:=f) (by rw[u];rfl)
 refine⟨⟨by decide,by omega⟩,a',X,f.1,hv 0 _ rfl,⟨by omega,by simp only;omega⟩,aW fun E b1 k1=>?_⟩
 have u1:=V.tr k1;have z1:=bC b1;have s0:=V.size;simp only[aR]at b1⊢;have hlab:(f.1.extract 0 n).data.toList=((ky f).take n).drop ([]:List UInt8).length:=by rw[EG];rfl
 refine LoopP.ghost (fun(i:Nat) (t:SliceV×Int) h2=>t.2=(i:Int)∧i≤l.length∧h2[h'.size]? =some (.cells #[.string (f.1.extract 0 n),.bool (if 0<i∧(ky f).length=n then some f.2 else none:Option ByteArray).isSome,.string ((if 0<i∧(ky f).length=n then some f.2 else none:Option ByteArray).getD ⟨#[]⟩),.slice none 0 0] re (0,0))∧
  OwnS eu 2 cj (fun y=>E.size≤y) h2 t.1 (Aa n (l.take i))∧Upd No h h2∧E.size≤h2.size) (fun i=>l.length-i) 0 ⟨rfl,aS _,by rw[if_neg (by omega)];exact b1,OwnS.nil gu,u1,aj _⟩ ?_
 rintro I i ⟨so,ti⟩ h2 ⟨e1,hi2,c2,ho,m,hz2⟩ hI;simp only at e1 ho;subst e1;refine ax (fun b=>?_) fun Y=>?_
 ·have b:i<l.length:=by have:(i:Int)<(s.len:Int):=b;omega
  have C:l[i]∈l:=bw b;have J:=SM (to:=n) b;have hszi:l[i].1.size=(ky l[i]).length:=(JL l[i].1).symm;have hiB:=Q _ C;refine Join.intro (fun t G=>G[h'.size]? =some (.cells #[.string (f.1.extract 0 n),.bool (if 0<i+1∧(ky f).length=n then some f.2 else none:Option ByteArray).isSome,.string ((if 0<i+1∧(ky f).length=n then some f.2 else none:Option ByteArray).getD ⟨#[]⟩),.slice none 0 0] re (0,0))∧
   OwnS eu 2 cj (fun y=>E.size≤y) G t (Aa n (l.take (i+1)))∧Upd No h G∧E.size≤G.size) (fun R hR=>?_) ?_
  ·obtain⟨a3,ha3,_,hv3⟩:=(Z.upd m fun _ h=>h.elim).at (ae b)
   refine⟨⟨by simp only;omega,by simp only;omega⟩,a3,ha3,_,hv3 0 _ rfl,_,hv3 1 _ rfl,tG (p:=l[i]) fun G b3 k3=>⟨_,vc b3 0,?_⟩⟩
   have z3:=bC b3;have s3:=k3.size;have zh2:=bC c2;have c3:=k3.get0 c2;refine CondP.intro (fun z=>?_) fun z=>?_
   ·have z:(ky l[i]).length=n:=by
     have:((l[i].1.size:Nat):Int)=(n:Int):=by simpa using z
     omega
    have hfi:l[i]=f:=(q4 _ C).resolve_right (by omega);rw[if_pos z]at J;refine⟨_,vc b3 1,_,rfl,?_⟩;refine vI (i:=1) c3 (show 1<4 by decide) rfl fun h4 b4 O=>⟨vc (O.oth b3 (by omega)) 1,_,rfl,?_⟩
    refine vI (i:=2) b4 (show 2<4 by decide) rfl fun h5 b5 u5=>hR _ _ ⟨?_,?_,((m.tr k3).own O (by omega)).own u5 (by omega),?_⟩
    ·rw[if_pos (show 0<i+1∧(ky f).length=n from⟨by omega,by rw[←hfi];exact z⟩),b5,hfi];rfl
    ·rw[J]
     exact((ho.upd k3 fun _ _ h=>h).upd O fun y c e=>by have e:y=h'.size:=e;have c:E.size≤y:=c;omega).upd u5 fun y c e=>by have e:y=h'.size:=e;have c:E.size≤y:=c;omega
    ·have:=O.size;have:=u5.size;omega
   ·have z:¬(ky l[i]).length=n:=fun e=>by
     have:¬((l[i].1.size:Nat):Int)=(n:Int):=by simpa using z
     omega
    rw[if_neg z]at J;have hlei:=hle _ C;refine⟨_,vc b3 0,⟨by omega,by omega⟩,_,vc b3 1,aW fun h4 b4 N=>⟨vc (N.get0 b3) 1,vc (N.get0 b3) 0,_,nf b4,?_⟩⟩
    have s4:=N.size;have z4:=bC b4;refine AppP.own (M:=fun y=>(E.size≤y∧y<h2.size)∨h4.size≤y) (ys:= [aa9 n l[i]]) (((ho.within.upd k3 fun _ _ h=>h).upd N fun _ _ h=>h).more fun y c=>.inl c) rfl rfl rfl rfl (by omega) ?_ (.inr (aj _)) fun s5 h5 ho5 w=>?_
    ·have:=List.length_filter_le (fun p=>decide ((ky p).length≠n)) (l.take i)
     simp only[Aa,dw,aE];rw[aI]at this;omega
    have s5':=w.size;refine⟨vc (w.get (N.get0 b3) (by omega)) 1,vc (w.get (N.get0 b3) (by omega)) 0,hR _ _ ⟨?_,?_,((m.tr k3).tr N).trans w fun y c=>.inr (by omega),by omega⟩⟩
    ·have o:(if 0<i+1∧(ky f).length=n then some f.2 else none:Option ByteArray)=if 0<i∧(ky f).length=n then some f.2 else none:=by
      by_cases h0:0<i
      ·simp[h0]
      ·have:i=0:=by omega
       subst this;have:l[0]=f:=by simp[u]
       rw[this]at z;rw[if_neg (fun h=>z h.2),if_neg (fun h=>z h.2)]
     rw[o];exact w.get (N.get0 c3) (by omega)
    ·rw[J]
     exact ho5.more fun y c=>by show E.size≤y;omega
  ·rintro t G ⟨p1,p2,p3,p4⟩
   simp only;rw[db b (by omega)];exact hI (i+1) _ _ ⟨rfl,b,p1,p2,p3,p4⟩ (by omega)
 obtain rfl:i=l.length:=by have:¬(i:Int)<(s.len:Int):=Y;omega
 rw[bT]at ho;have hc0:(0<l.length∧(ky f).length=n)↔(ky f).length=n:=⟨fun h=>h.2,fun h=>⟨hl0,h⟩⟩
 simp only[hc0]at c2;have H:Aa n l=(if(ky f).length=n then l.drop 1 else l).map (aa9 n):=by
  unfold Aa;congr 1
  by_cases e:(ky f).length=n
  ·rw[if_pos e,u,bW,if_neg (by simpa using e),uE,th]
   refine gK.2 fun p j=>?_
   have hpl:p∈l:=by rw[u];exact aC _ j
   rcases q4 p hpl with o|h2
   ·rw[o]at j
    exact absurd ((aA.1 (u▸bg.up)).1 f j) (co _)
   ·exact decide_eq_true (by omega)
  ·rw[if_neg e]
   refine gK.2 fun p j=>?_
   rcases q4 p j with o|h2
   ·rw[o];exact decide_eq_true e
   ·exact decide_eq_true (by omega)
 have d:(if(ky f).length=n then l.drop 1 else l).Sublist l:=by
  split
  ·exact tC ..
  ·exact List.Sublist.refl _
 have S:∀p∈(if(ky f).length=n then l.drop 1 else l),n<(ky p).length:=fun p j=>by
  rcases q4 p (d.subset j)with e|h
  ·by_cases o:(ky f).length=n
   ·rw[if_pos o,u,e]at j
    exact absurd ((aA.1 (u▸bg.up)).1 f j) (co _)
   ·rw[e];omega
  ·exact h
 have hbeg:Beg (Aa n l) []:=by
  rw[H];refine⟨?_,fun p j=>?_⟩
  ·unfold bS
   rw[List.pairwise_map];refine(bg.up.sublist d).imp_of_mem fun{p q} j D b=>?_
   rw[vL]at b⊢;have e1:=q3 p (d.subset j);have o:=q3 q (d.subset D);change Op.bytesLess (ky (aa9 n p)) (ky (aa9 n q))=true;change Op.bytesLess (ky p) (ky q)=true at b;rw[M8,M8];rw[←aK n (ky p),←aK n (ky q),e1,o,O3]at b;exact b
  ·obtain⟨q,D,rfl⟩:=gA.1 j
   refine⟨rfl,?_⟩;rw[M8,aU];have:=S q D;simp only[aJ];omega
 have hkB:∀p∈Aa n l,(ky p).length≤B-n:=fun p j=>by
  rw[H]at j;obtain⟨q,D,rfl⟩:=gA.1 j;rw[M8,aU];have:=Q q (d.subset D);omega
 have hrn:(Aa n l).length≤100000:=by
  rw[H,dw];exact Nat.le_trans d.length_le hn
 have s2:=m.size;have zc:=bC c2;refine T (B-n) (by omega) (W:=fun y=>W y∨y=h'.size) (ho.sl fun _ _ _ h=>h) ho.cap hbeg hkB hrn (fun y c=>c.elim (fun c=>by have:=hW y c;omega) fun c=>by omega) fun G s3 ks L ho3 hL3 hrow hu3=>?_
 obtain⟨hcF,hgF⟩:=hrow.done;have hgot:∀k v,tF (.ofL L) k v↔XD (if(ky f).length=n then l.drop 1 else l) ((ky f).take n) k v:=fun k v=>by
  rw[hgF,H];constructor
  ·rintro⟨p,j,o,e3⟩
   obtain⟨q,D,rfl⟩:=gA.1 j;rw[M8,cz]at o;refine⟨q,D,?_,e3⟩;rw[←o,←q3 q (d.subset D),aK]
  ·rintro⟨q,D,o,e3⟩
   refine⟨aa9 n q,gA.2 ⟨q,D,rfl⟩,?_,e3⟩;rw[M8,cz,o,List.drop_left' (by rw[aI];omega)]
 obtain⟨hcn,hhd,hin⟩:=hbc (F:=.ofL L) hcF rfl hgot rfl hlab;refine⟨_,rfl,?_⟩;refine vI (i:=3) (hu3.get0 c2) (show 3<4 by decide) rfl fun h4 b4 O=>?_
 refine hk h4 _ (_,_,_) ⟨h'.size,_,rfl,rfl,_,s3,none,ks,b4,rfl,?_,⟨ho3.cap,fun hw=>by have:=hW _ hw;omega⟩,EI.2 ?_⟩ hcn hhd hin ((m.tr hu3).own O (by omega))
 ·exact(ho3.upd O fun y c e=>by have e:y=h'.size:=e;have c:h2.size≤y:=c;omega).sl fun y c _ hw=>by have:=hW y hw;have c:h2.size≤y:=c;omega
 ·rw[Fo.to_of]
  exact(hL3.updM O fun y c=>.inl (.inr c)).less fun y c=>.inl (.inl c)
end Go.Proofs
namespace Go.Proofs
open Go Go.Lift
theorem Tl{B:Nat}(hB:B≤1000000)(H:∀U,U<B→VL U):VL B:=by
 intro W h s l hs hcap bg hlB hn hW K hk;refine Pd s ?_;unfold Fs bX ay;have hlen:=hs.len;refine LoopP.ghost (fun(g:Nat×List (Option Addr)×List Bn×(Nat→Prop)) (t:SliceV×Int) h'=>t.2=(g.1:Int)∧g.1≤l.length∧OwnS qd 1 vK g.2.2.2 h' t.1 g.2.1∧(∀y,g.2.2.2 y→h.size≤y∧y<h'.size)∧DxL (fun y=>W y∨g.2.2.2 y) h' g.2.1 g.2.2.1∧Row g.2.2.1 (l.take g.1) (l.drop g.1) []∧Upd No h h') (fun g=>l.length-g.1) (0,[],[],fun _=>False)
  ⟨rfl,aS _,OwnS.nil oe,fun y d=>d.elim,⟨rfl,fun p hp=>(by cases hp)⟩,Row.nil _ _,Upd.refl _ _⟩ ?_
 rintro I ⟨i,ks,L,Mo⟩ ⟨so,ti⟩ T ⟨e1,hi,ho,v,V,f,X⟩ hI;simp only at e1 hi ho v V f;subst e1;refine ax (fun u=>?_) fun hge=>?_
 ·have u:i<l.length:=by have:(i:Int)<(s.len:Int):=u;omega
  have F:=hs.upd X fun _ h=>h.elim
  have P:∀j (D:j<l.length),0<(ky l[j]).length:=fun j D=>(bg.at_ _ (bw D)).2
  obtain⟨bi,hbi,hbie⟩:=O0 (P i u);obtain⟨ai,hai,_,hvi⟩:=F.at (ae u);refine LoopP.ghost (fun(k:Nat) (t:Int) h2=>t=(k:Int)∧i≤k∧k≤l.length∧h2=T∧∀j (D:j<l.length),i≤j→j<k→bt 0 l[j]=bt 0 l[i]) (fun k=>l.length-k) i ⟨rfl,aj _,hi,rfl,fun j D T h2=>by omega⟩ ?_
  rintro I2 k t h2 ⟨rfl,hik,S,rfl,E⟩ hI2;refine Join.intro (fun t h3=>h3=h2∧(t=true→∃hk:k<l.length,bt 0 l[k]=bt 0 l[i])∧(t=false→∀hk:k<l.length,bt 0 l[k]≠bt 0 l[i])) (fun R hR=>?_) ?_
  ·refine ax (fun a=>?_) fun a=>hR _ _ ⟨rfl,fun h=>(by cases h),fun _ hk2=>absurd (show(k:Int)<(s.len:Int) by omega) a⟩
   have a:k<l.length:=by have:(k:Int)<(s.len:Int):=a;omega
   obtain⟨bk,hbk,hbke⟩:=O0 (P k a);obtain⟨ak,hak,_,hvk⟩:=F.at (ae a);refine⟨⟨by omega,by omega⟩,ak,hak,_,hvk 0 _ rfl,bk,by decide,hbk,⟨by simp only;omega,by simp only;omega⟩,ai,hai,_,hvi 0 _ rfl,bi,by decide,hbi,hR _ _ ⟨rfl,fun h=>⟨a,?_⟩,fun h _=>?_⟩⟩
   ·have:(bk.toNat:Int)=(bi.toNat:Int):=by simpa using h
    omega
   ·intro e
    have:¬(bk.toNat:Int)=(bi.toNat:Int):=by simpa using h
    omega
  rintro t h3 ⟨rfl,ht,Y⟩;cases t with
  |true=>
   obtain⟨a,e⟩:=ht rfl;refine au.2 ?_;rw[db a (by omega)];refine hI2 (k+1) _ _ ⟨rfl,by omega,a,rfl,fun j D T h2=>?_⟩ (by omega)
   rcases bZ j k with h|h
   ·exact E j D T h
   ·have:j=k:=by omega
    subst this;exact e
  |false=>
   have Y:=Y rfl;have hik2:i<k:=by
    rcases bZ i k with h|h
    ·exact h
    ·have:k=i:=by omega
     subst this;exact absurd rfl (Y u)
   refine ag.2 ⟨⟨by omega,by omega⟩,⟨by simp only;omega,by simp only;omega⟩,?_⟩
   simp only[aR];have hsA:=Sl.sub F (l:=i) (hi:=k) (m:=s.cap) (c:=s.cap-i) hik S (by omega);have O:(l.drop i).take (k-i)++l.drop k=l.drop i:=by
    conv=>rhs;rw[←aK (k-i) (l.drop i)]
    rw[List.drop_drop,show i+(k-i)=k by omega]
   have hDA:l.take i++(l.drop i).take (k-i)=l.take k:=by
    rw[show k=i+(k-i) by omega,List.take_add];congr 2;omega
   have w:∀q∈(l.drop i).take (k-i),bt 0 q=bt 0 l[i]:=fun q hq=>by
    obtain⟨j,D,e⟩:=List.getElem_of_mem hq;rw[aI,aU]at D;rw[←e,List.getElem_take,List.getElem_drop];exact E (i+j) (by omega) (by omega) (by omega)
   have hAc:∃r,(l.drop i).take (k-i)=l[i]::r:=by
    rw[eH u,show k-i=(k-i-1)+1 by omega,eA]
    exact⟨_,rfl⟩
   have o:((l.drop i).take (k-i)).Sublist l:=(List.take_sublist _ _).trans (tC _ _);have hBk:∀b U,l.drop k=b::U→bt 0 b≠bt 0 l[i]:=fun b U e=>by
    have a:k<l.length:=by
     rcases bZ k l.length with h|h
     ·exact h
     ·rw[List.drop_eq_nil_of_le h]at e;cases e
    rw[eH a]at e;rw[←(fi.inj e).1];exact Y a
   have hAl:((l.drop i).take (k-i)).length≤l.length:=o.length_le;generalize (l.drop i).take (k-i)=A at*;obtain⟨r,J⟩:=hAc;obtain⟨g,hg⟩:∃g,A.getLast? =some g:=by rw[J];exact⟨_,List.getLast?_eq_some_getLast (by simp)⟩
   have s1:=X.size;refine TR (W:=fun y=>W y∨Mo y) hB H (hsA.less fun _ h=>h.elim) (bg.sub o) (fun q hq=>hlB q (o.subset hq)) (by omega) (fun y d=>d.elim (fun d=>Nat.lt_of_lt_of_le (hW y d) s1) fun d=>(v y d).2) J hg (w g (gh hg)).symm fun h4 ka n kd hcn hhd hin hu4=>aW fun G b5 k5=>⟨_,nf b5,?_⟩
   have C:=hu4.tr k5;have z35:=C.size;have hLn:L.length≤256:=by
    rcases BI (c:=0) f.up fun _ _=>aS _ with e|e
    ·rw[e];simp
    ·omega
   have hkl':=V.1;refine AppP.own (M:=fun y=>Mo y∨G.size≤y) (ys:= [ka]) ((ho.upd C fun _ _ h=>h).more fun y d=>.inl d) rfl rfl rfl rfl (by omega) (by simp only[aE];omega) (.inr (aj _)) fun s6 h6 ho6 N=>?_
   have z6:=N.size;have z:=f;rw[←O]at z;have Q:Beg (A++l.drop k) []:=by rw[O];exact bg.sub (tC _ _)
   have x:=z.more Q (p:=l[i]) (by rw[J];exact av ..) w hBk hcn hhd hin;rw[hDA]at x;refine hI (k,ks++ [ka],L++ [n],fun y=>(Mo y∨G.size≤y)∧y<h6.size) _ _ ⟨rfl,S,ho6.within,fun y d=>⟨?_,d.2⟩,?_,x,?_⟩ (by simp only;omega)
   ·rcases d.1 with h|h
    ·exact(v y h).1
    ·omega
   ·have hl:∀b,(W b∨((Mo b∨G.size≤b)∧b<h6.size))→(W b∨Mo b)∨G.size≤b:=fun b Z=>by
     rcases Z with h|⟨h|h,_⟩
     ·exact .inl (.inl h)
     ·exact .inl (.inr h)
     ·exact .inr h
    have hm:∀b,(Mo b∨G.size≤b)→(W b∨((Mo b∨G.size≤b)∧b<h6.size))∨G.size≤b:=fun b Z=>by
     rcases Z with h|h
     ·exact .inl (.inr ⟨.inl h,by have:=(v b h).2;omega⟩)
     ·exact .inr h
    exact(((V.upd0 C).app (DxL.one (kd.upd0 k5))).less hl).updM N hm
   ·exact(X.tr C).trans N fun y d=>.inr (by
     rcases d with h|h
     ·exact(v y h).1
     ·omega)
 ·obtain rfl:i=l.length:=by have:¬(i:Int)<(s.len:Int):=hge;omega
  rw[bT,List.drop_length]at f;exact hk T _ ks L (ho.more fun y d=>(v y d).1) (V.less fun y d=>.inl (.inl d)) f X
theorem YN(B:Nat):B≤1000000→VL B:=by
 induction B using Nat.strongRecOn with
 |_ B ih=>exact fun b=>Tl b fun a h=>ih a h (by omega)
theorem aap{h:ad}{s:SliceV}{l:List Pr}(V:Sl eu 2 No h s l)(g:s.len≤s.cap)(M:bS l)(hn:l.length≤60000)(hB:∀p∈l,(ky p).length≤1000000){K:Option Addr→ad→Prop}
  (hk:∀h' b w F,DxN No h' b ⟨#[]⟩ w F→ge F→x7 w F=US l→Upd No h h'→K (some ⟨b,0,none⟩) h'):HC PG JX [.slice s.a s.len s.cap] [.c .ptr] K h:=by
 refine ZB s ?_;unfold RP bX ay dG acp;have o:=V.len;refine aW fun f b1 k1=>?_
 have z1:=bC b1;have u:=V.upd k1 fun _ h=>h.elim
 refine Join.intro (fun(t:SliceV) h2=>∃(w:Option ByteArray) (l':List Pr),h2[h.size]? =some (.cells #[.string ⟨#[]⟩,.bool w.isSome,.string (w.getD ⟨#[]⟩),.slice none 0 0] re (0,0))∧Sl eu 2 No h2 t l'∧t.len≤t.cap∧Beg l' []∧l'.length≤l.length∧(∀p∈l',p∈l)∧(∀k v,((k= []∧w=some v)∨XD l' [] k v)↔∃p∈l,p.1.data.toList=k∧p.2=v)∧Upd No h h2) (fun R T=>?_) ?_
 ·refine Join.plain ?_
  rcases l with _|⟨p,r⟩
  ·refine ax (fun hgt=>?_) fun _=>ag.2 (T _ _ ⟨none,[],b1,u,g,⟨fT,fun p Z=>(by cases Z)⟩,aj _,fun _ h=>h,fun k v=>⟨?_,?_⟩,k1⟩)
   ·simp only[aJ]at o;omega
   ·rintro(⟨_,h⟩|⟨q,d,_⟩)
    ·cases h
    ·cases d
   ·rintro⟨q,d,_⟩;cases d
  ·simp only[al]at o
   obtain⟨a,ha,_,hv⟩:=u.at (i:=0) (x:=p) rfl;refine ax (fun _=>⟨⟨by decide,by omega⟩,a,ha,_,hv 0 _ rfl,?_⟩) fun N=>absurd (show(s.len:Int)>0 by omega) N
   have C:=aA.1 M;have n:∀q∈r,0<(ky q).length:=fun q d=>by
    have f:=vL.1 (C.1 q d);refine fL.2 fun e2=>?_
    change Op.bytesLess (ky p) (ky q)=true at f;rw[e2,Kq]at f;cases f
   rw[fg];by_cases I:p.1=⟨#[]⟩
   ·have ek:ky p= []:=by unfold ky;rw[I]
    rw[decide_eq_true I];refine au.2 ⟨⟨by decide,by omega⟩,a,ha,_,hv 1 _ rfl,_,rfl,?_⟩
    refine vI (i:=1) b1 (show 1<4 by decide) rfl fun h2 b2 H=>⟨_,rfl,?_⟩
    refine vI (i:=2) b2 (show 2<4 by decide) rfl fun h3 b3 G=>⟨⟨by decide,by omega⟩,T _ _ ⟨some p.2,r,b3,?_,by simp only;omega,⟨C.2,fun q d=>⟨rfl,n q d⟩⟩,by simp,fun q d=>aC _ d,fun k v=>?_,(k1.own H (aj _)).own G (aj _)⟩⟩
    ·have O:Upd (fun y=>y=h.size) f h3:=H.tr G
     have:=Sl.sub ((((V.less (W':=fun y=>y=h.size) fun y j=>.inr (by omega)).upd k1 fun _ h=>h.elim).upd O fun y j=>.inl j)) (l:=1) (hi:=(p::r).length) (m:=s.cap) (c:=s.cap-1) (by simp) (aj _) (by simp only[al];omega)
     rw[uE,th,List.take_of_length_le (by simp)]at this;have e2:(p::r).length-1=s.len-1:=by simp only[al];omega
     rw[e2]at this;exact this.less fun _ h=>h.elim
    ·constructor
     ·rintro(⟨rfl,h⟩|⟨q,d,f,h2⟩)
      ·exact⟨p,av ..,ek,bQ.inj h⟩
      ·exact⟨q,aC _ d,f,h2⟩
     ·rintro⟨q,d,f,h2⟩
      rcases aB.1 d with rfl|d
      ·exact .inl ⟨by rw[←f];exact ek,by rw[h2]⟩
      ·exact .inr ⟨q,d,f,h2⟩
   ·rw[decide_eq_false I]
    have P:0<(ky p).length:=fL.2 fun e=>I (rz.1 e)
    refine ag.2 (T _ _ ⟨none,p::r,b1,u,g,⟨M,fun q d=>⟨rfl,?_⟩⟩,aj _,fun _ h=>h,fun k v=>?_,k1⟩)
    ·rcases aB.1 d with rfl|d
     ·exact P
     ·exact n q d
    ·constructor
     ·rintro(⟨_,h⟩|⟨q,d,f,h2⟩)
      ·cases h
      ·exact⟨q,d,f,h2⟩
     ·rintro⟨q,d,f,h2⟩
      exact .inr ⟨q,d,f,h2⟩
 rintro t h2 ⟨w,l',b2,S,U,Q,hll,E,z,H⟩;have z2:=bC b2;refine YN 1000000 (aj _) (W:=fun y=>y=h.size) S U Q (fun p Z=>hB p (E p Z)) (by omega) (fun y j=>by omega) fun h3 s3 ks L A J B G=>⟨_,rfl,?_⟩
 obtain⟨D,Y⟩:=B.done;refine vI (i:=3) (G.get0 b2) (show 3<4 by decide) rfl fun h4 b4 X=>?_
 refine hk h4 h.size w (.ofL L) ⟨_,s3,none,ks,b4,rfl,?_,⟨A.cap,id⟩,EI.2 ?_⟩ D (Oc D M fun k v=>?_) ((H.tr G).own X (aj _))
 ·exact(A.upd X fun y j e=>by have e:y=h.size:=e;have j:h2.size≤y:=j;omega).sl fun _ _ _ h=>h
 ·rw[Fo.to_of]
  exact(J.updM X fun y j=>.inl j).less fun _ h=>h.elim
 ·rw[kI]
  unfold uY;rw[Y,z]
def acg(n:Bn):Prop:=∀{h:ad} {b:Nat} {sl:ByteArray},DxN No h b sl n.2.1 n.2.2→sl.data.toList=n.1→(kE n).length≤140737488355328→∀{K:SliceV→ad→Prop},(∀s' h',OwnS rO 1 cP (fun y=>h.size≤y) h' s' (kE n)→Upd No h h'→K s' h')→
 HC PG xr [.pointer (some ⟨b,0,none⟩)] [.c .slice] K h
theorem Vy{lab:List UInt8}{w:Option ByteArray}{c:Fo}(hl:lab.length≤10000)(hw:∀v,w=some v→v.size≤10000)(Y:c.toL.length≤256)(ih:∀m∈c.toL,acg m):acg (lab,w,c):=by
 intro h b sl r z hx K hk;simp only at r z;have F:(⟨lab.toArray⟩:ByteArray)=sl:=by rw[←z]
 have hsz:sl.size=lab.length:=by rw[←z];simp
 obtain⟨val,s,ow,ks,hb,hv,hs,hcap,hF⟩:=r;have hL:=EI.1 hF;have p:=hs.len;rw[hL.1]at p;have ex:kE (lab,w,c)=qw sl++xY w++pm c.toL.length 2++c.toL.flatMap kE:=by
  show vy lab w c.toL.length++rh c=_
  rw[AD];unfold vy;rw[F];simp only[ar]
 rw[ex]at hx hk;simp only[ac]at hx;have g:∀{h':ad} {i:Nat},Upd No h h'→aO h' (adr ⟨b,0,none⟩ i)=(adD sl w.isSome val s ow)[i]?:=fun k=>vc (k.get0 hb) _
 have r0:=Upd.refl No h;refine Rx (some ⟨b,0,none⟩) ?_;unfold Hz bE bX ay bK bV;refine⟨_,rfl,sl,g (i:=0) r0,Ej (by omega) fun s1 h1 G k1=>?_⟩
 refine Join.intro (fun t h2=>OwnS rO 1 cP (fun y=>h.size≤y) h2 t (qw sl++xY w)∧Upd No h h2) (fun R N=>?_) ?_
 ·refine⟨_,rfl,w.isSome,g (i:=1) k1,?_⟩
  have s1':=k1.size;cases w with
  |none=>
   refine ag.2 (aW fun h2 b2 o=>⟨_,nf b2,?_⟩)
   have s2:=o.size;refine AppP.own (ys:= [(0:UInt8)]) (G.upd o fun _ _ h=>h) rfl rfl rfl rfl (by omega) (by simp only[aE];simp only[xY,aE]at hx;omega) (by show h.size≤h2.size;omega) fun s3 A d C=>?_
   exact N _ _ ⟨d,(k1.tr o).trans C fun y j=>.inr j⟩
  |some v=>
   have hvs:=hw v rfl;have B:val=v:=hv;subst B;refine au.2 ⟨_,rfl,_,g (i:=2) k1,aW fun h2 b2 o=>⟨g (i:=2) (k1.tr o),_,nf b2,?_⟩⟩
   have s2:=o.size;have Z:(xY (some val)).length=1+(qw val).length:=by unfold xY;simp;omega
   rw[Z]at hx;refine AppP.own (ys:= [(1:UInt8)]) (G.upd o fun _ _ h=>h) rfl rfl rfl rfl (by omega) (by simp only[aE];omega) (by show h.size≤h2.size;omega) fun s3 A d C=>?_
   have D:Upd No h A:=(k1.tr o).trans C fun y j=>.inr j
   refine⟨g (i:=2) D,Ej (by omega) fun s4 h4 n x=>?_⟩
   have H:=D.size;have V:=x.size;refine Bi (d.upd x fun _ _ h=>h) (n.sl (W:=No) fun _ _ _ h=>h) (fun y j=>by show h.size≤y;omega) (by rw[ac,aE];omega) fun s5 h5 u q=>?_
   refine N _ _ ⟨?_,(D.tr x).trans q fun y j=>.inr j⟩
   have e:qw sl++xY (some val)=qw sl++ [1]++qw val:=by unfold xY;simp
   rw[e];exact u
 rintro t2 h2 ⟨S,U⟩;refine Join.intro (fun t A=>OwnS rO 1 cP (fun y=>h.size≤y) A t (qw sl++xY w++pm c.toL.length 2)∧Upd No h A) (fun R N=>?_) ?_
 ·refine⟨_,rfl,s,g (i:=3) U,?_⟩
  rw[p];refine Ig (by omega) fun s3 A d O=>?_
  have s2':=U.size;have H:=O.size;refine Bi (S.upd O fun _ _ h=>h) (d.sl (W:=No) fun _ _ _ h=>h) (fun y j=>by show h.size≤y;omega) (by rw[ac];omega) fun s4 h4 n hu4=>?_
  exact N _ _ ⟨n,(U.tr O).trans hu4 fun y j=>.inr j⟩
 rintro t3 A ⟨d,D⟩;refine⟨_,rfl,s,g (i:=3) D,?_⟩;refine LoopP.ghost (fun(i:Nat) (t:SliceV×Int) h'=>t.2=(i:Int)∧i≤c.toL.length∧OwnS rO 1 cP (fun y=>h.size≤y) h' t.1 (qw sl++xY w++pm c.toL.length 2++(c.toL.take i).flatMap kE)∧Upd No h h') (fun i=>c.toL.length-i) 0 ⟨rfl,aS _,by simpa using d,D⟩ ?_
 rintro I i ⟨so,ti⟩ h' ⟨e1,hi,J,E⟩ hI;simp only at e1 J;subst e1;refine ax (fun f=>?_) fun X=>?_
 ·have f:i<c.toL.length:=by have:(i:Int)<(s.len:Int):=f;omega
  refine Join.plain ?_;obtain⟨kb,ksl,Q,P,T⟩:=(hL.upd0 E).at f;obtain⟨a,ha,_,B⟩:=(hs.upd E fun _ h=>h.elim).at0 Q
  have M:((c.toL.take i).flatMap kE).length+(kE c.toL[i]).length≤(c.toL.flatMap kE).length:=by
   have e:c.toL=c.toL.take i++c.toL[i]::c.toL.drop (i+1):=by rw[List.getElem_cons_drop,aK]
   have:=congrArg (fun L=>(List.flatMap kE L).length) e
   simp only[bR,aP,ac]at this;omega
  refine⟨⟨by simp only;omega,by simp only;omega⟩,a,ha,_,B,ih _ (bw f) T P (by omega) fun s4 h4 n x=>?_⟩
  have H:=E.size;have V:=x.size;refine Bi (J.upd x fun _ _ h=>h) (n.sl (W:=No) fun _ _ _ h=>h) (fun y j=>by show h.size≤y;omega) (by simp only[ac];omega) fun s5 h5 u q=>?_
  simp only;rw[db f (by omega)];refine hI (i+1) _ _ ⟨rfl,f,?_,(E.tr x).trans q fun y j=>.inr j⟩ (by omega)
  rw[aV f,bR,aP,List.flatMap_nil,aL,←ar];exact u
 ·obtain rfl:i=c.toL.length:=by have:¬(i:Int)<(s.len:Int):=X;omega
  rw[bT]at J;exact hk _ _ J E
theorem Kc:∀{F:Fo},Po F→∀n∈F.toL,acg n
 | .nil,_,n,a=>by simp[Fo.toL]at a
 | .cons lab w kids rest,h,n,a=>by
  rcases aB.1 a with rfl|a
  ·exact Vy h.1 h.2.1 h.2.2.1 (Kc h.2.2.2.1)
  ·exact Kc h.2.2.2.2 n a
end Go.Proofs
