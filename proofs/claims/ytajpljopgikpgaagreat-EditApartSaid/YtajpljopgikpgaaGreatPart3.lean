/- A part of the proof that the named laws of this program answer true, whatever the input. -/
import Derived.Test.YtajpljopgikpgaaGreatPart2
open Array renaming toList_inj→fL
open Bool renaming true_and→pn
open ByteArray renaming mk→gU,data_extract→lj
open Int renaming toNat_natCast→aN
open List renaming range_succ→ft,range→bW,map_append→dP,sum_append→hH,map_cons→fa,sum_cons→pm,length_cons→aL,length_append→af,flatten_append→dD,mem_singleton→ai,mem_cons_self→ax,mem_cons_of_mem→aI,flatMap_cons→aJ,flatten_cons→dH,length_nil→cL,length_singleton→bd,append_assoc→ao,getElem?_cons_succ→cQ,getElem_mem→bm,mem_of_mem_take→gk,cons_append→dd,append_inj→mL,cons→gx,pairwise_cons→bh,mem_cons→ar,length_take→aK,zip_eq_zipWith→jF,length_drop→aH,set_eq_take_append_cons_drop→c8,getElem?_eq_getElem→aj,extract_eq_take_drop→eI,getElem?_cons_zero→bU,length_eq_zero_iff→bF,mem_of_getElem?→au,getElem?_append_left→dB,getElem?_take→ko,getElem?_append_right→bI,getElem?_drop→kq,getElem?_set→dG
open Nat renaming add_zero→dN,add_mul→kD,mul_le_mul_left→jE,mul_le_mul_right→cW,le_trans→bp,not_lt_zero→mK,zero_le→bD,le_refl→aw,shiftRight_eq_div_pow→eH,mod_eq_of_lt→eW,lt_or_ge→bP,zero_add→aC,le_of_eq→fC,min_eq_left→aW
open Option renaming some→bj
namespace Go.Proofs
open Go Go.Lift
def nR(l:List Pr):Option Pr:=match l with| [p]=>some p|_=>none
def lm(l:List Pr):Option (List Pr):=if 2≤l.length then some l else none
def gc(x:Hs)(lev:Nat)(l:List Pr):List Pr:=fm (fun c=>nR (part x lev c l)) 32
def kA(x:Hs)(lev:Nat)(l:List Pr):List (List Pr):=fm (fun c=>lm (part x lev c l)) 32
def gN(x:Hs):Nat→List Pr→List UInt8
 |0,l=>1::(lK l.length 2++jA l)
 |m+1,l=>0::(lK (kV (fun c=>(nR (part x (12-m) c l)).isSome) 32) 4++(lK (kV (fun c=>(lm (part x (12-m) c l)).isSome) 32) 4++(jA (gc x (12-m) l)++(kA x (12-m) l).flatMap (gN x m))))
theorem Dl{W:Nat→Prop}{x:Hs}{h:ae}{m:Nat}{s:Slots}{c:Nat}{l:List Pr}(t:SlotIs W x h m s c l):s.p c=nR l∧(s.k c).isSome=(lm l).isSome:=by
 rcases t with⟨rfl,d,e⟩|⟨p,rfl,d,e⟩|⟨f,d,g,e,_⟩
 ·rw[d,e];exact⟨rfl,rfl⟩
 ·rw[d,e];exact⟨rfl,rfl⟩
 ·rw[d,e]
  refine⟨?_,by simp[lm,f]⟩
  match l,f with
  |a::b::l,_=>rfl
def KidsAt(W:Nat→Prop)(x:Hs)(h:ae)(m:Nat):List (Option Addr)→List (List Pr)→Prop
 | [],[]=>True
 |k::ks,l::ls=>(∃kb,k=some ⟨kb,0,none⟩∧TrieAt W x h m kb l)∧KidsAt W x h m ks ls
 |_,_=>False
theorem KidsAt.app{W:Nat→Prop}{x:Hs}{h:ae}{m:Nat}:∀{ks ks':List (Option Addr)} {ls ls':List (List Pr)},KidsAt W x h m ks ls→KidsAt W x h m ks' ls'→KidsAt W x h m (ks++ks') (ls++ls')
 | [],_,[],_,_,q=>q
 |_::_,_,_::_,_,q,q'=>⟨q.1,KidsAt.app q.2 q'⟩
 | [],_,_::_,_,q,_=>q.elim
 |_::_,_,[],_,q,_=>q.elim
theorem kN{β:Type}(g:Nat→Option β)(n:Nat):fm g (n+1)=fm g n++(g n).toList:=by
 unfold fm;rw[ft,List.filterMap_append];cases h:g n<;>simp[h]
theorem DZ{W:Nat→Prop}{x:Hs}{h:ae}{m lev:Nat}{s:Slots}{l:List Pr}:∀n,(∀c,c<n→SlotIs W x h m s c (part x lev c l))→KidsAt W x h m (fm s.k n) (fm (fun c=>lm (part x lev c l)) n)
 |0,_=>trivial
 |n+1,hs=>by
  rw[kN,kN];refine KidsAt.app (DZ n fun c hc=>hs c (by omega)) ?_
  rcases hs n (by omega)with⟨a,_,b⟩|⟨p,a,_,b⟩|⟨a,_,d,b,e⟩
  ·rw[b,a];exact trivial
  ·rw[b,a];exact trivial
  ·rw[b]
   have:lm (part x lev n l)=some (part x lev n l):=by unfold lm;rw[if_pos a]
   simp only[this];exact⟨⟨d,rfl,e⟩,trivial⟩
theorem AH{W:Nat→Prop}{x:Hs}{h:ae}{m lev:Nat}{s:Slots}{l:List Pr}(a:∀c,c<32→SlotIs W x h m s c (part x lev c l)):fm s.p 32=gc x lev l:=
 Ll _ fun c hc=>(Dl (a c (List.mem_range.1 hc))).1
end Go.Proofs
namespace Go.Proofs
open Go Go.Lift
theorem pu(x:Hs)(lev:Nat)(l:List Pr):∀n,(((bW n).map fun c=>(part x lev c l).length).sum)=(l.filter fun p=>decide (ck x lev p.1<n)).length
 |0=>by
  have:(l.filter fun p=>decide (ck x lev p.1<0))= []:=List.filter_eq_nil_iff.2 fun p _=>by simp
  rw[this];rfl
 |n+1=>by
  rw[ft,dP,hH,pu x lev l n];simp only[fa,List.map_nil,pm,List.sum_nil,dN];unfold part;clear pu;induction l with
  |nil=>rfl
  |cons p l ih=>
   simp only[List.filter_cons,decide_eq_true_iff];split<;>split<;>split<;>first|omega|(simp only[aL];omega)
theorem zK(x:Hs)(lev:Nat)(l:List Pr):(gc x lev l).length+(kA x lev l).flatten.length≤l.length:=by
 have h:=pu x lev l 32;have d:(l.filter fun p=>decide (ck x lev p.1<32)).length≤l.length:=List.length_filter_le ..
 have:∀n,(fm (fun c=>nR (part x lev c l)) n).length+(fm (fun c=>lm (part x lev c l)) n).flatten.length≤((bW n).map fun c=>(part x lev c l).length).sum:=by
  intro n;induction n with
  |zero=>simp[fm]
  |succ n ih=>
   rw[kN,kN,ft,dP,hH];simp only[af,dD,fa,List.map_nil,pm,List.sum_nil,dN];generalize part x lev n l=q;have:(nR q).toList.length+(lm q).toList.flatten.length≤q.length:=by
    match q with
    | []=>simp[nR,lm]
    | [a]=>simp[nR,lm]
    |a::b::q=>simp[nR,lm]
   omega
 have:=this 32;unfold gc kA;omega
end Go.Proofs
namespace Go.Proofs
open Go Go.Lift
theorem py{x:Hs}{lev:Nat}{l:List Pr}{p:Pr}(h:p∈gc x lev l):p∈l:=by
 unfold gc fm at h;obtain⟨c,_,hc⟩:=List.mem_filterMap.1 h;unfold nR at hc;split at hc
 ·rename_i q hq
  cases hc;have:p∈part x lev c l:=by rw[hq];exact ai.2 rfl
  exact(kK.1 this).1
 ·cases hc
theorem m6{x:Hs}{lev:Nat}{l L:List Pr}(h:L∈kA x lev l):2≤L.length∧∃c,L=part x lev c l:=by
 unfold kA fm at h;obtain⟨c,_,hc⟩:=List.mem_filterMap.1 h;unfold lm at hc;split at hc
 ·cases hc;exact⟨by assumption,c,rfl⟩
 ·cases hc
theorem Fit.part{x:Hs}{lev c:Nat}{l:List Pr}(h:Fit l):Fit (part x lev c l):=fun p a=>h p (kK.1 a).1
theorem AG{B:Nat}{f:List Pr→List UInt8}:∀{ls:List (List Pr)},(∀L∈ls,2≤L.length∧(f L).length≤9+L.length*B)→(ls.flatMap f).length≤ls.flatten.length*(B+9)
 | [],_=>by simp
 |L::ls,h=>by
  have a:=h L (ax ..);have b:=AG (ls:=ls) fun M hM=>h M (aI _ hM)
  rw[aJ,af,dH,af,kD];have:L.length*(B+9)=L.length*B+L.length*9:=Nat.mul_add ..;omega
theorem pZ{x:Hs}:∀(m:Nat) {l:List Pr},Fit l→(gN x m l).length≤9+l.length*(20004+9*(m+1))
 |0,l,h=>by
  have:=nf h;unfold gN;rw[aL,af,dU];have:l.length*20004≤l.length*(20004+9*(0+1)):=jE _ (by omega);omega
 |m+1,l,h=>by
  have k:=nf (l:=gc x (12-m) l) fun p d=>h p (py d)
  have e:=AG (f:=gN x m) (ls:=kA x (12-m) l) (B:=20004+9*(m+1)) fun L i=>by
   obtain⟨b,c,rfl⟩:=m6 i;exact⟨b,pZ m h.part⟩
  have a:=zK x (12-m) l;unfold gN;rw[aL,af,af,af,dU,dU];have n:(gc x (12-m) l).length*20004≤(gc x (12-m) l).length*(20004+9*(m+1+1)):=jE _ (by omega);have j:((gc x (12-m) l).length+(kA x (12-m) l).flatten.length)*(20004+9*(m+1+1))≤l.length*(20004+9*(m+1+1)):=cW _ a;rw[kD]at j
  have g:20004+9*(m+1)+9=20004+9*(m+1+1):=by omega
  rw[g]at e;omega
end Go.Proofs
namespace Go.Proofs
open Go Go.Lift
theorem DP{h:ae}{b d n:Nat}{sp sk:SliceV}{c:Bool}{ow:Option Addr}(a:h[b]? =some (.cells (dR d n sp sk c ow) ba (0,0))) (f:sp.len+sk.len≤1000000000) {K:Int→ae→Prop} (e:K ((sp.len+sk.len:Nat):Int) h):HC PG g3 [.pointer (some ⟨b,0,none⟩)] [.c (.int .i64)] K h:=by
 refine qC _ ?_;unfold mH bL;refine ak.2 ⟨_,rfl,sp,cV (i:=2) a,_,rfl,sk,cV (i:=3) a,?_⟩;rw[nT (by omega)];exact_mod_cast e
def Bes(M:Nat→Prop)(h a:ae)(b:Nat):Prop:=M b∧(b<h.size∨a.size≤b)
theorem Bes.own{α:Type}{f:α→List Value}{c:Nat}{t:TypeId}{M:Nat→Prop}{h a:ae}{s:SliceV}{xs:List α}(d:OwnS f c t M h s xs)(e:Upd No h a):OwnS f c t (Bes M h a) a s xs:=
 (d.within.upd e fun _ _ h=>h).more fun _ b=>⟨b.1,.inl b.2⟩
theorem Bes.sl{α:Type}{f:α→List Value}{c:Nat}{t:TypeId}{M:Nat→Prop}{h a:ae}{s:SliceV}{xs:List α}(d:OwnS f c t (fun x=>h.size≤x) a s xs):Sl f c (Bes M h a) a s xs:=
 d.sl fun b g e hx=>by rcases hx.2 with h|h<;>omega
theorem Bes.hM{M:Nat→Prop}{h a:ae}(hM:∀b,h.size≤b→M b)(d:Upd No h a):∀b,a.size≤b→Bes M h a b:=fun b c=>⟨hM b (bp d.size c),.inr c⟩
theorem G9{W:Nat→Prop}{x:Hs}:∀(m:Nat),m≤13→∀{b:Nat} {l:List Pr} {T h:ae} {M:Nat→Prop} {s:SliceV} {xs:List UInt8},TrieAt W x T m b l→Upd No T h→(∀y,M y→T.size≤y)→OwnS po 1 dx M h s xs→(∀y,h.size≤y→M y)→Fit l→l.length≤60000→
  xs.length+(9+l.length*(20004+9*(m+1)))≤140737488355328→∀{K:SliceV→ae→Prop},(∀s' j,OwnS po 1 dx M j s' (xs++gN x m l)→Upd M h j→K s' j)→
  HC PG om [.slice s.a s.len s.cap,.pointer (some ⟨b,0,none⟩),.int .i64 ((13-m:Nat):Int)] [.c .slice] K h:=by
 intro m;induction m with
 |zero=>
  intro _ b l T h M s xs t hu0 H ho hM hf hn hx K hk;refine wM s (some ⟨b,0,none⟩) ((13-0:Nat):Int) ?_;unfold rv cG f6 BU FK IJ;have st:∀{j},Upd M h j→Upd No T j:=fun k=>hu0.trans k fun y o=>.inr (H y o)
  have bk:∀{j},Upd M h j→BuckAt W j b l:=fun k=>BuckAt.upd t (st k) fun _ h=>h.elim
  have C:∀{j},Upd M h j→∀y,j.size≤y→M y:=fun k y o=>hM y (bp k.size o)
  obtain⟨sp,sk,ow,hb,_⟩:=(bk (Upd.refl M h)).ex;refine gI hb (aA.2 (bG ?_));refine pE (b:=1) rfl ho hM (by omega) fun s1 h1 V u=>?_
  obtain⟨sp1,sk1,ow1,O,U,hsk1,_⟩:=(bk u).ex;have e1:=U.len;have e2:=hsk1.len;rw[cL]at e2;refine DP O (by omega) ?_;have ew:IntKind.wrap .u64 ((sp1.len+sk1.len:Nat):Int)=((l.length:Nat):Int):=by rw[Go.IntWalk.u64_in _ (by omega)];omega
  rw[ew];have hl2:l.length*20004≤l.length*(20004+9*(0+1)):=jE _ (by omega);refine DT V (C u) (n:=l.length) (k:=2) (by omega) (by omega) (by rw[af,bd];omega) fun s2 h2 Y w=>?_
  have hu02:=u.tr w;obtain⟨sp2,sk2,ow2,hb2,P,_⟩:=(bk hu02).ex;refine px hb2 P (by omega) fun s3 F z A=>?_
  refine xW (M:=Bes M h2 F) (W:=Bes M h2 F) (Bes.own Y A) (Bes.hM (C hu02) A) (Bes.sl z) (fun _ h _=>h) hf (by omega) (by rw[af,af,bd,dU];omega) fun s4 G ho4 Q=>?_
  refine hk s4 G ?_ (hu02.tr (A.wide.tr (Q.mono fun y o=>.inl o.1)))
  have:=ho4.more (M':=M) fun y o=>o.1
  rw[gN,List.append_cons,←ao];exact this
 |succ m ih=>
  intro hm b l T h M s xs t hu0 H ho hM hf hn hx K hk;refine wM s (some ⟨b,0,none⟩) ((13-(m+1):Nat):Int) ?_;unfold rv cG f6 BU FK IJ;have st:∀{j},Upd M h j→Upd No T j:=fun k=>hu0.trans k fun y o=>.inr (H y o)
  have C:∀{j},Upd M h j→∀y,j.size≤y→M y:=fun k y o=>hM y (bp k.size o)
  obtain⟨sl,nd,hs0⟩:=t;have hs:∀c,c<32→SlotIs W x T m sl c (part x (12-m) c l):=hs0;have hd:∀{j},Upd M h j→∃d n sp sk ow,j[b]? =some (.cells (dR d n sp sk false ow) ba (0,0))∧d=kV (fun c=>(nR (part x (12-m) c l)).isSome) 32∧n=kV (fun c=>(lm (part x (12-m) c l)).isSome) 32∧Sl gz 2 W j sp (gc x (12-m) l)∧Sl my 1 W j sk (fm sl.k 32):=fun{j} k=>by
   obtain⟨d,n,sp,sk,ow,hb,bits,F,G,_⟩:=(nd.upd (st k) fun _ h=>h.elim).ex
   refine⟨d,n,sp,sk,ow,hb,Au bits.d32 fun c hc=>?_,Au bits.n32 fun c hc=>?_,?_,G⟩
   ·rw[bits.dp c hc,(Dl (hs c hc)).1]
   ·rw[bits.nk c hc,(Dl (hs c hc)).2]
   ·rw[←AH hs];exact F
  have hka:KidsAt W x T m (fm sl.k 32) (kA x (12-m) l):=DZ 32 hs;have v:=pZ (x:=x) (m+1) hf;have hlen2:=v;have hml:∀L∈kA x (12-m) l,Fit L∧L.length≤60000:=fun L hL=>by
   obtain⟨_,c,rfl⟩:=m6 hL;exact⟨hf.part,bp mc hn⟩
  have hsf:Fit (gc x (12-m) l):=fun p hp=>hf p (py hp)
  have hsl:=zK x (12-m) l;unfold gN at hk v;have Z:∀q:Nat→Bool,kV q 32<4294967296:=fun q=>ny q 32
  have hd32:=Z fun c=>(nR (part x (12-m) c l)).isSome
  have hn32:=Z fun c=>(lm (part x (12-m) c l)).isSome
  generalize kV (fun c=>(nR (part x (12-m) c l)).isSome) 32=D at hk hd v hd32
  generalize kV (fun c=>(lm (part x (12-m) c l)).isSome) 32=N at hk hd v hn32
  have hS:(gc x (12-m) l).length≤60000:=by omega
  have hSb:(gc x (12-m) l).length*20004≤l.length*(20004+9*(m+1+1)):=Nat.mul_le_mul (by omega) (by omega);have hML:∀L∈kA x (12-m) l,2≤L.length∧(gN x m L).length≤9+L.length*(20004+9*(m+1)):=fun L hL=>by
   obtain⟨F,c,rfl⟩:=m6 hL;exact⟨F,pZ m hf.part⟩
  have hbud:9+(gc x (12-m) l).length*20004+(kA x (12-m) l).flatten.length*(20004+9*(m+1)+9)≤9+l.length*(20004+9*(m+1+1)):=by
   have h5:(gc x (12-m) l).length*20004≤(gc x (12-m) l).length*(20004+9*(m+1+1)):=jE _ (by omega);have h6:((gc x (12-m) l).length+(kA x (12-m) l).flatten.length)*(20004+9*(m+1+1))≤l.length*(20004+9*(m+1+1)):=cW _ hsl;rw[kD]at h6;have h7:20004+9*(m+1)+9=20004+9*(m+1+1):=by omega
   rw[h7];omega
  have hps:=nf hsf;generalize gc x (12-m) l=So at hk hd hsf hS hSb hbud v hps;generalize kA x (12-m) l=Ma at hk hka hml hML hbud v;obtain⟨d,n,sp,sk,ow,hb,_⟩:=hd (Upd.refl M h);refine gI hb (ak.2 (Join.intro (fun s' j=>OwnS po 1 dx M j s' (xs++(0::(lK D 4++lK N 4)))∧Upd M h j) (fun R hR=>bG ?_) ?_))
  ·refine pE (b:=0) rfl ho hM (by omega) fun s1 h1 V u=>?_
   obtain⟨d1,n1,sp1,sk1,ow1,O,rfl,rfl,_⟩:=hd u;refine Fs O ?_;rw[Go.IntWalk.u64_in _ (by omega)];refine DT V (C u) (n:=d1) (k:=4) (by omega) (by omega) (by rw[af,bd];omega) fun s2 h2 Y w=>?_
   obtain⟨d2,n2,sp2,sk2,ow2,hb2,rfl,rfl,_⟩:=hd (u.tr w);refine yf hb2 ?_;rw[Go.IntWalk.u64_in _ (by omega)];refine DT Y (C (u.tr w)) (n:=n2) (k:=4) (by omega) (by omega) (by rw[af,af,bd,dU];omega) fun s3 F z A=>?_
   refine hR _ _ ⟨?_,(u.tr w).tr A⟩;rw[List.append_cons,←ao];exact z
  ·rintro s' h1 ⟨V,u⟩
   obtain⟨d1,n1,sp1,sk1,ow1,O,_,_,U,_⟩:=hd u;refine px O U (by omega) fun s2 h2 Y w=>?_
   refine xW (M:=Bes M h1 h2) (W:=Bes M h1 h2) (Bes.own V w) (Bes.hM (C u) w) (Bes.sl Y) (fun _ h _=>h) hsf (by omega) (by rw[af,aL,af,dU,dU];omega) fun s3 F z A=>?_
   have z:=z.more (M':=M) fun y o=>o.1
   have X:Upd M h F:=u.tr (w.wide.tr (A.mono fun y o=>.inl o.1))
   have e13:(((13-(m+1):Nat):Int)==(13:Int))=false:=by rw[beq_eq_false_iff_ne];omega
   rw[e13];refine ak.2 ?_;obtain⟨d3,n3,sp3,sk3,ow3,hb3,_,_,_,hsk3⟩:=hd X;have hk32:=sf (g:=sl.k);refine Ba hb3 hsk3 (by omega) fun s4 G ho4 Q=>?_
   have hsk4:Sl my 1 (Bes M F G) G s4 (fm sl.k 32):=Bes.sl ho4;have hlk:=hsk4.len;have ew:IntKind.wrap .i64 (((13-(m+1):Nat):Int)+1)=((13-m:Nat):Int):=by rw[nT (by omega)];omega
   rw[ew];have hMb:=Bes.hM (C X) Q;have hob:=Bes.own z Q;have hu04:Upd M h G:=X.tr Q.wide;have hMM:∀y,Bes M F G y→M y:=fun y o=>o.1
   have st4:∀{j},Upd (Bes M F G) G j→Upd M h j:=fun k=>hu04.tr (k.mono fun y o=>.inl o.1)
   generalize Bes M F G=B at hsk4 hMb hob hMM st4;have hkl:∀{ks:List (Option Addr)} {ls:List (List Pr)},KidsAt W x T m ks ls→ks.length=ls.length∧∀i (hi:i<ls.length),∃kb,ks[i]? =some (some ⟨kb,0,none⟩)∧TrieAt W x T m kb ls[i]:=by
    intro ks;induction ks with
    |nil=>intro ls;cases ls with
     |nil=>intro _;exact⟨rfl,fun i hi=>absurd hi (mK _)⟩
     |cons a ls=>intro h;exact h.elim
    |cons k ks ihk=>intro ls;cases ls with
     |nil=>intro h;exact h.elim
     |cons a ls=>
      rintro⟨⟨kb,rfl,tk⟩,h⟩;obtain⟨e,hr⟩:=ihk h;refine⟨by simp[e],fun i hi=>?_⟩
      cases i with
      |zero=>exact⟨kb,rfl,tk⟩
      |succ i=>simp only[cQ,List.getElem_cons_succ];exact hr i (by simpa using hi)
   obtain⟨hkl,hkt⟩:=hkl hka;have hbase:(xs++(0::(lK D 4++lK N 4))++jA So).length≤xs.length+(9+So.length*20004):=by
    rw[af,af,aL,af,dU,dU];omega
   refine LoopP.ghost (fun(i:Nat) (t:SliceV×Int) j=>t.2=(i:Int)∧i≤Ma.length∧OwnS po 1 dx B j t.1 (xs++(0::(lK D 4++lK N 4))++jA So++(Ma.take i).flatMap (gN x m))∧Upd B G j) (fun i=>Ma.length-i) 0 ⟨rfl,bD _,by simpa using hob,Upd.refl _ _⟩ ?_
   rintro I i ⟨so,ti⟩ j ⟨e1,hi,ho',S⟩ hI;simp only at e1 ho';subst e1;refine bf (fun E=>?_) fun hge=>?_
   ·have E:i<Ma.length:=by have:(i:Int)<(s4.len:Int):=E;omega
    obtain⟨kb,hk1,tk⟩:=hkt i E;obtain⟨a,ha,_,hv⟩:=(hsk4.upd S fun y o=>.inl o).at0 hk1
    refine⟨⟨by simp only;omega,by simp only;omega⟩,a,ha,some ⟨kb,0,none⟩,hv,?_⟩
    have J:Ma[i]∈Ma:=bm E;have htl:=AG (f:=gN x m) (ls:=Ma.take i) (B:=20004+9*(m+1)) fun L hL=>hML L (gk hL)
    have hsp:(Ma.take i).flatten.length+Ma[i].length≤Ma.flatten.length:=by
     have e:Ma=Ma.take i++Ma[i]::Ma.drop (i+1):=by rw[List.getElem_cons_drop,List.take_append_drop]
     have:=congrArg (fun L=>(List.flatten L).length) e
     simp only[dD,dH,af]at this;omega
    have P:=cW (20004+9*(m+1)+9) hsp;rw[kD]at P;have h2l:=(hML _ J).1;have hone:9+Ma[i].length*(20004+9*(m+1))≤Ma[i].length*(20004+9*(m+1)+9):=by rw[Nat.mul_add (Ma[i].length) (20004+9*(m+1)) 9];omega
    refine ih (by omega) tk (hu0.trans (st4 S) fun y o=>.inr (H y o)) (fun y o=>H y (hMM y o)) ho' (fun y o=>hMb y (bp S.size o)) (hml _ J).1 (hml _ J).2 (by rw[af];omega) fun s5 h5 ho5 hu5=>?_
    rw[fY E (by omega)];refine hI (i+1) _ _ ⟨rfl,E,?_,S.tr hu5⟩ (by omega);rw[List.take_succ_eq_append_getElem E,List.flatMap_append,aJ,List.flatMap_nil,List.append_nil,←ao];exact ho5
   ·have hil:i=Ma.length:=by have:¬(i:Int)<(s4.len:Int):=hge;omega
    subst hil;rw[List.take_length]at ho';refine hk _ _ ?_ (st4 S);have:=ho'.more hMM;simp only[ao,dd]at this⊢;exact this
end Go.Proofs
namespace Go.Proofs
open Go Go.Lift
theorem IV{W:Nat→Prop}{x:Hs}{h:ae}{b:Nat}{l:List Pr}(t:TrieAt W x h 13 b l)(f:Fit l)(c:l.length≤60000){K:SliceV→ae→Prop}(i:∀s' a,OwnS po 1 dx (fun y=>h.size≤y) a s' (gN x 13 l)→Upd No h a→K s' a):HC PG sX [.pointer (some ⟨b,0,none⟩)] [.c .slice] K h:=by
 refine EC _ ?_;unfold yW;refine ak.2 ?_;have j:l.length*(20004+9*(13+1))≤60000*(20004+9*(13+1)):=cW _ c;exact G9 (x:=x) 13 (aw _) (s:=⟨none,0,0⟩) (xs:= []) (M:=fun y=>h.size≤y) t (Upd.refl _ _) (fun _ h=>h) (OwnS.nil vE) (fun _ h=>h) f c (by rw[cL];omega) fun s' a e g=>i s' a e (g.mono fun y d=>.inr d)
theorem Ep{W W':Nat→Prop}{h:ae}{s s':SliceV}{xs ys:List UInt8}(d:Sl po 1 W h s xs)(a:Sl po 1 W' h s' ys){K:Bool→ae→Prop}(e:K (decide (xs=ys)) h):HC PG pf [.slice s.a s.len s.cap,.slice s'.a s'.len s'.cap] [.c .bool] K h:=by
 refine zA s s' ?_;unfold sD;have b:=d.srow;have c:=a.srow;rw[Nat.mul_one]at b c;refine⟨⟨xs.toArray⟩,by rw[oA];exact b,⟨ys.toArray⟩,by rw[oA];exact c,?_⟩
 have:((⟨xs.toArray⟩:ByteArray).toList==(⟨ys.toArray⟩:ByteArray).toList)=decide (xs=ys):=by
  rw[ByteArray.toList_eq,ByteArray.toList_eq,Bool.eq_iff_iff,beq_iff_eq,decide_eq_true_iff]
 rw[this];exact e
theorem Cz:∀{a b:Nat} (k:Nat),lK a k=lK b k→a%2^(8*k)=b%2^(8*k)
 |_,_,0,_=>by simp[Nat.mod_one]
 |a,b,k+1,h=>by
  rw[rG,rG]at h;obtain⟨d,g⟩:=mL h (by rw[dU,dU]);have f:=Cz k d;have c:=congrArg UInt8.toNat (gx.inj g).1;rw[UInt8.toNat_ofNat',UInt8.toNat_ofNat',eH,eH]at c;have e:2^(8*(k+1))=2^(8*k)*2^8:=by rw[Nat.mul_add,Nat.pow_add]
  rw[e,Nat.mod_mul,Nat.mod_mul,f,c]
theorem pz{a b k:Nat}{r c:List UInt8}(e:a<2^(8*k))(g:b<2^(8*k))(h:lK a k++r=lK b k++c):a=b∧r=c:=by
 obtain⟨d,f⟩:=mL h (by rw[dU,dU]);have:=Cz k d;rw[eW e,eW g]at this;exact⟨this,f⟩
theorem rC{a b:ByteArray}{r c:List UInt8}(i:a.size≤10000)(j:b.size≤10000)(h:qw a++r=qw b++c):a=b∧r=c:=by
 unfold qw at h;rw[ao,ao]at h;obtain⟨d,g⟩:=pz (k:=2) (by omega) (by omega) h;obtain⟨f,e⟩:=mL g (by simpa using d);refine⟨?_,e⟩;cases a;cases b;exact congrArg gU (fL.1 f)
theorem sR:∀{l l':List Pr} {r r':List UInt8},Fit l→Fit l'→l.length=l'.length→jA l++r=jA l'++r'→l=l'∧r=r'
 | [],[],_,_,_,_,_,h=>⟨rfl,h⟩
 | [],_::_,_,_,_,_,e,_=>by simp at e
 |_::_,[],_,_,_,_,e,_=>by simp at e
 |p::l,q::l',r,r',hf,hf',e,h=>by
  unfold jA at h;rw[aJ,aJ,ye,ye]at h;simp only[ao]at h;have a:=hf p (ax ..);have b:=hf' q (ax ..);obtain⟨d,h⟩:=rC a.1 b.1 h;obtain⟨c,h⟩:=rC a.2 b.2 h;obtain⟨f,h⟩:=sR (l:=l) (l':=l') (fun z hz=>hf z (aI _ hz)) (fun z hz=>hf' z (aI _ hz)) (by simpa using e) h
  exact⟨by rw[f,Prod.ext d c],h⟩
theorem xz{β γ:Type}{g:Nat→Option β}{a:Nat→Option γ}:∀n,(∀c,c<n→(g c).isSome=(a c).isSome)→(fm g n).length=(fm a n).length
 |0,_=>rfl
 |n+1,h=>by
  rw[kN,kN,af,af,xz n fun c hc=>h c (by omega)]
  have:=h n (by omega);cases h1:g n<;>cases h2:a n<;>rw[h1,h2]at this<;>first|rfl|cases this
theorem Ee{β:Type}{g a:Nat→Option β}:∀n,(∀c,c<n→(g c).isSome=(a c).isSome)→fm g n=fm a n→∀c,c<n→g c=a c
 |0,_,_,c,hc=>absurd hc (mK _)
 |n+1,h,e,c,hc=>by
  rw[kN,kN]at e;obtain⟨f,b⟩:=mL e (xz n fun c hc=>h c (by omega))
  rcases bP c n with d|d
  ·exact Ee n (fun c hc=>h c (by omega)) f c d
  ·have:c=n:=by omega
   subst this;cases h1:g c<;>cases h2:a c<;>rw[h1,h2]at b<;>simp at b⊢
   exact b
theorem zP:∀{l l':List Pr},cq l→cq l'→(∀p,p∈l↔p∈l')→l=l'
 | [],[],_,_,_=>rfl
 | [],q::l',_,_,h=>absurd ((h q).2 (ax ..)) (by simp)
 |p::l,[],_,_,h=>absurd ((h p).1 (ax ..)) (by simp)
 |p::l,q::l',c,a,h=>by
  have c:=bh.1 c;have a:=bh.1 a;have e:p=q:=by
   rcases ar.1 ((h p).1 (ax ..))with e|d
   ·exact e
   ·rcases ar.1 ((h q).2 (ax ..))with e|f
    ·exact e.symm
    ·exact absurd (kL (c.1 q f) (a.1 p d)) (db _)
  subst e;rw[zP c.2 a.2 fun z=>?_]
  constructor
  ·intro hz
   rcases ar.1 ((h z).1 (aI _ hz))with e|b
   ·exact absurd (c.1 z hz) (by rw[e];exact db _)
   ·exact b
  ·intro hz
   rcases ar.1 ((h z).2 (aI _ hz))with e|b
   ·exact absurd (a.1 z hz) (by rw[e];exact db _)
   ·exact b
theorem Ho{x:Hs}{lev:Nat}{l l':List Pr}(g:cq l)(b:cq l')(h:∀c,c<32→part x lev c l=part x lev c l'):l=l':=by
 refine zP g b fun p=>?_
 have e:=h (ck x lev p.1) (wJ ..);have a:=kK (x:=x) (lev:=lev) (c:=ck x lev p.1) (l:=l) (p:=p);have f:=kK (x:=x) (lev:=lev) (c:=ck x lev p.1) (l:=l') (p:=p);rw[e]at a;constructor
 ·intro d;exact(f.1 (a.2 ⟨d,rfl⟩)).1
 ·intro d;exact(a.1 (f.2 ⟨d,rfl⟩)).1
theorem FP{q e:List Pr}(g:nR q=nR e)(f:lm q=lm e):q=e:=by
 match q,e with
 | [],[]=>rfl
 | [a],[b]=>simp[nR]at g;rw[g]
 | [],[b]=>simp[nR]at g
 | [a],[]=>simp[nR]at g
 | [],b::c::e=>simp[lm]at f
 | [a],b::c::e=>simp[lm]at f
 |b::c::e,[]=>simp[lm]at f
 |b::c::e,[a]=>simp[lm]at f
 |a::b::q,c::d::e=>simpa[lm]using f
theorem CJ{f:List Pr→List UInt8}:∀{ls ls':List (List Pr)} {r r':List UInt8},ls.length=ls'.length→(∀L∈ls,∀L'∈ls',∀r r',f L++r=f L'++r'→L=L'∧r=r')→ls.flatMap f++r=ls'.flatMap f++r'→ls=ls'∧r=r'
 | [],[],_,_,_,_,h=>⟨rfl,h⟩
 | [],_::_,_,_,e,_,_=>by simp at e
 |_::_,[],_,_,e,_,_=>by simp at e
 |L::ls,L'::ls',r,r',e,hf,h=>by
  rw[aJ,aJ,ao,ao]at h;obtain⟨b,h⟩:=hf L (ax ..) L' (ax ..) _ _ h;obtain⟨a,h⟩:=CJ (by simpa using e) (fun A d B c=>hf A (aI _ d) B (aI _ c)) h
  exact⟨by rw[b,a],h⟩
theorem xV{x:Hs}:∀(m:Nat) {l l':List Pr} {r a:List UInt8},Fit l→Fit l'→l.length≤60000→l'.length≤60000→cq l→cq l'→gN x m l++r=gN x m l'++a→l=l'∧r=a
 |0,l,l',r,a,hf,hf',hn,hn',_,_,h=>by
  unfold gN at h;rw[dd,dd,ao,ao]at h;obtain⟨e,h⟩:=pz (k:=2) (by omega) (by omega) (gx.inj h).2;exact sR hf hf' e h
 |m+1,l,l',r,a,hf,hf',hn,hn',hr,hr',h=>by
  unfold gN at h;simp only[dd,ao]at h;obtain⟨b1,h⟩:=pz (k:=4) (ny _ 32) (ny _ 32) (gx.inj h).2;obtain⟨b2,h⟩:=pz (k:=4) (ny _ 32) (ny _ 32) h;have bits:∀{q f:Nat→Bool},kV q 32=kV f 32→∀c,c<32→q c=f c:=fun{q f} e c hc=>by
   have:=congrArg (fun n=>n.testBit c) e
   simp only[vG,decide_eq_true hc,pn]at this;exact this
  have b1:=bits b1;have b2:=bits b2;obtain⟨o,h⟩:=sR (fun p b=>hf p (py b)) (fun p b=>hf' p (py b)) (xz 32 b1) h
  obtain⟨i,h⟩:=CJ (xz 32 b2) (fun L s L' d r a e=>by
   obtain⟨_,c,rfl⟩:=m6 s
   obtain⟨_,c',rfl⟩:=m6 d
   exact xV m hf.part hf'.part (bp mc hn) (bp mc hn') (p8 hr) (p8 hr') e) h
  have g:=Ee 32 b1 o;have j:=Ee 32 b2 i;exact⟨Ho hr hr' fun c hc=>FP (g c hc) (j c hc),h⟩
end Go.Proofs
namespace Go.Proofs
open Go Go.Lift
def rP(lab:ByteArray)(has:Bool)(val:ByteArray)(s:SliceV)(ow:Option Addr):Array Value:= #[.string lab,.bool has,.string val,sv s,.pointer ow]
theorem vw{w:Option ByteArray}{val:ByteArray}(h:val=w.getD ⟨#[]⟩):∀v,w=some v→val=v:=fun v e=>by rw[h,e];rfl
def RxF(W:Nat→Prop)(h:ae):Fo→List (Option Addr)→Prop
 | .nil,ks=>ks= []
 | .cons lab w kids rest,ks=>∃b sl val s ow ks1 ks',ks=some ⟨b,0,none⟩::ks'∧sl.data.toList=lab∧h[b]? =some (.cells (rP sl w.isSome val s ow) aR (0,0))∧val=w.getD ⟨#[]⟩∧Sl jW 1 W h s ks1∧(s.len≤s.cap∧¬W b∧OwOk W h ow)∧RxF W h kids ks1∧RxF W h rest ks'
def RxN(W:Nat→Prop)(h:ae)(b:Nat)(sl:ByteArray)(w:Option ByteArray)(F:Fo):Prop:=∃val s ow ks,h[b]? =some (.cells (rP sl w.isSome val s ow) aR (0,0))∧val=w.getD ⟨#[]⟩∧Sl jW 1 W h s ks∧(s.len≤s.cap∧¬W b∧OwOk W h ow)∧RxF W h F ks
def Kid(W:Nat→Prop)(h:ae)(k:Option Addr)(n:Bn):Prop:=∃b sl,k=some ⟨b,0,none⟩∧sl.data.toList=n.1∧RxN W h b sl n.2.1 n.2.2
def RxL(W:Nat→Prop)(h:ae)(ks:List (Option Addr))(L:List Bn):Prop:=ks.length=L.length∧∀p∈ks.zip L,Kid W h p.1 p.2
theorem p6{W:Nat→Prop}{h:ae}:∀{F:Fo} {ks:List (Option Addr)},RxF W h F ks↔RxL W h ks F.toL
 | .nil,ks=>by
  unfold RxF RxL;simp[Fo.toL]
 | .cons lab w kids rest,ks=>by
  unfold RxF RxL;rw[Fo.toL_cons];constructor
  ·rintro⟨b,sl,val,s,ow,c,d,rfl,i,g,o,f,j,m,t⟩
   obtain⟨v,u⟩:=p6.1 t;refine⟨by simp[v],fun p a=>?_⟩
   rw[List.zip_cons_cons]at a;rcases ar.1 a with rfl|a
   ·exact⟨b,sl,rfl,i,val,s,ow,c,g,o,f,j,m⟩
   ·exact u p a
  ·cases ks with
   |nil=>rintro⟨e,_⟩;simp at e
   |cons k d=>
    rintro⟨e,a⟩;rw[List.zip_cons_cons]at a;obtain⟨b,sl,q,i,val,s,ow,c,g,o,f,j,m⟩:=a _ (ax ..);refine⟨b,sl,val,s,ow,c,d,by rw[←q],i,g,o,f,j,m,p6.2 ⟨by simpa using e,fun p n=>a p (aI _ n)⟩⟩
theorem RxF.upd0{W:Nat→Prop}{h a:ae}(k:Upd No h a):∀{F:Fo} {ks:List (Option Addr)},RxF W h F ks→RxF W a F ks
 | .nil,_,r=>r
 | .cons _ _ _ _,_,⟨b,sl,val,s,ow,ks1,ks',e0,e1,e2,e3,e4,e5,e6,e7⟩=>⟨b,sl,val,s,ow,ks1,ks',e0,e1,k.get0 e2,e3,e4.upd k fun _ h=>h.elim,⟨e5.1,e5.2.1,e5.2.2.upd k fun _ h=>h.elim⟩,RxF.upd0 k e6,RxF.upd0 k e7⟩
theorem RxN.upd0{W:Nat→Prop}{h a:ae}(k:Upd No h a){b:Nat}{sl:ByteArray}{w:Option ByteArray}{F:Fo}:RxN W h b sl w F→RxN W a b sl w F
 |⟨val,s,ow,ks,e2,e3,e4,e5,e6⟩=>⟨val,s,ow,ks,k.get0 e2,e3,e4.upd k fun _ h=>h.elim,⟨e5.1,e5.2.1,e5.2.2.upd k fun _ h=>h.elim⟩,RxF.upd0 k e6⟩
theorem Kid.upd0{W:Nat→Prop}{h c:ae}(k:Upd No h c){a:Option Addr}{n:Bn}:Kid W h a n→Kid W c a n
 |⟨b,sl,e1,e2,e3⟩=>⟨b,sl,e1,e2,e3.upd0 k⟩
theorem RxF.less{W W':Nat→Prop}{h:ae}(hm:∀b,W' b→W b∨h.size≤b):∀{F:Fo} {ks:List (Option Addr)},RxF W h F ks→RxF W' h F ks
 | .nil,_,r=>r
 | .cons _ _ _ _,_,⟨b,sl,val,s,ow,ks1,ks',e0,e1,e2,e3,e4,e5,e6,e7⟩=>⟨b,sl,val,s,ow,ks1,ks',e0,e1,e2,e3,e4.less hm,⟨e5.1,fun hx=>(hm _ hx).elim e5.2.1 fun h=>by have:=aG e2;omega,e5.2.2.less hm⟩,RxF.less hm e6,RxF.less hm e7⟩
theorem RxN.less{W W':Nat→Prop}{h:ae}(hm:∀b,W' b→W b∨h.size≤b){b:Nat}{sl:ByteArray}{w:Option ByteArray}{F:Fo}:RxN W h b sl w F→RxN W' h b sl w F
 |⟨val,s,ow,ks,e2,e3,e4,e5,e6⟩=>⟨val,s,ow,ks,e2,e3,e4.less hm,⟨e5.1,fun hx=>(hm _ hx).elim e5.2.1 fun h=>by have:=aG e2;omega,e5.2.2.less hm⟩,RxF.less hm e6⟩
theorem RxF.updM{W M:Nat→Prop}{h a:ae}(k:Upd M h a)(hm:∀b,M b→W b∨h.size≤b):∀{F:Fo} {ks:List (Option Addr)},RxF W h F ks→RxF W a F ks
 | .nil,_,r=>r
 | .cons _ _ _ _,_,⟨b,sl,val,s,ow,ks1,ks',e0,e1,e2,e3,e4,e5,e6,e7⟩=>⟨b,sl,val,s,ow,ks1,ks',e0,e1,k.get e2 (fun hx=>(hm _ hx).elim e5.2.1 fun h=>by have:=aG e2;omega),e3,e4.upd k hm,⟨e5.1,e5.2.1,e5.2.2.upd k hm⟩,RxF.updM k hm e6,RxF.updM k hm e7⟩
theorem RxN.updM{W M:Nat→Prop}{h a:ae}(k:Upd M h a)(hm:∀b,M b→W b∨h.size≤b){b:Nat}{sl:ByteArray}{w:Option ByteArray}{F:Fo}:RxN W h b sl w F→RxN W a b sl w F
 |⟨val,s,ow,ks,e2,e3,e4,e5,e6⟩=>⟨val,s,ow,ks,k.get e2 (fun hx=>(hm _ hx).elim e5.2.1 fun h=>by have:=aG e2;omega),e3,e4.upd k hm,⟨e5.1,e5.2.1,e5.2.2.upd k hm⟩,RxF.updM k hm e6⟩
theorem RxL.upd0{W:Nat→Prop}{h a:ae}(k:Upd No h a){ks:List (Option Addr)}{L:List Bn}(r:RxL W h ks L):RxL W a ks L:=⟨r.1,fun p b=>(r.2 p b).upd0 k⟩
theorem RxL.app{W:Nat→Prop}{h:ae}{ks b:List (Option Addr)}{L L':List Bn}(r:RxL W h ks L)(c:RxL W h b L'):RxL W h (ks++b) (L++L'):=by
 refine⟨by rw[af,af,r.1,c.1],fun p a=>?_⟩
 rw[List.zip_append r.1]at a;rcases List.mem_append.1 a with a|a
 ·exact r.2 p a
 ·exact c.2 p a
theorem RxL.one{W:Nat→Prop}{h:ae}{k:Option Addr}{n:Bn}(c:Kid W h k n):RxL W h [k] [n]:=⟨rfl,fun p a=>by rw[List.zip_cons_cons,List.zip_nil_left]at a;rw[ai.1 a];exact c⟩
theorem RxL.take{W:Nat→Prop}{h:ae}{ks:List (Option Addr)}{L:List Bn}(r:RxL W h ks L)(i:Nat):RxL W h (ks.take i) (L.take i):=by
 refine⟨by rw[aK,aK,r.1],fun p a=>r.2 p ?_⟩
 have:(ks.take i).zip (L.take i)=(ks.zip L).take i:=by rw[jF,jF,List.take_zipWith]
 rw[this]at a;exact gk a
theorem RxL.drop{W:Nat→Prop}{h:ae}{ks:List (Option Addr)}{L:List Bn}(r:RxL W h ks L)(i:Nat):RxL W h (ks.drop i) (L.drop i):=by
 refine⟨by rw[aH,aH,r.1],fun p a=>r.2 p ?_⟩
 have:(ks.drop i).zip (L.drop i)=(ks.zip L).drop i:=by rw[jF,jF,List.drop_zipWith]
 rw[this]at a;exact List.mem_of_mem_drop a
theorem RxL.ins{W:Nat→Prop}{h:ae}{ks:List (Option Addr)}{L:List Bn}(r:RxL W h ks L)(i:Nat){k:Option Addr}{n:Bn}(c:Kid W h k n):RxL W h (ks.take i++k::ks.drop i) (L.take i++n::L.drop i):=by
 have:=(r.take i).app ((RxL.one c).app (r.drop i));exact this
theorem RxL.set{W:Nat→Prop}{h:ae}{ks:List (Option Addr)}{L:List Bn}(r:RxL W h ks L){i:Nat}(hi:i<L.length){k:Option Addr}{n:Bn}(c:Kid W h k n):RxL W h (ks.set i k) (L.set i n):=by
 have:=(r.take i).app ((RxL.one c).app (r.drop (i+1)));rw[c8,c8,if_pos (by rw[r.1];exact hi),if_pos hi];exact this
theorem RxL.at{W:Nat→Prop}{h:ae}{ks:List (Option Addr)}{L:List Bn}(r:RxL W h ks L){i:Nat}(hi:i<L.length):∃b sl,ks[i]? =some (some ⟨b,0,none⟩)∧sl.data.toList=L[i].1∧RxN W h b sl L[i].2.1 L[i].2.2:=by
 have e:i<ks.length:=by rw[r.1];exact hi
 have hz:i<(ks.zip L).length:=by rw[List.length_zip];omega
 have:=r.2 _ (bm hz);rw[List.getElem_zip]at this;obtain⟨b,sl,c,a,d⟩:=this;exact⟨b,sl,by rw[aj e];exact congrArg some c,a,d⟩
theorem zO:∀{L:List Bn} {c:Nat},L.Pairwise (fun m n=>hd m.1<hd n.1)→(∀n∈L,c≤hd n.1)→L= []∨c+L.length≤256
 | [],_,_,_=>.inl rfl
 |n::L,c,a,hc=>by
  have a:=bh.1 a;have d:=hc n (ax ..);have b:=JF n.1;rcases zO (c:=hd n.1+1) a.2 fun m hm=>a.1 m hm with e|e
  ·rw[e];right;simp only[bd];omega
  ·right;rw[aL];omega
theorem j2{F:Fo}(h:dS F):F.toL.length≤256:=by
 rcases zO (c:=0) (dt.1 h).1 fun _ _=>bD _ with e|e
 ·rw[e];simp
 ·omega
theorem c5{h:ae}{b i:Nat}{c:Array Value}(a:h[b]? =some (.cells c aR (0,0))):aQ h (adr ⟨b,0,none⟩ i)=c[i]?:=by rw[bC,aC];exact aV a
theorem Hc{h:ae}{b i:Nat}{c:Array Value}(a:h[b]? =some (.cells c aR (0,0))) (hi:i<c.size):Wr h (adr ⟨b,0,none⟩ i):=by rw[bC,aC];exact gL a hi
theorem x9{h:ae}{b i:Nat}{c c':Array Value}{v:Value}{k:ae→Prop}(g:h[b]? =some (.cells c aR (0,0))) (e:c.setIfInBounds i v=c') (j:∀a,a[b]? =some (.cells c' aR (0,0))→Upd (· =b) h a→k a):At (hset h (adr ⟨b,0,none⟩ i) v) k:=by
 rw[bC,aC];exact vI g fun a d f=>j a (e▸d) f
theorem Kp(s:ByteArray)(i:Nat):s[i]? =s.data.toList[i]?:=by
 rw[Array.getElem?_toList];by_cases h:i<s.size
 ·rw[getElem?_pos s i h,getElem?_pos s.data i h];rfl
 ·rw[getElem?_neg s i h,getElem?_neg s.data i h]
theorem D8{s:ByteArray}(a:s.data.toList≠[]):∃c:UInt8,s[0]? =some c∧c.toNat=hd s.data.toList:=by
 rw[Kp];match s.data.toList,a with
 |c::l,_=>exact⟨c,rfl,rfl⟩
theorem zM{W:Nat→Prop}{h:ae}{b:Nat}{sl:ByteArray}{w:Option ByteArray}{F:Fo}(r:RxN W h b sl w F)(hc:dS F){c:Nat}(hc8:c<256){K:Int×Bool→ae→Prop}
  (E:∀i ok,i≤F.toL.length→(∀j (y:j<F.toL.length),j<i→hd F.toL[j].1<c)→(∀j (y:j<F.toL.length),i≤j→c≤hd F.toL[j].1)→(ok=true↔∃hi:i<F.toL.length,hd F.toL[i].1=c)→K ((i:Int),ok) h):HC PG ik [.pointer (some ⟨b,0,none⟩),.int .u8 c] [.c (.int .i64),.c .bool] K h:=by
 refine uz _ c ?_;unfold oH bL;obtain⟨val,s,ow,ks,hb,_,V,U,hF⟩:=r;refine⟨_,rfl,s,c5 (i:=3) hb,?_⟩;have P:=p6.1 hF;have f:=dt.1 hc;have hn:=j2 hc;have p:=V.len;rw[P.1]at p;generalize hLe:F.toL=L at P f hn p E;refine eT s c _ ?_;unfold cO cG f6 D0 AC
 have D:∀{i:Nat} (hi:i<L.length) {K:Int→ae→Prop},K ((hd L[i].1:Int)-(c:Int)) h→∃a,s.a=some a∧∃v,aQ h (adr a (i*1))=some (.pointer v)∧HV PG (.func (.func jB) #[] #[]) [.pointer v,.int .u8 c] [.c (.int .i64)] K h:=by
  intro i hi K E;obtain⟨kb,C,S,G,Q⟩:=P.at hi;obtain⟨a,ha,_,hv⟩:=V.at0 S;refine⟨a,ha,_,hv,HV.mk' (rT (some ⟨kb,0,none⟩) c ?_)⟩;unfold mR bQ;obtain⟨kval,kss,kow,kks,J,_⟩:=Q;have N:C.data.toList≠[]:=by rw[G];exact(f.2 _ (bm hi)).1
  obtain⟨u,hu,M⟩:=D8 N;refine⟨_,rfl,C,c5 (i:=0) J,u,Int.le_refl _,hu,?_⟩;simp only[Bd];have d:=JF L[i].1;rw[M,G,nT (x:=(hd L[i].1:Int)) (by omega),nT (x:=(c:Int)) (by omega),nT (by omega)];exact E
 have mono:∀i j (hi:i<L.length) (y:j<L.length),i<j→hd L[i].1<hd L[j].1:=fun i j hi y e=>List.pairwise_iff_getElem.1 f.1 i j hi y e
 refine LoopP.ghost (fun(g:Nat×Nat) (t:Int×Int) h'=>t.1=(g.1:Int)∧t.2=(g.2:Int)∧g.1≤g.2∧g.2≤L.length∧h'=h∧(∀j (y:j<L.length),j<g.1→hd L[j].1<c)∧(∀j (y:j<L.length),g.2≤j→c≤hd L[j].1)) (fun g=>g.2-g.1) (0,L.length)
  ⟨rfl,by simp only;omega,by simp,by simp,rfl,fun j y h=>by omega,fun j y h=>by simp only at h;omega⟩ ?_
 rintro I ⟨i,j⟩ ⟨ti,tj⟩ h' ⟨T,Z,e,n,rfl,k,o⟩ Y;simp only at T Z e n k o;subst T Z;refine bf (fun d=>?_) fun H=>?_
 ·have d:i<j:=by have:(i:Int)<(j:Int):=d;omega
  have em:IntKind.wrap .i64 (Int.fdiv (IntKind.wrap .u64 (IntKind.wrap .i64 ((i:Int)+(j:Int)))) (2^(min (1:Int).toNat (IntKind.bits .u64))))=(((i+j)/2:Nat):Int):=by
   have e3:(2^(min (1:Int).toNat (IntKind.bits .u64)):Int)=2:=rfl;rw[e3,nT (x:=(i:Int)+(j:Int)) (by omega),Go.IntWalk.u64_in _ (by omega),Int.fdiv_eq_ediv_of_nonneg _ (by omega),nT (by omega)];omega
  refine⟨by decide,?_⟩;simp only[Bd];rw[em];generalize hm:(i+j)/2=m;have B:m<L.length:=by omega
  refine⟨by omega,?_⟩;refine D B ?_;refine bf (fun hneg=>?_) fun X=>?_
  ·refine Y (m+1,j) _ _ ⟨by simp only;rw[nT (by omega)];omega,rfl,by simp only;omega,n,rfl,fun q O A=>?_,o⟩ (by simp only;omega)
   simp only at A;rcases bP q m with h|h
   ·have:=mono q m O B h;omega
   ·have:q=m:=by omega
    subst this;omega
  ·refine Y (i,m) _ _ ⟨rfl,rfl,by simp only;omega,by simp only;omega,rfl,k,fun q O A=>?_⟩ (by simp only;omega)
   simp only at A;rcases bP m q with h|h
   ·have:=mono m q B O h;omega
   ·have:q=m:=by omega
    subst this;omega
 ·have e:i=j:=by have:¬(i:Int)<(j:Int):=H;omega
  subst e;refine bf (fun d=>?_) fun R=>?_
  ·have z:i<L.length:=by have:(i:Int)<(s.len:Int):=d;omega
   refine⟨by simp only;omega,?_⟩;refine D z ?_;refine E i _ n k o ?_;rw[beq_iff_eq];exact⟨fun h=>⟨z,by omega⟩,fun⟨_,h⟩=>by omega⟩
  ·have z:i=L.length:=by have:¬(i:Int)<(s.len:Int):=R;omega
   exact E i false n k o ⟨fun h=>(by cases h),fun h=>(by obtain⟨h,_⟩:=h;omega)⟩
end Go.Proofs
namespace Go.Proofs
open Go Go.Lift
abbrev JC:List Value:= [.string (⟨#[]⟩:ByteArray),.bool false,.string (⟨#[]⟩:ByteArray),.slice none 0 0,.pointer none]
theorem p5{h:ae}{b:Nat}{sl nl:ByteArray}{has:Bool}{val:ByteArray}{s:SliceV}{ow:Option Addr}(a:h[b]? =some (.cells (rP sl has val s ow) aR (0,0))) {K:Option Addr→ae→Prop}
  (c:∀h',h'[b]? =some (.cells (rP nl has val s ow) aR (0,0))→Upd (· =b) h h'→K (some ⟨b,0,none⟩) h'):HC PG eO [.pointer (some ⟨b,0,none⟩),.string nl] [.c .ptr] K h:=by
 refine tw _ nl ?_;unfold nD cZ;exact⟨_,rfl,Hc (i:=0) a (show 0<5 by decide),x9 (i:=0) (c':=rP nl has val s ow) a rfl c⟩
theorem nV{h:ae}{b:Nat}{sl v:ByteArray}{has:Bool}{val:ByteArray}{s:SliceV}{ow:Option Addr}(d:h[b]? =some (.cells (rP sl has val s ow) aR (0,0))) {K:Option Addr→ae→Prop}
  (f:∀h',h'[b]? =some (.cells (rP sl true v s ow) aR (0,0))→Upd (· =b) h h'→K (some ⟨b,0,none⟩) h'):HC PG eu [.pointer (some ⟨b,0,none⟩),.string v] [.c .ptr] K h:=by
 refine rR _ v ?_;unfold mP cZ;exact⟨_,rfl,Hc (i:=1) d (show 1<5 by decide),x9 (i:=1) (c':=rP sl true val s ow) d rfl fun g b1 c=>⟨_,rfl,Hc (i:=2) b1 (show 2<5 by decide),x9 (i:=2) (c':=rP sl true v s ow) b1 rfl fun e b2 a=>f e b2 (c.tr a)⟩⟩
theorem yy(s:ByteArray)(c:Nat):(s.extract 0 c).data.toList=s.data.toList.take c:=by
 rw[lj,Array.toList_extract,eI];simp
theorem yz(s:ByteArray)(c:Nat):(s.extract c s.size).data.toList=s.data.toList.drop c:=by
 rw[lj,Array.toList_extract,eI,List.take_of_length_le];rw[aH];simp
end Go.Proofs
namespace Go.Proofs
open Go Go.Lift
theorem Ic:∀{x y:List UInt8} {i:Nat},i≤x.length→i≤y.length→(∀j,j<i→x[j]? =y[j]?)→(i=x.length∨i=y.length∨x[i]?≠y[i]?)→cm x y=i
 | [],_,i,h1,_,_,_=>by simp at h1;simp[cm,h1]
 |_::_,[],i,_,h2,_,_=>by simp at h2;simp[cm,h2]
 |a::x,b::y,0,_,_,_,h=>by
  unfold cm;rw[if_neg];rintro rfl;rcases h with h|h|h<;>simp at h
 |a::x,b::y,i+1,h1,h2,h3,h4=>by
  have:=h3 0 (by omega);simp only[bU,bj.injEq]at this;unfold cm;rw[if_pos this,Ic (i:=i) (by simpa using h1) (by simpa using h2) (fun j c=>by simpa using h3 (j+1) (by omega)) (by simpa using h4)]
theorem Gr{a b:ByteArray}(z:a.size≤1000000){h:ae}{K:Int→ae→Prop}(n:K (cm a.data.toList b.data.toList:Nat) h):HC PG o5 [.string a,.string b] [.c (.int .i64)] K h:=by
 refine zm a b ?_;unfold si;simp only[Bd];have k:(if(b.size:Int)<(a.size:Int)then(b.size:Int)else(a.size:Int))=((min a.size b.size:Nat):Int):=by split<;>omega
 rw[k];have la:a.data.toList.length=a.size:=by simp
 have lb:b.data.toList.length=b.size:=by simp
 refine LoopP.ghost (fun(i:Nat) (t:Int) w=>t=(i:Int)∧i≤min a.size b.size∧w=h∧∀j,j<i→a.data.toList[j]? =b.data.toList[j]?) (fun i=>min a.size b.size-i) 0 ⟨rfl,bD _,rfl,fun j s=>absurd s (mK _)⟩ ?_
 rintro I i t w ⟨rfl,hi,rfl,o⟩ x;refine bf (fun d=>?_) fun y=>?_
 ·have d:i<min a.size b.size:=by omega
  have m:i<a.size:=by omega
  have g:i<b.size:=by omega
  refine⟨a[i],by omega,by rw[aN,getElem?_pos a i m],b[i],by omega,by rw[aN,getElem?_pos b i g],?_⟩
  have v:a.data.toList[i]? =some a[i]:=by rw[←Kp,getElem?_pos a i m]
  have q:b.data.toList[i]? =some b[i]:=by rw[←Kp,getElem?_pos b i g]
  refine CondP.intro (fun f=>?_) fun c=>?_
  ·rw[Ic (i:=i) (by omega) (by omega) o (.inr (.inr fun e=>?_))]at n
   ·exact n
   ·rw[v,q]at e
    rw[bj.inj e]at f;simp at f
  ·have c:a[i]=b[i]:=by
    have:((a[i].toNat:Int))=(b[i].toNat:Int):=by simpa using c
    exact UInt8.toNat_inj.1 (by omega)
   rw[fY d (by omega)];refine x (i+1) _ _ ⟨rfl,d,rfl,fun j s=>?_⟩ (by omega)
   rcases bP j i with u|u
   ·exact o j u
   ·have:j=i:=by omega
    subst this;rw[v,q,c]
 ·have p:i=min a.size b.size:=by omega
  rw[Ic (i:=i) (by omega) (by omega) o (by omega)]at n;rw[←p];exact n
theorem F4{F:Fo}{i:Nat}{k:List UInt8}{v:ByteArray}(h:dS F)(hi:i<F.toL.length)(ek:hd F.toL[i].1=hd k)(a:pi (pj F.toL[i]) (pj F.toL[i]) k v):pi (l6 F) (l6 F) k v:=by
 have:=Ci h hi ek a;rw[List.set_getElem_self,Fo.of_to]at this;exact this
theorem Hi{P Q a:List UInt8→ByteArray→Prop}{k:List UInt8}{v:ByteArray}(h:pi P a k v)(e:∀k v,P k v↔Q k v):pi Q a k v:=fun k' b=>by rw[h k' b,e]
end Go.Proofs
namespace Go.Proofs
open Go Go.Lift
def Dj(S T:Nat→Prop):Prop:=∀y,S y→¬T y
def PD(Ts:List (Nat→Prop)):Prop:=∀(i j:Nat) (S T:Nat→Prop),i≠j→Ts[i]? =some S→Ts[j]? =some T→Dj S T
def FoO(o:Option Addr)(W:Nat→Prop)(h:ae):Fo→List (Option Addr)→List (Nat→Prop)→Prop
 | .nil,ks,Ts=>ks= []∧Ts= []
 | .cons lab w kids rest,ks,Ts=>∃(b:Nat) (sl:ByteArray) (ks':List (Option Addr)) (S:Nat→Prop) (Ts':List (Nat→Prop)),ks=some ⟨b,0,none⟩::ks'∧Ts=S::Ts'∧sl.data.toList=lab∧
  ((RxN W h b sl w kids∧∀y,¬S y)∨(o.isSome=true∧∃(val:ByteArray) (s:SliceV) (ks1:List (Option Addr)) (A:Nat→Prop) (Us:List (Nat→Prop)),h[b]? =some (.cells (rP sl w.isSome val s o) aR (0,0))∧val=w.getD ⟨#[]⟩∧OwnS jW 1 aE A h s ks1∧
   (∀y,A y→S y∧y≠b∧y<h.size)∧S b∧(∀U∈Us,∀y,U y→S y∧¬A y∧y≠b)∧PD Us∧FoO o W h kids ks1 Us))∧FoO o W h rest ks' Ts'
def RxO(o:Option Addr)(W:Nat→Prop)(h:ae)(b:Nat)(sl:ByteArray)(w:Option ByteArray)(F:Fo)(S:Nat→Prop):Prop:=
 (RxN W h b sl w F∧∀y,¬S y)∨(o.isSome=true∧∃(val:ByteArray) (s:SliceV) (ks1:List (Option Addr)) (A:Nat→Prop) (Us:List (Nat→Prop)),h[b]? =some (.cells (rP sl w.isSome val s o) aR (0,0))∧val=w.getD ⟨#[]⟩∧OwnS jW 1 aE A h s ks1∧
  (∀y,A y→S y∧y≠b∧y<h.size)∧S b∧(∀U∈Us,∀y,U y→S y∧¬A y∧y≠b)∧PD Us∧FoO o W h F ks1 Us)
theorem HI{o:Option Addr}{W:Nat→Prop}{h:ae}{lab:List UInt8}{w:Option ByteArray}{a c:Fo}{ks:List (Option Addr)}{Ts:List (Nat→Prop)}:
 FoO o W h (.cons lab w a c) ks Ts↔∃b sl ks' S Ts',ks=some ⟨b,0,none⟩::ks'∧Ts=S::Ts'∧sl.data.toList=lab∧RxO o W h b sl w a S∧FoO o W h c ks' Ts':=Iff.rfl
def KidO(o:Option Addr)(W:Nat→Prop)(h:ae)(k:Option Addr)(n:Bn)(S:Nat→Prop):Prop:=∃b sl,k=some ⟨b,0,none⟩∧sl.data.toList=n.1∧RxO o W h b sl n.2.1 n.2.2 S
def LsO(o:Option Addr)(W:Nat→Prop)(h:ae)(ks:List (Option Addr))(L:List Bn)(Ts:List (Nat→Prop)):Prop:=ks.length=L.length∧Ts.length=L.length∧∀(i:Nat) (k:Option Addr) (n:Bn) (S:Nat→Prop),ks[i]? =some k→L[i]? =some n→Ts[i]? =some S→KidO o W h k n S
theorem xy{o:Option Addr}{W:Nat→Prop}{h:ae}:∀{F:Fo} {ks:List (Option Addr)} {Ts:List (Nat→Prop)},FoO o W h F ks Ts↔LsO o W h ks F.toL Ts
 | .nil,ks,Ts=>by
  constructor
  ·rintro⟨rfl,rfl⟩;exact⟨rfl,rfl,fun i k n S h=>by simp at h⟩
  ·rintro⟨a,c,_⟩;exact⟨bF.1 a,bF.1 c⟩
 | .cons lab w kids rest,ks,Ts=>by
  rw[HI,Fo.toL_cons];constructor
  ·rintro⟨b,sl,j,S,Ts',rfl,rfl,e,r,f⟩
   obtain⟨a,c,m⟩:=xy.1 f;refine⟨by simp[a],by simp[c],fun i k n p ek g d=>?_⟩
   cases i with
   |zero=>
    simp only[bU,bj.injEq]at ek g d;subst ek g d;exact⟨b,sl,rfl,e,r⟩
   |succ i=>
    simp only[cQ]at ek g d;exact m i k n p ek g d
  ·rintro⟨a,c,m⟩
   cases ks with
   |nil=>simp at a
   |cons k j=>
    cases Ts with
    |nil=>simp at c
    |cons S Ts'=>
     obtain⟨b,sl,s,q,r⟩:=m 0 k _ S rfl rfl rfl;exact⟨b,sl,j,S,Ts',by rw[s],rfl,q,r,xy.2 ⟨by simpa using a,by simpa using c,fun i k n p ek g d=>m (i+1) k n p ek g d⟩⟩
theorem FoO.freeze{o:Option Addr}{W W':Nat→Prop}{h:ae}(g:∀y,W' y→W y)(e:OwOk W' h o):∀{F:Fo} {ks:List (Option Addr)} {Ts:List (Nat→Prop)},FoO o W h F ks Ts→(∀U∈Ts,∀y,U y→¬W' y)→RxF W' h F ks
 | .nil,_,_,f,_=>f.1
 | .cons lab w kids rest,ks,Ts,⟨b,sl,ks',S,Ts',e1,e2,e3,r,f⟩,hT=>by
  subst e1 e2;have n:=FoO.freeze g e f fun U j=>hT U (aI _ j)
  have k:=hT S (ax ..);rcases r with⟨r,_⟩|⟨_,val,s,a,A,Us,B,hv,p,i,d,j,_,u⟩
  ·obtain⟨val,s,ow,a,q,z,v,t,x⟩:=RxN.less (fun y c=>.inl (g y c)) r
   exact⟨b,sl,val,s,ow,a,ks',rfl,e3,q,z,v,t,x,n⟩
  ·exact⟨b,sl,val,s,o,a,ks',rfl,e3,B,hv,p.sl fun y c _=>k y (i y c).1,⟨p.cap,k b d,e⟩,FoO.freeze g e u fun U m y c=>k y (j U m y c).1,n⟩
theorem RxO.freeze{o:Option Addr}{W W':Nat→Prop}{h:ae}(j:∀y,W' y→W y)(i:OwOk W' h o){b:Nat}{sl:ByteArray}{w:Option ByteArray}{F:Fo}{S:Nat→Prop}(r:RxO o W h b sl w F S)(f:∀y,S y→¬W' y):RxN W' h b sl w F:=by
 rcases r with⟨r,_⟩|⟨_,val,s,d,A,Us,p,hv,k,e,c,n,_,m⟩
 ·exact RxN.less (fun y a=>.inl (j y a)) r
 ·exact⟨val,s,o,d,p,hv,k.sl fun y a _=>f y (e y a).1,⟨k.cap,f b c,i⟩,FoO.freeze j i m fun U g y a=>f y (n U g y a).1⟩
theorem RxO.read{o w':Option Addr}{W S:Nat→Prop}{h:ae}{b:Nat}{sl:ByteArray}{w:Option ByteArray}{F:Fo}(r:RxO o W h b sl w F S)(t:By h w' o):RxN No h b sl w F:=
 r.freeze (fun _ h=>h.elim) (fun a e=>⟨id,t.plain a (t.tok e)⟩) fun _ _ h=>h
theorem RxO.off{W S:Nat→Prop}{h:ae}{b:Nat}{sl:ByteArray}{w:Option ByteArray}{F:Fo}(r:RxO none W h b sl w F S):RxN W h b sl w F∧∀y,¬S y:=r.elim id fun h=>absurd h.1 (by simp)
theorem FoO.upd{o:Option Addr}{W M:Nat→Prop}{h q:ae}(k:Upd M h q):∀{F:Fo} {ks:List (Option Addr)} {Ts:List (Nat→Prop)},FoO o W h F ks Ts→(∀U∈Ts,∀y,U y→y<h.size)→(∀y,M y→(W y∧∀U∈Ts,¬U y)∨h.size≤y)→FoO o W q F ks Ts
 | .nil,_,_,f,_,_=>f
 | .cons lab w kids rest,ks,Ts,⟨b,sl,ks',S,Ts',e1,e2,e3,r,f⟩,hT,hm=>by
  subst e1 e2;have p:=FoO.upd k f (fun U g=>hT U (aI _ g)) fun y a=>(hm y a).imp (fun h=>⟨h.1,fun U g=>h.2 U (aI _ g)⟩) id
  have t:=hT S (ax ..);have d:∀y,M y→(W y∧¬S y)∨h.size≤y:=fun y a=>(hm y a).imp (fun h=>⟨h.1,h.2 S (ax ..)⟩) id
  have n:∀y,S y→¬M y:=fun y a hM=>by
   have:=t y a;rcases d y hM with h|h
   ·exact h.2 a
   ·omega
  have z:=k.size;rcases r with⟨r,e⟩|⟨e,val,s,m,A,Us,C,hv,v,c,j,g,B,u⟩
  ·exact⟨b,sl,ks',S,Ts',rfl,rfl,e3,.inl ⟨RxN.updM k (fun y a=>(d y a).imp (fun h=>h.1) id) r,e⟩,p⟩
  ·exact⟨b,sl,ks',S,Ts',rfl,rfl,e3,.inr ⟨e,val,s,m,A,Us,k.get C (n b j),hv,v.upd k fun y a=>n y (c y a).1,fun y a=>⟨(c y a).1,(c y a).2.1,by have:=(c y a).2.2;omega⟩,j,g,B,FoO.upd k u (fun U i y a=>t y (g U i y a).1) fun y a=>(d y a).imp (fun h=>⟨h.1,fun U i x=>h.2 (g U i y x).1⟩) id⟩,p⟩
theorem RxO.upd{o:Option Addr}{W M:Nat→Prop}{h g:ae}(k:Upd M h g){b:Nat}{sl:ByteArray}{w:Option ByteArray}{F:Fo}{S:Nat→Prop}(r:RxO o W h b sl w F S)(n:∀y,S y→y<h.size)(hm:∀y,M y→(W y∧¬S y)∨h.size≤y):RxO o W g b sl w F S:=by
 have:=FoO.upd (F:=.cons sl.data.toList w F .nil) k (ks:= [some ⟨b,0,none⟩]) (Ts:= [S]) ⟨b,sl,[],S,[],rfl,rfl,rfl,r,rfl,rfl⟩ (fun U e=>by rw[ai.1 e];exact n) fun y i=>(hm y i).imp (fun h=>⟨h.1,fun U e=>by rw[ai.1 e];exact h.2⟩) id
 obtain⟨b',a,m,p,Ts',d,c,f,j,_⟩:=this;simp only[gx.injEq,bj.injEq,Addr.mk.injEq,and_true]at d c;obtain⟨d,_⟩:=d;obtain⟨c,_⟩:=c;subst d c;have f:a=sl:=by cases a;cases sl;exact congrArg gU (fL.1 f)
 subst f;exact j
theorem FoO.upd0{o:Option Addr}{W:Nat→Prop}{h i:ae}(k:Upd No h i):∀{F:Fo} {ks:List (Option Addr)} {Ts:List (Nat→Prop)},FoO o W h F ks Ts→FoO o W i F ks Ts
 | .nil,_,_,f=>f
 | .cons lab w kids rest,ks,Ts,⟨b,sl,ks',S,Ts',e1,e2,e3,r,f⟩=>by
  have z:=k.size;refine⟨b,sl,ks',S,Ts',e1,e2,e3,?_,FoO.upd0 k f⟩;rcases r with⟨r,e⟩|⟨e,val,s,g,A,Us,q,hv,p,a,d,m,n,j⟩
  ·exact .inl ⟨RxN.upd0 k r,e⟩
  ·exact .inr ⟨e,val,s,g,A,Us,k.get0 q,hv,p.upd k fun _ _ h=>h,fun y c=>⟨(a y c).1,(a y c).2.1,by have:=(a y c).2.2;omega⟩,d,m,n,FoO.upd0 k j⟩
theorem RxO.upd0{o:Option Addr}{W S:Nat→Prop}{h g:ae}(k:Upd No h g){b:Nat}{sl:ByteArray}{w:Option ByteArray}{F:Fo}(r:RxO o W h b sl w F S):RxO o W g b sl w F S:=by
 have z:=k.size;rcases r with⟨r,e⟩|⟨e,val,s,f,A,Us,p,hv,n,a,d,j,m,i⟩
 ·exact .inl ⟨RxN.upd0 k r,e⟩
 ·exact .inr ⟨e,val,s,f,A,Us,k.get0 p,hv,n.upd k fun _ _ h=>h,fun y c=>⟨(a y c).1,(a y c).2.1,by have:=(a y c).2.2;omega⟩,d,j,m,FoO.upd0 k i⟩
theorem FoO.less{o:Option Addr}{W W':Nat→Prop}{h:ae}(hm:∀y,W' y→W y∨h.size≤y):∀{F:Fo} {ks:List (Option Addr)} {Ts:List (Nat→Prop)},FoO o W h F ks Ts→FoO o W' h F ks Ts
 | .nil,_,_,f=>f
 | .cons lab w kids rest,ks,Ts,⟨b,sl,ks',S,Ts',e1,e2,e3,r,f⟩=>by
  refine⟨b,sl,ks',S,Ts',e1,e2,e3,?_,FoO.less hm f⟩;rcases r with⟨r,e⟩|⟨e,val,s,c,A,Us,m,hv,k,d,a,i,j,g⟩
  ·exact .inl ⟨RxN.less hm r,e⟩
  ·exact .inr ⟨e,val,s,c,A,Us,m,hv,k,d,a,i,j,FoO.less hm g⟩
theorem RxO.less{o:Option Addr}{W W' S:Nat→Prop}{h:ae}(hm:∀y,W' y→W y∨h.size≤y){b:Nat}{sl:ByteArray}{w:Option ByteArray}{F:Fo}(r:RxO o W h b sl w F S):RxO o W' h b sl w F S:=by
 rcases r with⟨r,e⟩|⟨e,val,s,c,A,Us,k,hv,j,d,a,g,i,f⟩
 ·exact .inl ⟨RxN.less hm r,e⟩
 ·exact .inr ⟨e,val,s,c,A,Us,k,hv,j,d,a,g,i,FoO.less hm f⟩
theorem KidO.upd{o:Option Addr}{W M:Nat→Prop}{h c:ae}(k:Upd M h c){a:Option Addr}{n:Bn}{S:Nat→Prop}(r:KidO o W h a n S)(f:∀y,S y→y<h.size)(hm:∀y,M y→(W y∧¬S y)∨h.size≤y):KidO o W c a n S:=let⟨b,sl,e,d,r⟩:=r;⟨b,sl,e,d,r.upd k f hm⟩
theorem KidO.less{o:Option Addr}{W W' S:Nat→Prop}{h:ae}(hm:∀y,W' y→W y∨h.size≤y){a:Option Addr}{n:Bn}(r:KidO o W h a n S):KidO o W' h a n S:=let⟨b,sl,d,c,r⟩:=r;⟨b,sl,d,c,r.less hm⟩
theorem Kh{o:Option Addr}{W:Nat→Prop}{h:ae}{F:Fo}{ks:List (Option Addr)}(f:RxF W h F ks):LsO o W h ks F.toL (List.replicate F.toL.length No):=by
 have e:=p6.1 f;refine⟨e.1,by simp,fun i k n S ek c a=>?_⟩
 obtain⟨hi,c⟩:=List.getElem?_eq_some_iff.1 c;obtain⟨b,sl,d,g,r⟩:=e.at hi;rw[ek]at d;cases d;have a:S=No:=by
  rw[List.getElem?_replicate,if_pos hi]at a;exact(bj.inj a).symm
 subst a c;exact⟨b,sl,rfl,g,.inl ⟨r,fun _ h=>h⟩⟩
theorem RxO.view{o:Option Addr}{W S:Nat→Prop}{h:ae}{b:Nat}{sl:ByteArray}{w:Option ByteArray}{F:Fo}(r:RxO o W h b sl w F S):
  ∃(val:ByteArray) (s:SliceV) (ow:Option Addr) (ks:List (Option Addr)) (Us:List (Nat→Prop)),h[b]? =some (.cells (rP sl w.isSome val s ow) aR (0,0))∧val=w.getD ⟨#[]⟩∧Sl jW 1 No h s ks∧LsO o W h ks F.toL Us∧(∀U∈Us,∀y,U y→S y)∧PD Us∧
   ((OwOk W h ow∧(¬W b)∧Sl jW 1 W h s ks∧∀y,¬S y)∨(o.isSome=true∧ow=o∧∃A:Nat→Prop,OwnS jW 1 aE A h s ks∧(∀y,A y→S y∧y≠b∧y<h.size)∧S b∧∀U∈Us,∀y,U y→¬A y∧y≠b)):=by
 rcases r with⟨⟨val,s,ow,ks,q,z,p,m,v⟩,e⟩|⟨e,val,s,g,A,Us,B,hv,n,k,f,d,x,t⟩
 ·refine⟨val,s,ow,ks,_,q,z,p.less fun _ h=>h.elim,Kh v,fun U d y a=>?_,fun i j S T _ u C y a _=>?_,.inl ⟨m.2.2,m.2.1,p,e⟩⟩
  ·rw[List.eq_of_mem_replicate d]at a;exact a.elim
  ·rw[List.eq_of_mem_replicate (au u)]at a;exact a.elim
 ·exact⟨val,s,o,g,Us,B,hv,n.sl fun _ _ _ h=>h,xy.1 t,fun U c y a=>(d U c y a).1,x,.inr ⟨e,rfl,A,n,k,f,fun U c y a=>(d U c y a).2⟩⟩
def SR(o:Option Addr)(b:Nat)(A:Nat→Prop)(Us:List (Nat→Prop))(y:Nat):Prop:=o.isSome=true∧(y=b∨A y∨∃U∈Us,U y)
theorem qP{o:Option Addr}{W:Nat→Prop}{h:ae}{b:Nat}{sl val:ByteArray}{s:SliceV}{w:Option ByteArray}{F:Fo}{ks:List (Option Addr)}{A:Nat→Prop}{Us:List (Nat→Prop)}(u:h[b]? =some (.cells (rP sl w.isSome val s o) aR (0,0))) (hv:val=w.getD ⟨#[]⟩) (n:OwnS jW 1 aE A h s ks)
  (q:∀y,A y→y≠b∧y<h.size) (D:∀U∈Us,∀y,U y→¬A y∧y≠b) (t:PD Us) (g:LsO o W h ks F.toL Us) (C:o=none→(∀y,A y→¬W y)∧¬W b):RxO o W h b sl w F (SR o b A Us):=by
 cases o with
 |none=>
  obtain⟨v,E⟩:=C rfl;refine .inl ⟨⟨val,s,none,ks,u,hv,n.sl fun y c _=>v y c,⟨n.cap,E,ia⟩,p6.2 ⟨g.1,fun p t=>?_⟩⟩,fun y c=>by simp[SR]at c⟩
  obtain⟨i,hi,e⟩:=List.getElem_of_mem t;rw[List.length_zip]at hi;have k:i<ks.length:=by omega
  have f:i<F.toL.length:=by omega
  have m:i<Us.length:=by rw[g.2.1];exact f
  rw[List.getElem_zip]at e;subst e;obtain⟨x,j,B,z,r⟩:=g.2.2 i _ _ _ (aj k) (aj f) (aj m);exact⟨x,j,B,z,r.off.1⟩
 |some a=>exact .inr ⟨rfl,val,s,ks,A,Us,u,hv,n,fun y c=>⟨⟨rfl,.inr (.inl c)⟩,q y c⟩,⟨rfl,.inl rfl⟩,fun U d y c=>⟨⟨rfl,.inr (.inr ⟨U,d,c⟩)⟩,D U d y c⟩,t,xy.2 g⟩
end Go.Proofs
namespace Go.Proofs
open Go Go.Lift
theorem xZ{h:ae}{w o:Option Addr}{b:Nat}{sl val:ByteArray}{has:Bool}{s:SliceV}{ow:Option Addr}(t:By h w o)(e:h[b]? =some (.cells (rP sl has val s ow) aR (0,0))) (f:∀a,ow=some a→de h a) {K:Bool→ae→Prop} (c:K (o.isSome&&(ow==w)) h):
  HC PG kg [.pointer (some ⟨b,0,none⟩),.pointer w] [.c .bool] K h:=by
 refine tB _ w ?_;unfold nG gd;refine aA.2 (ue t ?_);cases o with
 |none=>exact ak.2 c
 |some a=>exact aA.2 ⟨_,rfl,ow,c5 (i:=4) e,trivial,fun x y hx d=>⟨f x hx,t.plain y d⟩,c⟩
theorem hO{W S:Nat→Prop}{h:ae}{w o:Option Addr}{b:Nat}{sl val:ByteArray}{has:Bool}{s:SliceV}{ow:Option Addr}{ks:List (Option Addr)}{Us:List (Nat→Prop)}(t:By h w o)(Z:∀a,o=some a→W a.block)(g:h[b]? =some (.cells (rP sl has val s ow) aR (0,0))) (hn:ks.length≤256)
  (E:(OwOk W h ow∧Sl jW 1 No h s ks∧(∀U∈Us,∀y,U y→y<h.size))∨(o.isSome=true∧ow=o∧∃A:Nat→Prop,OwnS jW 1 aE A h s ks∧(∀y,A y→S y∧y≠b∧y<h.size)∧S b∧∀U∈Us,∀y,U y→¬A y∧y≠b)) {K:Option Addr→ae→Prop}
  (V:∀h' b' s' A,h'[b']? =some (.cells (rP sl has val s' o) aR (0,0))→OwnS jW 1 aE A h' s' ks→(∀y,A y→(S y∨h.size≤y)∧y≠b'∧y<h'.size)→(S b'∨h.size≤b')→(∀U∈Us,∀y,U y→¬A y∧y≠b')→Upd No h h'→K (some ⟨b',0,none⟩) h'):
  HC PG cz [.pointer (some ⟨b,0,none⟩),.pointer w] [.c .ptr] K h:=by
 refine vQ _ w ?_;unfold pL gd bQ bL nv cZ qu ii BN K3;rcases E with⟨q,E,C⟩|⟨e,L,A,hA,z,I,C⟩
 ·refine xZ t g (fun a e=>(q a e).2) ?_
  have M:(o.isSome&&(ow==w))=false:=by
   cases ho:o with
   |none=>rfl
   |some a=>
    have e:=t.tok ho;rw[Option.isSome_some,pn,beq_eq_false_iff_ne];intro j;rw[e]at j;exact(q a j).1 (Z a ho)
  rw[M];refine ak.2 ⟨_,rfl,sl,c5 (i:=0) g,has,c5 (i:=1) g,val,c5 (i:=2) g,s,c5 (i:=3) g,ow,c5 (i:=4) g,bG ?_⟩;have k1:=Upd.hnew No h JC aR;have b1:=ci h JC aR;simp only[eZ h];generalize hnew h [.string (⟨#[]⟩:ByteArray),.bool false,.string (⟨#[]⟩:ByteArray),.slice none 0 0,.pointer none] aR=h1 at k1 b1;refine dy (c:=JC) (vs:= [.string sl,.bool has,.string val,.slice s.a s.len s.cap,.pointer ow]) b1 rfl fun P b2 J=>?_
  have O:Upd No h P:=k1.trans J fun x hx=>.inr (fC hx.symm)
  have Y:h.size<P.size:=aG b2;have G:=O.get0 g;refine⟨_,rfl,s,c5 (i:=3) G,?_⟩;refine Ar (E.upd O fun _ h=>h.elim) (by omega) fun p R N k=>?_
  have b3:R[h.size]? =some (.cells (rP sl has val s ow) aR (0,0)):=k.get0 b2;refine⟨Hc (i:=3) b3 (show 3<5 by decide),x9 (i:=3) (c':=rP sl has val p ow) b3 rfl fun h4 X Q=>?_⟩
  refine⟨Hc (i:=4) X (show 4<5 by decide),x9 (i:=4) (c':=rP sl has val p none) X rfl fun T F D=>?_⟩
  have f:=Q.tr D;have z3:=k.size;have z5:=f.size;have v:Upd No h T:=(O.tr k).trans f fun x hx=>.inr (fC hx.symm)
  have fin:∀{n:ae},n[h.size]? =some (.cells (rP sl has val p o) aR (0,0))→Upd (· =h.size) T n→K (some ⟨h.size,0,none⟩) n:=fun{n} H d=>by
   have z6:=d.size;exact V n h.size p (fun x=>P.size≤x∧x<R.size) H (N.within.upd (f.tr d) fun x hx e=>by have e:x=h.size:=e;have:=hx.1;omega) (fun y m=>⟨.inr (by omega),by omega,by omega⟩) (.inr (aw _)) (fun U B y m=>⟨fun h=>by have:=C U B y m;omega,by have:=C U B y m;omega⟩) (v.trans d fun x hx=>.inr (fC hx.symm))
  refine ue (t.upd0 v) ?_;cases ho:o with
  |none=>rw[ho]at fin;exact ak.2 (fin F (Upd.refl _ _))
  |some a=>
   rw[ho]at fin;rw[t.tok ho];exact aA.2 ⟨Hc (i:=4) F (show 4<5 by decide),x9 (i:=4) (c':=rP sl has val p (some a)) F rfl fun n H d=>fin H d⟩
 ·refine xZ t g (fun a j=>t.plain a (t.tok (by rw[←L];exact j))) ?_
  have u:(o.isSome&&(ow==w))=true:=by
   obtain⟨a,j⟩:=Option.isSome_iff_exists.1 e;rw[e,L,j,t.tok j];simp
  rw[u];subst L;exact aA.2 (V h b s A g hA (fun y m=>⟨.inl (z y m).1,(z y m).2⟩) (.inl I) C (Upd.refl _ _))
theorem B8{h:ae}{w o:Option Addr}{k v:ByteArray}(t:By h w o){K:Option Addr→ae→Prop}(C:∀h' b s A,h'[b]? =some (.cells (rP k true v s o) aR (0,0))→OwnS jW 1 aE A h' s []→(∀y,A y→h.size≤y∧y≠b∧y<h'.size)→h.size≤b→Upd No h h'→K (some ⟨b,0,none⟩) h'):HC PG o9 [.pointer w,.string k,.string v] [.c .ptr] K h:=by
 refine zq w k v ?_;unfold ss xi qu BN;have k1:=Upd.hnew No h JC aR;have b1:=ci h JC aR;refine bG ?_;simp only[eZ h];generalize hnew h [.string (⟨#[]⟩:ByteArray),.bool false,.string (⟨#[]⟩:ByteArray),.slice none 0 0,.pointer none] aR=h1 at k1 b1;have E:=k1.size;refine hO (W:=fun y=>∃a,o=some a∧a.block=y) (S:=No) (Us:= []) (ks:= []) (sl:=⟨#[]⟩) (val:=⟨#[]⟩) (has:=false) (s:=⟨none,0,0⟩) (ow:=none) (t.upd0 k1) (fun a e=>⟨a,e,rfl⟩) b1 (bD _) (.inl ⟨ia,Sl.nil lG,fun U B=>by cases B⟩) fun G b2 s A u i d m _ g=>?_
 refine p5 (nl:=k) u fun F b3 n=>nV (v:=v) b3 fun p q j=>?_
 have c:=n.tr j;have z:h1.size≤b2:=m.elim (fun h=>h.elim) id
 have D:=c.size;exact C p b2 s A q (i.upd c fun x hx e=>(d x hx).2.1 e) (fun y f=>⟨(d y f).1.elim (fun h=>h.elim) fun h=>by omega,(d y f).2.1,by have:=(d y f).2.2;omega⟩) (by omega) ((k1.tr g).trans c fun x hx=>.inr (by have hx:x=b2:=hx;omega))
theorem Lg{o:Option Addr}{W:Nat→Prop}{h:ae}{b:Nat}{k v:ByteArray}{s:SliceV}{A:Nat→Prop}(c:h[b]? =some (.cells (rP k true v s o) aR (0,0))) (d:OwnS jW 1 aE A h s []) (a:∀y,A y→y≠b∧y<h.size) (nw:o=none→(∀y,A y→¬W y)∧¬W b):RxO o W h b k (some v) .nil (SR o b A []):=
 qP c rfl d a (fun _ h=>by cases h) (fun i j S T _ e=>by simp at e) ⟨rfl,rfl,fun i k n S e=>by simp at e⟩ nw
theorem LsO.ins{o:Option Addr}{W:Nat→Prop}{h:ae}{ks:List (Option Addr)}{L:List Bn}{Ts:List (Nat→Prop)}(r:LsO o W h ks L Ts){i:Nat}(hi:i≤L.length){k:Option Addr}{n:Bn}{S:Nat→Prop}(c:KidO o W h k n S):LsO o W h (ks.take i++k::ks.drop i) (L.take i++n::L.drop i) (Ts.take i++S::Ts.drop i):=by
 obtain⟨p,s,d⟩:=r;have g:∀{α:Type _} {xs:List α} {x:α} {j:Nat},i≤xs.length→(xs.take i++x::xs.drop i)[j]? =if j<i then xs[j]? else if j=i then some x else xs[j-1]?:=fun{α xs x j} q=>by
  split
  ·rename_i hj
   rw[dB (by rw[aK];omega),ko,if_pos hj]
  ·rename_i hj
   rw[bI (by rw[aK];omega),aK,aW q];split
   ·rename_i e;subst e;simp
   ·rename_i e
    have:j-i=(j-i-1)+1:=by omega
    rw[this,cQ,kq];congr 1;omega
 refine⟨by simp[p],by simp[s],fun j k' f m ek b a=>?_⟩
 rw[g (by omega)]at ek b a;split at ek
 ·rename_i hj
  rw[if_pos hj]at b a;exact d j k' f m ek b a
 ·rename_i hj
  rw[if_neg hj]at b a;split at ek
  ·rename_i e
   rw[if_pos e]at b a;cases ek;cases b;cases a;exact c
  ·rename_i e
   rw[if_neg e]at b a;exact d (j-1) k' f m ek b a
theorem Kf{Ts:List (Nat→Prop)}(d:PD Ts){i:Nat}(hi:i≤Ts.length){S:Nat→Prop}(f:∀U∈Ts,Dj S U):PD (Ts.take i++S::Ts.drop i):=by
 have g:∀{j:Nat},(Ts.take i++S::Ts.drop i)[j]? =if j<i then Ts[j]? else if j=i then some S else Ts[j-1]?:=fun{j}=>by
  split
  ·rename_i hj
   rw[dB (by rw[aK];omega),ko,if_pos hj]
  ·rename_i hj
   rw[bI (by rw[aK];omega),aK,aW hi];split
   ·rename_i e;subst e;simp
   ·rename_i e
    have:j-i=(j-i-1)+1:=by omega
    rw[this,cQ,kq];congr 1;omega
 have m:∀{A B:Nat→Prop},Dj A B→Dj B A:=fun h y o n=>h y n o
 intro a b A B k c eb;rw[g]at c eb;split at c<;>split at eb
 ·exact d a b A B k c eb
 ·rename_i h1 h2
  split at eb
  ·cases eb;exact m (f A (au c))
  ·exact d a (b-1) A B (by omega) c eb
 ·rename_i h1 h2
  split at c
  ·cases c;exact f B (au eb)
  ·exact d (a-1) b A B (by omega) c eb
 ·rename_i h1 h2
  split at c<;>split at eb
  ·omega
  ·cases c;exact f B (au eb)
  ·cases eb;exact m (f A (au c))
  ·exact d (a-1) (b-1) A B (by omega) c eb
theorem Hn{Ts:List (Nat→Prop)}(k:PD Ts){i:Nat}{S:Nat→Prop}(e:∀j U,j≠i→Ts[j]? =some U→Dj S U):PD (Ts.set i S):=by
 have f:∀{A B:Nat→Prop},Dj A B→Dj B A:=fun h y m g=>h y g m
 intro a b A B c d eb;rw[dG]at d eb;split at d<;>split at eb
 ·omega
 ·rename_i h1 h2
  subst h1;split at d
  ·cases d;exact e b B (Ne.symm c) eb
  ·cases d
 ·rename_i h1 h2
  subst h2;split at eb
  ·cases eb;exact f (e a A c d)
  ·cases eb
 ·exact k a b A B c d eb
theorem LsO.set{o:Option Addr}{W:Nat→Prop}{h:ae}{ks:List (Option Addr)}{L:List Bn}{Ts:List (Nat→Prop)}(d:ks.length=L.length)(p:Ts.length=L.length){i:Nat}(f:∀(j:Nat) (k:Option Addr) (n:Bn) (S:Nat→Prop),j≠i→ks[j]? =some k→L[j]? =some n→Ts[j]? =some S→KidO o W h k n S) {k:Option Addr} {n:Bn} {S:Nat→Prop} (c:KidO o W h k n S):LsO o W h (ks.set i k) (L.set i n) (Ts.set i S):=by
 refine⟨by simp[d],by simp[p],fun j k' g m ek b a=>?_⟩
 rw[dG]at ek b a;by_cases e:i=j
 ·rw[if_pos e]at ek b a
  split at ek
  ·rename_i hj
   rw[if_pos (by omega)]at b a;cases ek;cases b;cases a;exact c
  ·cases ek
 ·rw[if_neg e]at ek b a
  exact f j k' g m (Ne.symm e) ek b a
end Go.Proofs
namespace Go.Proofs
open Go Go.Lift
theorem By.lt{h:ae}{w o:Option Addr}(t:By h w o){a:Addr}(e:w=some a):a.block<h.size:=by
 obtain⟨c,ty,b,_⟩:=t.plain a e;exact aG b
theorem LsO.move{o:Option Addr}{W W' M:Nat→Prop}{h c:ae}{ks:List (Option Addr)}{L:List Bn}{Us:List (Nat→Prop)}(r:LsO o W h ks L Us)(k:Upd M h c)(f:∀U∈Us,∀y,U y→y<h.size)(hm:∀y,M y→(W y∧∀U∈Us,¬U y)∨h.size≤y)(e:∀y,W' y→W y∨h.size≤y):LsO o W' c ks L Us:=by
 refine⟨r.1,r.2.1,fun i j n S ek g b=>?_⟩
 have d:=au b;exact(((r.2.2 i j n S ek g b).less (W':=fun y=>W y∨h.size≤y) fun y a=>a).upd k (f S d) fun y a=>(hm y a).imp (fun h=>⟨.inl h.1,h.2 S d⟩) id).less fun y a=>.inl (e y a)
theorem th{o:Option Addr}{S A:Nat→Prop}{Us:List (Nat→Prop)}{b z:Nat}{a:ae}(i:S b∨z≤b)(c:b<a.size)(g:∀y,A y→(S y∨z≤y)∧y<a.size)(f:∀U∈Us,∀y,U y→(S y∨z≤y)∧y<a.size){y:Nat}(e:SR o b A Us y):(S y∨z≤y)∧y<a.size:=by
 rcases e.2 with rfl|h|⟨U,d,h⟩
 ·exact⟨i,c⟩
 ·exact g y h
 ·exact f U d y h
set_option maxHeartbeats 1000000 in
theorem B7{W S:Nat→Prop}{h:ae}{w' o:Option Addr}{b:Nat}{sl:ByteArray}{w:Option ByteArray}{F:Fo}(r:RxO o W h b sl w F S)(t:By h w' o)(hW:∀y,W y→y<h.size)(O:∀y,S y→W y)(R:∀a,o=some a→W a.block)(hn:F.toL.length≤256){c:Nat}(hc:c≤sl.size){K:Option Addr→ae→Prop}
  (hk:∀h' b' S',RxO o (fun y=>W y∨S' y) h' b' (sl.extract 0 c) none (.cons (sl.data.toList.drop c) w F .nil) S'→(∀y,S' y→(S y∨h.size≤y)∧y<h'.size)→Upd S h h'→K (some ⟨b',0,none⟩) h'):HC PG ke [.pointer (some ⟨b,0,none⟩),.pointer w',.int .i64 c] [.c .ptr] K h:=by
 refine tq _ w' c ?_;unfold nC bQ xi cZ qu BN;have hno:o=none→∀y,¬S y:=fun e=>by subst e;exact r.off.2
 obtain⟨val,s,ow,ks,Us,hb,hv,hs,hL,C,hPD,hown⟩:=r.view;have u:∀y,S y→y<h.size:=fun y d=>hW y (O y d)
 have lab:∀{h'},Upd No h h'→aQ h' (adr ⟨b,0,none⟩ 0)=some (.string sl):=fun k=>c5 (i:=0) (k.get0 hb)
 have r0:=Upd.refl No h;refine⟨_,rfl,sl,lab r0,⟨by omega,by omega⟩,bG ?_⟩
 have k1:=Upd.hnew No h JC aR;have b1:=ci h JC aR;simp only[eZ h];generalize hnew h [.string (⟨#[]⟩:ByteArray),.bool false,.string (⟨#[]⟩:ByteArray),.slice none 0 0,.pointer none] aR=h1 at k1 b1;have z1:=k1.size;refine⟨lab k1,?_⟩;refine hO (W:=W) (S:=No) (Us:= []) (ks:= []) (sl:=⟨#[]⟩) (val:=⟨#[]⟩) (has:=false) (s:=⟨none,0,0⟩) (ow:=none) (t.upd0 k1) R b1 (bD _) (.inl ⟨ia,Sl.nil lG,fun U q=>by cases q⟩) fun h2 v s2 A2 b2 _ _ Y _ Z=>⟨lab (k1.tr Z),?_⟩
 have Y:h1.size≤v:=Y.elim (fun h=>h.elim) id
 have hbu2:=aG b2;rw[aN];refine p5 b2 fun h3 b3 hu3=>?_
 have k02:=k1.tr Z;have f:Upd No h h3:=k02.trans hu3 fun x hx=>.inr (by have hx:x=v:=hx;omega)
 have z02:=k02.size;have z3:=hu3.size;have z03:=f.size;have t3:=t.upd0 f;refine hO (W:=W) (S:=S) (Us:=Us) (ks:=ks) (s:=s) (ow:=ow) (val:=val) (sl:=sl) (has:=w.isSome) t3 R (f.get0 hb) (by rw[hL.1];exact hn) ?_ fun h4 m s4 A4 I hA4 g hb4 V L=>?_
 ·rcases hown with⟨how,_,_,hS0⟩|⟨e,eo,A,hA,N,hSbb,hUA⟩
  ·exact .inl ⟨how.upd f fun _ h=>h.elim,hs.upd f fun _ h=>h.elim,fun U q y d=>absurd (C U q y d) (hS0 y)⟩
  ·exact .inr ⟨e,eo,A,hA.upd f fun _ _ h=>h,fun y d=>⟨(N y d).1,(N y d).2.1,by have:=(N y d).2.2;omega⟩,hSbb,hUA⟩
 refine⟨_,rfl,sl,c5 (i:=0) I,⟨by omega,by omega⟩,?_⟩
 refine p5 (nl:=sl.extract c sl.size) I fun p b5 G=>?_
 have z4:=L.size;have z5:=G.size;have hA5:=hA4.upd G fun x hx e=>(g x hx).2.1 e
 have nb:v≠m:=fun e=>by
  rcases hb4 with h|h
  ·have:=u _ h;omega
  ·omega
 have b35:p[v]? =some (.cells (rP (sl.extract 0 c) false ⟨#[]⟩ s2 o) aR (0,0)):=G.get (L.get0 b3) (by show ¬v=m;omega);have k6:=Upd.hnew No p [.pointer (some ⟨m,0,none⟩)] aE;have b6:=ci p [.pointer (some ⟨m,0,none⟩)] aE;refine bG ?_;simp only[eZ p];generalize hnew p [.pointer (some ⟨m,0,none⟩)] aE=h6 at k6 b6;have z6:=aG b6
 have Q:=k6.get0 b35;refine⟨_,rfl,Hc (i:=3) Q (show 3<5 by decide),x9 (i:=3) (c':=rP (sl.extract 0 c) false ⟨#[]⟩ ⟨some ⟨p.size,0,none⟩,1,1⟩ o) Q rfl fun M b7 D=>?_⟩
 have z7:=D.size;have zb4:=aG I;have u07:Upd (· =m) h M:=((((f.tr L).wide.tr G).tr k6.wide).trans D fun x hx=>.inr (by have hx:x=v:=hx;omega))
 have b57:=D.get (k6.get0 b5) (by show ¬m=v;omega);have b67:M[p.size]? =some (.cells #[.pointer (some ⟨m,0,none⟩)] aE (0,0)):=D.get b6 (by show ¬p.size=v;omega);have hA7:=(hA5.upd k6 fun _ _ h=>h).upd D fun x hx e=>by
  have e:x=v:=e;rcases(g x hx).1 with h|h
  ·have:=u x h;omega
  ·omega
 have E:∀y,A4 y→(S y∨h.size≤y)∧y<M.size:=fun y d=>⟨(g y d).1.imp id fun h=>by omega,by have:=(g y d).2.2;omega⟩
 have z:S m∨h.size≤m:=hb4.imp id fun h=>by omega
 have hUb:∀U∈Us,∀y,U y→(S y∨h.size≤y)∧y<M.size:=fun U q y d=>⟨.inl (C U q y d),by have:=u y (C U q y d);omega⟩
 have hSk:∀y,SR o m A4 Us y→(S y∨h.size≤y)∧y<M.size:=fun y d=>th z (by omega) E hUb d
 have hSk5:∀y,SR o m A4 Us y→y<p.size:=fun y d=>by
  rcases d.2 with rfl|h|⟨U,J,h⟩
  ·omega
  ·have:=(g y h).2.2;omega
  ·have:=u y (C U J y h);omega
 have hSkb:∀y,SR o m A4 Us y→y≠v:=fun y d e=>by
  subst e;rcases d.2 with h|h|⟨U,J,h⟩
  ·exact nb h
  ·rcases(g y h).1 with h|h
   ·have:=u y h;omega
   ·omega
  ·have:=u y (C U J y h);omega
 have H:∀{A:Nat→Prop} {bb:Nat} {T:List (Nat→Prop)} {X:Nat→Prop},(∀y,A y→S y∨h.size≤y)→(S bb∨h.size≤bb)→o=none→(∀y,A y→¬(W y∨SR o v X T y))∧¬(W bb∨SR o v X T bb):=fun{A bb T X} hA hb e=>by
  have no:∀y,(S y∨h.size≤y)→¬(W y∨SR o v X T y):=fun y d P=>by
   rcases P with P|⟨P,_⟩
   ·rcases d with h|h
    ·exact hno e y h
    ·have:=hW y P;omega
   ·rw[e]at P;cases P
  exact⟨fun y d=>no y (hA y d),no _ hb⟩
 refine hk M v (SR o v (· =p.size) [SR o m A4 Us]) (qP (ks:= [some ⟨m,0,none⟩]) b7 rfl (⟨rfl,lG,aw _,.inr ⟨p.size,[],rfl,rfl,by simpa[jW]using b67,rfl⟩⟩:OwnS jW 1 aE (· =p.size) M ⟨some ⟨p.size,0,none⟩,1,1⟩ [some ⟨m,0,none⟩]) (fun y d=>?_) (fun U q y d=>?_) (fun i j A B hij e1 e2=>?_) ⟨rfl,rfl,fun i kk n U ek en eU=>?_⟩ (H (fun y d=>?_) (.inr (by omega)))) (fun y d=>?_) (u07.mono fun y d=>?_)
 ·have d:y=p.size:=d
  omega
 ·rw[ai.1 q]at d
  have:=hSk5 y d;exact⟨fun h=>by have h:y=p.size:=h;omega,hSkb y d⟩
 ·cases i with
  |zero=>cases j with
   |zero=>exact absurd rfl hij
   |succ j=>simp at e2
  |succ i=>simp at e1
 ·cases i with
  |succ i=>simp at ek
  |zero=>
   simp only[bU,bj.injEq,Fo.toL]at ek en eU;subst ek en eU;refine⟨m,sl.extract c sl.size,rfl,yz ..,qP b57 hv hA7 (fun y d=>⟨(g y d).2.1,(E y d).2⟩) V hPD (hL.move u07 (fun U q y d=>u y (C U q y d)) (fun y d=>?_) fun y d=>?_) (H (fun y d=>(E y d).1) z)⟩
   ·have d:y=m:=d
    subst d;exact z.imp (fun h=>⟨O y h,fun U q hu=>(V U q y hu).2 rfl⟩) id
   ·rcases d with h|h
    ·exact .inl h
    ·rcases h.2 with rfl|h|⟨U,q,h⟩
     ·exact .inr (by omega)
     ·have h:y=p.size:=h
      exact .inr (by omega)
     ·rw[ai.1 q]at h
      exact(hSk y h).1.imp (O y) id
 ·have d:y=p.size:=d
  exact .inr (by omega)
 ·refine th (.inr (by omega)) (aG b7) (fun y d=>?_) (fun U q y d=>?_) d
  ·have d:y=p.size:=d
   exact⟨.inr (by omega),by omega⟩
  ·rw[ai.1 q]at d
   exact hSk y d
 ·have d:y=m:=d
  rw[d];exact z
end Go.Proofs
