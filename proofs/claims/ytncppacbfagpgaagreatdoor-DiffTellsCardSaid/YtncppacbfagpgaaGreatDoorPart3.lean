/- A part of the proof that the named laws of this program answer true, whatever the input. -/
import Derived.Test.YtncppacbfagpgaaGreatDoorPart2
import Derived.Test.YtncppacbfagpgaaGreatDoorPart0
open Array renaming toList_inj→lw
open ByteArray renaming mk→nJ,data_extract→nK
open Iff renaming rfl→zZ
open Int renaming le_refl→xV,fdiv→dD,toNat_natCast→aR
open List renaming length_nil→aJ,length_append→ac,length_singleton→aE,append_assoc→ar,length_cons→al,getElem_mem→bw,mem_of_mem_take→jW,getElem_cons_drop→tw,take_append_drop→aK,take_succ_eq_append_getElem→aV,flatMap_append→bR,flatMap_cons→aP,flatMap_nil→jJ,append_nil→aL,take_length→bT,cons_append→cJ,append_inj→vq,cons→fi,mem_cons_self→av,mem_cons_of_mem→aC,pairwise_cons→aA,mem_cons→aB,zip_cons_cons→lH,mem_append→bI,length_take→aI,zip_eq_zipWith→qr,length_drop→aU,set_eq_take_append_cons_drop→eC,pairwise_iff_getElem→ce,extract_eq_take_drop→gG,length→fy,mem_map→gA,pairwise_append→cr,pairwise_map→oT,lt_irrefl→w8
open List.Lex renaming nil→zY
open List.Pairwise renaming nil→fT
open Nat renaming le_trans→bh,mul_le_mul_left→gJ,mul_le_mul_right→cB,add_mul→lh,not_lt_zero→lU,zero_le→aS,le_refl→aj,shiftRight_eq_div_pow→cL,mod_eq_of_lt→dX,lt_or_ge→bZ,zero_add→aQ,le_of_eq→fS,lt_irrefl→oc
open Option renaming some→bQ,mem_toList→tc,map_eq_some_iff→nG
open Prod renaming ext→ze,mk→sZ
namespace Go.Proofs
open Go Go.Lift
theorem S7{h:ad}{b d n:Nat}{sp sk:SliceV}{c:Bool}{ow:Option Addr}(a:h[b]? =some (.cells (gc d n sp sk c ow) bU (0,0))) (f:sp.len+sk.len≤1000000000) {K:Int→ad→Prop} (e:K ((sp.len+sk.len:Nat):Int) h):HC PG nO [.pointer (some ⟨b,0,none⟩)] [.c (.int .i64)] K h:=by
 refine Aj _ ?_;unfold vo bV;refine ag.2 ⟨_,rfl,sp,fF (i:=2) a,_,rfl,sk,fF (i:=3) a,?_⟩;rw[dI (by omega)];exact_mod_cast e
def Bes(M:Nat→Prop)(h a:ad)(b:Nat):Prop:=M b∧(b<h.size∨a.size≤b)
theorem Bes.own{α:Type}{f:α→List Value}{b:Nat}{t:TypeId}{M:Nat→Prop}{h a:ad}{s:SliceV}{xs:List α}(e:OwnS f b t M h s xs)(d:Upd No h a):OwnS f b t (Bes M h a) a s xs:=
 (e.within.upd d fun _ _ h=>h).more fun _ c=>⟨c.1,.inl c.2⟩
theorem Bes.sl{α:Type}{f:α→List Value}{c:Nat}{t:TypeId}{M:Nat→Prop}{h a:ad}{s:SliceV}{xs:List α}(e:OwnS f c t (fun x=>h.size≤x) a s xs):Sl f c (Bes M h a) a s xs:=
 e.sl fun b g d hx=>by rcases hx.2 with h|h<;>omega
theorem Bes.hM{M:Nat→Prop}{h a:ad}(hM:∀b,h.size≤b→M b)(d:Upd No h a):∀b,a.size≤b→Bes M h a b:=fun b c=>⟨hM b (bh d.size c),.inr c⟩
theorem X9{W:Nat→Prop}{x:Hs}:∀(m:Nat),m≤13→∀{b:Nat} {l:List Pr} {h0 h:ad} {M:Nat→Prop} {s:SliceV} {xs:List UInt8},TrieAt W x h0 m b l→Upd No h0 h→(∀y,M y→h0.size≤y)→OwnS rO 1 cP M h s xs→(∀y,h.size≤y→M y)→Fit l→l.length≤60000→
  xs.length+(9+l.length*(20004+9*(m+1)))≤140737488355328→∀{K:SliceV→ad→Prop},(∀s' h',OwnS rO 1 cP M h' s' (xs++gt x m l)→Upd M h h'→K s' h')→
  HC PG xq [.slice s.a s.len s.cap,.pointer (some ⟨b,0,none⟩),.int .i64 ((13-m:Nat):Int)] [.c .slice] K h:=by
 intro m;induction m with
 |zero=>
  intro _ b l h0 h M s xs t hu0 O ho hM hf hn hx K hk;refine Hq s (some ⟨b,0,none⟩) ((13-0:Nat):Int) ?_;unfold Bo bE bX HP VT ZX;have st:∀{h'},Upd M h h'→Upd No h0 h':=fun k=>hu0.trans k fun y j=>.inr (O y j)
  have bk:∀{h'},Upd M h h'→BuckAt W h' b l:=fun k=>BuckAt.upd t (st k) fun _ h=>h.elim
  have C:∀{h'},Upd M h h'→∀y,h'.size≤y→M y:=fun k y j=>hM y (bh k.size j)
  obtain⟨sp,sk,ow,hb,_⟩:=(bk (Upd.refl M h)).ex;refine gL hb (au.2 (bM ?_));refine yO (b:=1) rfl ho hM (by omega) fun s1 h1 G o=>?_
  obtain⟨sp1,sk1,ow1,Z,V,hsk1,_⟩:=(bk o).ex;have e1:=V.len;have e2:=hsk1.len;rw[aJ]at e2;refine S7 Z (by omega) ?_;have ew:IntKind.wrap .u64 ((sp1.len+sk1.len:Nat):Int)=((l.length:Nat):Int):=by rw[Go.IntWalk.u64_in _ (by omega)];omega
  rw[ew];have hl2:l.length*20004≤l.length*(20004+9*(0+1)):=gJ _ (by omega);refine Tg G (C o) (n:=l.length) (k:=2) (by omega) (by omega) (by rw[ac,aE];omega) fun s2 h2 T v=>?_
  have Q:=o.tr v;obtain⟨sp2,sk2,ow2,hb2,U,_⟩:=(bk Q).ex;refine r9 hb2 U (by omega) fun s3 E w A=>?_
  refine Jb (M:=Bes M h2 E) (W:=Bes M h2 E) (Bes.own T A) (Bes.hM (C Q) A) (Bes.sl w) (fun _ h _=>h) hf (by omega) (by rw[ac,ac,aE,dS];omega) fun s4 F ho4 X=>?_
  refine hk s4 F ?_ (Q.tr (A.wide.tr (X.mono fun y j=>.inl j.1)))
  have:=ho4.more (M':=M) fun y j=>j.1
  rw[gt,List.append_cons,←ar];exact this
 |succ m ih=>
  intro hm b l h0 h M s xs t hu0 O ho hM hf hn hx K hk;refine Hq s (some ⟨b,0,none⟩) ((13-(m+1):Nat):Int) ?_;unfold Bo bE bX HP VT ZX;have st:∀{h'},Upd M h h'→Upd No h0 h':=fun k=>hu0.trans k fun y j=>.inr (O y j)
  have C:∀{h'},Upd M h h'→∀y,h'.size≤y→M y:=fun k y j=>hM y (bh k.size j)
  obtain⟨sl,nd,hs0⟩:=t;have hs:∀c,c<32→SlotIs W x h0 m sl c (part x (12-m) c l):=hs0;have hd:∀{h'},Upd M h h'→∃d n sp sk ow,h'[b]? =some (.cells (gc d n sp sk false ow) bU (0,0))∧d=lB (fun c=>(kz (part x (12-m) c l)).isSome) 32∧n=lB (fun c=>(fY (part x (12-m) c l)).isSome) 32∧Sl eu 2 W h' sp (ix x (12-m) l)∧Sl uJ 1 W h' sk (fm sl.k 32):=fun{h'} k=>by
   obtain⟨d,n,sp,sk,ow,hb,bits,E,F,_⟩:=(nd.upd (st k) fun _ h=>h.elim).ex
   refine⟨d,n,sp,sk,ow,hb,NC bits.d32 fun c hc=>?_,NC bits.n32 fun c hc=>?_,?_,F⟩
   ·rw[bits.dp c hc,(IY (hs c hc)).1]
   ·rw[bits.nk c hc,(IY (hs c hc)).2]
   ·rw[←Ie hs];exact E
  have hka:KidsAt W x h0 m (fm sl.k 32) (mA x (12-m) l):=Tm 32 hs;have u:=rg (x:=x) (m+1) hf;have hlen2:=u;have hml:∀L∈mA x (12-m) l,Fit L∧L.length≤60000:=fun L hL=>by
   obtain⟨_,c,rfl⟩:=rM hL;exact⟨hf.part,bh lx hn⟩
  have hsf:Fit (ix x (12-m) l):=fun p hp=>hf p (tS hp)
  have hsl:=yr x (12-m) l;unfold gt at hk u;have J:∀q:Nat→Bool,lB q 32<4294967296:=fun q=>pw q 32
  have hd32:=J fun c=>(kz (part x (12-m) c l)).isSome
  have hn32:=J fun c=>(fY (part x (12-m) c l)).isSome
  generalize lB (fun c=>(kz (part x (12-m) c l)).isSome) 32=D at hk hd u hd32
  generalize lB (fun c=>(fY (part x (12-m) c l)).isSome) 32=N at hk hd u hn32
  have hS:(ix x (12-m) l).length≤60000:=by omega
  have hSb:(ix x (12-m) l).length*20004≤l.length*(20004+9*(m+1+1)):=Nat.mul_le_mul (by omega) (by omega);have hML:∀L∈mA x (12-m) l,2≤L.length∧(gt x m L).length≤9+L.length*(20004+9*(m+1)):=fun L hL=>by
   obtain⟨E,c,rfl⟩:=rM hL;exact⟨E,rg m hf.part⟩
  have hbud:9+(ix x (12-m) l).length*20004+(mA x (12-m) l).flatten.length*(20004+9*(m+1)+9)≤9+l.length*(20004+9*(m+1+1)):=by
   have h5:(ix x (12-m) l).length*20004≤(ix x (12-m) l).length*(20004+9*(m+1+1)):=gJ _ (by omega);have h6:((ix x (12-m) l).length+(mA x (12-m) l).flatten.length)*(20004+9*(m+1+1))≤l.length*(20004+9*(m+1+1)):=cB _ hsl;rw[lh]at h6;have h7:20004+9*(m+1)+9=20004+9*(m+1+1):=by omega
   rw[h7];omega
  have hps:=pj hsf;generalize ix x (12-m) l=So at hk hd hsf hS hSb hbud u hps;generalize mA x (12-m) l=Ma at hk hka hml hML hbud u;obtain⟨d,n,sp,sk,ow,hb,_⟩:=hd (Upd.refl M h);refine gL hb (ag.2 (Join.intro (fun s' h'=>OwnS rO 1 cP M h' s' (xs++(0::(pm D 4++pm N 4)))∧Upd M h h') (fun R hR=>bM ?_) ?_))
  ·refine yO (b:=0) rfl ho hM (by omega) fun s1 h1 G o=>?_
   obtain⟨d1,n1,sp1,sk1,ow1,Z,rfl,rfl,_⟩:=hd o;refine OO Z ?_;rw[Go.IntWalk.u64_in _ (by omega)];refine Tg G (C o) (n:=d1) (k:=4) (by omega) (by omega) (by rw[ac,aE];omega) fun s2 h2 T v=>?_
   obtain⟨d2,n2,sp2,sk2,ow2,hb2,rfl,rfl,_⟩:=hd (o.tr v);refine En hb2 ?_;rw[Go.IntWalk.u64_in _ (by omega)];refine Tg T (C (o.tr v)) (n:=n2) (k:=4) (by omega) (by omega) (by rw[ac,ac,aE,dS];omega) fun s3 E w A=>?_
   refine hR _ _ ⟨?_,(o.tr v).tr A⟩;rw[List.append_cons,←ar];exact w
  ·rintro s' h1 ⟨G,o⟩
   obtain⟨d1,n1,sp1,sk1,ow1,Z,_,_,V,_⟩:=hd o;refine r9 Z V (by omega) fun s2 h2 T v=>?_
   refine Jb (M:=Bes M h1 h2) (W:=Bes M h1 h2) (Bes.own G v) (Bes.hM (C o) v) (Bes.sl T) (fun _ h _=>h) hsf (by omega) (by rw[ac,al,ac,dS,dS];omega) fun s3 E w A=>?_
   have w:=w.more (M':=M) fun y j=>j.1
   have H:Upd M h E:=o.tr (v.wide.tr (A.mono fun y j=>.inl j.1))
   have e13:(((13-(m+1):Nat):Int)==(13:Int))=false:=by rw[beq_eq_false_iff_ne];omega
   rw[e13];refine ag.2 ?_;obtain⟨d3,n3,sp3,sk3,ow3,hb3,_,_,_,hsk3⟩:=hd H;have hk32:=AS (g:=sl.k);refine Vp hb3 hsk3 (by omega) fun s4 F ho4 X=>?_
   have S:Sl uJ 1 (Bes M E F) F s4 (fm sl.k 32):=Bes.sl ho4;have hlk:=S.len;have ew:IntKind.wrap .i64 (((13-(m+1):Nat):Int)+1)=((13-m:Nat):Int):=by rw[dI (by omega)];omega
   rw[ew];have hMb:=Bes.hM (C H) X;have hob:=Bes.own w X;have hu04:Upd M h F:=H.tr X.wide;have hMM:∀y,Bes M E F y→M y:=fun y j=>j.1
   have st4:∀{h'},Upd (Bes M E F) F h'→Upd M h h':=fun k=>hu04.tr (k.mono fun y j=>.inl j.1)
   generalize Bes M E F=B at S hMb hob hMM st4;have hkl:∀{ks:List (Option Addr)} {ls:List (List Pr)},KidsAt W x h0 m ks ls→ks.length=ls.length∧∀i (hi:i<ls.length),∃kb,ks[i]? =some (some ⟨kb,0,none⟩)∧TrieAt W x h0 m kb ls[i]:=by
    intro ks;induction ks with
    |nil=>intro ls;cases ls with
     |nil=>intro _;exact⟨rfl,fun i hi=>absurd hi (lU _)⟩
     |cons a ls=>intro h;exact h.elim
    |cons k ks ihk=>intro ls;cases ls with
     |nil=>intro h;exact h.elim
     |cons a ls=>
      rintro⟨⟨kb,rfl,tk⟩,h⟩;obtain⟨e,hr⟩:=ihk h;refine⟨by simp[e],fun i hi=>?_⟩
      cases i with
      |zero=>exact⟨kb,rfl,tk⟩
      |succ i=>simp only[List.getElem?_cons_succ,List.getElem_cons_succ];exact hr i (by simpa using hi)
   obtain⟨hkl,hkt⟩:=hkl hka;have hbase:(xs++(0::(pm D 4++pm N 4))++mL So).length≤xs.length+(9+So.length*20004):=by
    rw[ac,ac,al,ac,dS,dS];omega
   refine LoopP.ghost (fun(i:Nat) (t:SliceV×Int) h'=>t.2=(i:Int)∧i≤Ma.length∧OwnS rO 1 cP B h' t.1 (xs++(0::(pm D 4++pm N 4))++mL So++(Ma.take i).flatMap (gt x m))∧Upd B F h') (fun i=>Ma.length-i) 0 ⟨rfl,aS _,by simpa using hob,Upd.refl _ _⟩ ?_
   rintro I i ⟨so,ti⟩ h' ⟨e1,hi,ho',P⟩ hI;simp only at e1 ho';subst e1;refine ax (fun z=>?_) fun hge=>?_
   ·have z:i<Ma.length:=by have:(i:Int)<(s4.len:Int):=z;omega
    obtain⟨kb,hk1,tk⟩:=hkt i z;obtain⟨a,ha,_,hv⟩:=(S.upd P fun y j=>.inl j).at0 hk1
    refine⟨⟨by simp only;omega,by simp only;omega⟩,a,ha,some ⟨kb,0,none⟩,hv,?_⟩
    have Y:Ma[i]∈Ma:=bw z;have htl:=Ic (f:=gt x m) (ls:=Ma.take i) (B:=20004+9*(m+1)) fun L hL=>hML L (jW hL)
    have hsp:(Ma.take i).flatten.length+Ma[i].length≤Ma.flatten.length:=by
     have e:Ma=Ma.take i++Ma[i]::Ma.drop (i+1):=by rw[tw,aK]
     have:=congrArg (fun L=>(List.flatten L).length) e
     simp only[List.flatten_append,List.flatten_cons,ac]at this;omega
    have U:=cB (20004+9*(m+1)+9) hsp;rw[lh]at U;have h2l:=(hML _ Y).1;have hone:9+Ma[i].length*(20004+9*(m+1))≤Ma[i].length*(20004+9*(m+1)+9):=by rw[Nat.mul_add (Ma[i].length) (20004+9*(m+1)) 9];omega
    refine ih (by omega) tk (hu0.trans (st4 P) fun y j=>.inr (O y j)) (fun y j=>O y (hMM y j)) ho' (fun y j=>hMb y (bh P.size j)) (hml _ Y).1 (hml _ Y).2 (by rw[ac];omega) fun s5 h5 ho5 hu5=>?_
    rw[db z (by omega)];refine hI (i+1) _ _ ⟨rfl,z,?_,P.tr hu5⟩ (by omega);rw[aV z,bR,aP,jJ,aL,←ar];exact ho5
   ·have hil:i=Ma.length:=by have:¬(i:Int)<(s4.len:Int):=hge;omega
    subst hil;rw[bT]at ho';refine hk _ _ ?_ (st4 P);have:=ho'.more hMM;simp only[ar,cJ]at this⊢;exact this
end Go.Proofs
namespace Go.Proofs
open Go Go.Lift
theorem aaf{W:Nat→Prop}{x:Hs}{h:ad}{b:Nat}{l:List Pr}(t:TrieAt W x h 13 b l)(c:Fit l)(a:l.length≤60000){K:SliceV→ad→Prop}(g:∀s' h',OwnS rO 1 cP (fun y=>h.size≤y) h' s' (gt x 13 l)→Upd No h h'→K s' h'):HC PG Du [.pointer (some ⟨b,0,none⟩)] [.c .slice] K h:=by
 refine Ud _ ?_;unfold KP;refine ag.2 ?_;have i:l.length*(20004+9*(13+1))≤60000*(20004+9*(13+1)):=cB _ a;exact X9 (x:=x) 13 (aj _) (s:=⟨none,0,0⟩) (xs:= []) (M:=fun y=>h.size≤y) t (Upd.refl _ _) (fun _ h=>h) (OwnS.nil wJ) (fun _ h=>h) c a (by rw[aJ];omega) fun s' h' f d=>g s' h' f (d.mono fun y e=>.inr e)
theorem TQ{W W':Nat→Prop}{h:ad}{s s':SliceV}{xs ys:List UInt8}(d:Sl rO 1 W h s xs)(a:Sl rO 1 W' h s' ys){K:Bool→ad→Prop}(c:K (decide (xs=ys)) h):HC PG yh [.slice s.a s.len s.cap,.slice s'.a s'.len s'.cap] [.c .bool] K h:=by
 refine L7 s s' ?_;unfold CS;have b:=d.srow;have h2:=a.srow;rw[Nat.mul_one]at b h2;refine⟨⟨xs.toArray⟩,by rw[uV];exact b,⟨ys.toArray⟩,by rw[uV];exact h2,?_⟩
 have:((⟨xs.toArray⟩:ByteArray).toList==(⟨ys.toArray⟩:ByteArray).toList)=decide (xs=ys):=by
  rw[ByteArray.toList_eq,ByteArray.toList_eq,Bool.eq_iff_iff,beq_iff_eq,decide_eq_true_iff]
 rw[this];exact c
theorem QI:∀{a b:Nat} (k:Nat),pm a k=pm b k→a%2^(8*k)=b%2^(8*k)
 |_,_,0,_=>by simp[Nat.mod_one]
 |a,b,k+1,h=>by
  rw[BN,BN]at h;obtain⟨f,h2⟩:=vq h (by rw[dS,dS]);have d:=QI k f;have c:=congrArg UInt8.toNat (fi.inj h2).1;rw[UInt8.toNat_ofNat',UInt8.toNat_ofNat',cL,cL]at c;have e:2^(8*(k+1))=2^(8*k)*2^8:=by rw[Nat.mul_add,Nat.pow_add]
  rw[e,Nat.mod_mul,Nat.mod_mul,d,c]
theorem yB{a b k:Nat}{r c:List UInt8}(f:a<2^(8*k))(d:b<2^(8*k))(h:pm a k++r=pm b k++c):a=b∧r=c:=by
 obtain⟨e,h2⟩:=vq h (by rw[dS,dS]);have:=QI k e;rw[dX f,dX d]at this;exact⟨this,h2⟩
theorem BD{a b:ByteArray}{r c:List UInt8}(g:a.size≤10000)(i:b.size≤10000)(h:qw a++r=qw b++c):a=b∧r=c:=by
 unfold qw at h;rw[ar,ar]at h;obtain⟨d,h2⟩:=yB (k:=2) (by omega) (by omega) h;obtain⟨f,e⟩:=vq h2 (by simpa using d);refine⟨?_,e⟩;cases a;cases b;exact congrArg nJ (lw.1 f)
theorem Dm:∀{l l':List Pr} {r r':List UInt8},Fit l→Fit l'→l.length=l'.length→mL l++r=mL l'++r'→l=l'∧r=r'
 | [],[],_,_,_,_,_,h=>⟨rfl,h⟩
 | [],_::_,_,_,_,_,e,_=>by simp at e
 |_::_,[],_,_,_,_,e,_=>by simp at e
 |p::l,q::l',r,r',hf,hf',e,h=>by
  unfold mL at h;rw[aP,aP,Hb,Hb]at h;simp only[ar]at h;have b:=hf p (av ..);have h2:=hf' q (av ..);obtain⟨d,h⟩:=BD b.1 h2.1 h;obtain⟨c,h⟩:=BD b.2 h2.2 h;obtain⟨f,h⟩:=Dm (l:=l) (l':=l') (fun z a=>hf z (aC _ a)) (fun z a=>hf' z (aC _ a)) (by simpa using e) h
  exact⟨by rw[f,ze d c],h⟩
theorem Ir{β γ:Type}{g:Nat→Option β}{a:Nat→Option γ}:∀n,(∀c,c<n→(g c).isSome=(a c).isSome)→(fm g n).length=(fm a n).length
 |0,_=>rfl
 |n+1,h=>by
  rw[jP,jP,ac,ac,Ir n fun c hc=>h c (by omega)]
  have:=h n (by omega);cases h1:g n<;>cases h2:a n<;>rw[h1,h2]at this<;>first|rfl|cases this
theorem JU{β:Type}{g a:Nat→Option β}:∀n,(∀c,c<n→(g c).isSome=(a c).isSome)→fm g n=fm a n→∀c,c<n→g c=a c
 |0,_,_,c,hc=>absurd hc (lU _)
 |n+1,h,e,c,hc=>by
  rw[jP,jP]at e;obtain⟨f,b⟩:=vq e (Ir n fun c hc=>h c (by omega))
  rcases bZ c n with d|d
  ·exact JU n (fun c hc=>h c (by omega)) f c d
  ·have:c=n:=by omega
   subst this;cases h1:g c<;>cases h2:a c<;>rw[h1,h2]at b<;>simp at b⊢
   exact b
theorem yx:∀{l l':List Pr},bS l→bS l'→(∀p,p∈l↔p∈l')→l=l'
 | [],[],_,_,_=>rfl
 | [],q::l',_,_,h=>absurd ((h q).2 (av ..)) (by simp)
 |p::l,[],_,_,h=>absurd ((h p).1 (av ..)) (by simp)
 |p::l,q::l',c,a,h=>by
  have c:=aA.1 c;have a:=aA.1 a;have e:p=q:=by
   rcases aB.1 ((h p).1 (av ..))with e|g
   ·exact e
   ·rcases aB.1 ((h q).2 (av ..))with e|f
    ·exact e.symm
    ·exact absurd (fR (c.1 q f) (a.1 p g)) (co _)
  subst e;rw[yx c.2 a.2 fun z=>?_]
  constructor
  ·intro d
   rcases aB.1 ((h z).1 (aC _ d))with e|b
   ·exact absurd (c.1 z d) (by rw[e];exact co _)
   ·exact b
  ·intro d
   rcases aB.1 ((h z).2 (aC _ d))with e|b
   ·exact absurd (a.1 z d) (by rw[e];exact co _)
   ·exact b
theorem Qx{x:Hs}{lev:Nat}{l l':List Pr}(f:bS l)(a:bS l')(h:∀c,c<32→part x lev c l=part x lev c l'):l=l':=by
 refine yx f a fun p=>?_
 have e:=h (ck x lev p.1) (Af ..);have b:=nM (x:=x) (lev:=lev) (c:=ck x lev p.1) (l:=l) (p:=p);have h2:=nM (x:=x) (lev:=lev) (c:=ck x lev p.1) (l:=l') (p:=p);rw[e]at b;constructor
 ·intro d;exact(h2.1 (b.2 ⟨d,rfl⟩)).1
 ·intro d;exact(b.1 (h2.2 ⟨d,rfl⟩)).1
theorem V4{q q':List Pr}(e:kz q=kz q')(h2:fY q=fY q'):q=q':=by
 match q,q' with
 | [],[]=>rfl
 | [a],[b]=>simp[kz]at e;rw[e]
 | [],[b]=>simp[kz]at e
 | [a],[]=>simp[kz]at e
 | [],b::c::q'=>simp[fY]at h2
 | [a],b::c::q'=>simp[fY]at h2
 |b::c::q',[]=>simp[fY]at h2
 |b::c::q',[a]=>simp[fY]at h2
 |a::b::q,c::d::q'=>simpa[fY]using h2
theorem Q2{f:List Pr→List UInt8}:∀{ls ls':List (List Pr)} {r r':List UInt8},ls.length=ls'.length→(∀L∈ls,∀L'∈ls',∀r r',f L++r=f L'++r'→L=L'∧r=r')→ls.flatMap f++r=ls'.flatMap f++r'→ls=ls'∧r=r'
 | [],[],_,_,_,_,h=>⟨rfl,h⟩
 | [],_::_,_,_,e,_,_=>by simp at e
 |_::_,[],_,_,e,_,_=>by simp at e
 |L::ls,L'::ls',r,r',e,hf,h=>by
  rw[aP,aP,ar,ar]at h;obtain⟨b,h⟩:=hf L (av ..) L' (av ..) _ _ h;obtain⟨a,h⟩:=Q2 (by simpa using e) (fun A c B d=>hf A (aC _ c) B (aC _ d)) h
  exact⟨by rw[b,a],h⟩
theorem Ja{x:Hs}:∀(m:Nat) {l l':List Pr} {r a:List UInt8},Fit l→Fit l'→l.length≤60000→l'.length≤60000→bS l→bS l'→gt x m l++r=gt x m l'++a→l=l'∧r=a
 |0,l,l',r,a,hf,hf',hn,hn',_,_,h=>by
  unfold gt at h;rw[cJ,cJ,ar,ar]at h;obtain⟨e,h⟩:=yB (k:=2) (by omega) (by omega) (fi.inj h).2;exact Dm hf hf' e h
 |m+1,l,l',r,a,hf,hf',hn,hn',hr,hr',h=>by
  unfold gt at h;simp only[cJ,ar]at h;obtain⟨b1,h⟩:=yB (k:=4) (pw _ 32) (pw _ 32) (fi.inj h).2;obtain⟨b2,h⟩:=yB (k:=4) (pw _ 32) (pw _ 32) h;have bits:∀{q q':Nat→Bool},lB q 32=lB q' 32→∀c,c<32→q c=q' c:=fun{q q'} e c hc=>by
   have:=congrArg (fun n=>n.testBit c) e
   simp only[Gu,decide_eq_true hc,Bool.true_and]at this;exact this
  have b1:=bits b1;have b2:=bits b2;obtain⟨i,h⟩:=Dm (fun p d=>hf p (tS d)) (fun p d=>hf' p (tS d)) (Ir 32 b1) h
  obtain⟨f,h⟩:=Q2 (Ir 32 b2) (fun L g L' b r a e=>by
   obtain⟨_,c,rfl⟩:=rM g
   obtain⟨_,c',rfl⟩:=rM b
   exact Ja m hf.part hf'.part (bh lx hn) (bh lx hn') (ju hr) (ju hr') e) h
  have o:=JU 32 b1 i;have j:=JU 32 b2 f;exact⟨Qx hr hr' fun c hc=>V4 (o c hc) (j c hc),h⟩
end Go.Proofs
namespace Go.Proofs
open Go Go.Lift
def B7(lab:ByteArray)(has:Bool)(val:ByteArray)(s:SliceV)(ow:Option Addr):Array Value:= #[.string lab,.bool has,.string val,sv s,.pointer ow]
theorem vw{w:Option ByteArray}{val:ByteArray}(h:val=w.getD ⟨#[]⟩):∀v,w=some v→val=v:=fun v e=>by rw[h,e];rfl
def RxF(W:Nat→Prop)(h:ad):Fo→List (Option Addr)→Prop
 | .nil,ks=>ks= []
 | .cons lab w kids rest,ks=>∃b sl val s ow ks1 ks',ks=some ⟨b,0,none⟩::ks'∧sl.data.toList=lab∧h[b]? =some (.cells (B7 sl w.isSome val s ow) cf (0,0))∧val=w.getD ⟨#[]⟩∧Sl qd 1 W h s ks1∧(s.len≤s.cap∧¬W b)∧RxF W h kids ks1∧RxF W h rest ks'
def RxN(W:Nat→Prop)(h:ad)(b:Nat)(sl:ByteArray)(w:Option ByteArray)(F:Fo):Prop:=∃val s ow ks,h[b]? =some (.cells (B7 sl w.isSome val s ow) cf (0,0))∧val=w.getD ⟨#[]⟩∧Sl qd 1 W h s ks∧(s.len≤s.cap∧¬W b)∧RxF W h F ks
def Kid(W:Nat→Prop)(h:ad)(k:Option Addr)(n:Bn):Prop:=∃b sl,k=some ⟨b,0,none⟩∧sl.data.toList=n.1∧RxN W h b sl n.2.1 n.2.2
def RxL(W:Nat→Prop)(h:ad)(ks:List (Option Addr))(L:List Bn):Prop:=ks.length=L.length∧∀p∈ks.zip L,Kid W h p.1 p.2
theorem lJ{W:Nat→Prop}{h:ad}:∀{F:Fo} {ks:List (Option Addr)},RxF W h F ks↔RxL W h ks F.toL
 | .nil,ks=>by
  unfold RxF RxL;simp[Fo.toL]
 | .cons lab w kids rest,ks=>by
  unfold RxF RxL;rw[Fo.toL_cons];constructor
  ·rintro⟨b,sl,val,s,ow,c,d,rfl,j,i,m,f,n,o,q⟩
   obtain⟨t,u⟩:=lJ.1 q;refine⟨by simp[t],fun p a=>?_⟩
   rw[lH]at a;rcases aB.1 a with rfl|a
   ·exact⟨b,sl,rfl,j,val,s,ow,c,i,m,f,n,o⟩
   ·exact u p a
  ·cases ks with
   |nil=>rintro⟨e,_⟩;simp at e
   |cons k d=>
    rintro⟨e,a⟩;rw[lH]at a;obtain⟨b,sl,v,j,val,s,ow,c,i,m,f,n,o⟩:=a _ (av ..);refine⟨b,sl,val,s,ow,c,d,by rw[←v],j,i,m,f,n,o,lJ.2 ⟨by simpa using e,fun p g=>a p (aC _ g)⟩⟩
theorem RxF.upd0{W:Nat→Prop}{h h':ad}(k:Upd No h h'):∀{F:Fo} {ks:List (Option Addr)},RxF W h F ks→RxF W h' F ks
 | .nil,_,r=>r
 | .cons _ _ _ _,_,⟨b,sl,val,s,ow,ks1,ks',e0,e1,e2,e3,e4,e5,e6,e7⟩=>⟨b,sl,val,s,ow,ks1,ks',e0,e1,k.get0 e2,e3,e4.upd k fun _ h=>h.elim,e5,RxF.upd0 k e6,RxF.upd0 k e7⟩
theorem RxN.upd0{W:Nat→Prop}{h h':ad}(k:Upd No h h'){b:Nat}{sl:ByteArray}{w:Option ByteArray}{F:Fo}:RxN W h b sl w F→RxN W h' b sl w F
 |⟨val,s,ow,ks,e2,e3,e4,e5,e6⟩=>⟨val,s,ow,ks,k.get0 e2,e3,e4.upd k fun _ h=>h.elim,e5,RxF.upd0 k e6⟩
theorem Kid.upd0{W:Nat→Prop}{h h':ad}(k:Upd No h h'){a:Option Addr}{n:Bn}:Kid W h a n→Kid W h' a n
 |⟨b,sl,e1,e2,e3⟩=>⟨b,sl,e1,e2,e3.upd0 k⟩
theorem RxF.less{W W':Nat→Prop}{h:ad}(hm:∀b,W' b→W b∨h.size≤b):∀{F:Fo} {ks:List (Option Addr)},RxF W h F ks→RxF W' h F ks
 | .nil,_,r=>r
 | .cons _ _ _ _,_,⟨b,sl,val,s,ow,ks1,ks',e0,e1,e2,e3,e4,e5,e6,e7⟩=>⟨b,sl,val,s,ow,ks1,ks',e0,e1,e2,e3,e4.less hm,⟨e5.1,fun hx=>(hm _ hx).elim e5.2 fun h=>by have:=bC e2;omega⟩,RxF.less hm e6,RxF.less hm e7⟩
theorem RxN.less{W W':Nat→Prop}{h:ad}(hm:∀b,W' b→W b∨h.size≤b){b:Nat}{sl:ByteArray}{w:Option ByteArray}{F:Fo}:RxN W h b sl w F→RxN W' h b sl w F
 |⟨val,s,ow,ks,e2,e3,e4,e5,e6⟩=>⟨val,s,ow,ks,e2,e3,e4.less hm,⟨e5.1,fun hx=>(hm _ hx).elim e5.2 fun h=>by have:=bC e2;omega⟩,RxF.less hm e6⟩
theorem RxF.updM{W M:Nat→Prop}{h h':ad}(k:Upd M h h')(hm:∀b,M b→W b∨h.size≤b):∀{F:Fo} {ks:List (Option Addr)},RxF W h F ks→RxF W h' F ks
 | .nil,_,r=>r
 | .cons _ _ _ _,_,⟨b,sl,val,s,ow,ks1,ks',e0,e1,e2,e3,e4,e5,e6,e7⟩=>⟨b,sl,val,s,ow,ks1,ks',e0,e1,k.get e2 (fun hx=>(hm _ hx).elim e5.2 fun h=>by have:=bC e2;omega),e3,e4.upd k hm,e5,RxF.updM k hm e6,RxF.updM k hm e7⟩
theorem RxN.updM{W M:Nat→Prop}{h h':ad}(k:Upd M h h')(hm:∀b,M b→W b∨h.size≤b){b:Nat}{sl:ByteArray}{w:Option ByteArray}{F:Fo}:RxN W h b sl w F→RxN W h' b sl w F
 |⟨val,s,ow,ks,e2,e3,e4,e5,e6⟩=>⟨val,s,ow,ks,k.get e2 (fun hx=>(hm _ hx).elim e5.2 fun h=>by have:=bC e2;omega),e3,e4.upd k hm,e5,RxF.updM k hm e6⟩
theorem RxL.upd0{W:Nat→Prop}{h h':ad}(k:Upd No h h'){ks:List (Option Addr)}{L:List Bn}(r:RxL W h ks L):RxL W h' ks L:=⟨r.1,fun p a=>(r.2 p a).upd0 k⟩
theorem RxL.app{W:Nat→Prop}{h:ad}{ks b:List (Option Addr)}{L L':List Bn}(r:RxL W h ks L)(c:RxL W h b L'):RxL W h (ks++b) (L++L'):=by
 refine⟨by rw[ac,ac,r.1,c.1],fun p a=>?_⟩
 rw[List.zip_append r.1]at a;rcases bI.1 a with a|a
 ·exact r.2 p a
 ·exact c.2 p a
theorem RxL.one{W:Nat→Prop}{h:ad}{k:Option Addr}{n:Bn}(c:Kid W h k n):RxL W h [k] [n]:=⟨rfl,fun p a=>by rw[lH,List.zip_nil_left]at a;rw[List.mem_singleton.1 a];exact c⟩
theorem RxL.take{W:Nat→Prop}{h:ad}{ks:List (Option Addr)}{L:List Bn}(r:RxL W h ks L)(i:Nat):RxL W h (ks.take i) (L.take i):=by
 refine⟨by rw[aI,aI,r.1],fun p a=>r.2 p ?_⟩
 have:(ks.take i).zip (L.take i)=(ks.zip L).take i:=by rw[qr,qr,List.take_zipWith]
 rw[this]at a;exact jW a
theorem RxL.drop{W:Nat→Prop}{h:ad}{ks:List (Option Addr)}{L:List Bn}(r:RxL W h ks L)(i:Nat):RxL W h (ks.drop i) (L.drop i):=by
 refine⟨by rw[aU,aU,r.1],fun p a=>r.2 p ?_⟩
 have:(ks.drop i).zip (L.drop i)=(ks.zip L).drop i:=by rw[qr,qr,List.drop_zipWith]
 rw[this]at a;exact List.mem_of_mem_drop a
theorem RxL.ins{W:Nat→Prop}{h:ad}{ks:List (Option Addr)}{L:List Bn}(r:RxL W h ks L)(i:Nat){k:Option Addr}{n:Bn}(c:Kid W h k n):RxL W h (ks.take i++k::ks.drop i) (L.take i++n::L.drop i):=by
 have:=(r.take i).app ((RxL.one c).app (r.drop i));exact this
theorem RxL.set{W:Nat→Prop}{h:ad}{ks:List (Option Addr)}{L:List Bn}(r:RxL W h ks L){i:Nat}(hi:i<L.length){k:Option Addr}{n:Bn}(c:Kid W h k n):RxL W h (ks.set i k) (L.set i n):=by
 have:=(r.take i).app ((RxL.one c).app (r.drop (i+1)));rw[eC,eC,if_pos (by rw[r.1];exact hi),if_pos hi];exact this
theorem RxL.at{W:Nat→Prop}{h:ad}{ks:List (Option Addr)}{L:List Bn}(r:RxL W h ks L){i:Nat}(hi:i<L.length):∃b sl,ks[i]? =some (some ⟨b,0,none⟩)∧sl.data.toList=L[i].1∧RxN W h b sl L[i].2.1 L[i].2.2:=by
 have e:i<ks.length:=by rw[r.1];exact hi
 have f:i<(ks.zip L).length:=by rw[List.length_zip];omega
 have:=r.2 _ (bw f);rw[List.getElem_zip]at this;obtain⟨b,sl,c,a,d⟩:=this;exact⟨b,sl,by rw[List.getElem?_eq_getElem e];exact congrArg some c,a,d⟩
theorem BI:∀{L:List Bn} {c:Nat},L.Pairwise (fun m n=>hd m.1<hd n.1)→(∀n∈L,c≤hd n.1)→L= []∨c+L.length≤256
 | [],_,_,_=>.inl rfl
 |n::L,c,a,hc=>by
  have a:=aA.1 a;have b:=hc n (av ..);have d:=abk n.1;rcases BI (c:=hd n.1+1) a.2 fun m hm=>a.1 m hm with e|e
  ·rw[e];right;simp only[aE];omega
  ·right;rw[al];omega
theorem j6{F:Fo}(h:ge F):F.toL.length≤256:=by
 rcases BI (c:=0) (eT.1 h).1 fun _ _=>aS _ with e|e
 ·rw[e];simp
 ·omega
theorem dZ{h:ad}{b i:Nat}{c:Array Value}(a:h[b]? =some (.cells c cf (0,0))):aO h (adr ⟨b,0,none⟩ i)=c[i]?:=by rw[cp,aQ];exact bF a
theorem ZQ{h:ad}{b i:Nat}{c:Array Value}(a:h[b]? =some (.cells c cf (0,0))) (hi:i<c.size):Wr h (adr ⟨b,0,none⟩ i):=by rw[cp,aQ];exact iw a hi
theorem Lu{h:ad}{b i:Nat}{c c':Array Value}{v:Value}{k:ad→Prop}(f:h[b]? =some (.cells c cf (0,0))) (e:c.setIfInBounds i v=c') (d:∀h',h'[b]? =some (.cells c' cf (0,0))→Upd (· =b) h h'→k h'):At (hset h (adr ⟨b,0,none⟩ i) v) k:=by
 rw[cp,aQ];exact wK f fun h' a g=>d h' (e▸a) g
theorem QZ(s:ByteArray)(i:Nat):s[i]? =s.data.toList[i]?:=by
 rw[Array.getElem?_toList];by_cases h:i<s.size
 ·rw[getElem?_pos s i h,getElem?_pos s.data i h];rfl
 ·rw[getElem?_neg s i h,getElem?_neg s.data i h]
theorem Gb{s:ByteArray}(a:s.data.toList≠[]):∃c:UInt8,s[0]? =some c∧c.toNat=hd s.data.toList:=by
 rw[QZ];match s.data.toList,a with
 |c::l,_=>exact⟨c,rfl,rfl⟩
theorem FZ{W:Nat→Prop}{h:ad}{b:Nat}{sl:ByteArray}{w:Option ByteArray}{F:Fo}(r:RxN W h b sl w F)(hc:ge F){c:Nat}(hc8:c<256){K:Int×Bool→ad→Prop}
  (G:∀i ok,i≤F.toL.length→(∀j (p:j<F.toL.length),j<i→hd F.toL[j].1<c)→(∀j (p:j<F.toL.length),i≤j→c≤hd F.toL[j].1)→(ok=true↔∃hi:i<F.toL.length,hd F.toL[i].1=c)→K ((i:Int),ok) h):HC PG l4 [.pointer (some ⟨b,0,none⟩),.int .u8 c] [.c (.int .i64),.c .bool] K h:=by
 refine E3 _ c ?_;unfold xH bV;obtain⟨val,s,ow,ks,hb,_,Y,T,hF⟩:=r;refine⟨_,rfl,s,dZ (i:=3) hb,?_⟩;have J:=lJ.1 hF;have d:=eT.1 hc;have hn:=j6 hc;have y:=Y.len;rw[J.1]at y;generalize hLe:F.toL=L at J d hn y G;refine jG s c _ ?_;unfold fh bE bX ji IJ
 have D:∀{i:Nat} (hi:i<L.length) {K:Int→ad→Prop},K ((hd L[i].1:Int)-(c:Int)) h→∃a,s.a=some a∧∃v,aO h (adr a (i*1))=some (.pointer v)∧HV PG (.func (.func qj) #[] #[]) [.pointer v,.int .u8 c] [.c (.int .i64)] K h:=by
  intro i hi K G;obtain⟨kb,E,M,C,O⟩:=J.at hi;obtain⟨a,ha,_,hv⟩:=Y.at0 M;refine⟨a,ha,_,hv,HV.mk' (Cd (some ⟨kb,0,none⟩) c ?_)⟩;unfold vE ay;obtain⟨U,kss,kow,kks,Q,_⟩:=O;have N:E.data.toList≠[]:=by rw[C];exact(d.2 _ (bw hi)).1
  obtain⟨u,hu,R⟩:=Gb N;refine⟨_,rfl,E,dZ (i:=0) Q,u,xV _,hu,?_⟩;simp only[Bd];have e:=abk L[i].1;rw[R,C,dI (x:=(hd L[i].1:Int)) (by omega),dI (x:=(c:Int)) (by omega),dI (by omega)];exact G
 have mono:∀i j (hi:i<L.length) (p:j<L.length),i<j→hd L[i].1<hd L[j].1:=fun i j hi p f=>ce.1 d.1 i j hi p f
 refine LoopP.ghost (fun(g:Nat×Nat) (t:Int×Int) h'=>t.1=(g.1:Int)∧t.2=(g.2:Int)∧g.1≤g.2∧g.2≤L.length∧h'=h∧(∀j (p:j<L.length),j<g.1→hd L[j].1<c)∧(∀j (p:j<L.length),g.2≤j→c≤hd L[j].1)) (fun g=>g.2-g.1) (0,L.length)
  ⟨rfl,by simp only;omega,by simp,by simp,rfl,fun j p h=>by omega,fun j p h=>by simp only at h;omega⟩ ?_
 rintro I ⟨i,j⟩ ⟨ti,tj⟩ h' ⟨X,e2,f,k,rfl,n,o⟩ V;simp only at X e2 f k n o;subst X e2;refine ax (fun e=>?_) fun S=>?_
 ·have e:i<j:=by have:(i:Int)<(j:Int):=e;omega
  have em:IntKind.wrap .i64 (dD (IntKind.wrap .u64 (IntKind.wrap .i64 ((i:Int)+(j:Int)))) (2^(min (1:Int).toNat (IntKind.bits .u64))))=(((i+j)/2:Nat):Int):=by
   have e3:(2^(min (1:Int).toNat (IntKind.bits .u64)):Int)=2:=rfl;rw[e3,dI (x:=(i:Int)+(j:Int)) (by omega),Go.IntWalk.u64_in _ (by omega),Int.fdiv_eq_ediv_of_nonneg _ (by omega),dI (by omega)];omega
  refine⟨by decide,?_⟩;simp only[Bd];rw[em];generalize hm:(i+j)/2=m;have A:m<L.length:=by omega
  refine⟨by omega,?_⟩;refine D A ?_;refine ax (fun hneg=>?_) fun Z=>?_
  ·refine V (m+1,j) _ _ ⟨by simp only;rw[dI (by omega)];omega,rfl,by simp only;omega,k,rfl,fun q H z=>?_,o⟩ (by simp only;omega)
   simp only at z;rcases bZ q m with h|h
   ·have:=mono q m H A h;omega
   ·have:q=m:=by omega
    subst this;omega
  ·refine V (i,m) _ _ ⟨rfl,rfl,by simp only;omega,by simp only;omega,rfl,n,fun q H z=>?_⟩ (by simp only;omega)
   simp only at z;rcases bZ m q with h|h
   ·have:=mono m q A H h;omega
   ·have:q=m:=by omega
    subst this;omega
 ·have f:i=j:=by have:¬(i:Int)<(j:Int):=S;omega
  subst f;refine ax (fun e=>?_) fun P=>?_
  ·have B:i<L.length:=by have:(i:Int)<(s.len:Int):=e;omega
   refine⟨by simp only;omega,?_⟩;refine D B ?_;refine G i _ k n o ?_;rw[beq_iff_eq];exact⟨fun h=>⟨B,by omega⟩,fun⟨_,h⟩=>by omega⟩
  ·have B:i=L.length:=by have:¬(i:Int)<(s.len:Int):=P;omega
   exact G i false k n o ⟨fun h=>(by cases h),fun h=>(by obtain⟨h,_⟩:=h;omega)⟩
end Go.Proofs
namespace Go.Proofs
open Go Go.Lift
theorem Qa{b:Nat}{h:ad}{K:Bool→ad→Prop}(a:K false h):HC PG ru [.pointer (some ⟨b,0,none⟩),.pointer none] [.c .bool] K h:=by
 refine DS _ none ?_;unfold wV Ab;exact au.2 (AO (ag.2 a))
abbrev abd:List Value:= [.string (⟨#[]⟩:ByteArray),.bool false,.string (⟨#[]⟩:ByteArray),.slice none 0 0,.pointer none]
theorem rY{W:Nat→Prop}{h:ad}{b:Nat}{sl val:ByteArray}{has:Bool}{s:SliceV}{ow:Option Addr}{ks:List (Option Addr)}(d:h[b]? =some (.cells (B7 sl has val s ow) cf (0,0))) (z:Sl qd 1 W h s ks) (D:ks.length≤256) {K:Option Addr→ad→Prop}
  (A:∀h' s',h'[h.size]? =some (.cells (B7 sl has val s' none) cf (0,0))→OwnS qd 1 bj (fun x=>h.size<x∧x<h'.size) h' s' ks→Upd No h h'→K (some ⟨h.size,0,none⟩) h'):
  HC PG ff [.pointer (some ⟨b,0,none⟩),.pointer none] [.c .ptr] K h:=by
 refine GC _ none ?_;unfold y4 nv ay dG bK bV PN Ab o9 acs;refine Qa (ag.2 ?_);refine⟨_,rfl,sl,dZ (i:=0) d,has,dZ (i:=1) d,val,dZ (i:=2) d,s,dZ (i:=3) d,ow,dZ (i:=4) d,bM ?_⟩;have k1:=Upd.hnew No h abd cf;have b1:=cq h abd cf;simp only[cR h];generalize hnew h [.string (⟨#[]⟩:ByteArray),.bool false,.string (⟨#[]⟩:ByteArray),.slice none 0 0,.pointer none] cf=h1 at k1 b1
 refine dH (c:=abd) (vs:= [.string sl,.bool has,.string val,.slice s.a s.len s.cap,.pointer ow]) b1 rfl fun h2 b2 n=>?_
 have j:Upd No h h2:=k1.trans n fun x hx=>.inr (fS hx.symm)
 have v:h.size<h2.size:=bC b2;have o:=j.get0 d;refine⟨_,rfl,s,dZ (i:=3) o,?_⟩;refine Nz (z.upd j fun _ h=>h.elim) (by omega) fun p y m g=>?_
 have b3:y[h.size]? =some (.cells (B7 sl has val s ow) cf (0,0)):=g.get0 b2;refine⟨ZQ (i:=3) b3 (show 3<5 by decide),Lu (i:=3) (c':=B7 sl has val p ow) b3 rfl fun C t q=>?_⟩
 refine⟨ZQ (i:=4) t (show 4<5 by decide),Lu (i:=4) (c':=B7 sl has val p none) t rfl fun u w k=>?_⟩
 refine AO (ag.2 ?_);have a:=q.tr k;have B:=a.size;have f:=(m.within.upd a fun x hx e=>by have e:x=h.size:=e;have:=hx.1;omega).more (M':=fun x=>h.size<x∧x<u.size) fun x hx=>⟨by have:=hx.1;omega,by have:=hx.2;omega⟩
 exact A u p w f ((j.tr g).trans a fun x hx=>.inr (fS hx.symm))
theorem zk{h:ad}{b:Nat}{sl nl:ByteArray}{has:Bool}{val:ByteArray}{s:SliceV}{ow:Option Addr}(a:h[b]? =some (.cells (B7 sl has val s ow) cf (0,0))) {K:Option Addr→ad→Prop}
  (c:∀h',h'[b]? =some (.cells (B7 nl has val s ow) cf (0,0))→Upd (· =b) h h'→K (some ⟨b,0,none⟩) h'):HC PG jz [.pointer (some ⟨b,0,none⟩),.string nl] [.c .ptr] K h:=by
 refine DR _ nl ?_;unfold wU dG;exact⟨_,rfl,ZQ (i:=0) a (show 0<5 by decide),Lu (i:=0) (c':=B7 nl has val s ow) a rfl c⟩
theorem G4{h:ad}{b:Nat}{sl v:ByteArray}{has:Bool}{val:ByteArray}{s:SliceV}{ow:Option Addr}(d:h[b]? =some (.cells (B7 sl has val s ow) cf (0,0))) {K:Option Addr→ad→Prop}
  (e:∀h',h'[b]? =some (.cells (B7 sl true v s ow) cf (0,0))→Upd (· =b) h h'→K (some ⟨b,0,none⟩) h'):HC PG mF [.pointer (some ⟨b,0,none⟩),.string v] [.c .ptr] K h:=by
 refine Cb _ v ?_;unfold vC dG;exact⟨_,rfl,ZQ (i:=1) d (show 1<5 by decide),Lu (i:=1) (c':=B7 sl true val s ow) d rfl fun f b1 a=>⟨_,rfl,ZQ (i:=2) b1 (show 2<5 by decide),Lu (i:=2) (c':=B7 sl true v s ow) b1 rfl fun h2 b2 c=>e h2 b2 (a.tr c)⟩⟩
theorem SF{h:ad}{k v:ByteArray}{K:Option Addr→ad→Prop}(m:∀h' b s,h'[b]? =some (.cells (B7 k true v s none) cf (0,0))→s.len=0→s.len≤s.cap→h.size≤b→Upd No h h'→K (some ⟨b,0,none⟩) h'):HC PG yb [.pointer none,.string k,.string v] [.c .ptr] K h:=by
 refine LU none k v ?_;unfold CG AB PN o9;have k1:=Upd.hnew No h abd cf;have b1:=cq h abd cf;refine bM ?_;simp only[cR h];generalize hnew h [.string (⟨#[]⟩:ByteArray),.bool false,.string (⟨#[]⟩:ByteArray),.slice none 0 0,.pointer none] cf=h1 at k1 b1;refine rY (W:=No) (ks:= []) (sl:=⟨#[]⟩) (val:=⟨#[]⟩) (has:=false) (s:=⟨none,0,0⟩) (ow:=none) b1 (Sl.nil oe) (aS _) fun h2 s b2 a d=>?_
 refine zk (nl:=k) b2 fun n b3 f=>G4 (v:=v) b3 fun i j e=>?_
 have c:=f.tr e;have z:=d.size;have g:=k1.size;refine m i h1.size s j a.len a.cap g ((k1.tr d).trans c fun x hx=>.inr (by have hx:x=h1.size:=hx;omega))
theorem acJ{W:Nat→Prop}{h:ad}{b:Nat}{k v:ByteArray}{s:SliceV}{ow:Option Addr}(c:h[b]? =some (.cells (B7 k true v s ow) cf (0,0))) (a:s.len=0) (hc:s.len≤s.cap) (nw:¬W b):RxN W h b k (some v) .nil:=
 ⟨v,s,ow,[],c,rfl,⟨a,oe,fun h=>absurd rfl h⟩,⟨hc,nw⟩,rfl⟩
theorem EG(s:ByteArray)(c:Nat):(s.extract 0 c).data.toList=s.data.toList.take c:=by
 rw[nK,Array.toList_extract,gG];simp
theorem EH(s:ByteArray)(c:Nat):(s.extract c s.size).data.toList=s.data.toList.drop c:=by
 rw[nK,Array.toList_extract,gG,List.take_of_length_le];rw[aU];simp
theorem SE{W:Nat→Prop}{h:ad}{b:Nat}{sl:ByteArray}{w:Option ByteArray}{F:Fo}(r:RxN W h b sl w F)(A:∀y,W y→y<h.size)(hn:F.toL.length≤256){c:Nat}(hc:c≤sl.size){K:Option Addr→ad→Prop}
  (Z:∀h' b',RxN W h' b' (sl.extract 0 c) none (.cons (sl.data.toList.drop c) w F .nil)→Upd No h h'→K (some ⟨b',0,none⟩) h'):HC PG rt [.pointer (some ⟨b,0,none⟩),.pointer none,.int .i64 c] [.c .ptr] K h:=by
 refine DP _ none c ?_;unfold wS ay dG AB PN o9;obtain⟨val,s,ow,ks,J,hv,Y,I,L⟩:=r;have lab:∀{h'},Upd No h h'→aO h' (adr ⟨b,0,none⟩ 0)=some (.string sl):=fun k=>dZ (i:=0) (k.get0 J)
 have R:=Upd.refl No h;refine⟨_,rfl,sl,lab R,⟨by omega,by omega⟩,bM ?_⟩
 have k1:=Upd.hnew No h abd cf;have b1:=cq h abd cf;simp only[cR h];generalize hnew h [.string (⟨#[]⟩:ByteArray),.bool false,.string (⟨#[]⟩:ByteArray),.slice none 0 0,.pointer none] cf=h1 at k1 b1;refine⟨lab k1,?_⟩;refine rY (W:=No) (ks:= []) (sl:=⟨#[]⟩) (val:=⟨#[]⟩) (has:=false) (s:=⟨none,0,0⟩) (ow:=none) b1 (Sl.nil oe) (aS _) fun h2 U b2 _ t=>⟨lab (k1.tr t),?_⟩
 rw[aR];refine zk b2 fun d b3 H=>?_
 have z1:=k1.size;have a:Upd No h d:=(k1.tr t).trans H fun x hx=>.inr (by have hx:x=h1.size:=hx;omega)
 refine rY (a.get0 J) (Y.upd a fun _ h=>h.elim) (by rw[(lJ.1 L).1];exact hn) fun h4 T M G z=>?_
 refine⟨_,rfl,sl,dZ (i:=0) M,⟨by omega,by omega⟩,?_⟩
 refine zk (nl:=sl.extract c sl.size) M fun f V n=>?_
 have m:Upd No h f:=(a.tr z).trans n fun x hx=>.inr (by have hx:x=d.size:=hx;have:=a.size;omega)
 have C:=G.upd n fun x hx e=>by have e:x=d.size:=e;have:=hx.1;omega
 have hb3:=bC b3;have q:f[h1.size]? =some (.cells (B7 (sl.extract 0 c) false ⟨#[]⟩ U none) cf (0,0)):=n.get (z.get0 b3) (by show ¬h1.size=d.size;omega);have o:=Upd.hnew No f [.pointer (some ⟨d.size,0,none⟩)] bj;have O:=cq f [.pointer (some ⟨d.size,0,none⟩)] bj;have X:=m.size;have P:=a.size;refine bM ?_;simp only[cR f]
 generalize hnew f [.pointer (some ⟨d.size,0,none⟩)] bj=h6 at o O;have p:=o.get0 q;have N:=bC q;refine⟨_,rfl,ZQ (i:=3) p (show 3<5 by decide),Lu (i:=3) (c':=B7 (sl.extract 0 c) false ⟨#[]⟩ ⟨some ⟨f.size,0,none⟩,1,1⟩ none) p rfl fun B Q g=>?_⟩
 have j:Upd No h B:=(m.tr o).trans g fun x hx=>.inr (by have hx:x=h1.size:=hx;omega)
 have E:B[f.size]? =some (.cells #[.pointer (some ⟨d.size,0,none⟩)] bj (0,0)):=g.get O (by show ¬f.size=h1.size;omega);have D:=g.get (o.get0 V) (by show ¬d.size=h1.size;omega);have u:=(C.upd o fun _ _ h=>h).upd g fun x hx e=>by have e:x=h1.size:=e;have:=hx.1;omega
 refine Z B h1.size ⟨⟨#[]⟩,_,none,[some ⟨d.size,0,none⟩],Q,rfl,⟨rfl,oe,fun _=>⟨_,rfl,(fun hx=>by have hx:W f.size:=hx;have:=A _ hx;omega),pI E fun i v hi=>?_⟩⟩,⟨aj _,fun hx=>by have:=A _ hx;omega⟩,?_⟩ j
 ·rw[aQ]
  rw[←List.getElem?_toArray]at hi;exact hi
 ·refine⟨d.size,sl.extract c sl.size,val,T,none,ks,[],rfl,EH ..,D,hv,u.sl (fun x hx _ S=>by have:=A _ S;have:=hx.1;omega),⟨u.cap,fun hx=>by have:=A _ hx;omega⟩,RxF.upd0 j L,rfl⟩
end Go.Proofs
namespace Go.Proofs
open Go Go.Lift
theorem Nx:∀{x y:List UInt8} {i:Nat},i≤x.length→i≤y.length→(∀j,j<i→x[j]? =y[j]?)→(i=x.length∨i=y.length∨x[i]?≠y[i]?)→cm x y=i
 | [],_,i,h1,_,_,_=>by simp at h1;simp[cm,h1]
 |_::_,[],i,_,h2,_,_=>by simp at h2;simp[cm,h2]
 |a::x,b::y,0,_,_,_,h=>by
  unfold cm;rw[if_neg];rintro rfl;rcases h with h|h|h<;>simp at h
 |a::x,b::y,i+1,h1,h2,h3,h4=>by
  have:=h3 0 (by omega);simp only[List.getElem?_cons_zero,bQ.injEq]at this;unfold cm;rw[if_pos this,Nx (i:=i) (by simpa using h1) (by simpa using h2) (fun j c=>by simpa using h3 (j+1) (by omega)) (by simpa using h4)]
theorem Nw{a b:ByteArray}(y:a.size≤1000000){h:ad}{K:Int→ad→Prop}(n:K (cm a.data.toList b.data.toList:Nat) h):HC PG uy [.string a,.string b] [.c (.int .i64)] K h:=by
 refine LO a b ?_;unfold CB;simp only[Bd];have f:(if(b.size:Int)<(a.size:Int)then(b.size:Int)else(a.size:Int))=((min a.size b.size:Nat):Int):=by split<;>omega
 rw[f];have z:a.data.toList.length=a.size:=by simp
 have A:b.data.toList.length=b.size:=by simp
 refine LoopP.ghost (fun(i:Nat) (t:Int) h'=>t=(i:Int)∧i≤min a.size b.size∧h'=h∧∀j,j<i→a.data.toList[j]? =b.data.toList[j]?) (fun i=>min a.size b.size-i) 0 ⟨rfl,aS _,rfl,fun j u=>absurd u (lU _)⟩ ?_
 rintro I i t h' ⟨rfl,hi,rfl,p⟩ x;refine ax (fun c=>?_) fun w=>?_
 ·have c:i<min a.size b.size:=by omega
  have g:i<a.size:=by omega
  have k:i<b.size:=by omega
  refine⟨a[i],by omega,by rw[aR,getElem?_pos a i g],b[i],by omega,by rw[aR,getElem?_pos b i k],?_⟩
  have q:a.data.toList[i]? =some a[i]:=by rw[←QZ,getElem?_pos a i g]
  have s:b.data.toList[i]? =some b[i]:=by rw[←QZ,getElem?_pos b i k]
  refine CondP.intro (fun m=>?_) fun d=>?_
  ·rw[Nx (i:=i) (by omega) (by omega) p (.inr (.inr fun e=>?_))]at n
   ·exact n
   ·rw[q,s]at e
    rw[bQ.inj e]at m;simp at m
  ·have d:a[i]=b[i]:=by
    have:((a[i].toNat:Int))=(b[i].toNat:Int):=by simpa using d
    exact UInt8.toNat_inj.1 (by omega)
   rw[db c (by omega)];refine x (i+1) _ _ ⟨rfl,c,rfl,fun j u=>?_⟩ (by omega)
   rcases bZ j i with v|v
   ·exact p j v
   ·have:j=i:=by omega
    subst this;rw[q,s,d]
 ·have o:i=min a.size b.size:=by omega
  rw[Nx (i:=i) (by omega) (by omega) p (by omega)]at n;rw[←o];exact n
theorem Wp{F:Fo}{i:Nat}{k:List UInt8}{v:ByteArray}(h:ge F)(hi:i<F.toL.length)(ek:hd F.toL[i].1=hd k)(a:yl (wr F.toL[i]) (wr F.toL[i]) k v):yl (tF F) (tF F) k v:=by
 have:=Qt h hi ek a;rw[List.set_getElem_self,Fo.of_to]at this;exact this
theorem Yu{P Q a:List UInt8→ByteArray→Prop}{k:List UInt8}{v:ByteArray}(h:yl P a k v)(e:∀k v,P k v↔Q k v):yl Q a k v:=fun k' b=>by rw[h k' b,e]
set_option maxHeartbeats 1000000 in
theorem Ya{W:Nat→Prop}:∀(n:Nat) {b:Nat} {sl:ByteArray} {w:Option ByteArray} {F:Fo} {h:ad} (k v:ByteArray),k.size<n→k.size≤1000000→RxN W h b sl w F→(∀y,W y→y<h.size)→ge F→∀{K:(Option Addr)×Bool×Bool→ad→Prop},
  (∀h' b' w' F' B ch,Upd No h h'→RxN W h' b' sl w' F'→ge F'→yl (uY w F) (uY w' F') k.data.toList v→(ch=false→b'=b∧w'=w∧F'=F)→(uY w F k.data.toList v→ch=false)→K (some ⟨b',0,none⟩,B,ch) h')→
  HC PG pN [.pointer (some ⟨b,0,none⟩),.pointer none,.string k,.string v] [.c .ptr,.c .bool,.c .bool] K h:=by
 intro n;induction n with
 |zero=>intro b sl w F h k v hk;omega
 |succ n ih=>
  intro b sl w F h k v G hk6 r Z hc K hk;refine GB (some ⟨b,0,none⟩) none k v ?_;unfold y3 bE bX ay is dG AB bK bV XM IJ o9 abu NW;have hr:=r;obtain⟨val,s,ow,ks,V,hv,hs,hcap,hF⟩:=r;have T:=lJ.1 hF;have hn:=j6 hc;have hcan:=eT.1 hc;rw[fg];refine ax (fun hk0=>?_) fun hk0=>?_
  ·have hke:k.data.toList= []:=by rw[hk0]
   rw[hke]at hk;refine Join.intro (fun t h'=>t=decide (w=some v)∧h'=h) (fun R hR=>⟨_,rfl,w.isSome,dZ (i:=1) V,?_⟩) ?_
   ·cases H:w with
    |none=>exact ag.2 (hR _ _ ⟨by rw[H];rfl,rfl⟩)
    |some u=>
     refine au.2 ⟨_,rfl,val,dZ (i:=2) V,hR _ _ ⟨?_,rfl⟩⟩;rw[fg,vw hv u H,H];exact decide_eq_decide.2 ⟨fun e=>by rw[e],fun e=>bQ.inj e⟩
   ·rintro t h' ⟨rfl,rfl⟩
    refine ax (fun e=>?_) fun e=>?_
    ·refine hk h' b w F false false (Upd.refl _ _) hr hc ?_ (fun _=>⟨rfl,rfl,rfl⟩) fun _=>rfl
     rw[e];exact MP hc v
    ·refine⟨_,rfl,w.isSome,dZ (i:=1) V,?_⟩
     refine rY V hs (by rw[T.1];exact hn) fun h1 s1 b1 ho1 z=>?_
     refine⟨dZ (i:=1) (z.get0 V),?_⟩;refine G4 b1 fun h2 b2 A=>?_
     have d:Upd No h' h2:=z.trans A fun x hx=>.inr (fS (Eq.symm hx))
     refine⟨dZ (i:=1) (d.get0 V),?_⟩;have ho2:=ho1.upd A fun x hx e=>by have e:x=h'.size:=e;have:=hx.1;omega
     refine hk h2 h'.size (some v) F _ true d ⟨v,s1,none,ks,b2,rfl,ho2.sl (fun x hx _ H=>by have:=Z _ H;have:=hx.1;omega),⟨ho2.cap,fun hx=>oc _ (Z _ hx)⟩,RxF.upd0 d hF⟩ hc (MP hc v) (fun h=>by cases h) fun o=>?_
     rcases o with⟨_,h⟩|h
     ·exact absurd h e
     ·exact absurd rfl (rm hc h)
  ·have f:k.data.toList≠[]:=fun e=>hk0 (by cases k;exact congrArg nJ (lw.1 e))
   obtain⟨c0,hc0,hc0e⟩:=Gb f;refine⟨c0,xV _,hc0,?_⟩;have hlk:k.data.toList.length=k.size:=by simp
   refine FZ hr hc (c:=c0.toNat) (UInt8.toNat_lt _) fun i ok Y hlo hhi hok=>?_
   rw[hc0e]at hlo hhi hok;cases ok with
   |false=>
    have hno:∀hi:i<F.toL.length,hd F.toL[i].1≠hd k.data.toList:=fun hi e=>by have:=hok.2 ⟨hi,e⟩;cases this
    have hhi':∀j (hj:j<F.toL.length),i≤j→hd k.data.toList<hd F.toL[j].1:=fun j hj hij=>by
     have h1:=hhi j hj hij;rcases bZ i j with U|U
     ·have h2:=ce.1 hcan.1 i j (by omega) hj U
      have h3:=hhi i (by omega) (aj _);omega
     ·have:i=j:=by omega
      subst this;have:=hno hj;omega
    obtain⟨hc',hp'⟩:=Ws (v:=v) hc f hlo hhi';refine au.2 ?_;refine rY V hs (by rw[T.1];exact hn) fun h1 s1 b1 ho1 z=>?_
    refine⟨_,rfl,s1,dZ (i:=3) b1,?_⟩;refine SF fun h2 fb fs fb2 hf0 hfc hfb A=>⟨dZ (i:=3) (A.get0 b1),bM ?_⟩
    have k3:=Upd.hnew No h2 [.pointer (some ⟨fb,0,none⟩)] bj;have b3:=cq h2 [.pointer (some ⟨fb,0,none⟩)] bj;have z3:(hnew h2 [.pointer (some ⟨fb,0,none⟩)] bj).size=h2.size+1:=jw ..;simp only[cR h2];generalize hnew h2 [.pointer (some ⟨fb,0,none⟩)] bj=h3 at k3 b3 z3;have C:=A.tr k3;refine⟨dZ (i:=3) (C.get0 b1),?_⟩;have z1:=bC b1
    have z2:=A.size;have zf:=bC fb2;have X:=(ho1.upd C fun _ _ h=>h).more (M':=fun x=>(h.size<x∧x<h1.size)∨h3.size≤x) fun x hx=>.inl hx
    refine Tq X (k:=i) (by rw[T.1];exact Y) (by rw[T.1];omega) b3 (by rintro(h|h)<;>omega) (fun x hx=>.inr hx) fun s4 h4 M I=>?_
    have b4:=I.get (C.get0 b1) (by rintro(h|h)<;>omega)
    have f4:=I.get (k3.get0 fb2) (by rintro(h|h)<;>omega)
    refine⟨_,rfl,ZQ (i:=3) b4 (show 3<5 by decide),Lu (i:=3) (c':=B7 sl w.isSome val s4 none) b4 rfl fun h5 b5 hu5=>?_⟩
    have hu05:Upd No h h5:=((z.tr C).trans I fun x hx=>.inr (by have:=z.size;rcases hx with hx|hx<;>omega)).trans hu5 fun x hx=>.inr (fS (Eq.symm hx))
    have ho5:=M.upd hu5 fun x hx e=>by have e:x=h.size:=e;rcases hx with hx|hx<;>omega
    have f5:=hu5.get f4 (by show ¬fb=h.size;omega);refine hk h5 h.size w _ true true hu05 ⟨val,s4,none,_,b5,hv,ho5.sl (fun x hx _ H=>by have:=Z _ H;rcases hx with hx|hx<;>omega),⟨ho5.cap,fun hx=>oc _ (Z _ hx)⟩,lJ.2 (by rw[Fo.to_of];exact(T.upd0 hu05).ins i ⟨fb,k,rfl,rfl,acJ f5 hf0 hfc fun hx=>by have:=Z _ hx;omega⟩)⟩ hc' (F6 f hp') (fun h=>by cases h) fun o=>?_
    rcases o with⟨h,_⟩|o
    ·exact absurd h f
    ·obtain⟨n',hn',e,_⟩:=tT hc o
     obtain⟨j,hj,rfl⟩:=List.getElem_of_mem hn';rcases bZ j i with U|U
     ·have:=hlo j hj U;omega
     ·have:=hhi' j hj U;omega
   |true=>
    obtain⟨hi,E⟩:=hok.1 rfl;refine ag.2 ⟨_,rfl,s,dZ (i:=3) V,?_⟩;obtain⟨kb,ksl,hki,p,G⟩:=T.at hi;have hmem:F.toL[i]∈F.toL:=bw hi;have g:=hcan.2 _ hmem;obtain⟨a,ha,_,hvv⟩:=hs.at0 hki;have hslen:=hs.len;rw[T.1]at hslen;have hlt1:(i:Int)<((s.len:Nat):Int):=by omega
    refine⟨⟨by simp only;omega,hlt1⟩,a,ha,some ⟨kb,0,none⟩,hvv,_,rfl,?_⟩;obtain⟨kval,kss,kow,kks,hkb,_⟩:=id G;refine⟨ksl,dZ (i:=0) hkb,Nw hk6 ?_⟩;rw[p];have hc1:=Y9 f g.1 E.symm;have L:=VF k.data.toList F.toL[i].1;have N:=VD k.data.toList F.toL[i].1;have hcd:=OW k.data.toList F.toL[i].1;have hll:ksl.size=F.toL[i].1.length:=by rw[←p];simp
    have Q:tF F k.data.toList v→wr F.toL[i] k.data.toList v:=fun o=>by
     obtain⟨n',hn',e,hN⟩:=tT hc o;rw[←zN hc hn' hmem (by omega)];exact hN
    have hset:∀{w2:Option ByteArray} {F2:Fo} {nl:List UInt8},nl≠[]→hd nl=hd F.toL[i].1→ge F2→Br (uY w2 F2)→ge (.ofL (F.toL.set i (nl,w2,F2))):=fun h1 h2 h3 h4=>VG hc hi ⟨h1,(Kp h3).2 h4,h3⟩ h2
    have O:∀{m:Bn},yl (wr F.toL[i]) (wr m) k.data.toList v→yl (tF F) (tF (.ofL (F.toL.set i m))) k.data.toList v:=fun hp=>Qt hc hi E hp
    have S:yl (wr F.toL[i]) (wr F.toL[i]) k.data.toList v→yl (tF F) (tF F) k.data.toList v:=Wp hc hi E;have hrset:∀{h':ad} {k':Option Addr} {m:Bn},Upd No h h'→Kid W h' k' m→RxL W h' (ks.set i k') (F.toL.set i m):=fun hu hkd=>(T.upd0 hu).set hi hkd
    generalize F.toL[i]=m at p G g hc1 L N hcd hll Q hset O S E;generalize hcc:cm k.data.toList m.1=c at hc1 L N hcd;obtain⟨lab,wk,Fk⟩:=m;simp only at p G g L N hcd hll E hset;refine Join.intro (fun t h'=>∃ub q wu Fu,t=some ⟨ub,0,none⟩∧Upd No h h'∧RxN W h' ub q wu Fu∧ge Fu∧q.data.toList=k.data.toList.take c∧(∀k' v',wr (q.data.toList,wu,Fu) k' v'↔wr (lab,wk,Fk) k' v')∧(∀w' F',ge F'→yl (uY wu Fu) (uY w' F') (k.data.toList.drop c) v→Br (uY w' F'))) (fun R hR=>⟨_,rfl,ksl,dZ (i:=0) hkb,?_⟩) ?_
    ·refine ax (fun hlt=>?_) fun hge=>?_
     ·have hlt:c<lab.length:=by omega
      refine SE G Z (j6 g.2.2) (c:=c) (by omega) fun h1 ub rn z=>hR _ _ ⟨ub,_,none,_,rfl,z,rn,?_,?_,?_,?_⟩
      ·rw[p]
       refine⟨fun e=>?_,g.2.1,g.2.2,fun _ h=>by simp[Fo.toL]at h,trivial⟩
       have:=congrArg fy e;rw[aU,aJ]at this;omega
      ·rw[EG,p,N]
      ·intro k' v'
       rw[EG,p];exact Nd c k' v'
      ·intro w' F' hcF hp
       rw[p]at hp;refine Zi (fun e=>?_) g.2.1 g.2.2 (fun hne=>?_) hp
       ·have:=congrArg fy e
        rw[aU,aJ]at this;omega
       ·refine hcd ?_ hlt
        rcases bZ c k.data.toList.length with U|U
        ·exact U
        ·exact absurd (List.drop_eq_nil_of_le U) hne
     ·have hce:c=lab.length:=by omega
      refine hR _ _ ⟨kb,ksl,wk,Fk,rfl,Upd.refl _ _,G,g.2.2,?_,?_,?_⟩
      ·rw[p,N,hce,bT]
      ·intro k' v';rw[p]
      ·intro w' F' hcF hp
       exact aa0 ((Kp g.2.2).1 g.2.1) hp
    ·rintro t h1 ⟨ub,q,wu,Fu,rfl,z,rn,hcu,hsl,J,hbr⟩
     refine⟨⟨by omega,by omega⟩,?_⟩
     rw[aR];have hkd:(k.extract c k.size).data.toList=k.data.toList.drop c:=EH ..;have hks:(k.extract c k.size).size=k.size-c:=by simp
     have D:k.data.toList=q.data.toList++k.data.toList.drop c:=by rw[hsl,aK]
     have P:q.data.toList≠[]:=by
      rw[hsl];intro e;have:=congrArg fy e;rw[aI,aJ]at this;omega
     have hslhd:hd q.data.toList=hd lab:=by
      rw[E];conv=>rhs;rw[D]
      rw[qi P]
     refine ih (k.extract c k.size) v (by rw[hks];omega) (by rw[hks];omega) rn (fun y hy=>Nat.lt_of_lt_of_le (Z y hy) z.size) hcu fun h2 b2 w2 F2 B ch A rn2 hc2 hp2 hsm hch=>?_
     rw[hkd]at hp2 hch;have d:=z.tr A;have hpn:yl (wr (lab,wk,Fk)) (wr (q.data.toList,w2,F2)) k.data.toList v:=by
      have:=Yu (Wq (lab:=q.data.toList) hp2) J;rw[←D]at this;exact this
     have hchg:uY w F k.data.toList v→ch=false:=fun o=>by
      rcases o with⟨h,_⟩|o
      ·exact absurd h f
      ·obtain⟨r,e,hr'⟩:=(J _ _).2 (Q o)
       simp only at e;rw[D]at e;have e2:=List.append_cancel_left e;rw[←D]at e;exact hch (by rw[e2];exact hr')
     cases ch with
     |false=>
      obtain⟨_,rfl,rfl⟩:=hsm rfl;refine au.2 (hk h2 b w F false false d (hr.upd0 d) hc (F6 f (S ?_)) (fun _=>⟨rfl,rfl,rfl⟩) fun _=>rfl)
      intro k' v';exact(J k' v').symm.trans (hpn k' v')
     |true=>
      refine ag.2 ?_;refine rY (d.get0 V) (hs.upd d fun _ h=>h.elim) (by rw[T.1];exact hn) fun h3 s3 b3 X hu3=>?_
      refine⟨_,rfl,s3,dZ (i:=3) b3,?_⟩;have Y:i<ks.length:=by rw[T.1];exact hi
      obtain⟨a3,ha3,hab,hw3,M,I⟩:=OwnS.setAt X Y (some ⟨b2,0,none⟩);have hlen3:=X.len;refine⟨⟨by simp only;omega,by simp only;omega⟩,a3,ha3,?_⟩
      have hw1:Wr h3 (adr a3 (i*1)):=by
       rcases hw3 with H|⟨b',hb',H⟩
       ·cases H
       ·cases hb';exact H 0 (by simp)
      refine⟨hw1,bM ?_⟩;have b4:=I.get b3 fun e=>by have e:h2.size=a3.block:=e;have:=hab.1;omega
      have hu24:Upd No h2 _:=hu3.trans I fun x hx=>.inr (by have hx:x=a3.block:=hx;have:=hab.1;omega)
      have hu04:=d.tr hu24;have eset:ks.set i (some ⟨b2,0,none⟩)=ks.take i++some ⟨b2,0,none⟩::ks.drop (i+1):=by rw[eC,if_pos Y]
      rw[←eset]at M;exact hk _ h2.size w _ B true hu04 ⟨val,s3,none,_,b4,hv,M.sl (fun x hx _ H=>by have:=Z _ H;have:=d.size;have:=hx.1;omega),⟨M.cap,fun hx=>by have:=Z _ hx;have:=d.size;omega⟩,lJ.2 (by rw[Fo.to_of];exact hrset hu04 ⟨b2,q,rfl,rfl,rn2.upd0 hu24⟩)⟩ (hset P hslhd hc2 (hbr _ _ hc2 hp2)) (F6 f (O hpn)) (fun h=>by cases h) hchg
end Go.Proofs
namespace Go.Proofs
open Go Go.Lift
def B8:Fo→List (List UInt8×ByteArray)
 | .nil=> []
 | .cons lab w kids rest=>((w.map fun v=>(([]:List UInt8),v)).toList++B8 kids).map (fun p=>(lab++p.1,p.2))++B8 rest
def x7(w:Option ByteArray)(F:Fo):List (List UInt8×ByteArray):=(w.map fun v=>(([]:List UInt8),v)).toList++B8 F
theorem xm:∀{F:Fo} {k:List UInt8} {v:ByteArray},(k,v)∈B8 F↔tF F k v
 | .nil,_,_=>by simp[B8,tF]
 | .cons lab w kids rest,k,v=>by
  unfold B8 tF;rw[bI,xm (F:=rest)];refine or_congr ?_ zZ;rw[gA];constructor
  ·rintro⟨⟨r,u⟩,hm,b⟩
   simp only[sZ.injEq]at b;obtain⟨rfl,rfl⟩:=b;refine⟨r,rfl,?_⟩;rcases bI.1 hm with h|h
   ·left
    rw[tc,nG]at h;obtain⟨a,c,b⟩:=h;simp only[sZ.injEq]at b;exact⟨b.1.symm,by rw[c,b.2]⟩
   ·exact .inr (xm.1 h)
  ·rintro⟨r,rfl,h⟩
   refine⟨(r,v),bI.2 ?_,rfl⟩;rcases h with⟨rfl,h⟩|h
   ·left;rw[h];simp
   ·exact .inr (xm.2 h)
theorem kI{w:Option ByteArray}{F:Fo}{k:List UInt8}{v:ByteArray}:(k,v)∈x7 w F↔uY w F k v:=by
 unfold x7 uY;rw[bI,xm];refine or_congr ?_ zZ;cases w with
 |none=>simp
 |some u=>simp[Prod.ext_iff,eq_comm]
abbrev Up(l:List (List UInt8×ByteArray)):Prop:=l.Pairwise fun p q=>p.1<q.1
theorem O6{a x y:List UInt8}(h:x<y):a++x<a++y:=by
 induction a with
 |nil=>exact h
 |cons c a ih=>exact List.Lex.cons ih
theorem QT{x y:List UInt8}(c:y≠[])(h:hd x<hd y):x<y:=by
 match x,y,c with
 | [],b::y,_=>exact zY
 |a::x,b::y,_=>exact List.Lex.rel (UInt8.lt_iff_toNat_lt.2 h)
theorem SY:∀{F:Fo},ge F→Up (B8 F)
 | .nil,_=>fT
 | .cons lab w kids rest,h=>by
  unfold B8;refine cr.2 ⟨?_,SY h.2.2.2.2,?_⟩
  ·rw[oT]
   refine List.Pairwise.imp (R:=fun p q:List UInt8×ByteArray=>p.1<q.1) (fun i=>O6 i) ?_
   refine cr.2 ⟨?_,SY h.2.2.1,?_⟩
   ·cases w<;>simp
   ·intro a f b g
    have d:b.1≠[]:=rm h.2.2.1 (xm (F:=kids).1 (show(b.1,b.2)∈_ from g))
    have j:a.1= []:=by
     rw[tc,nG]at f;obtain⟨v,_,e⟩:=f;rw[←e]
    rw[j];match b.1,d with
    |c::l,_=>exact zY
  ·intro a f b g
   obtain⟨p,_,rfl⟩:=gA.1 f;obtain⟨n,k,e,_⟩:=tT h.2.2.2.2 (xm (F:=rest).1 (show(b.1,b.2)∈_ from g))
   have d:b.1≠[]:=rm h.2.2.2.2 (xm (F:=rest).1 (show(b.1,b.2)∈_ from g))
   have:=h.2.2.2.1 n k;exact QT d (by rw[qi h.1];omega)
theorem Vb{w:Option ByteArray}{F:Fo}(h:ge F):Up (x7 w F):=by
 refine cr.2 ⟨by cases w<;>simp,SY h,?_⟩
 intro a g b i;have f:b.1≠[]:=rm h (xm (F:=F).1 (show(b.1,b.2)∈_ from i))
 have d:a.1= []:=by
  rw[tc,nG]at g;obtain⟨v,_,e⟩:=g;rw[←e]
 rw[d];match b.1,f with
 |c::l,_=>exact zY
theorem XP:∀{l l':List (List UInt8×ByteArray)},Up l→Up l'→(∀p,p∈l↔p∈l')→l=l'
 | [],[],_,_,_=>rfl
 | [],q::l',_,_,h=>absurd ((h q).2 (av ..)) (by simp)
 |p::l,[],_,_,h=>absurd ((h p).1 (av ..)) (by simp)
 |p::l,q::l',c,a,h=>by
  have c:=aA.1 c;have a:=aA.1 a;have e:p=q:=by
   rcases aB.1 ((h p).1 (av ..))with e|g
   ·exact e
   ·rcases aB.1 ((h q).2 (av ..))with e|f
    ·exact e.symm
    ·exact absurd (List.lt_trans (c.1 q f) (a.1 p g)) (w8 _)
  subst e;rw[XP c.2 a.2 fun z=>?_]
  constructor
  ·intro d
   rcases aB.1 ((h z).1 (aC _ d))with e|b
   ·exact absurd (c.1 z d) (by rw[e];exact w8 _)
   ·exact b
  ·intro d
   rcases aB.1 ((h z).2 (aC _ d))with e|b
   ·exact absurd (a.1 z d) (by rw[e];exact w8 _)
   ·exact b
def OV:Fo→Nat
 | .nil=>0
 | .cons _ _ kids rest=>1+OV kids+OV rest
theorem OU:∀{F:Fo},ge F→OV F+F.toL.length≤2*(B8 F).length
 | .nil,_=>by simp[OV,Fo.toL]
 | .cons lab w kids rest,h=>by
  have b:=OU h.2.2.1;have h2:=OU h.2.2.2.2;have a:=h.2.1;rw[Fo.toL_cons];unfold OV B8;rw[ac,List.length_map,ac,al];cases w with
  |none=>
   simp only[Option.map_none,Option.toList_none,aJ];have:2≤kids.toL.length:=a.resolve_left (by simp);omega
  |some v=>simp only[Option.map_some,Option.toList_some,aE];omega
def Po:Fo→Prop
 | .nil=>True
 | .cons lab w kids rest=>lab.length≤10000∧(∀v,w=some v→v.size≤10000)∧kids.toL.length≤256∧Po kids∧Po rest
theorem TB:∀{F:Fo},ge F→(∀k v,tF F k v→k.length≤10000∧v.size≤10000)→Po F
 | .nil,_,_=>trivial
 | .cons lab w kids rest,h,hl=>by
  obtain⟨r,v,c⟩:=pn h _ (av ..);have b:=(hl _ v (gM.2 ⟨_,av ..,r,rfl,c⟩)).1;rw[ac]at b;simp only at b;refine⟨by omega,fun v hv=>(hl lab v (.inl ⟨[],(aL _).symm,.inl ⟨rfl,hv⟩⟩)).2,j6 h.2.2.1,TB h.2.2.1 fun k v a=>?_,TB h.2.2.2.2 fun k v a=>hl k v (.inr a)⟩
  have:=hl (lab++k) v (.inl ⟨k,rfl,.inr a⟩);rw[ac]at this;exact⟨by omega,this.2⟩
def xY:Option ByteArray→List UInt8
 |some v=>1::qw v
 |none=> [0]
def vy(lab:List UInt8)(w:Option ByteArray)(n:Nat):List UInt8:=qw ⟨lab.toArray⟩++(xY w++pm n 2)
def rh:Fo→List UInt8
 | .nil=> []
 | .cons lab w kids rest=>vy lab w kids.toL.length++(rh kids++rh rest)
def kE(n:Bn):List UInt8:=vy n.1 n.2.1 n.2.2.toL.length++rh n.2.2
theorem AD:∀F:Fo,rh F=F.toL.flatMap kE
 | .nil=>rfl
 | .cons lab w kids rest=>by
  rw[Fo.toL_cons,aP,←AD rest];show vy lab w kids.toL.length++(rh kids++rh rest)=(vy lab w kids.toL.length++rh kids)++rh rest
  rw[ar]
theorem MV{lab:List UInt8}{w:Option ByteArray}{n:Nat}(a:lab.length≤10000)(h2:∀v,w=some v→v.size≤10000):(vy lab w n).length≤20010:=by
 unfold vy;rw[ac,ac,li,dS];have e:(nJ lab.toArray).size=lab.length:=by simp[ByteArray.size]
 rw[e];cases w with
 |none=>simp only[xY,aE];omega
 |some v=>have:=h2 v rfl;simp only[xY,al,li];omega
theorem Dg:∀{F:Fo},Po F→(rh F).length≤OV F*20010
 | .nil,_=>by simp[rh]
 | .cons lab w kids rest,h=>by
  have a:=MV (n:=kids.toL.length) h.1 h.2.1;have h2:=Dg h.2.2.2.1;have b:=Dg h.2.2.2.2;unfold rh OV;rw[ac,ac,lh,lh];omega
theorem MW{lab a:List UInt8}{w c:Option ByteArray}{n n':Nat}{r i:List UInt8}(j:lab.length≤10000)(e:a.length≤10000)(h2:∀v,w=some v→v.size≤10000)(f:∀v,c=some v→v.size≤10000)(p:n≤256)(m:n'≤256)(h:vy lab w n++r=vy a c n'++i):lab=a∧w=c∧n=n'∧r=i:=by
 unfold vy at h;simp only[ar]at h;have z:∀l:List UInt8,(nJ l.toArray).size=l.length:=fun l=>by simp[ByteArray.size]
 obtain⟨d,h⟩:=BD (by rw[z];exact j) (by rw[z];exact e) h;have d:lab=a:=by
  have:=congrArg (fun b:ByteArray=>b.data.toList) d
  simpa using this
 cases w with
 |none=>
  cases c with
  |none=>
   simp only[xY,cJ,List.nil_append,fi.injEq,true_and]at h;obtain⟨g,h⟩:=yB (k:=2) (by omega) (by omega) h;exact⟨d,rfl,g,h⟩
  |some v=>simp[xY]at h
 |some v=>
  cases c with
  |none=>simp[xY]at h
  |some v'=>
   simp only[xY,cJ,fi.injEq,true_and]at h;obtain⟨o,h⟩:=BD (h2 v rfl) (f v' rfl) h;obtain⟨g,h⟩:=yB (k:=2) (by omega) (by omega) h;exact⟨d,by rw[o],g,h⟩
theorem Dh:∀{F F':Fo} {r r':List UInt8},Po F→Po F'→F.toL.length=F'.toL.length→rh F++r=rh F'++r'→F=F'∧r=r'
 | .nil,.nil,_,_,_,_,_,h=>⟨rfl,h⟩
 | .nil,.cons ..,_,_,_,_,e,_=>by simp[Fo.toL]at e
 | .cons ..,.nil,_,_,_,_,e,_=>by simp[Fo.toL]at e
 | .cons lab w kids rest,.cons lab' w' kids' rest',r,r',h1,h2,e,h=>by
  unfold rh at h;simp only[ar]at h;obtain⟨d,b,c,h⟩:=MW h1.1 h2.1 h1.2.1 h2.2.1 h1.2.2.1 h2.2.2.1 h;obtain⟨a,h⟩:=Dh h1.2.2.2.1 h2.2.2.2.1 c h;obtain⟨f,h⟩:=Dh h1.2.2.2.2 h2.2.2.2.2 (by rw[Fo.toL_cons,Fo.toL_cons]at e;simpa using e) h;exact⟨by rw[d,b,a,f],h⟩
end Go.Proofs
namespace Go.Proofs
open Go Go.Lift
theorem aa3{M:Nat→Prop}{h:ad}{so:SliceV}{out ys:List UInt8}{vs:List Value}(hv:vs=ys.flatMap rO){n:Nat}(c:n=ys.length){K:SliceV→ad→Prop}(f:OwnS rO 1 cP M h so out)(hM:∀b,h.size≤b→M b)(i:out.length+ys.length≤140737488355328)
  (g:∀s' h',OwnS rO 1 cP M h' s' (out++ys)→Upd M h h'→K s' h'):
  ∃xs,SRow (hnew h vs cP) (some (aG h)) (n*1) xs∧AppP (some [.int .u8 0]) 1 1 cP so.a so.len so.cap n xs (hnew h vs cP) K:=by
 subst hv c;have k:=Upd.hnew No h (ys.flatMap rO) cP;have d:OwnS rO 1 cP (fun _=>True) (hnew h (ys.flatMap rO) cP) ⟨some (aG h),ys.length,ys.length⟩ ys:=⟨rfl,wJ,aj _,.inr ⟨h.size,[],rfl,trivial,by rw[aL];exact cq ..,by simp⟩⟩
 refine⟨_,(d.sl (W:=No) fun _ _ _ h=>h).srow,?_⟩
 refine AppP.own (ys:=ys) (f.upd k fun _ _ h=>h) rfl rfl (Ek _) rfl (by omega) (by omega) (hM _ (by rw[jw];omega)) fun s' h' a e=>?_
 exact g s' h' a ((Upd.hnew M h _ _).tr e)
def adM(W:Nat→Prop)(n:Bn):Prop:=∀{b:Nat} {sl:ByteArray} {h0 h:ad} {M:Nat→Prop} {s:SliceV} {xs:List UInt8},RxN W h0 b sl n.2.1 n.2.2→sl.data.toList=n.1→Upd No h0 h→(∀y,M y→h0.size≤y)→OwnS rO 1 cP M h s xs→(∀y,h.size≤y→M y)→
 xs.length+(kE n).length≤140737488355328→∀{K:SliceV→ad→Prop},(∀s' h',OwnS rO 1 cP M h' s' (xs++kE n)→Upd M h h'→K s' h')→HC PG mG [.pointer (some ⟨b,0,none⟩),.slice s.a s.len s.cap] [.c .slice] K h
theorem X8{W:Nat→Prop}{lab:List UInt8}{w:Option ByteArray}{c:Fo}(hl:lab.length≤10000)(hw:∀v,w=some v→v.size≤10000)(hk256:c.toL.length≤256)(ih:∀m∈c.toL,adM W m):adM W (lab,w,c):=by
 intro b sl h0 h M s xs r F hu0 G ho hM hx K O;simp only at r F;have D:(⟨lab.toArray⟩:ByteArray)=sl:=by rw[←F]
 refine Cc (some ⟨b,0,none⟩) s ?_;unfold vD bE bX ay D2 bK bV aby ZW;obtain⟨val,C,ow,ks,hb0,hv,hs,hcap,hF⟩:=r;have hL:=lJ.1 hF;have st:∀{h'},Upd M h h'→Upd No h0 h':=fun k=>hu0.trans k fun y Z=>.inr (G y Z)
 have blk:∀{h'},Upd M h h'→h'[b]? =some (.cells (B7 sl w.isSome val C ow) cf (0,0)):=fun k=>(st k).get0 hb0
 have u:∀{h'},Upd M h h'→∀y,h'.size≤y→M y:=fun k y Z=>hM y (bh k.size Z)
 have U:sl.size=lab.length:=by rw[←F];simp
 have p:=hs.len;rw[hL.1]at p;unfold kE at hx O;rw[AD]at hx O;simp only at hx O;rw[ac]at hx;have H:(vy lab w c.toL.length).length=2+lab.length+((xY w).length+2):=by
  unfold vy;rw[ac,ac,li,dS,D,U]
 refine⟨_,rfl,sl,dZ (i:=0) (blk (Upd.refl M h)),?_⟩;refine Ib (W:=No) (ho.sl fun _ _ _ h=>h) ho.cap sl (by omega) (by omega) fun s2 h2 z X=>?_
 have z:=z.more hM;have d:Upd M h h2:=X.wide;refine Join.intro (fun t h'=>OwnS rO 1 cP M h' t (xs++qw sl++(xY w))∧Upd M h h') (fun R J=>⟨_,rfl,w.isSome,dZ (i:=1) (blk d),?_⟩) ?_
 ·cases w with
  |none=>
   refine ag.2 (bM ?_);refine yO (b:=0) rfl z (u d) ?_ fun s3 N j f=>J _ _ ⟨j,d.tr f⟩
   rw[ac,li];simp only[xY,aE]at H;omega
  |some v=>
   have S:=vw hv v rfl;subst S;have hvs:=hw val rfl;simp only[xY,al,li]at H;have k3:Upd M h (hnew h2 [.int .u8 1] cP):=d.tr (Upd.hnew M h2 _ _);refine au.2 ⟨_,rfl,val,dZ (i:=2) (blk d),bM ⟨dZ (i:=2) (blk k3),?_⟩⟩;refine yO (b:=1) rfl z (u d) (by rw[ac,li];omega) fun s3 N j f=>⟨dZ (i:=2) (blk (d.tr f)),?_⟩
   refine Ib (W:=No) (j.sl fun _ _ _ h=>h) j.cap val (by omega) (by rw[ac,ac,li,aE];omega) fun s4 h4 n B=>J _ _ ⟨?_,(d.tr f).tr B.wide⟩
   have n:=n.more (u (d.tr f));simp only[xY,ar,List.singleton_append]at n⊢;exact n
 ·rintro s3 N ⟨j,f⟩
  have e8:dD (C.len:Int) (2^(min (8:Int).toNat (IntKind.bits .i64)))=((c.toL.length>>>8:Nat):Int):=by
   have:(2^(min (8:Int).toNat (IntKind.bits .i64)):Int)=2^8:=rfl;rw[this,p,pq]
  refine Join.intro (fun t h'=>OwnS rO 1 cP M h' t (xs++vy lab w c.toL.length)∧Upd M h h') (fun R J=>⟨_,rfl,C,dZ (i:=3) (blk f),_,rfl,C,dZ (i:=3) (blk f),by omega,?_⟩) ?_
  ·simp only[Bd]
   rw[e8];have k4:Upd M h (hnew N [.int .u8 (IntKind.wrap .u8 (C.len:Int)),.int .u8 (IntKind.wrap .u8 ((c.toL.length>>>8:Nat):Int))] cP):=f.tr (Upd.hnew M N _ _);refine bM ⟨dZ (i:=3) (blk k4),dZ (i:=3) (blk k4),?_⟩;refine aa3 (ys:=pm c.toL.length 2) ?_ rfl j (u f) ?_ fun s5 h5 E o=>⟨dZ (i:=3) (blk (f.tr o)),dZ (i:=3) (blk (f.tr o)),J _ _ ⟨?_,f.tr o⟩⟩
   ·rw[p,IntKind.wrap_u8,IntKind.wrap_u8]
    simp[pm,List.range_succ]
   ·rw[ac,ac,li,dS];omega
   ·unfold vy
    rw[D,←ar,←ar];exact E
  ·rintro s4 h4 ⟨n,B⟩
   refine⟨_,rfl,C,dZ (i:=3) (blk B),?_⟩;have P:∀{h'},Upd M h h'→Sl qd 1 W h' C ks:=fun k=>hs.upd (st k) fun _ h=>h.elim
   refine LoopP.ghost (fun(i:Nat) (t:SliceV×Int) h'=>t.2=(i:Int)∧i≤c.toL.length∧OwnS rO 1 cP M h' t.1 (xs++vy lab w c.toL.length++(c.toL.take i).flatMap kE)∧Upd M h h') (fun i=>c.toL.length-i) 0 ⟨rfl,aS _,by simpa using n,B⟩ ?_
   rintro I i ⟨so,ti⟩ h' ⟨e1,hi,x,q⟩ hI;simp only at e1 x;subst e1;have A:∀g:i<c.toL.length,((c.toL.take i).flatMap kE).length+(kE c.toL[i]).length≤(c.toL.flatMap kE).length:=fun g=>by
    have e:c.toL=c.toL.take i++c.toL[i]::c.toL.drop (i+1):=by rw[tw,aK]
    have:=congrArg (fun L=>(List.flatMap kE L).length) e
    simp only[bR,aP,ac]at this;omega
   refine ax (fun g=>?_) fun hge=>?_
   ·have g:i<c.toL.length:=by have:(i:Int)<(C.len:Int):=g;omega
    obtain⟨kb,ksl,T,Q,V⟩:=hL.at g;obtain⟨a,ha,_,Y⟩:=(P q).at0 T;have hsp:=A g;refine⟨⟨by simp only;omega,by simp only;omega⟩,a,ha,some ⟨kb,0,none⟩,Y,?_⟩
    refine ih _ (bw g) V Q (st q) G x (u q) (by rw[ac,ac];omega) fun s5 h5 E o=>?_
    rw[db g (by omega)];refine hI (i+1) _ _ ⟨rfl,g,?_,q.tr o⟩ (by omega);rw[aV g,bR,aP,jJ,aL,←ar];exact E
   ·have hil:i=c.toL.length:=by have:¬(i:Int)<(C.len:Int):=hge;omega
    subst hil;rw[bT]at x;refine O _ _ ?_ q;rw[←ar];exact x
theorem N7{W:Nat→Prop}:∀{F:Fo},Po F→∀n∈F.toL,adM W n
 | .nil,_,n,a=>by simp[Fo.toL]at a
 | .cons lab w kids rest,h,n,a=>by
  rcases aB.1 a with rfl|a
  ·exact X8 h.1 h.2.1 h.2.2.1 (N7 h.2.2.2.1)
  ·exact N7 h.2.2.2.2 n a
structure RadAt(W:Nat→Prop)(h:ad)(b:Nat)(l:List Pr):Prop where
 ex:∃w F,RxN W h b ⟨#[]⟩ w F∧ge F∧∀k v,(k,v)∈x7 w F↔∃p∈l,p.1.data.toList=k∧p.2=v
theorem RadAt.upd0{W:Nat→Prop}{h h':ad}{b:Nat}{l:List Pr}(k:Upd No h h')(r:RadAt W h b l):RadAt W h' b l:=by
 obtain⟨w,F,c,d,a⟩:=r.ex;exact⟨w,F,c.upd0 k,d,a⟩
theorem RadAt.less{W W':Nat→Prop}{h:ad}(hm:∀b,W' b→W b∨h.size≤b){b:Nat}{l:List Pr}(r:RadAt W h b l):RadAt W' h b l:=by
 obtain⟨w,F,c,d,a⟩:=r.ex;exact⟨w,F,c.less hm,d,a⟩
theorem RadAt.updM{W M:Nat→Prop}{h h':ad}(k:Upd M h h')(hm:∀b,M b→W b∨h.size≤b){b:Nat}{l:List Pr}(r:RadAt W h b l):RadAt W h' b l:=by
 obtain⟨w,F,c,d,a⟩:=r.ex;exact⟨w,F,c.updM k hm,d,a⟩
def US(l:List Pr):List (List UInt8×ByteArray):=l.map fun p=>(p.1.data.toList,p.2)
theorem abB{l:List Pr}(c:bS l):Up (US l):=by
 unfold US Up;rw[oT];refine List.Pairwise.imp (R:=fun p q:Pr=>kl p.1 q.1) (fun{a b} h=>?_) c
 rw[Ow,ByteArray.toList_eq,ByteArray.toList_eq]at h;exact h
theorem UR:∀{l l':List Pr},US l=US l'→l=l'
 | [],[],_=>rfl
 | [],_::_,h=>by simp[US]at h
 |_::_,[],h=>by simp[US]at h
 |p::l,q::l',h=>by
  unfold US at h;simp only[List.map_cons,fi.injEq,sZ.injEq]at h;obtain⟨⟨c,h2⟩,d⟩:=h;have e:p.1=q.1:=by
   generalize p.1=a at c;generalize q.1=b at c;cases a;cases b;exact congrArg nJ (lw.1 c)
  rw[UR d,ze e h2]
theorem Oc{w:Option ByteArray}{F:Fo}{l:List Pr}(hc:ge F)(f:bS l)(b:∀k v,(k,v)∈x7 w F↔∃p∈l,p.1.data.toList=k∧p.2=v):x7 w F=US l:=by
 refine XP (Vb hc) (abB f) fun p=>?_
 have:=b p.1 p.2;rw[show(p.1,p.2)=p from rfl]at this
 rw[this];unfold US;rw[gA];constructor
 ·rintro⟨q,a,d,c⟩;exact⟨q,a,ze d c⟩
 ·rintro⟨q,a,e⟩;rw[←e];exact⟨q,a,rfl,rfl⟩
theorem Yf{w b:Option ByteArray}{F F':Fo}(hc:ge F)(a:ge F')(h:x7 w F=x7 b F'):w=b∧F=F':=by
 have hm:∀k v,uY w F k v↔uY b F' k v:=fun k v=>by rw[←kI,←kI,h]
 refine⟨Option.ext fun v=>?_,TP hc a fun k v=>?_⟩
 ·have:=hm [] v
  constructor
  ·intro e
   rcases this.1 (.inl ⟨rfl,e⟩)with⟨_,h⟩|h
   ·exact h
   ·exact absurd rfl (rm a h)
  ·intro e
   rcases this.2 (.inl ⟨rfl,e⟩)with⟨_,h⟩|h
   ·exact h
   ·exact absurd rfl (rm hc h)
 ·constructor
  ·intro hi
   rcases(hm k v).1 (.inr hi)with⟨e,_⟩|h
   ·exact absurd e (rm hc hi)
   ·exact h
  ·intro hi
   rcases(hm k v).2 (.inr hi)with⟨e,_⟩|h
   ·exact absurd e (rm a hi)
   ·exact h
end Go.Proofs
