/- A part of the proof that the named laws of this program answer true, whatever the input. -/
import Derived.Test.YtncppacbfagpgaaGreatDoorPart2
import Derived.Test.YtncppacbfagpgaaGreatDoorPart0
open Array renaming toList_inj→kA
open ByteArray renaming mk→mP,data_extract→mQ
open Iff renaming rfl→yR
open Int renaming le_refl→qL,fdiv→dG,toNat_natCast→aU
open List renaming length_nil→aG,length_append→ac,length_singleton→aE,append_assoc→ar,length_cons→ao,getElem_mem→aZ,mem_of_mem_take→eO,getElem_cons_drop→rS,take_append_drop→aI,take_succ_eq_append_getElem→aX,flatMap_append→bO,flatMap_cons→aO,flatMap_nil→jl,append_nil→aL,take_length→bS,cons_append→cJ,append_inj→uv,cons→eT,mem_cons_self→aw,mem_cons_of_mem→aB,pairwise_cons→aJ,mem_cons→aA,zip_cons_cons→kJ,mem_append→bF,length_take→aH,zip_eq_zipWith→pC,length_drop→aV,set_eq_take_append_cons_drop→eA,pairwise_iff_getElem→ce,extract_eq_take_drop→gn,length→fu,mem_map→gi,pairwise_append→cn,pairwise_map→rP,lt_irrefl→vM
open List.Lex renaming nil→yQ
open List.Pairwise renaming nil→gF
open Nat renaming le_trans→bj,mul_le_mul_left→ix,mul_le_mul_right→cz,add_mul→km,not_lt_zero→kU,zero_le→aS,le_refl→al,shiftRight_eq_div_pow→cO,mod_eq_of_lt→dW,lt_or_ge→bW,zero_add→aR,le_of_eq→gS,lt_irrefl→nf
open Option renaming some→bR,mem_toList→rK,map_eq_some_iff→mN
open Prod renaming ext→ya,mk→qd
namespace Go.Proofs
open Go Go.Lift
theorem Ro{h:ae}{b d n:Nat}{sp sk:SliceV}{c:Bool}{ow:Option Addr}(a:h[b]? =some (.cells (fT d n sp sk c ow) bT (0,0))) (f:sp.len+sk.len≤1000000000) {K:Int→ae→Prop} (e:K ((sp.len+sk.len:Nat):Int) h):HC PG mW [.pointer (some ⟨b,0,none⟩)] [.c (.int .i64)] K h:=by
 refine y5 _ ?_;unfold ur bU;refine aj.2 ⟨_,rfl,sp,fB (i:=2) a,_,rfl,sk,fB (i:=3) a,?_⟩;rw[fx (by omega)];exact_mod_cast e
def Bes(M:Nat→Prop)(h a:ae)(b:Nat):Prop:=M b∧(b<h.size∨a.size≤b)
theorem Bes.own{α:Type}{f:α→List Value}{c:Nat}{t:TypeId}{M:Nat→Prop}{h a:ae}{s:SliceV}{xs:List α}(d:OwnS f c t M h s xs)(e:Upd No h a):OwnS f c t (Bes M h a) a s xs:=
 (d.within.upd e fun _ _ h=>h).more fun _ b=>⟨b.1,.inl b.2⟩
theorem Bes.sl{α:Type}{f:α→List Value}{c:Nat}{t:TypeId}{M:Nat→Prop}{h a:ae}{s:SliceV}{xs:List α}(d:OwnS f c t (fun x=>h.size≤x) a s xs):Sl f c (Bes M h a) a s xs:=
 d.sl fun b g e hx=>by rcases hx.2 with h|h<;>omega
theorem Bes.hM{M:Nat→Prop}{h a:ae}(hM:∀b,h.size≤b→M b)(d:Upd No h a):∀b,a.size≤b→Bes M h a b:=fun b c=>⟨hM b (bj d.size c),.inr c⟩
theorem Wq{W:Nat→Prop}{x:Hs}:∀(m:Nat),m≤13→∀{b:Nat} {l:List Pr} {Y h:ae} {M:Nat→Prop} {s:SliceV} {xs:List UInt8},TrieAt W x Y m b l→Upd No Y h→(∀y,M y→Y.size≤y)→OwnS qI 1 cM M h s xs→(∀y,h.size≤y→M y)→Fit l→l.length≤60000→
  xs.length+(9+l.length*(20004+9*(m+1)))≤140737488355328→∀{K:SliceV→ae→Prop},(∀s' h',OwnS qI 1 cM M h' s' (xs++gf x m l)→Upd M h h'→K s' h')→
  HC PG wb [.slice s.a s.len s.cap,.pointer (some ⟨b,0,none⟩),.int .i64 ((13-m:Nat):Int)] [.c .slice] K h:=by
 intro m;induction m with
 |zero=>
  intro _ b l Y h M s xs t hu0 Z ho hM hf hn hx K hk;refine Gq s (some ⟨b,0,none⟩) ((13-0:Nat):Int) ?_;unfold Ag bI cl MH Ug X9;have st:∀{h'},Upd M h h'→Upd No Y h':=fun k=>hu0.trans k fun y o=>.inr (Z y o)
  have bk:∀{h'},Upd M h h'→BuckAt W h' b l:=fun k=>BuckAt.upd t (st k) fun _ h=>h.elim
  have z:∀{h'},Upd M h h'→∀y,h'.size≤y→M y:=fun k y o=>hM y (bj k.size o)
  obtain⟨sp,sk,ow,hb,_⟩:=(bk (Upd.refl M h)).ex;refine gu hb (au.2 (bP ?_));refine xK (b:=1) rfl ho hM (by omega) fun s1 h1 T j=>?_
  obtain⟨sp1,sk1,ow1,G,Q,hsk1,_⟩:=(bk j).ex;have e1:=Q.len;have e2:=hsk1.len;rw[aG]at e2;refine Ro G (by omega) ?_;have ew:IntKind.wrap .u64 ((sp1.len+sk1.len:Nat):Int)=((l.length:Nat):Int):=by rw[Go.IntWalk.u64_in _ (by omega)];omega
  rw[ew];have hl2:l.length*20004≤l.length*(20004+9*(0+1)):=ix _ (by omega);refine Rw T (z j) (n:=l.length) (k:=2) (by omega) (by omega) (by rw[ac,aE];omega) fun s2 h2 ho2 v=>?_
  have X:=j.tr v;obtain⟨sp2,sk2,ow2,hb2,O,_⟩:=(bk X).ex;refine q9 hb2 O (by omega) fun s3 E w A=>?_
  refine HT (M:=Bes M h2 E) (W:=Bes M h2 E) (Bes.own ho2 A) (Bes.hM (z X) A) (Bes.sl w) (fun _ h _=>h) hf (by omega) (by rw[ac,ac,aE,dS];omega) fun s4 F ho4 J=>?_
  refine hk s4 F ?_ (X.tr (A.wide.tr (J.mono fun y o=>.inl o.1)))
  have:=ho4.more (M':=M) fun y o=>o.1
  rw[gf,List.append_cons,←ar];exact this
 |succ m ih=>
  intro hm b l Y h M s xs t hu0 Z ho hM hf hn hx K hk;refine Gq s (some ⟨b,0,none⟩) ((13-(m+1):Nat):Int) ?_;unfold Ag bI cl MH Ug X9;have st:∀{h'},Upd M h h'→Upd No Y h':=fun k=>hu0.trans k fun y o=>.inr (Z y o)
  have z:∀{h'},Upd M h h'→∀y,h'.size≤y→M y:=fun k y o=>hM y (bj k.size o)
  obtain⟨sl,nd,hs0⟩:=t;have hs:∀c,c<32→SlotIs W x Y m sl c (part x (12-m) c l):=hs0;have hd:∀{h'},Upd M h h'→∃d n sp sk ow,h'[b]? =some (.cells (fT d n sp sk false ow) bT (0,0))∧d=kG (fun c=>(jM (part x (12-m) c l)).isSome) 32∧n=kG (fun c=>(fQ (part x (12-m) c l)).isSome) 32∧Sl eC 2 W h' sp (ia x (12-m) l)∧Sl tI 1 W h' sk (fm sl.k 32):=fun{h'} k=>by
   obtain⟨d,n,sp,sk,ow,hb,bits,E,F,_⟩:=(nd.upd (st k) fun _ h=>h.elim).ex
   refine⟨d,n,sp,sk,ow,hb,Mm bits.d32 fun c hc=>?_,Mm bits.n32 fun c hc=>?_,?_,F⟩
   ·rw[bits.dp c hc,(HQ (hs c hc)).1]
   ·rw[bits.nk c hc,(HQ (hs c hc)).2]
   ·rw[←He hs];exact E
  have hka:KidsAt W x Y m (fm sl.k 32) (lN x (12-m) l):=RC 32 hs;have u:=qh (x:=x) (m+1) hf;have hlen2:=u;have hml:∀L∈lN x (12-m) l,Fit L∧L.length≤60000:=fun L hL=>by
   obtain⟨_,c,rfl⟩:=qE hL;exact⟨hf.part,bj kB hn⟩
  have hsf:Fit (ia x (12-m) l):=fun p hp=>hf p (sE hp)
  have hsl:=xr x (12-m) l;unfold gf at hk u;have U:∀q:Nat→Bool,kG q 32<4294967296:=fun q=>oy q 32
  have hd32:=U fun c=>(jM (part x (12-m) c l)).isSome
  have hn32:=U fun c=>(fQ (part x (12-m) c l)).isSome
  generalize kG (fun c=>(jM (part x (12-m) c l)).isSome) 32=D at hk hd u hd32
  generalize kG (fun c=>(fQ (part x (12-m) c l)).isSome) 32=N at hk hd u hn32
  have hS:(ia x (12-m) l).length≤60000:=by omega
  have hSb:(ia x (12-m) l).length*20004≤l.length*(20004+9*(m+1+1)):=Nat.mul_le_mul (by omega) (by omega);have hML:∀L∈lN x (12-m) l,2≤L.length∧(gf x m L).length≤9+L.length*(20004+9*(m+1)):=fun L hL=>by
   obtain⟨E,c,rfl⟩:=qE hL;exact⟨E,qh m hf.part⟩
  have hbud:9+(ia x (12-m) l).length*20004+(lN x (12-m) l).flatten.length*(20004+9*(m+1)+9)≤9+l.length*(20004+9*(m+1+1)):=by
   have h5:(ia x (12-m) l).length*20004≤(ia x (12-m) l).length*(20004+9*(m+1+1)):=ix _ (by omega);have h6:((ia x (12-m) l).length+(lN x (12-m) l).flatten.length)*(20004+9*(m+1+1))≤l.length*(20004+9*(m+1+1)):=cz _ hsl;rw[km]at h6;have h7:20004+9*(m+1)+9=20004+9*(m+1+1):=by omega
   rw[h7];omega
  have hps:=oe hsf;generalize ia x (12-m) l=So at hk hd hsf hS hSb hbud u hps;generalize lN x (12-m) l=Ma at hk hka hml hML hbud u;obtain⟨d,n,sp,sk,ow,hb,_⟩:=hd (Upd.refl M h);refine gu hb (aj.2 (Join.intro (fun s' h'=>OwnS qI 1 cM M h' s' (xs++(0::(ol D 4++ol N 4)))∧Upd M h h') (fun R hR=>bP ?_) ?_))
  ·refine xK (b:=0) rfl ho hM (by omega) fun s1 h1 T j=>?_
   obtain⟨d1,n1,sp1,sk1,ow1,G,rfl,rfl,_⟩:=hd j;refine NA G ?_;rw[Go.IntWalk.u64_in _ (by omega)];refine Rw T (z j) (n:=d1) (k:=4) (by omega) (by omega) (by rw[ac,aE];omega) fun s2 h2 ho2 v=>?_
   obtain⟨d2,n2,sp2,sk2,ow2,hb2,rfl,rfl,_⟩:=hd (j.tr v);refine Di hb2 ?_;rw[Go.IntWalk.u64_in _ (by omega)];refine Rw ho2 (z (j.tr v)) (n:=n2) (k:=4) (by omega) (by omega) (by rw[ac,ac,aE,dS];omega) fun s3 E w A=>?_
   refine hR _ _ ⟨?_,(j.tr v).tr A⟩;rw[List.append_cons,←ar];exact w
  ·rintro s' h1 ⟨T,j⟩
   obtain⟨d1,n1,sp1,sk1,ow1,G,_,_,Q,_⟩:=hd j;refine q9 G Q (by omega) fun s2 h2 ho2 v=>?_
   refine HT (M:=Bes M h1 h2) (W:=Bes M h1 h2) (Bes.own T v) (Bes.hM (z j) v) (Bes.sl ho2) (fun _ h _=>h) hsf (by omega) (by rw[ac,ao,ac,dS,dS];omega) fun s3 E w A=>?_
   have w:=w.more (M':=M) fun y o=>o.1
   have H:Upd M h E:=j.tr (v.wide.tr (A.mono fun y o=>.inl o.1))
   have e13:(((13-(m+1):Nat):Int)==(13:Int))=false:=by rw[beq_eq_false_iff_ne];omega
   rw[e13];refine aj.2 ?_;obtain⟨d3,n3,sp3,sk3,ow3,hb3,_,_,_,hsk3⟩:=hd H;have hk32:=zG (g:=sl.k);refine TI hb3 hsk3 (by omega) fun s4 F ho4 J=>?_
   have S:Sl tI 1 (Bes M E F) F s4 (fm sl.k 32):=Bes.sl ho4;have hlk:=S.len;have ew:IntKind.wrap .i64 (((13-(m+1):Nat):Int)+1)=((13-m:Nat):Int):=by rw[fx (by omega)];omega
   rw[ew];have hMb:=Bes.hM (z H) J;have hob:=Bes.own w J;have hu04:Upd M h F:=H.tr J.wide;have hMM:∀y,Bes M E F y→M y:=fun y o=>o.1
   have st4:∀{h'},Upd (Bes M E F) F h'→Upd M h h':=fun k=>hu04.tr (k.mono fun y o=>.inl o.1)
   generalize Bes M E F=B at S hMb hob hMM st4;have hkl:∀{ks:List (Option Addr)} {ls:List (List Pr)},KidsAt W x Y m ks ls→ks.length=ls.length∧∀i (hi:i<ls.length),∃kb,ks[i]? =some (some ⟨kb,0,none⟩)∧TrieAt W x Y m kb ls[i]:=by
    intro ks;induction ks with
    |nil=>intro ls;cases ls with
     |nil=>intro _;exact⟨rfl,fun i hi=>absurd hi (kU _)⟩
     |cons a ls=>intro h;exact h.elim
    |cons k ks ihk=>intro ls;cases ls with
     |nil=>intro h;exact h.elim
     |cons a ls=>
      rintro⟨⟨kb,rfl,tk⟩,h⟩;obtain⟨e,hr⟩:=ihk h;refine⟨by simp[e],fun i hi=>?_⟩
      cases i with
      |zero=>exact⟨kb,rfl,tk⟩
      |succ i=>simp only[List.getElem?_cons_succ,List.getElem_cons_succ];exact hr i (by simpa using hi)
   obtain⟨hkl,hkt⟩:=hkl hka;have hbase:(xs++(0::(ol D 4++ol N 4))++l0 So).length≤xs.length+(9+So.length*20004):=by
    rw[ac,ac,ao,ac,dS,dS];omega
   refine LoopP.ghost (fun(i:Nat) (t:SliceV×Int) h'=>t.2=(i:Int)∧i≤Ma.length∧OwnS qI 1 cM B h' t.1 (xs++(0::(ol D 4++ol N 4))++l0 So++(Ma.take i).flatMap (gf x m))∧Upd B F h') (fun i=>Ma.length-i) 0 ⟨rfl,aS _,by simpa using hob,Upd.refl _ _⟩ ?_
   rintro I i ⟨so,ti⟩ h' ⟨e1,hi,ho',P⟩ hI;simp only at e1 ho';subst e1;refine az (fun C=>?_) fun hge=>?_
   ·have C:i<Ma.length:=by have:(i:Int)<(s4.len:Int):=C;omega
    obtain⟨kb,hk1,tk⟩:=hkt i C;obtain⟨a,ha,_,hv⟩:=(S.upd P fun y o=>.inl o).at0 hk1
    refine⟨⟨by simp only;omega,by simp only;omega⟩,a,ha,some ⟨kb,0,none⟩,hv,?_⟩
    have V:Ma[i]∈Ma:=aZ C;have htl:=Hd (f:=gf x m) (ls:=Ma.take i) (B:=20004+9*(m+1)) fun L hL=>hML L (eO hL)
    have hsp:(Ma.take i).flatten.length+Ma[i].length≤Ma.flatten.length:=by
     have e:Ma=Ma.take i++Ma[i]::Ma.drop (i+1):=by rw[rS,aI]
     have:=congrArg (fun L=>(List.flatten L).length) e
     simp only[List.flatten_append,List.flatten_cons,ac]at this;omega
    have O:=cz (20004+9*(m+1)+9) hsp;rw[km]at O;have h2l:=(hML _ V).1;have hone:9+Ma[i].length*(20004+9*(m+1))≤Ma[i].length*(20004+9*(m+1)+9):=by rw[Nat.mul_add (Ma[i].length) (20004+9*(m+1)) 9];omega
    refine ih (by omega) tk (hu0.trans (st4 P) fun y o=>.inr (Z y o)) (fun y o=>Z y (hMM y o)) ho' (fun y o=>hMb y (bj P.size o)) (hml _ V).1 (hml _ V).2 (by rw[ac];omega) fun s5 h5 ho5 hu5=>?_
    rw[dd C (by omega)];refine hI (i+1) _ _ ⟨rfl,C,?_,P.tr hu5⟩ (by omega);rw[aX C,bO,aO,jl,aL,←ar];exact ho5
   ·have hil:i=Ma.length:=by have:¬(i:Int)<(s4.len:Int):=hge;omega
    subst hil;rw[bS]at ho';refine hk _ _ ?_ (st4 P);have:=ho'.more hMM;simp only[ar,cJ]at this⊢;exact this
end Go.Proofs
namespace Go.Proofs
open Go Go.Lift
theorem Yn{W:Nat→Prop}{x:Hs}{h:ae}{b:Nat}{l:List Pr}(t:TrieAt W x h 13 b l)(g:Fit l)(a:l.length≤60000){K:SliceV→ae→Prop}(e:∀s' h',OwnS qI 1 cM (fun y=>h.size≤y) h' s' (gf x 13 l)→Upd No h h'→K s' h'):HC PG Ck [.pointer (some ⟨b,0,none⟩)] [.c .slice] K h:=by
 refine SB _ ?_;unfold JA;refine aj.2 ?_;have i:l.length*(20004+9*(13+1))≤60000*(20004+9*(13+1)):=cz _ a;exact Wq (x:=x) 13 (al _) (s:=⟨none,0,0⟩) (xs:= []) (M:=fun y=>h.size≤y) t (Upd.refl _ _) (fun _ h=>h) (OwnS.nil um) (fun _ h=>h) g a (by rw[aG];omega) fun s' h' c f=>e s' h' c (f.mono fun y d=>.inr d)
theorem Pk:∀{a b:Nat} (k:Nat),ol a k=ol b k→a%2^(8*k)=b%2^(8*k)
 |_,_,0,_=>by simp[Nat.mod_one]
 |a,b,k+1,h=>by
  rw[AG,AG]at h;obtain⟨f,h2⟩:=uv h (by rw[dS,dS]);have d:=Pk k f;have c:=congrArg UInt8.toNat (eT.inj h2).1;rw[UInt8.toNat_ofNat',UInt8.toNat_ofNat',cO,cO]at c;have e:2^(8*(k+1))=2^(8*k)*2^8:=by rw[Nat.mul_add,Nat.pow_add]
  rw[e,Nat.mod_mul,Nat.mod_mul,d,c]
theorem xy{a b k:Nat}{r c:List UInt8}(f:a<2^(8*k))(d:b<2^(8*k))(h:ol a k++r=ol b k++c):a=b∧r=c:=by
 obtain⟨e,h2⟩:=uv h (by rw[dS,dS]);have:=Pk k e;rw[dW f,dW d]at this;exact⟨this,h2⟩
theorem Au{a b:ByteArray}{r c:List UInt8}(i:a.size≤10000)(g:b.size≤10000)(h:pH a++r=pH b++c):a=b∧r=c:=by
 unfold pH at h;rw[ar,ar]at h;obtain⟨e,h2⟩:=xy (k:=2) (by omega) (by omega) h;obtain⟨d,f⟩:=uv h2 (by simpa using e);refine⟨?_,f⟩;cases a;cases b;exact congrArg mP (kA.1 d)
theorem Cc:∀{l l':List Pr} {r r':List UInt8},Fit l→Fit l'→l.length=l'.length→l0 l++r=l0 l'++r'→l=l'∧r=r'
 | [],[],_,_,_,_,_,h=>⟨rfl,h⟩
 | [],_::_,_,_,_,_,e,_=>by simp at e
 |_::_,[],_,_,_,_,e,_=>by simp at e
 |p::l,q::l',r,r',hf,hf',e,h=>by
  unfold l0 at h;rw[aO,aO,Ga,Ga]at h;simp only[ar]at h;have b:=hf p (aw ..);have h2:=hf' q (aw ..);obtain⟨d,h⟩:=Au b.1 h2.1 h;obtain⟨c,h⟩:=Au b.2 h2.2 h;obtain⟨f,h⟩:=Cc (l:=l) (l':=l') (fun z a=>hf z (aB _ a)) (fun z a=>hf' z (aB _ a)) (by simpa using e) h
  exact⟨by rw[f,ya d c],h⟩
theorem Hp{β γ:Type}{g:Nat→Option β}{a:Nat→Option γ}:∀n,(∀c,c<n→(g c).isSome=(a c).isSome)→(fm g n).length=(fm a n).length
 |0,_=>rfl
 |n+1,h=>by
  rw[jp,jp,ac,ac,Hp n fun c hc=>h c (by omega)]
  have:=h n (by omega);cases h1:g n<;>cases h2:a n<;>rw[h1,h2]at this<;>first|rfl|cases this
theorem IK{β:Type}{g a:Nat→Option β}:∀n,(∀c,c<n→(g c).isSome=(a c).isSome)→fm g n=fm a n→∀c,c<n→g c=a c
 |0,_,_,c,hc=>absurd hc (kU _)
 |n+1,h,e,c,hc=>by
  rw[jp,jp]at e;obtain⟨f,b⟩:=uv e (Hp n fun c hc=>h c (by omega))
  rcases bW c n with d|d
  ·exact IK n (fun c hc=>h c (by omega)) f c d
  ·have:c=n:=by omega
   subst this;cases h1:g c<;>cases h2:a c<;>rw[h1,h2]at b<;>simp at b⊢
   exact b
theorem AA:∀{l l':List Pr},cf l→cf l'→(∀p,p∈l↔p∈l')→l=l'
 | [],[],_,_,_=>rfl
 | [],q::l',_,_,h=>absurd ((h q).2 (aw ..)) (by simp)
 |p::l,[],_,_,h=>absurd ((h p).1 (aw ..)) (by simp)
 |p::l,q::l',c,a,h=>by
  have c:=aJ.1 c;have a:=aJ.1 a;have e:p=q:=by
   rcases aA.1 ((h p).1 (aw ..))with e|g
   ·exact e
   ·rcases aA.1 ((h q).2 (aw ..))with e|f
    ·exact e.symm
    ·exact absurd (gJ (c.1 q f) (a.1 p g)) (cr _)
  subst e;rw[AA c.2 a.2 fun z=>?_]
  constructor
  ·intro d
   rcases aA.1 ((h z).1 (aB _ d))with e|b
   ·exact absurd (c.1 z d) (by rw[e];exact cr _)
   ·exact b
  ·intro d
   rcases aA.1 ((h z).2 (aB _ d))with e|b
   ·exact absurd (a.1 z d) (by rw[e];exact cr _)
   ·exact b
theorem Pa{x:Hs}{lev:Nat}{l l':List Pr}(f:cf l)(b:cf l')(h:∀c,c<32→part x lev c l=part x lev c l'):l=l':=by
 refine AA f b fun p=>?_
 have e:=h (ck x lev p.1) (yX ..);have d:=mS (x:=x) (lev:=lev) (c:=ck x lev p.1) (l:=l) (p:=p);have h2:=mS (x:=x) (lev:=lev) (c:=ck x lev p.1) (l:=l') (p:=p);rw[e]at d;constructor
 ·intro a;exact(h2.1 (d.2 ⟨a,rfl⟩)).1
 ·intro a;exact(d.1 (h2.2 ⟨a,rfl⟩)).1
theorem Ur{q q':List Pr}(e:jM q=jM q')(h2:fQ q=fQ q'):q=q':=by
 match q,q' with
 | [],[]=>rfl
 | [a],[b]=>simp[jM]at e;rw[e]
 | [],[b]=>simp[jM]at e
 | [a],[]=>simp[jM]at e
 | [],b::c::q'=>simp[fQ]at h2
 | [a],b::c::q'=>simp[fQ]at h2
 |b::c::q',[]=>simp[fQ]at h2
 |b::c::q',[a]=>simp[fQ]at h2
 |a::b::q,c::d::q'=>simpa[fQ]using h2
theorem PD{f:List Pr→List UInt8}:∀{ls ls':List (List Pr)} {r r':List UInt8},ls.length=ls'.length→(∀L∈ls,∀L'∈ls',∀r r',f L++r=f L'++r'→L=L'∧r=r')→ls.flatMap f++r=ls'.flatMap f++r'→ls=ls'∧r=r'
 | [],[],_,_,_,_,h=>⟨rfl,h⟩
 | [],_::_,_,_,e,_,_=>by simp at e
 |_::_,[],_,_,e,_,_=>by simp at e
 |L::ls,L'::ls',r,r',e,hf,h=>by
  rw[aO,aO,ar,ar]at h;obtain⟨a,h⟩:=hf L (aw ..) L' (aw ..) _ _ h;obtain⟨b,h⟩:=PD (by simpa using e) (fun A d B c=>hf A (aB _ d) B (aB _ c)) h
  exact⟨by rw[a,b],h⟩
theorem HS{x:Hs}:∀(m:Nat) {l l':List Pr} {r a:List UInt8},Fit l→Fit l'→l.length≤60000→l'.length≤60000→cf l→cf l'→gf x m l++r=gf x m l'++a→l=l'∧r=a
 |0,l,l',r,a,hf,hf',hn,hn',_,_,h=>by
  unfold gf at h;rw[cJ,cJ,ar,ar]at h;obtain⟨e,h⟩:=xy (k:=2) (by omega) (by omega) (eT.inj h).2;exact Cc hf hf' e h
 |m+1,l,l',r,a,hf,hf',hn,hn',hr,hr',h=>by
  unfold gf at h;simp only[cJ,ar]at h;obtain⟨b1,h⟩:=xy (k:=4) (oy _ 32) (oy _ 32) (eT.inj h).2;obtain⟨b2,h⟩:=xy (k:=4) (oy _ 32) (oy _ 32) h;have bits:∀{q q':Nat→Bool},kG q 32=kG q' 32→∀c,c<32→q c=q' c:=fun{q q'} e c hc=>by
   have:=congrArg (fun n=>n.testBit c) e
   simp only[Fm,decide_eq_true hc,Bool.true_and]at this;exact this
  have b1:=bits b1;have b2:=bits b2;obtain⟨i,h⟩:=Cc (fun p d=>hf p (sE d)) (fun p d=>hf' p (sE d)) (Hp 32 b1) h
  obtain⟨g,h⟩:=PD (Hp 32 b2) (fun L o L' b r a e=>by
   obtain⟨_,c,rfl⟩:=qE o
   obtain⟨_,c',rfl⟩:=qE b
   exact HS m hf.part hf'.part (bj kB hn) (bj kB hn') (iX hr) (iX hr') e) h
  have j:=IK 32 b1 i;have f:=IK 32 b2 g;exact⟨Pa hr hr' fun c hc=>Ur (j c hc) (f c hc),h⟩
end Go.Proofs
namespace Go.Proofs
open Go Go.Lift
def AY(lab:ByteArray)(has:Bool)(val:ByteArray)(s:SliceV)(ow:Option Addr):Array Value:= #[.string lab,.bool has,.string val,sv s,.pointer ow]
theorem vw{w:Option ByteArray}{val:ByteArray}(h:val=w.getD ⟨#[]⟩):∀v,w=some v→val=v:=fun v e=>by rw[h,e];rfl
def RxF(W:Nat→Prop)(h:ae):Fo→List (Option Addr)→Prop
 | .nil,ks=>ks= []
 | .cons lab w kids rest,ks=>∃b sl val s ow ks1 ks',ks=some ⟨b,0,none⟩::ks'∧sl.data.toList=lab∧h[b]? =some (.cells (AY sl w.isSome val s ow) bZ (0,0))∧val=w.getD ⟨#[]⟩∧Sl pj 1 W h s ks1∧(s.len≤s.cap∧¬W b)∧RxF W h kids ks1∧RxF W h rest ks'
def RxN(W:Nat→Prop)(h:ae)(b:Nat)(sl:ByteArray)(w:Option ByteArray)(F:Fo):Prop:=∃val s ow ks,h[b]? =some (.cells (AY sl w.isSome val s ow) bZ (0,0))∧val=w.getD ⟨#[]⟩∧Sl pj 1 W h s ks∧(s.len≤s.cap∧¬W b)∧RxF W h F ks
def Kid(W:Nat→Prop)(h:ae)(k:Option Addr)(n:Bn):Prop:=∃b sl,k=some ⟨b,0,none⟩∧sl.data.toList=n.1∧RxN W h b sl n.2.1 n.2.2
def RxL(W:Nat→Prop)(h:ae)(ks:List (Option Addr))(L:List Bn):Prop:=ks.length=L.length∧∀p∈ks.zip L,Kid W h p.1 p.2
theorem kM{W:Nat→Prop}{h:ae}:∀{F:Fo} {ks:List (Option Addr)},RxF W h F ks↔RxL W h ks F.toL
 | .nil,ks=>by
  unfold RxF RxL;simp[Fo.toL]
 | .cons lab w kids rest,ks=>by
  unfold RxF RxL;rw[Fo.toL_cons];constructor
  ·rintro⟨b,sl,val,s,ow,c,d,rfl,i,g,j,f,m,n,t⟩
   obtain⟨q,u⟩:=kM.1 t;refine⟨by simp[q],fun p a=>?_⟩
   rw[kJ]at a;rcases aA.1 a with rfl|a
   ·exact⟨b,sl,rfl,i,val,s,ow,c,g,j,f,m,n⟩
   ·exact u p a
  ·cases ks with
   |nil=>rintro⟨e,_⟩;simp at e
   |cons k d=>
    rintro⟨e,a⟩;rw[kJ]at a;obtain⟨b,sl,v,i,val,s,ow,c,g,j,f,m,n⟩:=a _ (aw ..);refine⟨b,sl,val,s,ow,c,d,by rw[←v],i,g,j,f,m,n,kM.2 ⟨by simpa using e,fun p o=>a p (aB _ o)⟩⟩
theorem RxF.upd0{W:Nat→Prop}{h h':ae}(k:Upd No h h'):∀{F:Fo} {ks:List (Option Addr)},RxF W h F ks→RxF W h' F ks
 | .nil,_,r=>r
 | .cons _ _ _ _,_,⟨b,sl,val,s,ow,ks1,ks',e0,e1,e2,e3,e4,e5,e6,e7⟩=>⟨b,sl,val,s,ow,ks1,ks',e0,e1,k.get0 e2,e3,e4.upd k fun _ h=>h.elim,e5,RxF.upd0 k e6,RxF.upd0 k e7⟩
theorem RxN.upd0{W:Nat→Prop}{h h':ae}(k:Upd No h h'){b:Nat}{sl:ByteArray}{w:Option ByteArray}{F:Fo}:RxN W h b sl w F→RxN W h' b sl w F
 |⟨val,s,ow,ks,e2,e3,e4,e5,e6⟩=>⟨val,s,ow,ks,k.get0 e2,e3,e4.upd k fun _ h=>h.elim,e5,RxF.upd0 k e6⟩
theorem Kid.upd0{W:Nat→Prop}{h h':ae}(k:Upd No h h'){a:Option Addr}{n:Bn}:Kid W h a n→Kid W h' a n
 |⟨b,sl,e1,e2,e3⟩=>⟨b,sl,e1,e2,e3.upd0 k⟩
theorem RxF.less{W W':Nat→Prop}{h:ae}(hm:∀b,W' b→W b∨h.size≤b):∀{F:Fo} {ks:List (Option Addr)},RxF W h F ks→RxF W' h F ks
 | .nil,_,r=>r
 | .cons _ _ _ _,_,⟨b,sl,val,s,ow,ks1,ks',e0,e1,e2,e3,e4,e5,e6,e7⟩=>⟨b,sl,val,s,ow,ks1,ks',e0,e1,e2,e3,e4.less hm,⟨e5.1,fun hx=>(hm _ hx).elim e5.2 fun h=>by have:=bD e2;omega⟩,RxF.less hm e6,RxF.less hm e7⟩
theorem RxN.less{W W':Nat→Prop}{h:ae}(hm:∀b,W' b→W b∨h.size≤b){b:Nat}{sl:ByteArray}{w:Option ByteArray}{F:Fo}:RxN W h b sl w F→RxN W' h b sl w F
 |⟨val,s,ow,ks,e2,e3,e4,e5,e6⟩=>⟨val,s,ow,ks,e2,e3,e4.less hm,⟨e5.1,fun hx=>(hm _ hx).elim e5.2 fun h=>by have:=bD e2;omega⟩,RxF.less hm e6⟩
theorem RxF.updM{W M:Nat→Prop}{h h':ae}(k:Upd M h h')(hm:∀b,M b→W b∨h.size≤b):∀{F:Fo} {ks:List (Option Addr)},RxF W h F ks→RxF W h' F ks
 | .nil,_,r=>r
 | .cons _ _ _ _,_,⟨b,sl,val,s,ow,ks1,ks',e0,e1,e2,e3,e4,e5,e6,e7⟩=>⟨b,sl,val,s,ow,ks1,ks',e0,e1,k.get e2 (fun hx=>(hm _ hx).elim e5.2 fun h=>by have:=bD e2;omega),e3,e4.upd k hm,e5,RxF.updM k hm e6,RxF.updM k hm e7⟩
theorem RxN.updM{W M:Nat→Prop}{h h':ae}(k:Upd M h h')(hm:∀b,M b→W b∨h.size≤b){b:Nat}{sl:ByteArray}{w:Option ByteArray}{F:Fo}:RxN W h b sl w F→RxN W h' b sl w F
 |⟨val,s,ow,ks,e2,e3,e4,e5,e6⟩=>⟨val,s,ow,ks,k.get e2 (fun hx=>(hm _ hx).elim e5.2 fun h=>by have:=bD e2;omega),e3,e4.upd k hm,e5,RxF.updM k hm e6⟩
theorem RxL.upd0{W:Nat→Prop}{h h':ae}(k:Upd No h h'){ks:List (Option Addr)}{L:List Bn}(r:RxL W h ks L):RxL W h' ks L:=⟨r.1,fun p a=>(r.2 p a).upd0 k⟩
theorem RxL.app{W:Nat→Prop}{h:ae}{ks b:List (Option Addr)}{L L':List Bn}(r:RxL W h ks L)(c:RxL W h b L'):RxL W h (ks++b) (L++L'):=by
 refine⟨by rw[ac,ac,r.1,c.1],fun p a=>?_⟩
 rw[List.zip_append r.1]at a;rcases bF.1 a with a|a
 ·exact r.2 p a
 ·exact c.2 p a
theorem RxL.one{W:Nat→Prop}{h:ae}{k:Option Addr}{n:Bn}(c:Kid W h k n):RxL W h [k] [n]:=⟨rfl,fun p a=>by rw[kJ,List.zip_nil_left]at a;rw[List.mem_singleton.1 a];exact c⟩
theorem RxL.take{W:Nat→Prop}{h:ae}{ks:List (Option Addr)}{L:List Bn}(r:RxL W h ks L)(i:Nat):RxL W h (ks.take i) (L.take i):=by
 refine⟨by rw[aH,aH,r.1],fun p a=>r.2 p ?_⟩
 have:(ks.take i).zip (L.take i)=(ks.zip L).take i:=by rw[pC,pC,List.take_zipWith]
 rw[this]at a;exact eO a
theorem RxL.drop{W:Nat→Prop}{h:ae}{ks:List (Option Addr)}{L:List Bn}(r:RxL W h ks L)(i:Nat):RxL W h (ks.drop i) (L.drop i):=by
 refine⟨by rw[aV,aV,r.1],fun p a=>r.2 p ?_⟩
 have:(ks.drop i).zip (L.drop i)=(ks.zip L).drop i:=by rw[pC,pC,List.drop_zipWith]
 rw[this]at a;exact List.mem_of_mem_drop a
theorem RxL.ins{W:Nat→Prop}{h:ae}{ks:List (Option Addr)}{L:List Bn}(r:RxL W h ks L)(i:Nat){k:Option Addr}{n:Bn}(c:Kid W h k n):RxL W h (ks.take i++k::ks.drop i) (L.take i++n::L.drop i):=by
 have:=(r.take i).app ((RxL.one c).app (r.drop i));exact this
theorem RxL.set{W:Nat→Prop}{h:ae}{ks:List (Option Addr)}{L:List Bn}(r:RxL W h ks L){i:Nat}(hi:i<L.length){k:Option Addr}{n:Bn}(c:Kid W h k n):RxL W h (ks.set i k) (L.set i n):=by
 have:=(r.take i).app ((RxL.one c).app (r.drop (i+1)));rw[eA,eA,if_pos (by rw[r.1];exact hi),if_pos hi];exact this
theorem RxL.at{W:Nat→Prop}{h:ae}{ks:List (Option Addr)}{L:List Bn}(r:RxL W h ks L){i:Nat}(hi:i<L.length):∃b sl,ks[i]? =some (some ⟨b,0,none⟩)∧sl.data.toList=L[i].1∧RxN W h b sl L[i].2.1 L[i].2.2:=by
 have d:i<ks.length:=by rw[r.1];exact hi
 have f:i<(ks.zip L).length:=by rw[List.length_zip];omega
 have:=r.2 _ (aZ f);rw[List.getElem_zip]at this;obtain⟨b,sl,c,a,e⟩:=this;exact⟨b,sl,by rw[List.getElem?_eq_getElem d];exact congrArg some c,a,e⟩
theorem Ay:∀{L:List Bn} {c:Nat},L.Pairwise (fun m n=>hd m.1<hd n.1)→(∀n∈L,c≤hd n.1)→L= []∨c+L.length≤256
 | [],_,_,_=>.inl rfl
 |n::L,c,a,hc=>by
  have a:=aJ.1 a;have b:=hc n (aw ..);have d:=Zz n.1;rcases Ay (c:=hd n.1+1) a.2 fun m hm=>a.1 m hm with e|e
  ·rw[e];right;simp only[aE];omega
  ·right;rw[ao];omega
theorem jC{F:Fo}(h:fV F):F.toL.length≤256:=by
 rcases Ay (c:=0) (eW.1 h).1 fun _ _=>aS _ with e|e
 ·rw[e];simp
 ·omega
theorem dY{h:ae}{b i:Nat}{c:Array Value}(a:h[b]? =some (.cells c bZ (0,0))):aP h (adr ⟨b,0,none⟩ i)=c[i]?:=by rw[cj,aR];exact bH a
theorem X1{h:ae}{b i:Nat}{c:Array Value}(a:h[b]? =some (.cells c bZ (0,0))) (hi:i<c.size):Wr h (adr ⟨b,0,none⟩ i):=by rw[cj,aR];exact iV a hi
theorem Kl{h:ae}{b i:Nat}{c c':Array Value}{v:Value}{k:ae→Prop}(f:h[b]? =some (.cells c bZ (0,0))) (e:c.setIfInBounds i v=c') (g:∀h',h'[b]? =some (.cells c' bZ (0,0))→Upd (· =b) h h'→k h'):At (hset h (adr ⟨b,0,none⟩ i) v) k:=by
 rw[cj,aR];exact un f fun h' a d=>g h' (e▸a) d
theorem PA(s:ByteArray)(i:Nat):s[i]? =s.data.toList[i]?:=by
 rw[Array.getElem?_toList];by_cases h:i<s.size
 ·rw[getElem?_pos s i h,getElem?_pos s.data i h];rfl
 ·rw[getElem?_neg s i h,getElem?_neg s.data i h]
theorem E3{s:ByteArray}(a:s.data.toList≠[]):∃c:UInt8,s[0]? =some c∧c.toNat=hd s.data.toList:=by
 rw[PA];match s.data.toList,a with
 |c::l,_=>exact⟨c,rfl,rfl⟩
theorem EP{W:Nat→Prop}{h:ae}{b:Nat}{sl:ByteArray}{w:Option ByteArray}{F:Fo}(r:RxN W h b sl w F)(hc:fV F){c:Nat}(hc8:c<256){K:Int×Bool→ae→Prop}
  (E:∀i ok,i≤F.toL.length→(∀j (p:j<F.toL.length),j<i→hd F.toL[j].1<c)→(∀j (p:j<F.toL.length),i≤j→c≤hd F.toL[j].1)→(ok=true↔∃hi:i<F.toL.length,hd F.toL[i].1=c)→K ((i:Int),ok) h):HC PG lh [.pointer (some ⟨b,0,none⟩),.int .u8 c] [.c (.int .i64),.c .bool] K h:=by
 refine D0 _ c ?_;unfold wF bU;obtain⟨val,s,ow,ks,hb,_,U,hcap,hF⟩:=r;refine⟨_,rfl,s,dY (i:=3) hb,?_⟩;have N:=kM.1 hF;have e:=eW.1 hc;have hn:=jC hc;have y:=U.len;rw[N.1]at y;generalize hLe:F.toL=L at N e hn y E;refine jh s c _ ?_;unfold ff bI cl ld HG
 have C:∀{i:Nat} (hi:i<L.length) {K:Int→ae→Prop},K ((hd L[i].1:Int)-(c:Int)) h→∃a,s.a=some a∧∃v,aP h (adr a (i*1))=some (.pointer v)∧HV PG (.func (.func pu) #[] #[]) [.pointer v,.int .u8 c] [.c (.int .i64)] K h:=by
  intro i hi K E;obtain⟨kb,D,P,G,O⟩:=N.at hi;obtain⟨a,ha,_,hv⟩:=U.at0 P;refine⟨a,ha,_,hv,HV.mk' (A7 (some ⟨kb,0,none⟩) c ?_)⟩;unfold uH aK;obtain⟨Z,kss,kow,kks,H,_⟩:=O;have S:D.data.toList≠[]:=by rw[G];exact(e.2 _ (aZ hi)).1
  obtain⟨u,hu,M⟩:=E3 S;refine⟨_,rfl,D,dY (i:=0) H,u,qL _,hu,?_⟩;simp only[Bd];have f:=Zz L[i].1;rw[M,G,fx (x:=(hd L[i].1:Int)) (by omega),fx (x:=(c:Int)) (by omega),fx (by omega)];exact E
 have mono:∀i j (hi:i<L.length) (p:j<L.length),i<j→hd L[i].1<hd L[j].1:=fun i j hi p d=>ce.1 e.1 i j hi p d
 refine LoopP.ghost (fun(g:Nat×Nat) (t:Int×Int) h'=>t.1=(g.1:Int)∧t.2=(g.2:Int)∧g.1≤g.2∧g.2≤L.length∧h'=h∧(∀j (p:j<L.length),j<g.1→hd L[j].1<c)∧(∀j (p:j<L.length),g.2≤j→c≤hd L[j].1)) (fun g=>g.2-g.1) (0,L.length)
  ⟨rfl,by simp only;omega,by simp,by simp,rfl,fun j p h=>by omega,fun j p h=>by simp only at h;omega⟩ ?_
 rintro I ⟨i,j⟩ ⟨ti,tj⟩ h' ⟨X,e2,d,k,rfl,o,n⟩ V;simp only at X e2 d k o n;subst X e2;refine az (fun f=>?_) fun Q=>?_
 ·have f:i<j:=by have:(i:Int)<(j:Int):=f;omega
  have em:IntKind.wrap .i64 (dG (IntKind.wrap .u64 (IntKind.wrap .i64 ((i:Int)+(j:Int)))) (2^(min (1:Int).toNat (IntKind.bits .u64))))=(((i+j)/2:Nat):Int):=by
   have e3:(2^(min (1:Int).toNat (IntKind.bits .u64)):Int)=2:=rfl;rw[e3,fx (x:=(i:Int)+(j:Int)) (by omega),Go.IntWalk.u64_in _ (by omega),Int.fdiv_eq_ediv_of_nonneg _ (by omega),fx (by omega)];omega
  refine⟨by decide,?_⟩;simp only[Bd];rw[em];generalize hm:(i+j)/2=m;have z:m<L.length:=by omega
  refine⟨by omega,?_⟩;refine C z ?_;refine az (fun Y=>?_) fun T=>?_
  ·refine V (m+1,j) _ _ ⟨by simp only;rw[fx (by omega)];omega,rfl,by simp only;omega,k,rfl,fun q R A=>?_,n⟩ (by simp only;omega)
   simp only at A;rcases bW q m with h|h
   ·have:=mono q m R z h;omega
   ·have:q=m:=by omega
    subst this;omega
  ·refine V (i,m) _ _ ⟨rfl,rfl,by simp only;omega,by simp only;omega,rfl,o,fun q R A=>?_⟩ (by simp only;omega)
   simp only at A;rcases bW m q with h|h
   ·have:=mono m q z R h;omega
   ·have:q=m:=by omega
    subst this;omega
 ·have d:i=j:=by have:¬(i:Int)<(j:Int):=Q;omega
  subst d;refine az (fun f=>?_) fun J=>?_
  ·have B:i<L.length:=by have:(i:Int)<(s.len:Int):=f;omega
   refine⟨by simp only;omega,?_⟩;refine C B ?_;refine E i _ k o n ?_;rw[beq_iff_eq];exact⟨fun h=>⟨B,by omega⟩,fun⟨_,h⟩=>by omega⟩
  ·have B:i=L.length:=by have:¬(i:Int)<(s.len:Int):=J;omega
   exact E i false k o n ⟨fun h=>(by cases h),fun h=>(by obtain⟨h,_⟩:=h;omega)⟩
end Go.Proofs
namespace Go.Proofs
open Go Go.Lift
theorem OK{b:Nat}{h:ae}{K:Bool→ae→Prop}(a:K false h):HC PG qq [.pointer (some ⟨b,0,none⟩),.pointer none] [.c .bool] K h:=by
 refine CB _ none ?_;unfold vF yU;exact au.2 (zC (aj.2 a))
abbrev Zq:List Value:= [.string (⟨#[]⟩:ByteArray),.bool false,.string (⟨#[]⟩:ByteArray),.slice none 0 0,.pointer none]
theorem qT{W:Nat→Prop}{h:ae}{b:Nat}{sl val:ByteArray}{has:Bool}{s:SliceV}{ow:Option Addr}{ks:List (Option Addr)}(d:h[b]? =some (.cells (AY sl has val s ow) bZ (0,0))) (y:Sl pj 1 W h s ks) (D:ks.length≤256) {K:Option Addr→ae→Prop}
  (z:∀h' s',h'[h.size]? =some (.cells (AY sl has val s' none) bZ (0,0))→OwnS pj 1 bo (fun x=>h.size<x∧x<h'.size) h' s' ks→Upd No h h'→K (some ⟨h.size,0,none⟩) h'):
  HC PG fe [.pointer (some ⟨b,0,none⟩),.pointer none] [.c .ptr] K h:=by
 refine Fz _ none ?_;unfold xW aK db nv cD bU Om yU nV aaI;refine OK (aj.2 ?_);refine⟨_,rfl,sl,dY (i:=0) d,has,dY (i:=1) d,val,dY (i:=2) d,s,dY (i:=3) d,ow,dY (i:=4) d,bP ?_⟩;have k1:=Upd.hnew No h Zq bZ;have b1:=cp h Zq bZ;simp only[cY h];generalize hnew h [.string (⟨#[]⟩:ByteArray),.bool false,.string (⟨#[]⟩:ByteArray),.slice none 0 0,.pointer none] bZ=h1 at k1 b1
 refine cU (c:=Zq) (vs:= [.string sl,.bool has,.string val,.slice s.a s.len s.cap,.pointer ow]) b1 rfl fun h2 b2 o=>?_
 have k:Upd No h h2:=k1.trans o fun x hx=>.inr (gS hx.symm)
 have v:h.size<h2.size:=bD b2;have m:=k.get0 d;refine⟨_,rfl,s,dY (i:=3) m,?_⟩;refine Mk (y.upd k fun _ h=>h.elim) (by omega) fun n A q f=>?_
 have b3:A[h.size]? =some (.cells (AY sl has val s ow) bZ (0,0)):=f.get0 b2;refine⟨X1 (i:=3) b3 (show 3<5 by decide),Kl (i:=3) (c':=AY sl has val n ow) b3 rfl fun B u j=>?_⟩
 refine⟨X1 (i:=4) u (show 4<5 by decide),Kl (i:=4) (c':=AY sl has val n none) u rfl fun t w p=>?_⟩
 refine zC (aj.2 ?_);have a:=j.tr p;have C:=a.size;have g:=(q.within.upd a fun x hx e=>by have e:x=h.size:=e;have:=hx.1;omega).more (M':=fun x=>h.size<x∧x<t.size) fun x hx=>⟨by have:=hx.1;omega,by have:=hx.2;omega⟩
 exact z t n w g ((k.tr f).trans a fun x hx=>.inr (gS hx.symm))
theorem yf{h:ae}{b:Nat}{sl nl:ByteArray}{has:Bool}{val:ByteArray}{s:SliceV}{ow:Option Addr}(a:h[b]? =some (.cells (AY sl has val s ow) bZ (0,0))) {K:Option Addr→ae→Prop}
  (c:∀h',h'[b]? =some (.cells (AY nl has val s ow) bZ (0,0))→Upd (· =b) h h'→K (some ⟨b,0,none⟩) h'):HC PG jc [.pointer (some ⟨b,0,none⟩),.string nl] [.c .ptr] K h:=by
 refine CA _ nl ?_;unfold vE db;exact⟨_,rfl,X1 (i:=0) a (show 0<5 by decide),Kl (i:=0) (c':=AY nl has val s ow) a rfl c⟩
theorem F1{h:ae}{b:Nat}{sl v:ByteArray}{has:Bool}{val:ByteArray}{s:SliceV}{ow:Option Addr}(d:h[b]? =some (.cells (AY sl has val s ow) bZ (0,0))) {K:Option Addr→ae→Prop}
  (e:∀h',h'[b]? =some (.cells (AY sl true v s ow) bZ (0,0))→Upd (· =b) h h'→K (some ⟨b,0,none⟩) h'):HC PG lS [.pointer (some ⟨b,0,none⟩),.string v] [.c .ptr] K h:=by
 refine A5 _ v ?_;unfold uF db;exact⟨_,rfl,X1 (i:=1) d (show 1<5 by decide),Kl (i:=1) (c':=AY sl true val s ow) d rfl fun f b1 c=>⟨_,rfl,X1 (i:=2) b1 (show 2<5 by decide),Kl (i:=2) (c':=AY sl true v s ow) b1 rfl fun h2 b2 a=>e h2 b2 (c.tr a)⟩⟩
theorem QV{h:ae}{k v:ByteArray}{K:Option Addr→ae→Prop}(g:∀h' b s,h'[b]? =some (.cells (AY k true v s none) bZ (0,0))→s.len=0→s.len≤s.cap→h.size≤b→Upd No h h'→K (some ⟨b,0,none⟩) h'):HC PG w8 [.pointer none,.string k,.string v] [.c .ptr] K h:=by
 refine KL none k v ?_;unfold BF nW Om nV;have k1:=Upd.hnew No h Zq bZ;have b1:=cp h Zq bZ;refine bP ?_;simp only[cY h];generalize hnew h [.string (⟨#[]⟩:ByteArray),.bool false,.string (⟨#[]⟩:ByteArray),.slice none 0 0,.pointer none] bZ=h1 at k1 b1;refine qT (W:=No) (ks:= []) (sl:=⟨#[]⟩) (val:=⟨#[]⟩) (has:=false) (s:=⟨none,0,0⟩) (ow:=none) b1 (Sl.nil nh) (aS _) fun h2 s b2 c a=>?_
 refine yf (nl:=k) b2 fun n b3 e=>F1 (v:=v) b3 fun j m f=>?_
 have d:=e.tr f;have z:=a.size;have i:=k1.size;refine g j h1.size s m c.len c.cap i ((k1.tr a).trans d fun x hx=>.inr (by have hx:x=h1.size:=hx;omega))
theorem aa1{W:Nat→Prop}{h:ae}{b:Nat}{k v:ByteArray}{s:SliceV}{ow:Option Addr}(c:h[b]? =some (.cells (AY k true v s ow) bZ (0,0))) (a:s.len=0) (hc:s.len≤s.cap) (nw:¬W b):RxN W h b k (some v) .nil:=
 ⟨v,s,ow,[],c,rfl,⟨a,nh,fun h=>absurd rfl h⟩,⟨hc,nw⟩,rfl⟩
theorem Dz(s:ByteArray)(c:Nat):(s.extract 0 c).data.toList=s.data.toList.take c:=by
 rw[mQ,Array.toList_extract,gn];simp
theorem DB(s:ByteArray)(c:Nat):(s.extract c s.size).data.toList=s.data.toList.drop c:=by
 rw[mQ,Array.toList_extract,gn,List.take_of_length_le];rw[aV];simp
theorem QU{W:Nat→Prop}{h:ae}{b:Nat}{sl:ByteArray}{w:Option ByteArray}{F:Fo}(r:RxN W h b sl w F)(A:∀y,W y→y<h.size)(hn:F.toL.length≤256){c:Nat}(hc:c≤sl.size){K:Option Addr→ae→Prop}
  (X:∀h' b',RxN W h' b' (sl.extract 0 c) none (.cons (sl.data.toList.drop c) w F .nil)→Upd No h h'→K (some ⟨b',0,none⟩) h'):HC PG qp [.pointer (some ⟨b,0,none⟩),.pointer none,.int .i64 c] [.c .ptr] K h:=by
 refine Cy _ none c ?_;unfold vC aK db nW Om nV;obtain⟨val,s,ow,ks,M,hv,Q,N,I⟩:=r;have lab:∀{h'},Upd No h h'→aP h' (adr ⟨b,0,none⟩ 0)=some (.string sl):=fun k=>dY (i:=0) (k.get0 M)
 have V:=Upd.refl No h;refine⟨_,rfl,sl,lab V,⟨by omega,by omega⟩,bP ?_⟩
 have k1:=Upd.hnew No h Zq bZ;have b1:=cp h Zq bZ;simp only[cY h];generalize hnew h [.string (⟨#[]⟩:ByteArray),.bool false,.string (⟨#[]⟩:ByteArray),.slice none 0 0,.pointer none] bZ=h1 at k1 b1;refine⟨lab k1,?_⟩;refine qT (W:=No) (ks:= []) (sl:=⟨#[]⟩) (val:=⟨#[]⟩) (has:=false) (s:=⟨none,0,0⟩) (ow:=none) b1 (Sl.nil nh) (aS _) fun h2 Z b2 _ u=>⟨lab (k1.tr u),?_⟩
 rw[aU];refine yf b2 fun d b3 G=>?_
 have z1:=k1.size;have a:Upd No h d:=(k1.tr u).trans G fun x hx=>.inr (by have hx:x=h1.size:=hx;omega)
 refine qT (a.get0 M) (Q.upd a fun _ h=>h.elim) (by rw[(kM.1 I).1];exact hn) fun h4 T J D o=>?_
 refine⟨_,rfl,sl,dY (i:=0) J,⟨by omega,by omega⟩,?_⟩
 refine yf (nl:=sl.extract c sl.size) J fun f P n=>?_
 have j:Upd No h f:=(a.tr o).trans n fun x hx=>.inr (by have hx:x=d.size:=hx;have:=a.size;omega)
 have H:=D.upd n fun x hx e=>by have e:x=d.size:=e;have:=hx.1;omega
 have U:=bD b3;have z:f[h1.size]? =some (.cells (AY (sl.extract 0 c) false ⟨#[]⟩ Z none) bZ (0,0)):=n.get (o.get0 b3) (by show ¬h1.size=d.size;omega);have t:=Upd.hnew No f [.pointer (some ⟨d.size,0,none⟩)] bo;have L:=cp f [.pointer (some ⟨d.size,0,none⟩)] bo;have S:=j.size;have Y:=a.size;refine bP ?_;simp only[cY f]
 generalize hnew f [.pointer (some ⟨d.size,0,none⟩)] bo=h6 at t L;have q:=t.get0 z;have O:=bD z;refine⟨_,rfl,X1 (i:=3) q (show 3<5 by decide),Kl (i:=3) (c':=AY (sl.extract 0 c) false ⟨#[]⟩ ⟨some ⟨f.size,0,none⟩,1,1⟩ none) q rfl fun E b7 g=>?_⟩
 have m:Upd No h E:=(j.tr t).trans g fun x hx=>.inr (by have hx:x=h1.size:=hx;omega)
 have B:E[f.size]? =some (.cells #[.pointer (some ⟨d.size,0,none⟩)] bo (0,0)):=g.get L (by show ¬f.size=h1.size;omega);have C:=g.get (t.get0 P) (by show ¬d.size=h1.size;omega);have p:=(H.upd t fun _ _ h=>h).upd g fun x hx e=>by have e:x=h1.size:=e;have:=hx.1;omega
 refine X E h1.size ⟨⟨#[]⟩,_,none,[some ⟨d.size,0,none⟩],b7,rfl,⟨rfl,nh,fun _=>⟨_,rfl,(fun hx=>by have hx:W f.size:=hx;have:=A _ hx;omega),oI B fun i v hi=>?_⟩⟩,⟨al _,fun hx=>by have:=A _ hx;omega⟩,?_⟩ m
 ·rw[aR]
  rw[←List.getElem?_toArray]at hi;exact hi
 ·refine⟨d.size,sl.extract c sl.size,val,T,none,ks,[],rfl,DB ..,C,hv,p.sl (fun x hx _ R=>by have:=A _ R;have:=hx.1;omega),⟨p.cap,fun hx=>by have:=A _ hx;omega⟩,RxF.upd0 m I,rfl⟩
end Go.Proofs
namespace Go.Proofs
open Go Go.Lift
theorem Mi:∀{x y:List UInt8} {i:Nat},i≤x.length→i≤y.length→(∀j,j<i→x[j]? =y[j]?)→(i=x.length∨i=y.length∨x[i]?≠y[i]?)→cm x y=i
 | [],_,i,h1,_,_,_=>by simp at h1;simp[cm,h1]
 |_::_,[],i,_,h2,_,_=>by simp at h2;simp[cm,h2]
 |a::x,b::y,0,_,_,_,h=>by
  unfold cm;rw[if_neg];rintro rfl;rcases h with h|h|h<;>simp at h
 |a::x,b::y,i+1,h1,h2,h3,h4=>by
  have:=h3 0 (by omega);simp only[List.getElem?_cons_zero,bR.injEq]at this;unfold cm;rw[if_pos this,Mi (i:=i) (by simpa using h1) (by simpa using h2) (fun j c=>by simpa using h3 (j+1) (by omega)) (by simpa using h4)]
theorem Mh{a b:ByteArray}(y:a.size≤1000000){h:ae}{K:Int→ae→Prop}(n:K (cm a.data.toList b.data.toList:Nat) h):HC PG tl [.string a,.string b] [.c (.int .i64)] K h:=by
 refine KF a b ?_;unfold BA;simp only[Bd];have k:(if(b.size:Int)<(a.size:Int)then(b.size:Int)else(a.size:Int))=((min a.size b.size:Nat):Int):=by split<;>omega
 rw[k];have z:a.data.toList.length=a.size:=by simp
 have A:b.data.toList.length=b.size:=by simp
 refine LoopP.ghost (fun(i:Nat) (t:Int) h'=>t=(i:Int)∧i≤min a.size b.size∧h'=h∧∀j,j<i→a.data.toList[j]? =b.data.toList[j]?) (fun i=>min a.size b.size-i) 0 ⟨rfl,aS _,rfl,fun j u=>absurd u (kU _)⟩ ?_
 rintro I i t h' ⟨rfl,hi,rfl,p⟩ w;refine az (fun d=>?_) fun x=>?_
 ·have d:i<min a.size b.size:=by omega
  have f:i<a.size:=by omega
  have m:i<b.size:=by omega
  refine⟨a[i],by omega,by rw[aU,getElem?_pos a i f],b[i],by omega,by rw[aU,getElem?_pos b i m],?_⟩
  have s:a.data.toList[i]? =some a[i]:=by rw[←PA,getElem?_pos a i f]
  have q:b.data.toList[i]? =some b[i]:=by rw[←PA,getElem?_pos b i m]
  refine CondP.intro (fun g=>?_) fun c=>?_
  ·rw[Mi (i:=i) (by omega) (by omega) p (.inr (.inr fun e=>?_))]at n
   ·exact n
   ·rw[s,q]at e
    rw[bR.inj e]at g;simp at g
  ·have c:a[i]=b[i]:=by
    have:((a[i].toNat:Int))=(b[i].toNat:Int):=by simpa using c
    exact UInt8.toNat_inj.1 (by omega)
   rw[dd d (by omega)];refine w (i+1) _ _ ⟨rfl,d,rfl,fun j u=>?_⟩ (by omega)
   rcases bW j i with v|v
   ·exact p j v
   ·have:j=i:=by omega
    subst this;rw[s,q,c]
 ·have o:i=min a.size b.size:=by omega
  rw[Mi (i:=i) (by omega) (by omega) p (by omega)]at n;rw[←o];exact n
theorem UI{F:Fo}{i:Nat}{k:List UInt8}{v:ByteArray}(h:fV F)(hi:i<F.toL.length)(ek:hd F.toL[i].1=hd k)(a:xi (vd F.toL[i]) (vd F.toL[i]) k v):xi (rZ F) (rZ F) k v:=by
 have:=O6 h hi ek a;rw[List.set_getElem_self,Fo.of_to]at this;exact this
theorem WI{P Q a:List UInt8→ByteArray→Prop}{k:List UInt8}{v:ByteArray}(h:xi P a k v)(e:∀k v,P k v↔Q k v):xi Q a k v:=fun k' b=>by rw[h k' b,e]
set_option maxHeartbeats 1000000 in
theorem Ws{W:Nat→Prop}:∀(n:Nat) {b:Nat} {sl:ByteArray} {w:Option ByteArray} {F:Fo} {h:ae} (k v:ByteArray),k.size<n→k.size≤1000000→RxN W h b sl w F→(∀y,W y→y<h.size)→fV F→∀{K:(Option Addr)×Bool×Bool→ae→Prop},
  (∀h' b' w' F' B ch,Upd No h h'→RxN W h' b' sl w' F'→fV F'→xi (tW w F) (tW w' F') k.data.toList v→(ch=false→b'=b∧w'=w∧F'=F)→(tW w F k.data.toList v→ch=false)→K (some ⟨b',0,none⟩,B,ch) h')→
  HC PG oO [.pointer (some ⟨b,0,none⟩),.pointer none,.string k,.string v] [.c .ptr,.c .bool,.c .bool] K h:=by
 intro n;induction n with
 |zero=>intro b sl w F h k v hk;omega
 |succ n ih=>
  intro b sl w F h k v I hk6 r hW hc K hk;refine Fy (some ⟨b,0,none⟩) none k v ?_;unfold xV bI cl aK db hP nW cD bU V5 HG nV ZK MI;have hr:=r;obtain⟨val,s,ow,ks,hb,hv,hs,hcap,hF⟩:=r;have T:=kM.1 hF;have hn:=jC hc;have hcan:=eW.1 hc;rw[ey];refine az (fun hk0=>?_) fun hk0=>?_
  ·have hke:k.data.toList= []:=by rw[hk0]
   rw[hke]at hk;refine Join.intro (fun t h'=>t=decide (w=some v)∧h'=h) (fun R hR=>⟨_,rfl,w.isSome,dY (i:=1) hb,?_⟩) ?_
   ·cases H:w with
    |none=>exact aj.2 (hR _ _ ⟨by rw[H];rfl,rfl⟩)
    |some u=>
     refine au.2 ⟨_,rfl,val,dY (i:=2) hb,hR _ _ ⟨?_,rfl⟩⟩;rw[ey,vw hv u H,H];exact decide_eq_decide.2 ⟨fun e=>by rw[e],fun e=>bR.inj e⟩
   ·rintro t h' ⟨rfl,rfl⟩
    refine az (fun e=>?_) fun e=>?_
    ·refine hk h' b w F false false (Upd.refl _ _) hr hc ?_ (fun _=>⟨rfl,rfl,rfl⟩) fun _=>rfl
     rw[e];exact LF hc v
    ·refine⟨_,rfl,w.isSome,dY (i:=1) hb,?_⟩
     refine qT hb hs (by rw[T.1];exact hn) fun h1 s1 b1 ho1 p=>?_
     refine⟨dY (i:=1) (p.get0 hb),?_⟩;refine F1 b1 fun h2 b2 A=>?_
     have d:Upd No h' h2:=p.trans A fun x hx=>.inr (gS (Eq.symm hx))
     refine⟨dY (i:=1) (d.get0 hb),?_⟩;have ho2:=ho1.upd A fun x hx e=>by have e:x=h'.size:=e;have:=hx.1;omega
     refine hk h2 h'.size (some v) F _ true d ⟨v,s1,none,ks,b2,rfl,ho2.sl (fun x hx _ H=>by have:=hW _ H;have:=hx.1;omega),⟨ho2.cap,fun hx=>nf _ (hW _ hx)⟩,RxF.upd0 d hF⟩ hc (LF hc v) (fun h=>by cases h) fun g=>?_
     rcases g with⟨_,h⟩|h
     ·exact absurd h e
     ·exact absurd rfl (qm hc h)
  ·have f:k.data.toList≠[]:=fun e=>hk0 (by cases k;exact congrArg mP (kA.1 e))
   obtain⟨c0,hc0,hc0e⟩:=E3 f;refine⟨c0,qL _,hc0,?_⟩;have hlk:k.data.toList.length=k.size:=by simp
   refine EP hr hc (c:=c0.toNat) (UInt8.toNat_lt _) fun i ok X hlo hhi hok=>?_
   rw[hc0e]at hlo hhi hok;cases ok with
   |false=>
    have hno:∀hi:i<F.toL.length,hd F.toL[i].1≠hd k.data.toList:=fun hi e=>by have:=hok.2 ⟨hi,e⟩;cases this
    have hhi':∀j (hj:j<F.toL.length),i≤j→hd k.data.toList<hd F.toL[j].1:=fun j hj hij=>by
     have h1:=hhi j hj hij;rcases bW i j with U|U
     ·have h2:=ce.1 hcan.1 i j (by omega) hj U
      have h3:=hhi i (by omega) (al _);omega
     ·have:i=j:=by omega
      subst this;have:=hno hj;omega
    obtain⟨hc',hp'⟩:=UK (v:=v) hc f hlo hhi';refine au.2 ?_;refine qT hb hs (by rw[T.1];exact hn) fun h1 s1 b1 ho1 p=>?_
    refine⟨_,rfl,s1,dY (i:=3) b1,?_⟩;refine QV fun h2 fb fs fb2 hf0 hfc hfb A=>⟨dY (i:=3) (A.get0 b1),bP ?_⟩
    have k3:=Upd.hnew No h2 [.pointer (some ⟨fb,0,none⟩)] bo;have b3:=cp h2 [.pointer (some ⟨fb,0,none⟩)] bo;have z3:(hnew h2 [.pointer (some ⟨fb,0,none⟩)] bo).size=h2.size+1:=iY ..;simp only[cY h2];generalize hnew h2 [.pointer (some ⟨fb,0,none⟩)] bo=h3 at k3 b3 z3;have C:=A.tr k3;refine⟨dY (i:=3) (C.get0 b1),?_⟩;have z1:=bD b1
    have z2:=A.size;have zf:=bD fb2;have Y:=(ho1.upd C fun _ _ h=>h).more (M':=fun x=>(h.size<x∧x<h1.size)∨h3.size≤x) fun x hx=>.inl hx
    refine RG Y (k:=i) (by rw[T.1];exact X) (by rw[T.1];omega) b3 (by rintro(h|h)<;>omega) (fun x hx=>.inr hx) fun s4 h4 J E=>?_
    have b4:=E.get (C.get0 b1) (by rintro(h|h)<;>omega)
    have f4:=E.get (k3.get0 fb2) (by rintro(h|h)<;>omega)
    refine⟨_,rfl,X1 (i:=3) b4 (show 3<5 by decide),Kl (i:=3) (c':=AY sl w.isSome val s4 none) b4 rfl fun h5 b5 hu5=>?_⟩
    have hu05:Upd No h h5:=((p.tr C).trans E fun x hx=>.inr (by have:=p.size;rcases hx with hx|hx<;>omega)).trans hu5 fun x hx=>.inr (gS (Eq.symm hx))
    have ho5:=J.upd hu5 fun x hx e=>by have e:x=h.size:=e;rcases hx with hx|hx<;>omega
    have f5:=hu5.get f4 (by show ¬fb=h.size;omega);refine hk h5 h.size w _ true true hu05 ⟨val,s4,none,_,b5,hv,ho5.sl (fun x hx _ H=>by have:=hW _ H;rcases hx with hx|hx<;>omega),⟨ho5.cap,fun hx=>nf _ (hW _ hx)⟩,kM.2 (by rw[Fo.to_of];exact(T.upd0 hu05).ins i ⟨fb,k,rfl,rfl,aa1 f5 hf0 hfc fun hx=>by have:=hW _ hx;omega⟩)⟩ hc' (EW f hp') (fun h=>by cases h) fun g=>?_
    rcases g with⟨h,_⟩|g
    ·exact absurd h f
    ·obtain⟨n',hn',e,_⟩:=sF hc g
     obtain⟨j,hj,rfl⟩:=List.getElem_of_mem hn';rcases bW j i with U|U
     ·have:=hlo j hj U;omega
     ·have:=hhi' j hj U;omega
   |true=>
    obtain⟨hi,G⟩:=hok.1 rfl;refine aj.2 ⟨_,rfl,s,dY (i:=3) hb,?_⟩;obtain⟨kb,V,hki,q,I⟩:=T.at hi;have hmem:F.toL[i]∈F.toL:=aZ hi;have o:=hcan.2 _ hmem;obtain⟨a,ha,_,hvv⟩:=hs.at0 hki;have hslen:=hs.len;rw[T.1]at hslen;have hlt1:(i:Int)<((s.len:Nat):Int):=by omega
    refine⟨⟨by simp only;omega,hlt1⟩,a,ha,some ⟨kb,0,none⟩,hvv,_,rfl,?_⟩;obtain⟨kval,kss,kow,kks,hkb,_⟩:=id I;refine⟨V,dY (i:=0) hkb,Mh hk6 ?_⟩;rw[q];have hc1:=Xn f o.1 G.symm;have L:=TZ k.data.toList F.toL[i].1;have M:=TX k.data.toList F.toL[i].1;have Z:=NG k.data.toList F.toL[i].1;have hll:V.size=F.toL[i].1.length:=by rw[←q];simp
    have O:rZ F k.data.toList v→vd F.toL[i] k.data.toList v:=fun g=>by
     obtain⟨n',hn',e,hN⟩:=sF hc g;rw[←yG hc hn' hmem (by omega)];exact hN
    have hset:∀{w2:Option ByteArray} {F2:Fo} {nl:List UInt8},nl≠[]→hd nl=hd F.toL[i].1→fV F2→Br (tW w2 F2)→fV (.ofL (F.toL.set i (nl,w2,F2))):=fun h1 h2 h3 h4=>T0 hc hi ⟨h1,(Jd h3).2 h4,h3⟩ h2
    have S:∀{m:Bn},xi (vd F.toL[i]) (vd m) k.data.toList v→xi (rZ F) (rZ (.ofL (F.toL.set i m))) k.data.toList v:=fun hp=>O6 hc hi G hp
    have N:xi (vd F.toL[i]) (vd F.toL[i]) k.data.toList v→xi (rZ F) (rZ F) k.data.toList v:=UI hc hi G;have hrset:∀{h':ae} {k':Option Addr} {m:Bn},Upd No h h'→Kid W h' k' m→RxL W h' (ks.set i k') (F.toL.set i m):=fun hu hkd=>(T.upd0 hu).set hi hkd
    generalize F.toL[i]=m at q I o hc1 L M Z hll O hset S N G;generalize hcc:cm k.data.toList m.1=c at hc1 L M Z;obtain⟨lab,wk,Fk⟩:=m;simp only at q I o L M Z hll G hset;refine Join.intro (fun t h'=>∃ub z wu Fu,t=some ⟨ub,0,none⟩∧Upd No h h'∧RxN W h' ub z wu Fu∧fV Fu∧z.data.toList=k.data.toList.take c∧(∀k' v',vd (z.data.toList,wu,Fu) k' v'↔vd (lab,wk,Fk) k' v')∧(∀w' F',fV F'→xi (tW wu Fu) (tW w' F') (k.data.toList.drop c) v→Br (tW w' F'))) (fun R hR=>⟨_,rfl,V,dY (i:=0) hkb,?_⟩) ?_
    ·refine az (fun hlt=>?_) fun hge=>?_
     ·have hlt:c<lab.length:=by omega
      refine QU I hW (jC o.2.2) (c:=c) (by omega) fun h1 ub rn p=>hR _ _ ⟨ub,_,none,_,rfl,p,rn,?_,?_,?_,?_⟩
      ·rw[q]
       refine⟨fun e=>?_,o.2.1,o.2.2,fun _ h=>by simp[Fo.toL]at h,trivial⟩
       have:=congrArg fu e;rw[aV,aG]at this;omega
      ·rw[Dz,q,M]
      ·intro k' v'
       rw[Dz,q];exact LY c k' v'
      ·intro w' F' hcF hp
       rw[q]at hp;refine Xu (fun e=>?_) o.2.1 o.2.2 (fun hne=>?_) hp
       ·have:=congrArg fu e
        rw[aV,aG]at this;omega
       ·refine Z ?_ hlt
        rcases bW c k.data.toList.length with U|U
        ·exact U
        ·exact absurd (List.drop_eq_nil_of_le U) hne
     ·have hce:c=lab.length:=by omega
      refine hR _ _ ⟨kb,V,wk,Fk,rfl,Upd.refl _ _,I,o.2.2,?_,?_,?_⟩
      ·rw[q,M,hce,bS]
      ·intro k' v';rw[q]
      ·intro w' F' hcF hp
       exact Y9 ((Jd o.2.2).1 o.2.1) hp
    ·rintro t h1 ⟨ub,z,wu,Fu,rfl,p,rn,hcu,hsl,Q,hbr⟩
     refine⟨⟨by omega,by omega⟩,?_⟩
     rw[aU];have hkd:(k.extract c k.size).data.toList=k.data.toList.drop c:=DB ..;have hks:(k.extract c k.size).size=k.size-c:=by simp
     have D:k.data.toList=z.data.toList++k.data.toList.drop c:=by rw[hsl,aI]
     have P:z.data.toList≠[]:=by
      rw[hsl];intro e;have:=congrArg fu e;rw[aH,aG]at this;omega
     have hslhd:hd z.data.toList=hd lab:=by
      rw[G];conv=>rhs;rw[D]
      rw[pq P]
     refine ih (k.extract c k.size) v (by rw[hks];omega) (by rw[hks];omega) rn (fun y hy=>Nat.lt_of_lt_of_le (hW y hy) p.size) hcu fun h2 b2 w2 F2 B ch A rn2 hc2 hp2 hsm hch=>?_
     rw[hkd]at hp2 hch;have d:=p.tr A;have hpn:xi (vd (lab,wk,Fk)) (vd (z.data.toList,w2,F2)) k.data.toList v:=by
      have:=WI (UJ (lab:=z.data.toList) hp2) Q;rw[←D]at this;exact this
     have hchg:tW w F k.data.toList v→ch=false:=fun g=>by
      rcases g with⟨h,_⟩|g
      ·exact absurd h f
      ·obtain⟨r,e,hr'⟩:=(Q _ _).2 (O g)
       simp only at e;rw[D]at e;have e2:=List.append_cancel_left e;rw[←D]at e;exact hch (by rw[e2];exact hr')
     cases ch with
     |false=>
      obtain⟨_,rfl,rfl⟩:=hsm rfl;refine au.2 (hk h2 b w F false false d (hr.upd0 d) hc (EW f (N ?_)) (fun _=>⟨rfl,rfl,rfl⟩) fun _=>rfl)
      intro k' v';exact(Q k' v').symm.trans (hpn k' v')
     |true=>
      refine aj.2 ?_;refine qT (d.get0 hb) (hs.upd d fun _ h=>h.elim) (by rw[T.1];exact hn) fun h3 s3 b3 Y hu3=>?_
      refine⟨_,rfl,s3,dY (i:=3) b3,?_⟩;have X:i<ks.length:=by rw[T.1];exact hi
      obtain⟨a3,ha3,hab,hw3,J,E⟩:=OwnS.setAt Y X (some ⟨b2,0,none⟩);have hlen3:=Y.len;refine⟨⟨by simp only;omega,by simp only;omega⟩,a3,ha3,?_⟩
      have hw1:Wr h3 (adr a3 (i*1)):=by
       rcases hw3 with H|⟨b',hb',H⟩
       ·cases H
       ·cases hb';exact H 0 (by simp)
      refine⟨hw1,bP ?_⟩;have b4:=E.get b3 fun e=>by have e:h2.size=a3.block:=e;have:=hab.1;omega
      have hu24:Upd No h2 _:=hu3.trans E fun x hx=>.inr (by have hx:x=a3.block:=hx;have:=hab.1;omega)
      have hu04:=d.tr hu24;have eset:ks.set i (some ⟨b2,0,none⟩)=ks.take i++some ⟨b2,0,none⟩::ks.drop (i+1):=by rw[eA,if_pos X]
      rw[←eset]at J;exact hk _ h2.size w _ B true hu04 ⟨val,s3,none,_,b4,hv,J.sl (fun x hx _ H=>by have:=hW _ H;have:=d.size;have:=hx.1;omega),⟨J.cap,fun hx=>by have:=hW _ hx;have:=d.size;omega⟩,kM.2 (by rw[Fo.to_of];exact hrset hu04 ⟨b2,z,rfl,rfl,rn2.upd0 hu24⟩)⟩ (hset P hslhd hc2 (hbr _ _ hc2 hp2)) (EW f (S hpn)) (fun h=>by cases h) hchg
end Go.Proofs
namespace Go.Proofs
open Go Go.Lift
def AZ:Fo→List (List UInt8×ByteArray)
 | .nil=> []
 | .cons lab w kids rest=>((w.map fun v=>(([]:List UInt8),v)).toList++AZ kids).map (fun p=>(lab++p.1,p.2))++AZ rest
def wZ(w:Option ByteArray)(F:Fo):List (List UInt8×ByteArray):=(w.map fun v=>(([]:List UInt8),v)).toList++AZ F
theorem vW:∀{F:Fo} {k:List UInt8} {v:ByteArray},(k,v)∈AZ F↔rZ F k v
 | .nil,_,_=>by simp[AZ,rZ]
 | .cons lab w kids rest,k,v=>by
  unfold AZ rZ;rw[bF,vW (F:=rest)];refine or_congr ?_ yR;rw[gi];constructor
  ·rintro⟨⟨r,u⟩,hm,b⟩
   simp only[qd.injEq]at b;obtain⟨rfl,rfl⟩:=b;refine⟨r,rfl,?_⟩;rcases bF.1 hm with h|h
   ·left
    rw[rK,mN]at h;obtain⟨a,c,b⟩:=h;simp only[qd.injEq]at b;exact⟨b.1.symm,by rw[c,b.2]⟩
   ·exact .inr (vW.1 h)
  ·rintro⟨r,rfl,h⟩
   refine⟨(r,v),bF.2 ?_,rfl⟩;rcases h with⟨rfl,h⟩|h
   ·left;rw[h];simp
   ·exact .inr (vW.2 h)
theorem jR{w:Option ByteArray}{F:Fo}{k:List UInt8}{v:ByteArray}:(k,v)∈wZ w F↔tW w F k v:=by
 unfold wZ tW;rw[bF,vW];refine or_congr ?_ yR;cases w with
 |none=>simp
 |some u=>simp[Prod.ext_iff,eq_comm]
abbrev Up(l:List (List UInt8×ByteArray)):Prop:=l.Pairwise fun p q=>p.1<q.1
theorem NO{a x y:List UInt8}(h:x<y):a++x<a++y:=by
 induction a with
 |nil=>exact h
 |cons c a ih=>exact List.Lex.cons ih
theorem Pv{x y:List UInt8}(c:y≠[])(h:hd x<hd y):x<y:=by
 match x,y,c with
 | [],b::y,_=>exact yQ
 |a::x,b::y,_=>exact List.Lex.rel (UInt8.lt_iff_toNat_lt.2 h)
theorem Rd:∀{F:Fo},fV F→Up (AZ F)
 | .nil,_=>gF
 | .cons lab w kids rest,h=>by
  unfold AZ;refine cn.2 ⟨?_,Rd h.2.2.2.2,?_⟩
  ·rw[rP]
   refine List.Pairwise.imp (R:=fun p q:List UInt8×ByteArray=>p.1<q.1) (fun i=>NO i) ?_
   refine cn.2 ⟨?_,Rd h.2.2.1,?_⟩
   ·cases w<;>simp
   ·intro a g b f
    have d:b.1≠[]:=qm h.2.2.1 (vW (F:=kids).1 (show(b.1,b.2)∈_ from f))
    have j:a.1= []:=by
     rw[rK,mN]at g;obtain⟨v,_,e⟩:=g;rw[←e]
    rw[j];match b.1,d with
    |c::l,_=>exact yQ
  ·intro a g b f
   obtain⟨p,_,rfl⟩:=gi.1 g;obtain⟨n,k,e,_⟩:=sF h.2.2.2.2 (vW (F:=rest).1 (show(b.1,b.2)∈_ from f))
   have d:b.1≠[]:=qm h.2.2.2.2 (vW (F:=rest).1 (show(b.1,b.2)∈_ from f))
   have:=h.2.2.2.1 n k;exact Pv d (by rw[pq h.1];omega)
theorem Tv{w:Option ByteArray}{F:Fo}(h:fV F):Up (wZ w F):=by
 refine cn.2 ⟨by cases w<;>simp,Rd h,?_⟩
 intro a g b i;have d:b.1≠[]:=qm h (vW (F:=F).1 (show(b.1,b.2)∈_ from i))
 have f:a.1= []:=by
  rw[rK,mN]at g;obtain⟨v,_,e⟩:=g;rw[←e]
 rw[f];match b.1,d with
 |c::l,_=>exact yQ
theorem V7:∀{l l':List (List UInt8×ByteArray)},Up l→Up l'→(∀p,p∈l↔p∈l')→l=l'
 | [],[],_,_,_=>rfl
 | [],q::l',_,_,h=>absurd ((h q).2 (aw ..)) (by simp)
 |p::l,[],_,_,h=>absurd ((h p).1 (aw ..)) (by simp)
 |p::l,q::l',c,a,h=>by
  have c:=aJ.1 c;have a:=aJ.1 a;have e:p=q:=by
   rcases aA.1 ((h p).1 (aw ..))with e|g
   ·exact e
   ·rcases aA.1 ((h q).2 (aw ..))with e|f
    ·exact e.symm
    ·exact absurd (List.lt_trans (c.1 q f) (a.1 p g)) (vM _)
  subst e;rw[V7 c.2 a.2 fun z=>?_]
  constructor
  ·intro d
   rcases aA.1 ((h z).1 (aB _ d))with e|b
   ·exact absurd (c.1 z d) (by rw[e];exact vM _)
   ·exact b
  ·intro d
   rcases aA.1 ((h z).2 (aB _ d))with e|b
   ·exact absurd (a.1 z d) (by rw[e];exact vM _)
   ·exact b
def NF:Fo→Nat
 | .nil=>0
 | .cons _ _ kids rest=>1+NF kids+NF rest
theorem ND:∀{F:Fo},fV F→NF F+F.toL.length≤2*(AZ F).length
 | .nil,_=>by simp[NF,Fo.toL]
 | .cons lab w kids rest,h=>by
  have b:=ND h.2.2.1;have h2:=ND h.2.2.2.2;have a:=h.2.1;rw[Fo.toL_cons];unfold NF AZ;rw[ac,List.length_map,ac,ao];cases w with
  |none=>
   simp only[Option.map_none,Option.toList_none,aG];have:2≤kids.toL.length:=a.resolve_left (by simp);omega
  |some v=>simp only[Option.map_some,Option.toList_some,aE];omega
def N5:Fo→Prop
 | .nil=>True
 | .cons lab w kids rest=>lab.length≤10000∧(∀v,w=some v→v.size≤10000)∧kids.toL.length≤256∧N5 kids∧N5 rest
theorem RQ:∀{F:Fo},fV F→(∀k v,rZ F k v→k.length≤10000∧v.size≤10000)→N5 F
 | .nil,_,_=>trivial
 | .cons lab w kids rest,h,hl=>by
  obtain⟨r,v,c⟩:=om h _ (aw ..);have b:=(hl _ v (gv.2 ⟨_,aw ..,r,rfl,c⟩)).1;rw[ac]at b;simp only at b;refine⟨by omega,fun v hv=>(hl lab v (.inl ⟨[],(aL _).symm,.inl ⟨rfl,hv⟩⟩)).2,jC h.2.2.1,RQ h.2.2.1 fun k v a=>?_,RQ h.2.2.2.2 fun k v a=>hl k v (.inr a)⟩
  have:=hl (lab++k) v (.inl ⟨k,rfl,.inr a⟩);rw[ac]at this;exact⟨by omega,this.2⟩
def wW:Option ByteArray→List UInt8
 |some v=>1::pH v
 |none=> [0]
def uA(lab:List UInt8)(w:Option ByteArray)(n:Nat):List UInt8:=pH ⟨lab.toArray⟩++(wW w++ol n 2)
def qi:Fo→List UInt8
 | .nil=> []
 | .cons lab w kids rest=>uA lab w kids.toL.length++(qi kids++qi rest)
def jN(n:Bn):List UInt8:=uA n.1 n.2.1 n.2.2.toL.length++qi n.2.2
theorem zq:∀F:Fo,qi F=F.toL.flatMap jN
 | .nil=>rfl
 | .cons lab w kids rest=>by
  rw[Fo.toL_cons,aO,←zq rest];show uA lab w kids.toL.length++(qi kids++qi rest)=(uA lab w kids.toL.length++qi kids)++qi rest
  rw[ar]
theorem LL{lab:List UInt8}{w:Option ByteArray}{n:Nat}(a:lab.length≤10000)(h2:∀v,w=some v→v.size≤10000):(uA lab w n).length≤20010:=by
 unfold uA;rw[ac,ac,ko,dS];have e:(mP lab.toArray).size=lab.length:=by simp[ByteArray.size]
 rw[e];cases w with
 |none=>simp only[wW,aE];omega
 |some v=>have:=h2 v rfl;simp only[wW,ao,ko];omega
theorem B7:∀{F:Fo},N5 F→(qi F).length≤NF F*20010
 | .nil,_=>by simp[qi]
 | .cons lab w kids rest,h=>by
  have b:=LL (n:=kids.toL.length) h.1 h.2.1;have h2:=B7 h.2.2.2.1;have a:=B7 h.2.2.2.2;unfold qi NF;rw[ac,ac,km,km];omega
theorem LM{lab a:List UInt8}{w c:Option ByteArray}{n n':Nat}{r i:List UInt8}(m:lab.length≤10000)(g:a.length≤10000)(h2:∀v,w=some v→v.size≤10000)(e:∀v,c=some v→v.size≤10000)(p:n≤256)(j:n'≤256)(h:uA lab w n++r=uA a c n'++i):lab=a∧w=c∧n=n'∧r=i:=by
 unfold uA at h;simp only[ar]at h;have z:∀l:List UInt8,(mP l.toArray).size=l.length:=fun l=>by simp[ByteArray.size]
 obtain⟨d,h⟩:=Au (by rw[z];exact m) (by rw[z];exact g) h;have d:lab=a:=by
  have:=congrArg (fun b:ByteArray=>b.data.toList) d
  simpa using this
 cases w with
 |none=>
  cases c with
  |none=>
   simp only[wW,cJ,List.nil_append,eT.injEq,true_and]at h;obtain⟨f,h⟩:=xy (k:=2) (by omega) (by omega) h;exact⟨d,rfl,f,h⟩
  |some v=>simp[wW]at h
 |some v=>
  cases c with
  |none=>simp[wW]at h
  |some v'=>
   simp only[wW,cJ,eT.injEq,true_and]at h;obtain⟨o,h⟩:=Au (h2 v rfl) (e v' rfl) h;obtain⟨f,h⟩:=xy (k:=2) (by omega) (by omega) h;exact⟨d,by rw[o],f,h⟩
theorem B8:∀{F F':Fo} {r r':List UInt8},N5 F→N5 F'→F.toL.length=F'.toL.length→qi F++r=qi F'++r'→F=F'∧r=r'
 | .nil,.nil,_,_,_,_,_,h=>⟨rfl,h⟩
 | .nil,.cons ..,_,_,_,_,e,_=>by simp[Fo.toL]at e
 | .cons ..,.nil,_,_,_,_,e,_=>by simp[Fo.toL]at e
 | .cons lab w kids rest,.cons lab' w' kids' rest',r,r',h1,h2,e,h=>by
  unfold qi at h;simp only[ar]at h;obtain⟨c,b,d,h⟩:=LM h1.1 h2.1 h1.2.1 h2.2.1 h1.2.2.1 h2.2.2.1 h;obtain⟨a,h⟩:=B8 h1.2.2.2.1 h2.2.2.2.1 d h;obtain⟨f,h⟩:=B8 h1.2.2.2.2 h2.2.2.2.2 (by rw[Fo.toL_cons,Fo.toL_cons]at e;simpa using e) h;exact⟨by rw[c,b,a,f],h⟩
end Go.Proofs
namespace Go.Proofs
open Go Go.Lift
theorem Ze{M:Nat→Prop}{h:ae}{so:SliceV}{out ys:List UInt8}{vs:List Value}(hv:vs=ys.flatMap qI){n:Nat}(a:n=ys.length){K:SliceV→ae→Prop}(d:OwnS qI 1 cM M h so out)(hM:∀b,h.size≤b→M b)(i:out.length+ys.length≤140737488355328)
  (e:∀s' h',OwnS qI 1 cM M h' s' (out++ys)→Upd M h h'→K s' h'):
  ∃xs,SRow (hnew h vs cM) (some (aF h)) (n*1) xs∧AppP (some [.int .u8 0]) 1 1 cM so.a so.len so.cap n xs (hnew h vs cM) K:=by
 subst hv a;have k:=Upd.hnew No h (ys.flatMap qI) cM;have f:OwnS qI 1 cM (fun _=>True) (hnew h (ys.flatMap qI) cM) ⟨some (aF h),ys.length,ys.length⟩ ys:=⟨rfl,um,al _,.inr ⟨h.size,[],rfl,trivial,by rw[aL];exact cp ..,by simp⟩⟩
 refine⟨_,(f.sl (W:=No) fun _ _ _ h=>h).srow,?_⟩
 refine AppP.own (ys:=ys) (d.upd k fun _ _ h=>h) rfl rfl (Df _) rfl (by omega) (by omega) (hM _ (by rw[iY];omega)) fun s' h' c g=>?_
 exact e s' h' c ((Upd.hnew M h _ _).tr g)
def ab8(W:Nat→Prop)(n:Bn):Prop:=∀{b:Nat} {sl:ByteArray} {h0 h:ae} {M:Nat→Prop} {s:SliceV} {xs:List UInt8},RxN W h0 b sl n.2.1 n.2.2→sl.data.toList=n.1→Upd No h0 h→(∀y,M y→h0.size≤y)→OwnS qI 1 cM M h s xs→(∀y,h.size≤y→M y)→
 xs.length+(jN n).length≤140737488355328→∀{K:SliceV→ae→Prop},(∀s' h',OwnS qI 1 cM M h' s' (xs++jN n)→Upd M h h'→K s' h')→HC PG lU [.pointer (some ⟨b,0,none⟩),.slice s.a s.len s.cap] [.c .slice] K h
theorem Wp{W:Nat→Prop}{lab:List UInt8}{w:Option ByteArray}{c:Fo}(hl:lab.length≤10000)(hw:∀v,w=some v→v.size≤10000)(hk256:c.toL.length≤256)(ih:∀m∈c.toL,ab8 W m):ab8 W (lab,w,c):=by
 intro b sl h0 h M s xs r E T H ho hM hx K J;simp only at r E;have D:(⟨lab.toArray⟩:ByteArray)=sl:=by rw[←E]
 refine A6 (some ⟨b,0,none⟩) s ?_;unfold uG bI cl aK CM cD bU ZO X8;obtain⟨val,B,ow,ks,P,hv,hs,hcap,hF⟩:=r;have hL:=kM.1 hF;have st:∀{h'},Upd M h h'→Upd No h0 h':=fun k=>T.trans k fun y hy=>.inr (H y hy)
 have blk:∀{h'},Upd M h h'→h'[b]? =some (.cells (AY sl w.isSome val B ow) bZ (0,0)):=fun k=>(st k).get0 P
 have o:∀{h'},Upd M h h'→∀y,h'.size≤y→M y:=fun k y hy=>hM y (bj k.size hy)
 have hsz:sl.size=lab.length:=by rw[←E];simp
 have u:=hs.len;rw[hL.1]at u;unfold jN at hx J;rw[zq]at hx J;simp only at hx J;rw[ac]at hx;have G:(uA lab w c.toL.length).length=2+lab.length+((wW w).length+2):=by
  unfold uA;rw[ac,ac,ko,dS,D,hsz]
 refine⟨_,rfl,sl,dY (i:=0) (blk (Upd.refl M h)),?_⟩;refine Hc (W:=No) (ho.sl fun _ _ _ h=>h) ho.cap sl (by omega) (by omega) fun s2 h2 C S=>?_
 have C:=C.more hM;have d:Upd M h h2:=S.wide;refine Join.intro (fun t h'=>OwnS qI 1 cM M h' t (xs++pH sl++(wW w))∧Upd M h h') (fun R N=>⟨_,rfl,w.isSome,dY (i:=1) (blk d),?_⟩) ?_
 ·cases w with
  |none=>
   refine aj.2 (bP ?_);refine xK (b:=0) rfl C (o d) ?_ fun s3 O n f=>N _ _ ⟨n,d.tr f⟩
   rw[ac,ko];simp only[wW,aE]at G;omega
  |some v=>
   have Z:=vw hv v rfl;subst Z;have hvs:=hw val rfl;simp only[wW,ao,ko]at G;have k3:Upd M h (hnew h2 [.int .u8 1] cM):=d.tr (Upd.hnew M h2 _ _);refine au.2 ⟨_,rfl,val,dY (i:=2) (blk d),bP ⟨dY (i:=2) (blk k3),?_⟩⟩;refine xK (b:=1) rfl C (o d) (by rw[ac,ko];omega) fun s3 O n f=>⟨dY (i:=2) (blk (d.tr f)),?_⟩
   refine Hc (W:=No) (n.sl fun _ _ _ h=>h) n.cap val (by omega) (by rw[ac,ac,ko,aE];omega) fun s4 h4 j A=>N _ _ ⟨?_,(d.tr f).tr A.wide⟩
   have j:=j.more (o (d.tr f));simp only[wW,ar,List.singleton_append]at j⊢;exact j
 ·rintro s3 O ⟨n,f⟩
  have e8:dG (B.len:Int) (2^(min (8:Int).toNat (IntKind.bits .i64)))=((c.toL.length>>>8:Nat):Int):=by
   have:(2^(min (8:Int).toNat (IntKind.bits .i64)):Int)=2^8:=rfl;rw[this,u,oq]
  refine Join.intro (fun t h'=>OwnS qI 1 cM M h' t (xs++uA lab w c.toL.length)∧Upd M h h') (fun R N=>⟨_,rfl,B,dY (i:=3) (blk f),_,rfl,B,dY (i:=3) (blk f),by omega,?_⟩) ?_
  ·simp only[Bd]
   rw[e8];have k4:Upd M h (hnew O [.int .u8 (IntKind.wrap .u8 (B.len:Int)),.int .u8 (IntKind.wrap .u8 ((c.toL.length>>>8:Nat):Int))] cM):=f.tr (Upd.hnew M O _ _);refine bP ⟨dY (i:=3) (blk k4),dY (i:=3) (blk k4),?_⟩;refine Ze (ys:=ol c.toL.length 2) ?_ rfl n (o f) ?_ fun s5 h5 F p=>⟨dY (i:=3) (blk (f.tr p)),dY (i:=3) (blk (f.tr p)),N _ _ ⟨?_,f.tr p⟩⟩
   ·rw[u,IntKind.wrap_u8,IntKind.wrap_u8]
    simp[ol,List.range_succ]
   ·rw[ac,ac,ko,dS];omega
   ·unfold uA
    rw[D,←ar,←ar];exact F
  ·rintro s4 h4 ⟨j,A⟩
   refine⟨_,rfl,B,dY (i:=3) (blk A),?_⟩;have hs4:∀{h'},Upd M h h'→Sl pj 1 W h' B ks:=fun k=>hs.upd (st k) fun _ h=>h.elim
   refine LoopP.ghost (fun(i:Nat) (t:SliceV×Int) h'=>t.2=(i:Int)∧i≤c.toL.length∧OwnS qI 1 cM M h' t.1 (xs++uA lab w c.toL.length++(c.toL.take i).flatMap jN)∧Upd M h h') (fun i=>c.toL.length-i) 0 ⟨rfl,aS _,by simpa using j,A⟩ ?_
   rintro I i ⟨so,ti⟩ h' ⟨e1,hi,x,q⟩ hI;simp only at e1 x;subst e1;have z:∀g:i<c.toL.length,((c.toL.take i).flatMap jN).length+(jN c.toL[i]).length≤(c.toL.flatMap jN).length:=fun g=>by
    have e:c.toL=c.toL.take i++c.toL[i]::c.toL.drop (i+1):=by rw[rS,aI]
    have:=congrArg (fun L=>(List.flatMap jN L).length) e
    simp only[bO,aO,ac]at this;omega
   refine az (fun g=>?_) fun Y=>?_
   ·have g:i<c.toL.length:=by have:(i:Int)<(B.len:Int):=g;omega
    obtain⟨kb,ksl,V,hkl,Q⟩:=hL.at g;obtain⟨a,ha,_,U⟩:=(hs4 q).at0 V;have hsp:=z g;refine⟨⟨by simp only;omega,by simp only;omega⟩,a,ha,some ⟨kb,0,none⟩,U,?_⟩
    refine ih _ (aZ g) Q hkl (st q) H x (o q) (by rw[ac,ac];omega) fun s5 h5 F p=>?_
    rw[dd g (by omega)];refine hI (i+1) _ _ ⟨rfl,g,?_,q.tr p⟩ (by omega);rw[aX g,bO,aO,jl,aL,←ar];exact F
   ·have X:i=c.toL.length:=by have:¬(i:Int)<(B.len:Int):=Y;omega
    subst X;rw[bS]at x;refine J _ _ ?_ q;rw[←ar];exact x
theorem MU{W:Nat→Prop}:∀{F:Fo},N5 F→∀n∈F.toL,ab8 W n
 | .nil,_,n,a=>by simp[Fo.toL]at a
 | .cons lab w kids rest,h,n,a=>by
  rcases aA.1 a with rfl|a
  ·exact Wp h.1 h.2.1 h.2.2.1 (MU h.2.2.2.1)
  ·exact MU h.2.2.2.2 n a
structure RadAt(W:Nat→Prop)(h:ae)(b:Nat)(l:List Pr):Prop where
 ex:∃w F,RxN W h b ⟨#[]⟩ w F∧fV F∧∀k v,(k,v)∈wZ w F↔∃p∈l,p.1.data.toList=k∧p.2=v
theorem RadAt.upd0{W:Nat→Prop}{h h':ae}{b:Nat}{l:List Pr}(k:Upd No h h')(r:RadAt W h b l):RadAt W h' b l:=by
 obtain⟨w,F,a,d,c⟩:=r.ex;exact⟨w,F,a.upd0 k,d,c⟩
theorem RadAt.less{W W':Nat→Prop}{h:ae}(hm:∀b,W' b→W b∨h.size≤b){b:Nat}{l:List Pr}(r:RadAt W h b l):RadAt W' h b l:=by
 obtain⟨w,F,a,d,c⟩:=r.ex;exact⟨w,F,a.less hm,d,c⟩
theorem RadAt.updM{W M:Nat→Prop}{h h':ae}(k:Upd M h h')(hm:∀b,M b→W b∨h.size≤b){b:Nat}{l:List Pr}(r:RadAt W h b l):RadAt W h' b l:=by
 obtain⟨w,F,a,d,c⟩:=r.ex;exact⟨w,F,a.updM k hm,d,c⟩
def Td(l:List Pr):List (List UInt8×ByteArray):=l.map fun p=>(p.1.data.toList,p.2)
theorem ZR{l:List Pr}(c:cf l):Up (Td l):=by
 unfold Td Up;rw[rP];refine List.Pairwise.imp (R:=fun p q:Pr=>kl p.1 q.1) (fun{a b} h=>?_) c
 rw[Nj,ByteArray.toList_eq,ByteArray.toList_eq]at h;exact h
theorem Tc:∀{l l':List Pr},Td l=Td l'→l=l'
 | [],[],_=>rfl
 | [],_::_,h=>by simp[Td]at h
 |_::_,[],h=>by simp[Td]at h
 |p::l,q::l',h=>by
  unfold Td at h;simp only[List.map_cons,eT.injEq,qd.injEq]at h;obtain⟨⟨c,h2⟩,d⟩:=h;have e:p.1=q.1:=by
   generalize p.1=a at c;generalize q.1=b at c;cases a;cases b;exact congrArg mP (kA.1 c)
  rw[Tc d,ya e h2]
theorem M0{w:Option ByteArray}{F:Fo}{l:List Pr}(hc:fV F)(b:cf l)(f:∀k v,(k,v)∈wZ w F↔∃p∈l,p.1.data.toList=k∧p.2=v):wZ w F=Td l:=by
 refine V7 (Tv hc) (ZR b) fun p=>?_
 have:=f p.1 p.2;rw[show(p.1,p.2)=p from rfl]at this
 rw[this];unfold Td;rw[gi];constructor
 ·rintro⟨q,a,d,c⟩;exact⟨q,a,ya d c⟩
 ·rintro⟨q,a,e⟩;rw[←e];exact⟨q,a,rfl,rfl⟩
theorem Wz{w b:Option ByteArray}{F F':Fo}(hc:fV F)(a:fV F')(h:wZ w F=wZ b F'):w=b∧F=F':=by
 have hm:∀k v,tW w F k v↔tW b F' k v:=fun k v=>by rw[←jR,←jR,h]
 refine⟨Option.ext fun v=>?_,Sf hc a fun k v=>?_⟩
 ·have:=hm [] v
  constructor
  ·intro e
   rcases this.1 (.inl ⟨rfl,e⟩)with⟨_,h⟩|h
   ·exact h
   ·exact absurd rfl (qm a h)
  ·intro e
   rcases this.2 (.inl ⟨rfl,e⟩)with⟨_,h⟩|h
   ·exact h
   ·exact absurd rfl (qm hc h)
 ·constructor
  ·intro hi
   rcases(hm k v).1 (.inr hi)with⟨e,_⟩|h
   ·exact absurd e (qm hc hi)
   ·exact h
  ·intro hi
   rcases(hm k v).2 (.inr hi)with⟨e,_⟩|h
   ·exact absurd e (qm a hi)
   ·exact h
end Go.Proofs
