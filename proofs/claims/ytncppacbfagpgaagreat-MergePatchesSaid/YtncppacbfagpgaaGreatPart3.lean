/- A part of the proof that the named laws of this program answer true, whatever the input. -/
import Derived.Test.YtncppacbfagpgaaGreatPart2
import Derived.Test.YtncppacbfagpgaaGreatPart1
open Array renaming toList_inj→jx
open ByteArray renaming mk→lQ,data_extract→qA
open Iff renaming rfl→w9
open Int renaming le_refl→uS,fdiv→dT,toNat_natCast→aX
open List renaming length_nil→aJ,length_append→ac,length_singleton→aR,append_assoc→al,length_cons→ak,getElem_mem→bN,mem_of_mem_take→kj,take_append_drop→aZ,take_succ_eq_append_getElem→ce,flatMap_append→bO,flatMap_cons→aI,flatMap_nil→kU,append_nil→aK,take_length→cS,cons_append→cH,append_inj→sw,cons→gU,mem_cons_self→ao,mem_cons_of_mem→aC,pairwise_cons→aG,mem_cons→az,mem_append→bi,length_take→aQ,zip_eq_zipWith→ot,length_drop→aU,set_eq_take_append_cons_drop→dD,pairwise_iff_getElem→cn,extract_eq_take_drop→ij,length→gv,mem_map→iH,pairwise_append→cg,pairwise_map→mF,lt_irrefl→tX
open List.Lex renaming nil→w8
open List.Pairwise renaming nil→gP
open Nat renaming le_trans→bc,mul_le_mul_left→gS,mul_le_mul_right→dN,add_mul→ni,not_lt_zero→ss,zero_le→bw,le_refl→aq,shiftRight_eq_div_pow→ii,mod_eq_of_lt→iz,lt_or_ge→ct,zero_add→aP,le_of_eq→eI,lt_irrefl→l9
open Option renaming some→bR,mem_toList→qq,map_eq_some_iff→lN
open Prod renaming ext→vZ,mk→rz
namespace Go.Proofs
open Go Go.Lift
theorem MJ{h:ad}{b d n:Nat}{sp sk:SliceV}{bu:Bool}{ow:Option Addr}(hb:h[b]? =some (.cells (fg d n sp sk bu ow) bD (0,0))) (hl:sp.len+sk.len≤1000000000) {K:Int→ad→Prop} (hk:K ((sp.len+sk.len:Nat):Int) h):HC PG lU [.pointer (some ⟨b,0,none⟩)] [.c (.int .i64)] K h:=by
 refine xf _ ?_;unfold sr cd;refine aj.2 ⟨_,rfl,sp,eJ (i:=2) hb,_,rfl,sk,eJ (i:=3) hb,?_⟩;rw[d8 (by omega)];exact_mod_cast hk
def Bes(M:Nat→Prop)(h h1:ad)(b:Nat):Prop:=M b∧(b<h.size∨h1.size≤b)
theorem Bes.own{α:Type}{f:α→List Value}{sz:Nat}{t:TypeId}{M:Nat→Prop}{h h1:ad}{s:SliceV}{xs:List α}(ho:OwnS f sz t M h s xs)(hu:Upd No h h1):OwnS f sz t (Bes M h h1) h1 s xs:=
 (ho.within.upd hu fun _ _ h=>h).more fun _ hb=>⟨hb.1,.inl hb.2⟩
theorem Bes.sl{α:Type}{f:α→List Value}{sz:Nat}{t:TypeId}{M:Nat→Prop}{h h1:ad}{s:SliceV}{xs:List α}(ho:OwnS f sz t (fun x=>h.size≤x) h1 s xs):Sl f sz (Bes M h h1) h1 s xs:=
 ho.sl fun b hb hlt hx=>by rcases hx.2 with h|h<;>omega
theorem Bes.hM{M:Nat→Prop}{h h1:ad}(hM:∀b,h.size≤b→M b)(hu:Upd No h h1):∀b,h1.size≤b→Bes M h h1 b:=fun b hb=>⟨hM b (bc hu.size hb),.inr hb⟩
theorem QS{W:Nat→Prop}{x:Hs}:∀(m:Nat),m≤13→∀{b:Nat} {l:List Pr} {h0 h:ad} {M:Nat→Prop} {s:SliceV} {xs:List UInt8},TrieAt W x h0 m b l→Upd No h0 h→(∀y,M y→h0.size≤y)→OwnS vj 1 fq M h s xs→(∀y,h.size≤y→M y)→Fit l→l.length≤60000→
  xs.length+(9+l.length*(20004+9*(m+1)))≤140737488355328→∀{K:SliceV→ad→Prop},(∀s' h',OwnS vj 1 fq M h' s' (xs++lq x m l)→Upd M h h'→K s' h')→
  HC PG ui [.slice s.a s.len s.cap,.pointer (some ⟨b,0,none⟩),.int .i64 ((13-m:Nat):Int)] [.c .slice] K h:=by
 intro m;induction m with
 |zero=>
  intro _ b l h0 h M s xs t hu0 hM0 ho hM hf hn hx K hk;refine DC s (some ⟨b,0,none⟩) ((13-0:Nat):Int) ?_;unfold yg ay cj bX Qv kQ O5 Sx;have st:∀{h'},Upd M h h'→Upd No h0 h':=fun k=>hu0.trans k fun y hy=>.inr (hM0 y hy)
  have bk:∀{h'},Upd M h h'→BuckAt W h' b l:=fun k=>BuckAt.upd t (st k) fun _ h=>h.elim
  have hM':∀{h'},Upd M h h'→∀y,h'.size≤y→M y:=fun k y hy=>hM y (bc k.size hy)
  obtain⟨sp,sk,ow,hb,_⟩:=(bk (Upd.refl M h)).ex;refine gY hb (av.2 (bq ?_));refine vG (b:=1) rfl ho hM (by omega) fun s1 h1 ho1 hu1=>?_
  obtain⟨sp1,sk1,ow1,hb1,hsp1,hsk1,_⟩:=(bk hu1).ex;have e1:=hsp1.len;have e2:=hsk1.len;rw[aJ]at e2;refine MJ hb1 (by omega) ?_;have ew:IntKind.wrap .u64 ((sp1.len+sk1.len:Nat):Int)=((l.length:Nat):Int):=by rw[Go.IntWalk.u64_in _ (by omega)];omega
  rw[ew];have hl2:l.length*20004≤l.length*(20004+9*(0+1)):=gS _ (by omega);refine MS ho1 (hM' hu1) (n:=l.length) (k:=2) (by omega) (by omega) (by rw[ac,aR];omega) fun s2 h2 ho2 hu2=>?_
  have hu02:=hu1.tr hu2;obtain⟨sp2,sk2,ow2,hb2,hsp2,_⟩:=(bk hu02).ex;refine sZ hb2 hsp2 (by omega) fun s3 h3 ho3 hu3=>?_
  refine EW (M:=Bes M h2 h3) (W:=Bes M h2 h3) (Bes.own ho2 hu3) (Bes.hM (hM' hu02) hu3) (Bes.sl ho3) (fun _ h _=>h) hf (by omega) (by rw[ac,ac,aR,gj];omega) fun s4 h4 ho4 hu4=>?_
  refine hk s4 h4 ?_ (hu02.tr (hu3.wide.tr (hu4.mono fun y hy=>.inl hy.1)))
  have:=ho4.more (M':=M) fun y hy=>hy.1
  rw[lq,List.append_cons,←al];exact this
 |succ m ih=>
  intro hm b l h0 h M s xs t hu0 hM0 ho hM hf hn hx K hk;refine DC s (some ⟨b,0,none⟩) ((13-(m+1):Nat):Int) ?_;unfold yg ay cj bX Qv kQ O5 Sx;have st:∀{h'},Upd M h h'→Upd No h0 h':=fun k=>hu0.trans k fun y hy=>.inr (hM0 y hy)
  have hM':∀{h'},Upd M h h'→∀y,h'.size≤y→M y:=fun k y hy=>hM y (bc k.size hy)
  obtain⟨sl,nd,hs0⟩:=t;have hs:∀c,c<32→SlotIs W x h0 m sl c (part x (12-m) c l):=hs0;have hd:∀{h'},Upd M h h'→∃d n sp sk ow,h'[b]? =some (.cells (fg d n sp sk false ow) bD (0,0))∧d=qh (fun c=>(xp (part x (12-m) c l)).isSome) 32∧n=qh (fun c=>(sI (part x (12-m) c l)).isSome) 32∧Sl eu 2 W h' sp (kN x (12-m) l)∧Sl rH 1 W h' sk (fm sl.k 32):=fun{h'} k=>by
   obtain⟨d,n,sp,sk,ow,hb,bits,h3,h4,_⟩:=(nd.upd (st k) fun _ h=>h.elim).ex
   refine⟨d,n,sp,sk,ow,hb,HX bits.d32 fun c hc=>?_,HX bits.n32 fun c hc=>?_,?_,h4⟩
   ·rw[bits.dp c hc,(Mf (hs c hc)).1]
   ·rw[bits.nk c hc,(Mf (hs c hc)).2]
   ·rw[←Il hs];exact h3
  have hka:KidsAt W x h0 m (fm sl.k 32) (pH x (12-m) l):=MY 32 hs;have hlen:=wg (x:=x) (m+1) hf;have hlen2:=hlen;have hml:∀L∈pH x (12-m) l,Fit L∧L.length≤60000:=fun L hL=>by
   obtain⟨_,c,rfl⟩:=qR hL;exact⟨hf.part,bc mV hn⟩
  have hsf:Fit (kN x (12-m) l):=fun p hp=>hf p (sQ hp)
  have hsl:=yp x (12-m) l;unfold lq at hk hlen;have ebits:∀q:Nat→Bool,qh q 32<4294967296:=fun q=>tG q 32
  have hd32:=ebits fun c=>(xp (part x (12-m) c l)).isSome
  have hn32:=ebits fun c=>(sI (part x (12-m) c l)).isSome
  generalize qh (fun c=>(xp (part x (12-m) c l)).isSome) 32=D at hk hd hlen hd32
  generalize qh (fun c=>(sI (part x (12-m) c l)).isSome) 32=N at hk hd hlen hn32
  have hS:(kN x (12-m) l).length≤60000:=by omega
  have hSb:(kN x (12-m) l).length*20004≤l.length*(20004+9*(m+1+1)):=Nat.mul_le_mul (by omega) (by omega);have hML:∀L∈pH x (12-m) l,2≤L.length∧(lq x m L).length≤9+L.length*(20004+9*(m+1)):=fun L hL=>by
   obtain⟨h3,c,rfl⟩:=qR hL;exact⟨h3,wg m hf.part⟩
  have hbud:9+(kN x (12-m) l).length*20004+(pH x (12-m) l).flatten.length*(20004+9*(m+1)+9)≤9+l.length*(20004+9*(m+1+1)):=by
   have h5:(kN x (12-m) l).length*20004≤(kN x (12-m) l).length*(20004+9*(m+1+1)):=gS _ (by omega);have h6:((kN x (12-m) l).length+(pH x (12-m) l).flatten.length)*(20004+9*(m+1+1))≤l.length*(20004+9*(m+1+1)):=dN _ hsl;rw[ni]at h6;have h7:20004+9*(m+1)+9=20004+9*(m+1+1):=by omega
   rw[h7];omega
  have hps:=tc hsf;generalize kN x (12-m) l=So at hk hd hsf hS hSb hbud hlen hps;generalize pH x (12-m) l=Ma at hk hka hml hML hbud hlen;obtain⟨d,n,sp,sk,ow,hb,_⟩:=hd (Upd.refl M h);refine gY hb (aj.2 (Join.intro (fun s' h'=>OwnS vj 1 fq M h' s' (xs++(0::(qT D 4++qT N 4)))∧Upd M h h') (fun R hR=>bq ?_) ?_))
  ·refine vG (b:=0) rfl ho hM (by omega) fun s1 h1 ho1 hu1=>?_
   obtain⟨d1,n1,sp1,sk1,ow1,hb1,rfl,rfl,_⟩:=hd hu1;refine ON hb1 ?_;rw[Go.IntWalk.u64_in _ (by omega)];refine MS ho1 (hM' hu1) (n:=d1) (k:=4) (by omega) (by omega) (by rw[ac,aR];omega) fun s2 h2 ho2 hu2=>?_
   obtain⟨d2,n2,sp2,sk2,ow2,hb2,rfl,rfl,_⟩:=hd (hu1.tr hu2);refine Fa hb2 ?_;rw[Go.IntWalk.u64_in _ (by omega)];refine MS ho2 (hM' (hu1.tr hu2)) (n:=n2) (k:=4) (by omega) (by omega) (by rw[ac,ac,aR,gj];omega) fun s3 h3 ho3 hu3=>?_
   refine hR _ _ ⟨?_,(hu1.tr hu2).tr hu3⟩;rw[List.append_cons,←al];exact ho3
  ·rintro s' h1 ⟨ho1,hu1⟩
   obtain⟨d1,n1,sp1,sk1,ow1,hb1,_,_,hsp1,_⟩:=hd hu1;refine sZ hb1 hsp1 (by omega) fun s2 h2 ho2 hu2=>?_
   refine EW (M:=Bes M h1 h2) (W:=Bes M h1 h2) (Bes.own ho1 hu2) (Bes.hM (hM' hu1) hu2) (Bes.sl ho2) (fun _ h _=>h) hsf (by omega) (by rw[ac,ak,ac,gj,gj];omega) fun s3 h3 ho3 hu3=>?_
   have ho3:=ho3.more (M':=M) fun y hy=>hy.1
   have hu03:Upd M h h3:=hu1.tr (hu2.wide.tr (hu3.mono fun y hy=>.inl hy.1))
   have e13:(((13-(m+1):Nat):Int)==(13:Int))=false:=by rw[beq_eq_false_iff_ne];omega
   rw[e13];refine aj.2 ?_;obtain⟨d3,n3,sp3,sk3,ow3,hb3,_,_,_,hsk3⟩:=hd hu03;have hk32:=yW (g:=sl.k);refine OE hb3 hsk3 (by omega) fun s4 h4 ho4 hu4=>?_
   have hsk4:Sl rH 1 (Bes M h3 h4) h4 s4 (fm sl.k 32):=Bes.sl ho4;have hlk:=hsk4.len;have ew:IntKind.wrap .i64 (((13-(m+1):Nat):Int)+1)=((13-m:Nat):Int):=by rw[d8 (by omega)];omega
   rw[ew];have hMb:=Bes.hM (hM' hu03) hu4;have hob:=Bes.own ho3 hu4;have hu04:Upd M h h4:=hu03.tr hu4.wide;have hMM:∀y,Bes M h3 h4 y→M y:=fun y hy=>hy.1
   have st4:∀{h'},Upd (Bes M h3 h4) h4 h'→Upd M h h':=fun k=>hu04.tr (k.mono fun y hy=>.inl hy.1)
   generalize Bes M h3 h4=B at hsk4 hMb hob hMM st4;have hkl:∀{ks:List (Option Addr)} {ls:List (List Pr)},KidsAt W x h0 m ks ls→ks.length=ls.length∧∀i (hi:i<ls.length),∃kb,ks[i]? =some (some ⟨kb,0,none⟩)∧TrieAt W x h0 m kb ls[i]:=by
    intro ks;induction ks with
    |nil=>intro ls;cases ls with
     |nil=>intro _;exact⟨rfl,fun i hi=>absurd hi (ss _)⟩
     |cons a ls=>intro h;exact h.elim
    |cons k ks ihk=>intro ls;cases ls with
     |nil=>intro h;exact h.elim
     |cons a ls=>
      rintro⟨⟨kb,rfl,tk⟩,h⟩;obtain⟨e,hr⟩:=ihk h;refine⟨by simp[e],fun i hi=>?_⟩
      cases i with
      |zero=>exact⟨kb,rfl,tk⟩
      |succ i=>simp only[List.getElem?_cons_succ,List.getElem_cons_succ];exact hr i (by simpa using hi)
   obtain⟨hkl,hkt⟩:=hkl hka;have hbase:(xs++(0::(qT D 4++qT N 4))++oc So).length≤xs.length+(9+So.length*20004):=by
    rw[ac,ac,ak,ac,gj,gj];omega
   refine LoopP.ghost (fun(i:Nat) (t:SliceV×Int) h'=>t.2=(i:Int)∧i≤Ma.length∧OwnS vj 1 fq B h' t.1 (xs++(0::(qT D 4++qT N 4))++oc So++(Ma.take i).flatMap (lq x m))∧Upd B h4 h') (fun i=>Ma.length-i) 0 ⟨rfl,bw _,by simpa using hob,Upd.refl _ _⟩ ?_
   rintro I i ⟨so,ti⟩ h' ⟨e1,hi,ho',hu'⟩ hI;simp only at e1 ho';subst e1;refine aA (fun hlt=>?_) fun hge=>?_
   ·have hlt:i<Ma.length:=by have:(i:Int)<(s4.len:Int):=hlt;omega
    obtain⟨kb,hk1,tk⟩:=hkt i hlt;obtain⟨a,ha,_,hv⟩:=(hsk4.upd hu' fun y hy=>.inl hy).at0 hk1
    refine⟨⟨by simp only;omega,by simp only;omega⟩,a,ha,some ⟨kb,0,none⟩,hv,?_⟩
    have hmem:Ma[i]∈Ma:=bN hlt;have htl:=Ih (f:=lq x m) (ls:=Ma.take i) (B:=20004+9*(m+1)) fun L hL=>hML L (kj hL)
    have hsp:(Ma.take i).flatten.length+Ma[i].length≤Ma.flatten.length:=by
     have e:Ma=Ma.take i++Ma[i]::Ma.drop (i+1):=by rw[List.getElem_cons_drop,aZ]
     have:=congrArg (fun L=>(List.flatten L).length) e
     simp only[List.flatten_append,List.flatten_cons,ac]at this;omega
    have hsp2:=dN (20004+9*(m+1)+9) hsp;rw[ni]at hsp2;have h2l:=(hML _ hmem).1;have hone:9+Ma[i].length*(20004+9*(m+1))≤Ma[i].length*(20004+9*(m+1)+9):=by rw[Nat.mul_add (Ma[i].length) (20004+9*(m+1)) 9];omega
    refine ih (by omega) tk (hu0.trans (st4 hu') fun y hy=>.inr (hM0 y hy)) (fun y hy=>hM0 y (hMM y hy)) ho' (fun y hy=>hMb y (bc hu'.size hy)) (hml _ hmem).1 (hml _ hmem).2 (by rw[ac];omega) fun s5 h5 ho5 hu5=>?_
    rw[gR hlt (by omega)];refine hI (i+1) _ _ ⟨rfl,hlt,?_,hu'.tr hu5⟩ (by omega);rw[ce hlt,bO,aI,kU,aK,←al];exact ho5
   ·have hil:i=Ma.length:=by have:¬(i:Int)<(s4.len:Int):=hge;omega
    subst hil;rw[cS]at ho';refine hk _ _ ?_ (st4 hu');have:=ho'.more hMM;simp only[al,cH]at this⊢;exact this
end Go.Proofs
namespace Go.Proofs
open Go Go.Lift
theorem SQ{W:Nat→Prop}{x:Hs}{h:ad}{b:Nat}{l:List Pr}(t:TrieAt W x h 13 b l)(hf:Fit l)(hn:l.length≤60000){K:SliceV→ad→Prop}(hk:∀s' h',OwnS vj 1 fq (fun y=>h.size≤y) h' s' (lq x 13 l)→Upd No h h'→K s' h'):HC PG zN [.pointer (some ⟨b,0,none⟩)] [.c .slice] K h:=by
 refine ND _ ?_;unfold F5;refine aj.2 ?_;have hb:l.length*(20004+9*(13+1))≤60000*(20004+9*(13+1)):=dN _ hn;exact QS (x:=x) 13 (aq _) (s:=⟨none,0,0⟩) (xs:= []) (M:=fun y=>h.size≤y) t (Upd.refl _ _) (fun _ h=>h) (OwnS.nil Cv) (fun _ h=>h) hf hn (by rw[aJ];omega) fun s' h' ho hu=>hk s' h' ho (hu.mono fun y hy=>.inr hy)
theorem Np{W W':Nat→Prop}{h:ad}{s s':SliceV}{xs ys:List UInt8}(hs:Sl vj 1 W h s xs)(hs':Sl vj 1 W' h s' ys){K:Bool→ad→Prop}(hk:K (decide (xs=ys)) h):HC PG u5 [.slice s.a s.len s.cap,.slice s'.a s'.len s'.cap] [.c .bool] K h:=by
 refine GR s s' ?_;unfold zi;have h1:=hs.srow;have h2:=hs'.srow;rw[Nat.mul_one]at h1 h2;refine⟨⟨xs.toArray⟩,by rw[ur];exact h1,⟨ys.toArray⟩,by rw[ur];exact h2,?_⟩
 have:((⟨xs.toArray⟩:ByteArray).toList==(⟨ys.toArray⟩:ByteArray).toList)=decide (xs=ys):=by
  rw[ByteArray.toList_eq,ByteArray.toList_eq,Bool.eq_iff_iff,beq_iff_eq,decide_eq_true_iff]
 rw[this];exact hk
theorem KK:∀{a b:Nat} (k:Nat),qT a k=qT b k→a%2^(8*k)=b%2^(8*k)
 |_,_,0,_=>by simp[Nat.mod_one]
 |a,b,k+1,h=>by
  rw[yz,yz]at h;obtain⟨h1,h2⟩:=sw h (by rw[gj,gj]);have ih:=KK k h1;have h3:=congrArg UInt8.toNat (gU.inj h2).1;rw[UInt8.toNat_ofNat',UInt8.toNat_ofNat',ii,ii]at h3;have e:2^(8*(k+1))=2^(8*k)*2^8:=by rw[Nat.mul_add,Nat.pow_add]
  rw[e,Nat.mod_mul,Nat.mod_mul,ih,h3]
theorem vr{a b k:Nat}{r r':List UInt8}(ha:a<2^(8*k))(hb:b<2^(8*k))(h:qT a k++r=qT b k++r'):a=b∧r=r':=by
 obtain⟨h1,h2⟩:=sw h (by rw[gj,gj]);have:=KK k h1;rw[iz ha,iz hb]at this;exact⟨this,h2⟩
theorem yo{a b:ByteArray}{r r':List UInt8}(ha:a.size≤10000)(hb:b.size≤10000)(h:xa a++r=xa b++r'):a=b∧r=r':=by
 unfold xa at h;rw[al,al]at h;obtain⟨h1,h2⟩:=vr (k:=2) (by omega) (by omega) h;obtain⟨h3,h4⟩:=sw h2 (by simpa using h1);refine⟨?_,h4⟩;cases a;cases b;exact congrArg lQ (jx.1 h3)
theorem zE:∀{l l':List Pr} {r r':List UInt8},Fit l→Fit l'→l.length=l'.length→oc l++r=oc l'++r'→l=l'∧r=r'
 | [],[],_,_,_,_,_,h=>⟨rfl,h⟩
 | [],_::_,_,_,_,_,e,_=>by simp at e
 |_::_,[],_,_,_,_,e,_=>by simp at e
 |p::l,q::l',r,r',hf,hf',e,h=>by
  unfold oc at h;rw[aI,aI,E9,E9]at h;simp only[al]at h;have h1:=hf p (ao ..);have h2:=hf' q (ao ..);obtain⟨e1,h⟩:=yo h1.1 h2.1 h;obtain⟨e2,h⟩:=yo h1.2 h2.2 h;obtain⟨e3,h⟩:=zE (l:=l) (l':=l') (fun z hz=>hf z (aC _ hz)) (fun z hz=>hf' z (aC _ hz)) (by simpa using e) h
  exact⟨by rw[e3,vZ e1 e2],h⟩
theorem Ep{β γ:Type}{g:Nat→Option β}{g':Nat→Option γ}:∀n,(∀c,c<n→(g c).isSome=(g' c).isSome)→(fm g n).length=(fm g' n).length
 |0,_=>rfl
 |n+1,h=>by
  rw[sK,sK,ac,ac,Ep n fun c hc=>h c (by omega)]
  have:=h n (by omega);cases h1:g n<;>cases h2:g' n<;>rw[h1,h2]at this<;>first|rfl|cases this
theorem Fw{β:Type}{g g':Nat→Option β}:∀n,(∀c,c<n→(g c).isSome=(g' c).isSome)→fm g n=fm g' n→∀c,c<n→g c=g' c
 |0,_,_,c,hc=>absurd hc (ss _)
 |n+1,h,e,c,hc=>by
  rw[sK,sK]at e;obtain⟨e1,e2⟩:=sw e (Ep n fun c hc=>h c (by omega))
  rcases ct c n with hl|hl
  ·exact Fw n (fun c hc=>h c (by omega)) e1 c hl
  ·have:c=n:=by omega
   subst this;cases h1:g c<;>cases h2:g' c<;>rw[h1,h2]at e2<;>simp at e2⊢
   exact e2
theorem vn:∀{l l':List Pr},bE l→bE l'→(∀p,p∈l↔p∈l')→l=l'
 | [],[],_,_,_=>rfl
 | [],q::l',_,_,h=>absurd ((h q).2 (ao ..)) (by simp)
 |p::l,[],_,_,h=>absurd ((h p).1 (ao ..)) (by simp)
 |p::l,q::l',hr,hr',h=>by
  have hr:=aG.1 hr;have hr':=aG.1 hr';have e:p=q:=by
   rcases az.1 ((h p).1 (ao ..))with e|hp
   ·exact e
   ·rcases az.1 ((h q).2 (ao ..))with e|hq
    ·exact e.symm
    ·exact absurd (fE (hr.1 q hq) (hr'.1 p hp)) (bW _)
  subst e;rw[vn hr.2 hr'.2 fun z=>?_]
  constructor
  ·intro hz
   rcases az.1 ((h z).1 (aC _ hz))with e|hz'
   ·exact absurd (hr.1 z hz) (by rw[e];exact bW _)
   ·exact hz'
  ·intro hz
   rcases az.1 ((h z).2 (aC _ hz))with e|hz'
   ·exact absurd (hr'.1 z hz) (by rw[e];exact bW _)
   ·exact hz'
theorem Kt{x:Hs}{lev:Nat}{l l':List Pr}(hr:bE l)(hr':bE l')(h:∀c,c<32→part x lev c l=part x lev c l'):l=l':=by
 refine vn hr hr' fun p=>?_
 have e:=h (ck x lev p.1) (ya ..);have h1:=mX (x:=x) (lev:=lev) (c:=ck x lev p.1) (l:=l) (p:=p);have h2:=mX (x:=x) (lev:=lev) (c:=ck x lev p.1) (l:=l') (p:=p);rw[e]at h1;constructor
 ·intro hp;exact(h2.1 (h1.2 ⟨hp,rfl⟩)).1
 ·intro hp;exact(h1.1 (h2.2 ⟨hp,rfl⟩)).1
theorem Pb{q q':List Pr}(h1:xp q=xp q')(h2:sI q=sI q'):q=q':=by
 match q,q' with
 | [],[]=>rfl
 | [a],[b]=>simp[xp]at h1;rw[h1]
 | [],[b]=>simp[xp]at h1
 | [a],[]=>simp[xp]at h1
 | [],b::c::q'=>simp[sI]at h2
 | [a],b::c::q'=>simp[sI]at h2
 |b::c::q',[]=>simp[sI]at h2
 |b::c::q',[a]=>simp[sI]at h2
 |a::b::q,c::d::q'=>simpa[sI]using h2
theorem Lc{f:List Pr→List UInt8}:∀{ls ls':List (List Pr)} {r r':List UInt8},ls.length=ls'.length→(∀L∈ls,∀L'∈ls',∀r r',f L++r=f L'++r'→L=L'∧r=r')→ls.flatMap f++r=ls'.flatMap f++r'→ls=ls'∧r=r'
 | [],[],_,_,_,_,h=>⟨rfl,h⟩
 | [],_::_,_,_,e,_,_=>by simp at e
 |_::_,[],_,_,e,_,_=>by simp at e
 |L::ls,L'::ls',r,r',e,hf,h=>by
  rw[aI,aI,al,al]at h;obtain⟨e1,h⟩:=hf L (ao ..) L' (ao ..) _ _ h;obtain⟨e2,h⟩:=Lc (by simpa using e) (fun A hA B hB=>hf A (aC _ hA) B (aC _ hB)) h
  exact⟨by rw[e1,e2],h⟩
theorem EV{x:Hs}:∀(m:Nat) {l l':List Pr} {r r':List UInt8},Fit l→Fit l'→l.length≤60000→l'.length≤60000→bE l→bE l'→lq x m l++r=lq x m l'++r'→l=l'∧r=r'
 |0,l,l',r,r',hf,hf',hn,hn',_,_,h=>by
  unfold lq at h;rw[cH,cH,al,al]at h;obtain⟨e,h⟩:=vr (k:=2) (by omega) (by omega) (gU.inj h).2;exact zE hf hf' e h
 |m+1,l,l',r,r',hf,hf',hn,hn',hr,hr',h=>by
  unfold lq at h;simp only[cH,al]at h;obtain⟨b1,h⟩:=vr (k:=4) (tG _ 32) (tG _ 32) (gU.inj h).2;obtain⟨b2,h⟩:=vr (k:=4) (tG _ 32) (tG _ 32) h;have bits:∀{q q':Nat→Bool},qh q 32=qh q' 32→∀c,c<32→q c=q' c:=fun{q q'} e c hc=>by
   have:=congrArg (fun n=>n.testBit c) e
   simp only[Cy,decide_eq_true hc,Bool.true_and]at this;exact this
  have b1:=bits b1;have b2:=bits b2;obtain⟨e1,h⟩:=zE (fun p hp=>hf p (sQ hp)) (fun p hp=>hf' p (sQ hp)) (Ep 32 b1) h
  obtain⟨e2,h⟩:=Lc (Ep 32 b2) (fun L hL L' hL' r r' e=>by
   obtain⟨_,c,rfl⟩:=qR hL
   obtain⟨_,c',rfl⟩:=qR hL'
   exact EV m hf.part hf'.part (bc mV hn) (bc mV hn') (iZ hr) (iZ hr') e) h
  have s1:=Fw 32 b1 e1;have s2:=Fw 32 b2 e2;exact⟨Kt hr hr' fun c hc=>Pb (s1 c hc) (s2 c hc),h⟩
end Go.Proofs
namespace Go.Proofs
open Go Go.Lift
def B9(lab:ByteArray)(has:Bool)(val:ByteArray)(s:SliceV)(ow:Option Addr):Array Value:= #[.string lab,.bool has,.string val,sv s,.pointer ow]
theorem vw{w:Option ByteArray}{val:ByteArray}(h:val=w.getD ⟨#[]⟩):∀v,w=some v→val=v:=fun v e=>by rw[h,e];rfl
def RxF(W:Nat→Prop)(h:ad):Fo→List (Option Addr)→Prop
 | .nil,ks=>ks= []
 | .cons lab w kids rest,ks=>∃b sl val s ow ks1 ks',ks=some ⟨b,0,none⟩::ks'∧sl.data.toList=lab∧h[b]? =some (.cells (B9 sl w.isSome val s ow) cf (0,0))∧val=w.getD ⟨#[]⟩∧Sl rD 1 W h s ks1∧(s.len≤s.cap∧¬W b)∧RxF W h kids ks1∧RxF W h rest ks'
def RxN(W:Nat→Prop)(h:ad)(b:Nat)(sl:ByteArray)(w:Option ByteArray)(F:Fo):Prop:=∃val s ow ks,h[b]? =some (.cells (B9 sl w.isSome val s ow) cf (0,0))∧val=w.getD ⟨#[]⟩∧Sl rD 1 W h s ks∧(s.len≤s.cap∧¬W b)∧RxF W h F ks
def Kid(W:Nat→Prop)(h:ad)(k:Option Addr)(n:Bn):Prop:=∃b sl,k=some ⟨b,0,none⟩∧sl.data.toList=n.1∧RxN W h b sl n.2.1 n.2.2
def RxL(W:Nat→Prop)(h:ad)(ks:List (Option Addr))(L:List Bn):Prop:=ks.length=L.length∧∀p∈ks.zip L,Kid W h p.1 p.2
theorem lr{W:Nat→Prop}{h:ad}:∀{F:Fo} {ks:List (Option Addr)},RxF W h F ks↔RxL W h ks F.toL
 | .nil,ks=>by
  unfold RxF RxL;simp[Fo.toL]
 | .cons lab w kids rest,ks=>by
  unfold RxF RxL;rw[Fo.toL_cons];constructor
  ·rintro⟨b,sl,val,s,ow,ks1,ks',rfl,e1,e2,e3,e4,e5,e6,e7⟩
   obtain⟨e8,e9⟩:=lr.1 e7;refine⟨by simp[e8],fun p hp=>?_⟩
   rw[List.zip_cons_cons]at hp;rcases az.1 hp with rfl|hp
   ·exact⟨b,sl,rfl,e1,val,s,ow,ks1,e2,e3,e4,e5,e6⟩
   ·exact e9 p hp
  ·cases ks with
   |nil=>rintro⟨e,_⟩;simp at e
   |cons k ks'=>
    rintro⟨e,hp⟩;rw[List.zip_cons_cons]at hp;obtain⟨b,sl,e0,e1,val,s,ow,ks1,e2,e3,e4,e5,e6⟩:=hp _ (ao ..);refine⟨b,sl,val,s,ow,ks1,ks',by rw[←e0],e1,e2,e3,e4,e5,e6,lr.2 ⟨by simpa using e,fun p hp'=>hp p (aC _ hp')⟩⟩
theorem RxF.upd0{W:Nat→Prop}{h h':ad}(k:Upd No h h'):∀{F:Fo} {ks:List (Option Addr)},RxF W h F ks→RxF W h' F ks
 | .nil,_,r=>r
 | .cons _ _ _ _,_,⟨b,sl,val,s,ow,ks1,ks',e0,e1,e2,e3,e4,e5,e6,e7⟩=>⟨b,sl,val,s,ow,ks1,ks',e0,e1,k.get0 e2,e3,e4.upd k fun _ h=>h.elim,e5,RxF.upd0 k e6,RxF.upd0 k e7⟩
theorem RxN.upd0{W:Nat→Prop}{h h':ad}(k:Upd No h h'){b:Nat}{sl:ByteArray}{w:Option ByteArray}{F:Fo}:RxN W h b sl w F→RxN W h' b sl w F
 |⟨val,s,ow,ks,e2,e3,e4,e5,e6⟩=>⟨val,s,ow,ks,k.get0 e2,e3,e4.upd k fun _ h=>h.elim,e5,RxF.upd0 k e6⟩
theorem Kid.upd0{W:Nat→Prop}{h h':ad}(k:Upd No h h'){a:Option Addr}{n:Bn}:Kid W h a n→Kid W h' a n
 |⟨b,sl,e1,e2,e3⟩=>⟨b,sl,e1,e2,e3.upd0 k⟩
theorem RxF.less{W W':Nat→Prop}{h:ad}(hm:∀b,W' b→W b∨h.size≤b):∀{F:Fo} {ks:List (Option Addr)},RxF W h F ks→RxF W' h F ks
 | .nil,_,r=>r
 | .cons _ _ _ _,_,⟨b,sl,val,s,ow,ks1,ks',e0,e1,e2,e3,e4,e5,e6,e7⟩=>⟨b,sl,val,s,ow,ks1,ks',e0,e1,e2,e3,e4.less hm,⟨e5.1,fun hx=>(hm _ hx).elim e5.2 fun h=>by have:=aO e2;omega⟩,RxF.less hm e6,RxF.less hm e7⟩
theorem RxN.less{W W':Nat→Prop}{h:ad}(hm:∀b,W' b→W b∨h.size≤b){b:Nat}{sl:ByteArray}{w:Option ByteArray}{F:Fo}:RxN W h b sl w F→RxN W' h b sl w F
 |⟨val,s,ow,ks,e2,e3,e4,e5,e6⟩=>⟨val,s,ow,ks,e2,e3,e4.less hm,⟨e5.1,fun hx=>(hm _ hx).elim e5.2 fun h=>by have:=aO e2;omega⟩,RxF.less hm e6⟩
theorem RxF.updM{W M:Nat→Prop}{h h':ad}(k:Upd M h h')(hm:∀b,M b→W b∨h.size≤b):∀{F:Fo} {ks:List (Option Addr)},RxF W h F ks→RxF W h' F ks
 | .nil,_,r=>r
 | .cons _ _ _ _,_,⟨b,sl,val,s,ow,ks1,ks',e0,e1,e2,e3,e4,e5,e6,e7⟩=>⟨b,sl,val,s,ow,ks1,ks',e0,e1,k.get e2 (fun hx=>(hm _ hx).elim e5.2 fun h=>by have:=aO e2;omega),e3,e4.upd k hm,e5,RxF.updM k hm e6,RxF.updM k hm e7⟩
theorem RxN.updM{W M:Nat→Prop}{h h':ad}(k:Upd M h h')(hm:∀b,M b→W b∨h.size≤b){b:Nat}{sl:ByteArray}{w:Option ByteArray}{F:Fo}:RxN W h b sl w F→RxN W h' b sl w F
 |⟨val,s,ow,ks,e2,e3,e4,e5,e6⟩=>⟨val,s,ow,ks,k.get e2 (fun hx=>(hm _ hx).elim e5.2 fun h=>by have:=aO e2;omega),e3,e4.upd k hm,e5,RxF.updM k hm e6⟩
theorem RxL.upd0{W:Nat→Prop}{h h':ad}(k:Upd No h h'){ks:List (Option Addr)}{L:List Bn}(r:RxL W h ks L):RxL W h' ks L:=⟨r.1,fun p hp=>(r.2 p hp).upd0 k⟩
theorem RxL.app{W:Nat→Prop}{h:ad}{ks ks':List (Option Addr)}{L L':List Bn}(r:RxL W h ks L)(r':RxL W h ks' L'):RxL W h (ks++ks') (L++L'):=by
 refine⟨by rw[ac,ac,r.1,r'.1],fun p hp=>?_⟩
 rw[List.zip_append r.1]at hp;rcases bi.1 hp with hp|hp
 ·exact r.2 p hp
 ·exact r'.2 p hp
theorem RxL.one{W:Nat→Prop}{h:ad}{k:Option Addr}{n:Bn}(c:Kid W h k n):RxL W h [k] [n]:=⟨rfl,fun p hp=>by rw[List.zip_cons_cons,List.zip_nil_left]at hp;rw[List.mem_singleton.1 hp];exact c⟩
theorem RxL.take{W:Nat→Prop}{h:ad}{ks:List (Option Addr)}{L:List Bn}(r:RxL W h ks L)(i:Nat):RxL W h (ks.take i) (L.take i):=by
 refine⟨by rw[aQ,aQ,r.1],fun p hp=>r.2 p ?_⟩
 have:(ks.take i).zip (L.take i)=(ks.zip L).take i:=by rw[ot,ot,List.take_zipWith]
 rw[this]at hp;exact kj hp
theorem RxL.drop{W:Nat→Prop}{h:ad}{ks:List (Option Addr)}{L:List Bn}(r:RxL W h ks L)(i:Nat):RxL W h (ks.drop i) (L.drop i):=by
 refine⟨by rw[aU,aU,r.1],fun p hp=>r.2 p ?_⟩
 have:(ks.drop i).zip (L.drop i)=(ks.zip L).drop i:=by rw[ot,ot,List.drop_zipWith]
 rw[this]at hp;exact List.mem_of_mem_drop hp
theorem RxL.ins{W:Nat→Prop}{h:ad}{ks:List (Option Addr)}{L:List Bn}(r:RxL W h ks L)(i:Nat){k:Option Addr}{n:Bn}(c:Kid W h k n):RxL W h (ks.take i++k::ks.drop i) (L.take i++n::L.drop i):=by
 have:=(r.take i).app ((RxL.one c).app (r.drop i));exact this
theorem RxL.set{W:Nat→Prop}{h:ad}{ks:List (Option Addr)}{L:List Bn}(r:RxL W h ks L){i:Nat}(hi:i<L.length){k:Option Addr}{n:Bn}(c:Kid W h k n):RxL W h (ks.set i k) (L.set i n):=by
 have:=(r.take i).app ((RxL.one c).app (r.drop (i+1)));rw[dD,dD,if_pos (by rw[r.1];exact hi),if_pos hi];exact this
theorem RxL.at{W:Nat→Prop}{h:ad}{ks:List (Option Addr)}{L:List Bn}(r:RxL W h ks L){i:Nat}(hi:i<L.length):∃b sl,ks[i]? =some (some ⟨b,0,none⟩)∧sl.data.toList=L[i].1∧RxN W h b sl L[i].2.1 L[i].2.2:=by
 have hk:i<ks.length:=by rw[r.1];exact hi
 have hz:i<(ks.zip L).length:=by rw[List.length_zip];omega
 have:=r.2 _ (bN hz);rw[List.getElem_zip]at this;obtain⟨b,sl,e1,e2,e3⟩:=this;exact⟨b,sl,by rw[List.getElem?_eq_getElem hk];exact congrArg some e1,e2,e3⟩
theorem He:∀{L:List Bn} {c:Nat},L.Pairwise (fun m n=>hd m.1<hd n.1)→(∀n∈L,c≤hd n.1)→L= []∨c+L.length≤256
 | [],_,_,_=>.inl rfl
 |n::L,c,hp,hc=>by
  have hp:=aG.1 hp;have h0:=hc n (ao ..);have h1:=TS n.1;rcases He (c:=hd n.1+1) hp.2 fun m hm=>hp.1 m hm with e|e
  ·rw[e];right;simp only[aR];omega
  ·right;rw[ak];omega
theorem mC{F:Fo}(h:fS F):F.toL.length≤256:=by
 rcases He (c:=0) (ef.1 h).1 fun _ _=>bw _ with e|e
 ·rw[e];simp
 ·omega
theorem eo{h:ad}{b i:Nat}{c:Array Value}(hb:h[b]? =some (.cells c cf (0,0))):aS h (adr ⟨b,0,none⟩ i)=c[i]?:=by rw[ci,aP];exact bh hb
theorem Sp{h:ad}{b i:Nat}{c:Array Value}(hb:h[b]? =some (.cells c cf (0,0))) (hi:i<c.size):Wr h (adr ⟨b,0,none⟩ i):=by rw[ci,aP];exact iI hb hi
theorem Gn{h:ad}{b i:Nat}{c c':Array Value}{v:Value}{k:ad→Prop}(hb:h[b]? =some (.cells c cf (0,0))) (e:c.setIfInBounds i v=c') (hk:∀h',h'[b]? =some (.cells c' cf (0,0))→Upd (· =b) h h'→k h'):At (hset h (adr ⟨b,0,none⟩ i) v) k:=by
 rw[ci,aP];exact yb hb fun h' hb' hu=>hk h' (e▸hb') hu
theorem Rr(s:ByteArray)(i:Nat):s[i]? =s.data.toList[i]?:=by
 rw[Array.getElem?_toList];by_cases h:i<s.size
 ·rw[getElem?_pos s i h,getElem?_pos s.data i h];rfl
 ·rw[getElem?_neg s i h,getElem?_neg s.data i h]
theorem IV{s:ByteArray}(hs:s.data.toList≠[]):∃c:UInt8,s[0]? =some c∧c.toNat=hd s.data.toList:=by
 rw[Rr];match s.data.toList,hs with
 |c::l,_=>exact⟨c,rfl,rfl⟩
theorem B8{W:Nat→Prop}{h:ad}{b:Nat}{sl:ByteArray}{w:Option ByteArray}{F:Fo}(r:RxN W h b sl w F)(hc:fS F){c:Nat}(hc8:c<256){K:Int×Bool→ad→Prop}
  (hk:∀i ok,i≤F.toL.length→(∀j (hj:j<F.toL.length),j<i→hd F.toL[j].1<c)→(∀j (hj:j<F.toL.length),i≤j→c≤hd F.toL[j].1)→(ok=true↔∃hi:i<F.toL.length,hd F.toL[i].1=c)→K ((i:Int),ok) h):HC PG jZ [.pointer (some ⟨b,0,none⟩),.int .u8 c] [.c (.int .i64),.c .bool] K h:=by
 refine Bi _ c ?_;unfold uE cd ja;obtain⟨val,s,ow,ks,hb,_,hs,hcap,hF⟩:=r;refine⟨_,rfl,s,eo (i:=3) hb,?_⟩;have hL:=lr.1 hF;have hcan:=ef.1 hc;have hn:=mC hc;have hlen:=hs.len;rw[hL.1]at hlen;generalize hLe:F.toL=L at hL hcan hn hlen hk;refine ix s c _ ?_;unfold eg ay cj bX ED
 have cmp:∀{i:Nat} (hi:i<L.length) {K:Int→ad→Prop},K ((hd L[i].1:Int)-(c:Int)) h→∃a,s.a=some a∧∃v,aS h (adr a (i*1))=some (.pointer v)∧HV PG (.func (.func oe) #[] #[]) [.pointer v,.int .u8 c] [.c (.int .i64)] K h:=by
  intro i hi K hk;obtain⟨kb,ksl,hki,hkl,hkn⟩:=hL.at hi;obtain⟨a,ha,_,hv⟩:=hs.at0 hki;refine⟨a,ha,_,hv,HV.mk' (yK (some ⟨kb,0,none⟩) c ?_)⟩;unfold sF aD;obtain⟨kval,kss,kow,kks,hkb,_⟩:=hkn;have hne:ksl.data.toList≠[]:=by rw[hkl];exact(hcan.2 _ (bN hi)).1
  obtain⟨u,hu,hue⟩:=IV hne;refine⟨_,rfl,ksl,eo (i:=0) hkb,u,uS _,hu,?_⟩;simp only[Bd];have hlt:=TS L[i].1;rw[hue,hkl,d8 (x:=(hd L[i].1:Int)) (by omega),d8 (x:=(c:Int)) (by omega),d8 (by omega)];exact hk
 have mono:∀i j (hi:i<L.length) (hj:j<L.length),i<j→hd L[i].1<hd L[j].1:=fun i j hi hj hij=>cn.1 hcan.1 i j hi hj hij
 refine LoopP.ghost (fun(g:Nat×Nat) (t:Int×Int) h'=>t.1=(g.1:Int)∧t.2=(g.2:Int)∧g.1≤g.2∧g.2≤L.length∧h'=h∧(∀j (hj:j<L.length),j<g.1→hd L[j].1<c)∧(∀j (hj:j<L.length),g.2≤j→c≤hd L[j].1)) (fun g=>g.2-g.1) (0,L.length)
  ⟨rfl,by simp only;omega,by simp,by simp,rfl,fun j hj h=>by omega,fun j hj h=>by simp only at h;omega⟩ ?_
 rintro I ⟨i,j⟩ ⟨ti,tj⟩ h' ⟨e1,e2,hij,hjl,rfl,hlo,hhi⟩ hI;simp only at e1 e2 hij hjl hlo hhi;subst e1 e2;refine aA (fun hlt=>?_) fun hge=>?_
 ·have hlt:i<j:=by have:(i:Int)<(j:Int):=hlt;omega
  have em:IntKind.wrap .i64 (dT (IntKind.wrap .u64 (IntKind.wrap .i64 ((i:Int)+(j:Int)))) (2^(min (1:Int).toNat (IntKind.bits .u64))))=(((i+j)/2:Nat):Int):=by
   have e3:(2^(min (1:Int).toNat (IntKind.bits .u64)):Int)=2:=rfl;rw[e3,d8 (x:=(i:Int)+(j:Int)) (by omega),Go.IntWalk.u64_in _ (by omega),Int.fdiv_eq_ediv_of_nonneg _ (by omega),d8 (by omega)];omega
  refine⟨by decide,?_⟩;simp only[Bd];rw[em];generalize hm:(i+j)/2=m;have hml:m<L.length:=by omega
  refine⟨by omega,?_⟩;refine cmp hml ?_;refine aA (fun hneg=>?_) fun hpos=>?_
  ·refine hI (m+1,j) _ _ ⟨by simp only;rw[d8 (by omega)];omega,rfl,by simp only;omega,hjl,rfl,fun q hq hqm=>?_,hhi⟩ (by simp only;omega)
   simp only at hqm;rcases ct q m with h|h
   ·have:=mono q m hq hml h;omega
   ·have:q=m:=by omega
    subst this;omega
  ·refine hI (i,m) _ _ ⟨rfl,rfl,by simp only;omega,by simp only;omega,rfl,hlo,fun q hq hqm=>?_⟩ (by simp only;omega)
   simp only at hqm;rcases ct m q with h|h
   ·have:=mono m q hml hq h;omega
   ·have:q=m:=by omega
    subst this;omega
 ·have hij:i=j:=by have:¬(i:Int)<(j:Int):=hge;omega
  subst hij;refine aA (fun hlt=>?_) fun hnl=>?_
  ·have hil:i<L.length:=by have:(i:Int)<(s.len:Int):=hlt;omega
   refine⟨by simp only;omega,?_⟩;refine cmp hil ?_;refine hk i _ hjl hlo hhi ?_;rw[beq_iff_eq];exact⟨fun h=>⟨hil,by omega⟩,fun⟨_,h⟩=>by omega⟩
  ·have hil:i=L.length:=by have:¬(i:Int)<(s.len:Int):=hnl;omega
   exact hk i false hjl hlo hhi ⟨fun h=>(by cases h),fun h=>(by obtain⟨h,_⟩:=h;omega)⟩
end Go.Proofs
namespace Go.Proofs
open Go Go.Lift
theorem JZ{b:Nat}{h:ad}{K:Bool→ad→Prop}(hk:K false h):HC PG po [.pointer (some ⟨b,0,none⟩),.pointer none] [.c .bool] K h:=by
 refine Ac _ none ?_;unfold tQ bj;exact av.2 (xF (aj.2 hk))
abbrev TM:List Value:= [.string (⟨#[]⟩:ByteArray),.bool false,.string (⟨#[]⟩:ByteArray),.slice none 0 0,.pointer none]
theorem pR{W:Nat→Prop}{h:ad}{b:Nat}{sl val:ByteArray}{has:Bool}{s:SliceV}{ow:Option Addr}{ks:List (Option Addr)}(hb:h[b]? =some (.cells (B9 sl has val s ow) cf (0,0))) (hs:Sl rD 1 W h s ks) (hn:ks.length≤256) {K:Option Addr→ad→Prop}
  (hk:∀h' s',h'[h.size]? =some (.cells (B9 sl has val s' none) cf (0,0))→OwnS rD 1 bP (fun x=>h.size<x∧x<h'.size) h' s' ks→Upd No h h'→K (some ⟨h.size,0,none⟩) h'):
  HC PG ee [.pointer (some ⟨b,0,none⟩),.pointer none] [.c .ptr] K h:=by
 refine CJ _ none ?_;unfold vS bj aD cd nv bI dU JG mN UY;refine JZ (aj.2 ?_);refine⟨_,rfl,sl,eo (i:=0) hb,has,eo (i:=1) hb,val,eo (i:=2) hb,s,eo (i:=3) hb,ow,eo (i:=4) hb,bq ?_⟩;have k1:=Upd.hnew No h TM cf;have b1:=bZ h TM cf;simp only[cJ h];generalize hnew h [.string (⟨#[]⟩:ByteArray),.bool false,.string (⟨#[]⟩:ByteArray),.slice none 0 0,.pointer none] cf=h1 at k1 b1
 refine be (c:=TM) (vs:= [.string sl,.bool has,.string val,.slice s.a s.len s.cap,.pointer ow]) b1 rfl fun h2 b2 hu2=>?_
 have k2:Upd No h h2:=k1.trans hu2 fun x hx=>.inr (eI hx.symm)
 have hz2:h.size<h2.size:=aO b2;have hb2:=k2.get0 hb;refine⟨_,rfl,s,eo (i:=3) hb2,?_⟩;refine HU (hs.upd k2 fun _ h=>h.elim) (by omega) fun s3 h3 ho3 hu3=>?_
 have b3:h3[h.size]? =some (.cells (B9 sl has val s ow) cf (0,0)):=hu3.get0 b2;refine⟨Sp (i:=3) b3 (show 3<5 by decide),Gn (i:=3) (c':=B9 sl has val s3 ow) b3 rfl fun h4 b4 hu4=>?_⟩
 refine⟨Sp (i:=4) b4 (show 4<5 by decide),Gn (i:=4) (c':=B9 sl has val s3 none) b4 rfl fun h5 b5 hu5=>?_⟩
 refine xF (aj.2 ?_);have hu35:=hu4.tr hu5;have z5:=hu35.size;have ho3':=(ho3.within.upd hu35 fun x hx e=>by have e:x=h.size:=e;have:=hx.1;omega).more (M':=fun x=>h.size<x∧x<h5.size) fun x hx=>⟨by have:=hx.1;omega,by have:=hx.2;omega⟩
 exact hk h5 s3 b5 ho3' ((k2.tr hu3).trans hu35 fun x hx=>.inr (eI hx.symm))
theorem wh{h:ad}{b:Nat}{sl nl:ByteArray}{has:Bool}{val:ByteArray}{s:SliceV}{ow:Option Addr}(hb:h[b]? =some (.cells (B9 sl has val s ow) cf (0,0))) {K:Option Addr→ad→Prop}
  (hk:∀h',h'[b]? =some (.cells (B9 nl has val s ow) cf (0,0))→Upd (· =b) h h'→K (some ⟨b,0,none⟩) h'):HC PG ir [.pointer (some ⟨b,0,none⟩),.string nl] [.c .ptr] K h:=by
 refine Ab _ nl ?_;unfold tP dU;exact⟨_,rfl,Sp (i:=0) hb (show 0<5 by decide),Gn (i:=0) (c':=B9 nl has val s ow) hb rfl hk⟩
theorem Dh{h:ad}{b:Nat}{sl v:ByteArray}{has:Bool}{val:ByteArray}{s:SliceV}{ow:Option Addr}(hb:h[b]? =some (.cells (B9 sl has val s ow) cf (0,0))) {K:Option Addr→ad→Prop}
  (hk:∀h',h'[b]? =some (.cells (B9 sl true v s ow) cf (0,0))→Upd (· =b) h h'→K (some ⟨b,0,none⟩) h'):HC PG kz [.pointer (some ⟨b,0,none⟩),.string v] [.c .ptr] K h:=by
 refine yI _ v ?_;unfold sD dU;exact⟨_,rfl,Sp (i:=1) hb (show 1<5 by decide),Gn (i:=1) (c':=B9 sl true val s ow) hb rfl fun h1 b1 hu1=>⟨_,rfl,Sp (i:=2) b1 (show 2<5 by decide),Gn (i:=2) (c':=B9 sl true v s ow) b1 rfl fun h2 b2 hu2=>hk h2 b2 (hu1.tr hu2)⟩⟩
theorem Mm{h:ad}{k v:ByteArray}{K:Option Addr→ad→Prop}(hk:∀h' b s,h'[b]? =some (.cells (B9 k true v s none) cf (0,0))→s.len=0→s.len≤s.cap→h.size≤b→Upd No h h'→K (some ⟨b,0,none⟩) h'):HC PG uY [.pointer none,.string k,.string v] [.c .ptr] K h:=by
 refine GJ none k v ?_;unfold y7 xu JG mN;have k1:=Upd.hnew No h TM cf;have b1:=bZ h TM cf;refine bq ?_;simp only[cJ h];generalize hnew h [.string (⟨#[]⟩:ByteArray),.bool false,.string (⟨#[]⟩:ByteArray),.slice none 0 0,.pointer none] cf=h1 at k1 b1;refine pR (W:=No) (ks:= []) (sl:=⟨#[]⟩) (val:=⟨#[]⟩) (has:=false) (s:=⟨none,0,0⟩) (ow:=none) b1 (Sl.nil pS) (bw _) fun h2 s b2 ho2 hu2=>?_
 refine wh (nl:=k) b2 fun h3 b3 hu3=>Dh (v:=v) b3 fun h4 b4 hu4=>?_
 have hu24:=hu3.tr hu4;have z:=hu2.size;have z2:=k1.size;refine hk h4 h1.size s b4 ho2.len ho2.cap z2 ((k1.tr hu2).trans hu24 fun x hx=>.inr (by have hx:x=h1.size:=hx;omega))
theorem Vm{W:Nat→Prop}{h:ad}{b:Nat}{k v:ByteArray}{s:SliceV}{ow:Option Addr}(hb:h[b]? =some (.cells (B9 k true v s ow) cf (0,0))) (h0:s.len=0) (hc:s.len≤s.cap) (nw:¬W b):RxN W h b k (some v) .nil:=
 ⟨v,s,ow,[],hb,rfl,⟨h0,pS,fun h=>absurd rfl h⟩,⟨hc,nw⟩,rfl⟩
theorem Fy(s:ByteArray)(c:Nat):(s.extract 0 c).data.toList=s.data.toList.take c:=by
 rw[qA,Array.toList_extract,ij];simp
theorem Fz(s:ByteArray)(c:Nat):(s.extract c s.size).data.toList=s.data.toList.drop c:=by
 rw[qA,Array.toList_extract,ij,List.take_of_length_le];rw[aU];simp
theorem Ml{W:Nat→Prop}{h:ad}{b:Nat}{sl:ByteArray}{w:Option ByteArray}{F:Fo}(r:RxN W h b sl w F)(hW:∀y,W y→y<h.size)(hn:F.toL.length≤256){c:Nat}(hc:c≤sl.size){K:Option Addr→ad→Prop}
  (hk:∀h' b',RxN W h' b' (sl.extract 0 c) none (.cons (sl.data.toList.drop c) w F .nil)→Upd No h h'→K (some ⟨b',0,none⟩) h'):HC PG pn [.pointer (some ⟨b,0,none⟩),.pointer none,.int .i64 c] [.c .ptr] K h:=by
 refine Aa _ none c ?_;unfold tO aD xu dU JG mN;obtain⟨val,s,ow,ks,hb,hv,hs,hcap,hF⟩:=r;have lab:∀{h'},Upd No h h'→aS h' (adr ⟨b,0,none⟩ 0)=some (.string sl):=fun k=>eo (i:=0) (k.get0 hb)
 have r0:=Upd.refl No h;refine⟨_,rfl,sl,lab r0,⟨by omega,by omega⟩,bq ?_⟩
 have k1:=Upd.hnew No h TM cf;have b1:=bZ h TM cf;simp only[cJ h];generalize hnew h [.string (⟨#[]⟩:ByteArray),.bool false,.string (⟨#[]⟩:ByteArray),.slice none 0 0,.pointer none] cf=h1 at k1 b1;refine⟨lab k1,?_⟩;refine pR (W:=No) (ks:= []) (sl:=⟨#[]⟩) (val:=⟨#[]⟩) (has:=false) (s:=⟨none,0,0⟩) (ow:=none) b1 (Sl.nil pS) (bw _) fun h2 s2 b2 _ hu2=>⟨lab (k1.tr hu2),?_⟩
 rw[aX];refine wh b2 fun h3 b3 hu3=>?_
 have z1:=k1.size;have hu03:Upd No h h3:=(k1.tr hu2).trans hu3 fun x hx=>.inr (by have hx:x=h1.size:=hx;omega)
 refine pR (hu03.get0 hb) (hs.upd hu03 fun _ h=>h.elim) (by rw[(lr.1 hF).1];exact hn) fun h4 s4 b4 ho4 hu4=>?_
 refine⟨_,rfl,sl,eo (i:=0) b4,⟨by omega,by omega⟩,?_⟩
 refine wh (nl:=sl.extract c sl.size) b4 fun h5 b5 hu5=>?_
 have hu05:Upd No h h5:=(hu03.tr hu4).trans hu5 fun x hx=>.inr (by have hx:x=h3.size:=hx;have:=hu03.size;omega)
 have ho5:=ho4.upd hu5 fun x hx e=>by have e:x=h3.size:=e;have:=hx.1;omega
 have hb3:=aO b3;have b35:h5[h1.size]? =some (.cells (B9 (sl.extract 0 c) false ⟨#[]⟩ s2 none) cf (0,0)):=hu5.get (hu4.get0 b3) (by show ¬h1.size=h3.size;omega);have k6:=Upd.hnew No h5 [.pointer (some ⟨h3.size,0,none⟩)] bP;have b6:=bZ h5 [.pointer (some ⟨h3.size,0,none⟩)] bP;have hz5:=hu05.size;have hz3:=hu03.size;refine bq ?_;simp only[cJ h5]
 generalize hnew h5 [.pointer (some ⟨h3.size,0,none⟩)] bP=h6 at k6 b6;have b36:=k6.get0 b35;have hlt1:=aO b35;refine⟨_,rfl,Sp (i:=3) b36 (show 3<5 by decide),Gn (i:=3) (c':=B9 (sl.extract 0 c) false ⟨#[]⟩ ⟨some ⟨h5.size,0,none⟩,1,1⟩ none) b36 rfl fun h7 b7 hu7=>?_⟩
 have hu07:Upd No h h7:=(hu05.tr k6).trans hu7 fun x hx=>.inr (by have hx:x=h1.size:=hx;omega)
 have b67:h7[h5.size]? =some (.cells #[.pointer (some ⟨h3.size,0,none⟩)] bP (0,0)):=hu7.get b6 (by show ¬h5.size=h1.size;omega);have b57:=hu7.get (k6.get0 b5) (by show ¬h3.size=h1.size;omega);have ho7:=(ho5.upd k6 fun _ _ h=>h).upd hu7 fun x hx e=>by have e:x=h1.size:=e;have:=hx.1;omega
 refine hk h7 h1.size ⟨⟨#[]⟩,_,none,[some ⟨h3.size,0,none⟩],b7,rfl,⟨rfl,pS,fun _=>⟨_,rfl,(fun hx=>by have hx:W h5.size:=hx;have:=hW _ hx;omega),oV b67 fun i v hi=>?_⟩⟩,⟨aq _,fun hx=>by have:=hW _ hx;omega⟩,?_⟩ hu07
 ·rw[aP]
  rw[←List.getElem?_toArray]at hi;exact hi
 ·refine⟨h3.size,sl.extract c sl.size,val,s4,none,ks,[],rfl,Fz ..,b57,hv,ho7.sl (fun x hx _ hw=>by have:=hW _ hw;have:=hx.1;omega),⟨ho7.cap,fun hx=>by have:=hW _ hx;omega⟩,RxF.upd0 hu07 hF,rfl⟩
end Go.Proofs
namespace Go.Proofs
open Go Go.Lift
theorem RI:∀{x y:List UInt8} {i:Nat},i≤x.length→i≤y.length→(∀j,j<i→x[j]? =y[j]?)→(i=x.length∨i=y.length∨x[i]?≠y[i]?)→cm x y=i
 | [],_,i,h1,_,_,_=>by simp at h1;simp[cm,h1]
 |_::_,[],i,_,h2,_,_=>by simp at h2;simp[cm,h2]
 |a::x,b::y,0,_,_,_,h=>by
  unfold cm;rw[if_neg];rintro rfl;rcases h with h|h|h<;>simp at h
 |a::x,b::y,i+1,h1,h2,h3,h4=>by
  have:=h3 0 (by omega);simp only[List.getElem?_cons_zero,bR.injEq]at this;unfold cm;rw[if_pos this,RI (i:=i) (by simpa using h1) (by simpa using h2) (fun j hj=>by simpa using h3 (j+1) (by omega)) (by simpa using h4)]
theorem PQ{a b:ByteArray}(ha:a.size≤1000000){h:ad}{K:Int→ad→Prop}(hk:K (cm a.data.toList b.data.toList:Nat) h):HC PG uW [.string a,.string b] [.c (.int .i64)] K h:=by
 refine GG a b ?_;unfold y4;simp only[Bd];have hmin:(if(b.size:Int)<(a.size:Int)then(b.size:Int)else(a.size:Int))=((min a.size b.size:Nat):Int):=by split<;>omega
 rw[hmin];have la:a.data.toList.length=a.size:=by simp
 have lb:b.data.toList.length=b.size:=by simp
 refine LoopP.ghost (fun(i:Nat) (t:Int) h'=>t=(i:Int)∧i≤min a.size b.size∧h'=h∧∀j,j<i→a.data.toList[j]? =b.data.toList[j]?) (fun i=>min a.size b.size-i) 0 ⟨rfl,bw _,rfl,fun j hj=>absurd hj (ss _)⟩ ?_
 rintro I i t h' ⟨rfl,hi,rfl,he⟩ hI;refine aA (fun hlt=>?_) fun hge=>?_
 ·have hlt:i<min a.size b.size:=by omega
  have hia:i<a.size:=by omega
  have hib:i<b.size:=by omega
  refine⟨a[i],by omega,by rw[aX,getElem?_pos a i hia],b[i],by omega,by rw[aX,getElem?_pos b i hib],?_⟩
  have e1:a.data.toList[i]? =some a[i]:=by rw[←Rr,getElem?_pos a i hia]
  have e2:b.data.toList[i]? =some b[i]:=by rw[←Rr,getElem?_pos b i hib]
  refine CondP.intro (fun hne=>?_) fun heq=>?_
  ·rw[RI (i:=i) (by omega) (by omega) he (.inr (.inr fun e=>?_))]at hk
   ·exact hk
   ·rw[e1,e2]at e
    rw[bR.inj e]at hne;simp at hne
  ·have heq:a[i]=b[i]:=by
    have:((a[i].toNat:Int))=(b[i].toNat:Int):=by simpa using heq
    exact UInt8.toNat_inj.1 (by omega)
   rw[gR hlt (by omega)];refine hI (i+1) _ _ ⟨rfl,hlt,rfl,fun j hj=>?_⟩ (by omega)
   rcases ct j i with hl|hl
   ·exact he j hl
   ·have:j=i:=by omega
    subst this;rw[e1,e2,heq]
 ·have hii:i=min a.size b.size:=by omega
  rw[RI (i:=i) (by omega) (by omega) he (by omega)]at hk;rw[←hii];exact hk
theorem Pn{F:Fo}{i:Nat}{k:List UInt8}{v:ByteArray}(h:fS F)(hi:i<F.toL.length)(ek:hd F.toL[i].1=hd k)(hp:ve (vf F.toL[i]) (vf F.toL[i]) k v):ve (qG F) (qG F) k v:=by
 have:=Ko h hi ek hp;rw[List.set_getElem_self,Fo.of_to]at this;exact this
theorem Q6{P Q P':List UInt8→ByteArray→Prop}{k:List UInt8}{v:ByteArray}(h:ve P P' k v)(e:∀k v,P k v↔Q k v):ve Q P' k v:=fun k' v'=>by rw[h k' v',e]
set_option maxHeartbeats 1000000 in
theorem QU{W:Nat→Prop}:∀(n:Nat) {b:Nat} {sl:ByteArray} {w:Option ByteArray} {F:Fo} {h:ad} (k v:ByteArray),k.size<n→k.size≤1000000→RxN W h b sl w F→(∀y,W y→y<h.size)→fS F→∀{K:(Option Addr)×Bool×Bool→ad→Prop},
  (∀h' b' w' F' added ch,Upd No h h'→RxN W h' b' sl w' F'→fS F'→ve (sf w F) (sf w' F') k.data.toList v→(ch=false→b'=b∧w'=w∧F'=F)→(sf w F k.data.toList v→ch=false)→K (some ⟨b',0,none⟩,added,ch) h')→
  HC PG nC [.pointer (some ⟨b,0,none⟩),.pointer none,.string k,.string v] [.c .ptr,.c .bool,.c .bool] K h:=by
 intro n;induction n with
 |zero=>intro b sl w F h k v hk;omega
 |succ n ih=>
  intro b sl w F h k v hkn hk6 r hW hc K hk;refine CI (some ⟨b,0,none⟩) none k v ?_;unfold vR ay cj aD cd jH bX xu bI dU ED ja Qw ug mN T7 Ia;have hr:=r;obtain⟨val,s,ow,ks,hb,hv,hs,hcap,hF⟩:=r;have hL:=lr.1 hF;have hn:=mC hc;have hcan:=ef.1 hc;rw[gE];refine aA (fun hk0=>?_) fun hk0=>?_
  ·have hke:k.data.toList= []:=by rw[hk0]
   rw[hke]at hk;refine Join.intro (fun t h'=>t=decide (w=some v)∧h'=h) (fun R hR=>⟨_,rfl,w.isSome,eo (i:=1) hb,?_⟩) ?_
   ·cases hw:w with
    |none=>exact aj.2 (hR _ _ ⟨by rw[hw];rfl,rfl⟩)
    |some u=>
     refine av.2 ⟨_,rfl,val,eo (i:=2) hb,hR _ _ ⟨?_,rfl⟩⟩;rw[gE,vw hv u hw,hw];exact decide_eq_decide.2 ⟨fun e=>by rw[e],fun e=>bR.inj e⟩
   ·rintro t h' ⟨rfl,rfl⟩
    refine aA (fun e=>?_) fun e=>?_
    ·refine hk h' b w F false false (Upd.refl _ _) hr hc ?_ (fun _=>⟨rfl,rfl,rfl⟩) fun _=>rfl
     rw[e];exact Hj hc v
    ·refine⟨_,rfl,w.isSome,eo (i:=1) hb,?_⟩
     refine pR hb hs (by rw[hL.1];exact hn) fun h1 s1 b1 ho1 hu1=>?_
     refine⟨eo (i:=1) (hu1.get0 hb),?_⟩;refine Dh b1 fun h2 b2 hu2=>?_
     have hu02:Upd No h' h2:=hu1.trans hu2 fun x hx=>.inr (eI (Eq.symm hx))
     refine⟨eo (i:=1) (hu02.get0 hb),?_⟩;have ho2:=ho1.upd hu2 fun x hx e=>by have e:x=h'.size:=e;have:=hx.1;omega
     refine hk h2 h'.size (some v) F _ true hu02 ⟨v,s1,none,ks,b2,rfl,ho2.sl (fun x hx _ hw=>by have:=hW _ hw;have:=hx.1;omega),⟨ho2.cap,fun hx=>l9 _ (hW _ hx)⟩,RxF.upd0 hu02 hF⟩ hc (Hj hc v) (fun h=>by cases h) fun hin=>?_
     rcases hin with⟨_,h⟩|h
     ·exact absurd h e
     ·exact absurd rfl (pi hc h)
  ·have hkne:k.data.toList≠[]:=fun e=>hk0 (by cases k;exact congrArg lQ (jx.1 e))
   obtain⟨c0,hc0,hc0e⟩:=IV hkne;refine⟨c0,uS _,hc0,?_⟩;have hlk:k.data.toList.length=k.size:=by simp
   refine B8 hr hc (c:=c0.toNat) (UInt8.toNat_lt _) fun i ok hil hlo hhi hok=>?_
   rw[hc0e]at hlo hhi hok;cases ok with
   |false=>
    have hno:∀hi:i<F.toL.length,hd F.toL[i].1≠hd k.data.toList:=fun hi e=>by have:=hok.2 ⟨hi,e⟩;cases this
    have hhi':∀j (hj:j<F.toL.length),i≤j→hd k.data.toList<hd F.toL[j].1:=fun j hj hij=>by
     have h1:=hhi j hj hij;rcases ct i j with hl|hl
     ·have h2:=cn.1 hcan.1 i j (by omega) hj hl
      have h3:=hhi i (by omega) (aq _);omega
     ·have:i=j:=by omega
      subst this;have:=hno hj;omega
    obtain⟨hc',hp'⟩:=Pp (v:=v) hc hkne hlo hhi';refine av.2 ?_;refine pR hb hs (by rw[hL.1];exact hn) fun h1 s1 b1 ho1 hu1=>?_
    refine⟨_,rfl,s1,eo (i:=3) b1,?_⟩;refine Mm fun h2 fb fs fb2 hf0 hfc hfb hu2=>⟨eo (i:=3) (hu2.get0 b1),bq ?_⟩
    have k3:=Upd.hnew No h2 [.pointer (some ⟨fb,0,none⟩)] bP;have b3:=bZ h2 [.pointer (some ⟨fb,0,none⟩)] bP;have z3:(hnew h2 [.pointer (some ⟨fb,0,none⟩)] bP).size=h2.size+1:=iS ..;simp only[cJ h2];generalize hnew h2 [.pointer (some ⟨fb,0,none⟩)] bP=h3 at k3 b3 z3;have hu13:=hu2.tr k3;refine⟨eo (i:=3) (hu13.get0 b1),?_⟩;have z1:=aO b1
    have z2:=hu2.size;have zf:=aO fb2;have ho3:=(ho1.upd hu13 fun _ _ h=>h).more (M':=fun x=>(h.size<x∧x<h1.size)∨h3.size≤x) fun x hx=>.inl hx
    refine M2 ho3 (k:=i) (by rw[hL.1];exact hil) (by rw[hL.1];omega) b3 (by rintro(h|h)<;>omega) (fun x hx=>.inr hx) fun s4 h4 ho4 hu4=>?_
    have b4:=hu4.get (hu13.get0 b1) (by rintro(h|h)<;>omega)
    have f4:=hu4.get (k3.get0 fb2) (by rintro(h|h)<;>omega)
    refine⟨_,rfl,Sp (i:=3) b4 (show 3<5 by decide),Gn (i:=3) (c':=B9 sl w.isSome val s4 none) b4 rfl fun h5 b5 hu5=>?_⟩
    have hu05:Upd No h h5:=((hu1.tr hu13).trans hu4 fun x hx=>.inr (by have:=hu1.size;rcases hx with hx|hx<;>omega)).trans hu5 fun x hx=>.inr (eI (Eq.symm hx))
    have ho5:=ho4.upd hu5 fun x hx e=>by have e:x=h.size:=e;rcases hx with hx|hx<;>omega
    have f5:=hu5.get f4 (by show ¬fb=h.size;omega);refine hk h5 h.size w _ true true hu05 ⟨val,s4,none,_,b5,hv,ho5.sl (fun x hx _ hw=>by have:=hW _ hw;rcases hx with hx|hx<;>omega),⟨ho5.cap,fun hx=>l9 _ (hW _ hx)⟩,lr.2 (by rw[Fo.to_of];exact(hL.upd0 hu05).ins i ⟨fb,k,rfl,rfl,Vm f5 hf0 hfc fun hx=>by have:=hW _ hx;omega⟩)⟩ hc' (Ce hkne hp') (fun h=>by cases h) fun hin=>?_
    rcases hin with⟨h,_⟩|hin
    ·exact absurd h hkne
    ·obtain⟨n',hn',e,_⟩:=qU hc hin
     obtain⟨j,hj,rfl⟩:=List.getElem_of_mem hn';rcases ct j i with hl|hl
     ·have:=hlo j hj hl;omega
     ·have:=hhi' j hj hl;omega
   |true=>
    obtain⟨hi,hie⟩:=hok.1 rfl;refine aj.2 ⟨_,rfl,s,eo (i:=3) hb,?_⟩;obtain⟨kb,ksl,hki,hkl,hkn⟩:=hL.at hi;have hmem:F.toL[i]∈F.toL:=bN hi;have hcm:=hcan.2 _ hmem;obtain⟨a,ha,_,hvv⟩:=hs.at0 hki;have hslen:=hs.len;rw[hL.1]at hslen;have hlt1:(i:Int)<((s.len:Nat):Int):=by omega
    refine⟨⟨by simp only;omega,hlt1⟩,a,ha,some ⟨kb,0,none⟩,hvv,_,rfl,?_⟩;obtain⟨kval,kss,kow,kks,hkb,_⟩:=id hkn;refine⟨ksl,eo (i:=0) hkb,PQ hk6 ?_⟩;rw[hkl];have hc1:=UG hkne hcm.1 hie.symm;have hcle:=TV k.data.toList F.toL[i].1;have hct:=OQ k.data.toList F.toL[i].1;have hcd:=OT k.data.toList F.toL[i].1;have hll:ksl.size=F.toL[i].1.length:=by rw[←hkl];simp
    have hin_m:qG F k.data.toList v→vf F.toL[i] k.data.toList v:=fun hin=>by
     obtain⟨n',hn',e,hN⟩:=qU hc hin;rw[←wR hc hn' hmem (by omega)];exact hN
    have hset:∀{w2:Option ByteArray} {F2:Fo} {nl:List UInt8},nl≠[]→hd nl=hd F.toL[i].1→fS F2→Br (sf w2 F2)→fS (.ofL (F.toL.set i (nl,w2,F2))):=fun h1 h2 h3 h4=>OU hc hi ⟨h1,(Jf h3).2 h4,h3⟩ h2
    have hputs:∀{m:Bn},ve (vf F.toL[i]) (vf m) k.data.toList v→ve (qG F) (qG (.ofL (F.toL.set i m))) k.data.toList v:=fun hp=>Ko hc hi hie hp
    have hsame:ve (vf F.toL[i]) (vf F.toL[i]) k.data.toList v→ve (qG F) (qG F) k.data.toList v:=Pn hc hi hie;have hrset:∀{h':ad} {k':Option Addr} {m:Bn},Upd No h h'→Kid W h' k' m→RxL W h' (ks.set i k') (F.toL.set i m):=fun hu hkd=>(hL.upd0 hu).set hi hkd
    generalize F.toL[i]=m at hkl hkn hcm hc1 hcle hct hcd hll hin_m hset hputs hsame hie;generalize hcc:cm k.data.toList m.1=c at hc1 hcle hct hcd;obtain⟨lab,wk,Fk⟩:=m;simp only at hkl hkn hcm hcle hct hcd hll hie hset;refine Join.intro (fun t h'=>∃ub slu wu Fu,t=some ⟨ub,0,none⟩∧Upd No h h'∧RxN W h' ub slu wu Fu∧fS Fu∧slu.data.toList=k.data.toList.take c∧(∀k' v',vf (slu.data.toList,wu,Fu) k' v'↔vf (lab,wk,Fk) k' v')∧(∀w' F',fS F'→ve (sf wu Fu) (sf w' F') (k.data.toList.drop c) v→Br (sf w' F'))) (fun R hR=>⟨_,rfl,ksl,eo (i:=0) hkb,?_⟩) ?_
    ·refine aA (fun hlt=>?_) fun hge=>?_
     ·have hlt:c<lab.length:=by omega
      refine Ml hkn hW (mC hcm.2.2) (c:=c) (by omega) fun h1 ub rn hu1=>hR _ _ ⟨ub,_,none,_,rfl,hu1,rn,?_,?_,?_,?_⟩
      ·rw[hkl]
       refine⟨fun e=>?_,hcm.2.1,hcm.2.2,fun _ h=>by simp[Fo.toL]at h,trivial⟩
       have:=congrArg gv e;rw[aU,aJ]at this;omega
      ·rw[Fy,hkl,hct]
      ·intro k' v'
       rw[Fy,hkl];exact HG c k' v'
      ·intro w' F' hcF hp
       rw[hkl]at hp;refine RR (fun e=>?_) hcm.2.1 hcm.2.2 (fun hne=>?_) hp
       ·have:=congrArg gv e
        rw[aU,aJ]at this;omega
       ·refine hcd ?_ hlt
        rcases ct c k.data.toList.length with hl|hl
        ·exact hl
        ·exact absurd (List.drop_eq_nil_of_le hl) hne
     ·have hce:c=lab.length:=by omega
      refine hR _ _ ⟨kb,ksl,wk,Fk,rfl,Upd.refl _ _,hkn,hcm.2.2,?_,?_,?_⟩
      ·rw[hkl,hct,hce,cS]
      ·intro k' v';rw[hkl]
      ·intro w' F' hcF hp
       exact Tw ((Jf hcm.2.2).1 hcm.2.1) hp
    ·rintro t h1 ⟨ub,slu,wu,Fu,rfl,hu1,rn,hcu,hsl,hinn,hbr⟩
     refine⟨⟨by omega,by omega⟩,?_⟩
     rw[aX];have hkd:(k.extract c k.size).data.toList=k.data.toList.drop c:=Fz ..;have hks:(k.extract c k.size).size=k.size-c:=by simp
     have hktd:k.data.toList=slu.data.toList++k.data.toList.drop c:=by rw[hsl,aZ]
     have hslne:slu.data.toList≠[]:=by
      rw[hsl];intro e;have:=congrArg gv e;rw[aQ,aJ]at this;omega
     have hslhd:hd slu.data.toList=hd lab:=by
      rw[hie];conv=>rhs;rw[hktd]
      rw[pj hslne]
     refine ih (k.extract c k.size) v (by rw[hks];omega) (by rw[hks];omega) rn (fun y hy=>Nat.lt_of_lt_of_le (hW y hy) hu1.size) hcu fun h2 b2 w2 F2 added ch hu2 rn2 hc2 hp2 hsm hch=>?_
     rw[hkd]at hp2 hch;have hu02:=hu1.tr hu2;have hpn:ve (vf (lab,wk,Fk)) (vf (slu.data.toList,w2,F2)) k.data.toList v:=by
      have:=Q6 (Po (lab:=slu.data.toList) hp2) hinn;rw[←hktd]at this;exact this
     have hchg:sf w F k.data.toList v→ch=false:=fun hin=>by
      rcases hin with⟨h,_⟩|hin
      ·exact absurd h hkne
      ·obtain⟨r,e,hr'⟩:=(hinn _ _).2 (hin_m hin)
       simp only at e;rw[hktd]at e;have e2:=List.append_cancel_left e;rw[←hktd]at e;exact hch (by rw[e2];exact hr')
     cases ch with
     |false=>
      obtain⟨_,rfl,rfl⟩:=hsm rfl;refine av.2 (hk h2 b w F false false hu02 (hr.upd0 hu02) hc (Ce hkne (hsame ?_)) (fun _=>⟨rfl,rfl,rfl⟩) fun _=>rfl)
      intro k' v';exact(hinn k' v').symm.trans (hpn k' v')
     |true=>
      refine aj.2 ?_;refine pR (hu02.get0 hb) (hs.upd hu02 fun _ h=>h.elim) (by rw[hL.1];exact hn) fun h3 s3 b3 ho3 hu3=>?_
      refine⟨_,rfl,s3,eo (i:=3) b3,?_⟩;have hil:i<ks.length:=by rw[hL.1];exact hi
      obtain⟨a3,ha3,hab,hw3,ho4,hu4⟩:=OwnS.setAt ho3 hil (some ⟨b2,0,none⟩);have hlen3:=ho3.len;refine⟨⟨by simp only;omega,by simp only;omega⟩,a3,ha3,?_⟩
      have hw1:Wr h3 (adr a3 (i*1)):=by
       rcases hw3 with hw|⟨b',hb',hw⟩
       ·cases hw
       ·cases hb';exact hw 0 (by simp)
      refine⟨hw1,bq ?_⟩;have b4:=hu4.get b3 fun e=>by have e:h2.size=a3.block:=e;have:=hab.1;omega
      have hu24:Upd No h2 _:=hu3.trans hu4 fun x hx=>.inr (by have hx:x=a3.block:=hx;have:=hab.1;omega)
      have hu04:=hu02.tr hu24;have eset:ks.set i (some ⟨b2,0,none⟩)=ks.take i++some ⟨b2,0,none⟩::ks.drop (i+1):=by rw[dD,if_pos hil]
      rw[←eset]at ho4;exact hk _ h2.size w _ added true hu04 ⟨val,s3,none,_,b4,hv,ho4.sl (fun x hx _ hw=>by have:=hW _ hw;have:=hu02.size;have:=hx.1;omega),⟨ho4.cap,fun hx=>by have:=hW _ hx;have:=hu02.size;omega⟩,lr.2 (by rw[Fo.to_of];exact hrset hu04 ⟨b2,slu,rfl,rfl,rn2.upd0 hu24⟩)⟩ (hset hslne hslhd hc2 (hbr _ _ hc2 hp2)) (Ce hkne (hputs hpn)) (fun h=>by cases h) hchg
end Go.Proofs
namespace Go.Proofs
open Go Go.Lift
def yG:Fo→List (List UInt8×ByteArray)
 | .nil=> []
 | .cons lab w kids rest=>((w.map fun v=>(([]:List UInt8),v)).toList++yG kids).map (fun p=>(lab++p.1,p.2))++yG rest
def vo(w:Option ByteArray)(F:Fo):List (List UInt8×ByteArray):=(w.map fun v=>(([]:List UInt8),v)).toList++yG F
theorem uf:∀{F:Fo} {k:List UInt8} {v:ByteArray},(k,v)∈yG F↔qG F k v
 | .nil,_,_=>by simp[yG,qG]
 | .cons lab w kids rest,k,v=>by
  unfold yG qG;rw[bi,uf (F:=rest)];refine or_congr ?_ w9;rw[iH];constructor
  ·rintro⟨⟨r,u⟩,hm,he⟩
   simp only[rz.injEq]at he;obtain⟨rfl,rfl⟩:=he;refine⟨r,rfl,?_⟩;rcases bi.1 hm with h|h
   ·left
    rw[qq,lN]at h;obtain⟨a,ha,he⟩:=h;simp only[rz.injEq]at he;exact⟨he.1.symm,by rw[ha,he.2]⟩
   ·exact .inr (uf.1 h)
  ·rintro⟨r,rfl,h⟩
   refine⟨(r,v),bi.2 ?_,rfl⟩;rcases h with⟨rfl,h⟩|h
   ·left;rw[h];simp
   ·exact .inr (uf.2 h)
theorem jV{w:Option ByteArray}{F:Fo}{k:List UInt8}{v:ByteArray}:(k,v)∈vo w F↔sf w F k v:=by
 unfold vo sf;rw[bi,uf];refine or_congr ?_ w9;cases w with
 |none=>simp
 |some u=>simp[Prod.ext_iff,eq_comm]
abbrev Up(l:List (List UInt8×ByteArray)):Prop:=l.Pairwise fun p q=>p.1<q.1
theorem Jj{a x y:List UInt8}(h:x<y):a++x<a++y:=by
 induction a with
 |nil=>exact h
 |cons c a ih=>exact List.Lex.cons ih
theorem K2{x y:List UInt8}(hy:y≠[])(h:hd x<hd y):x<y:=by
 match x,y,hy with
 | [],b::y,_=>exact w8
 |a::x,b::y,_=>exact List.Lex.rel (UInt8.lt_iff_toNat_lt.2 h)
theorem MB:∀{F:Fo},fS F→Up (yG F)
 | .nil,_=>gP
 | .cons lab w kids rest,h=>by
  unfold yG;refine cg.2 ⟨?_,MB h.2.2.2.2,?_⟩
  ·rw[mF]
   refine List.Pairwise.imp (R:=fun p q:List UInt8×ByteArray=>p.1<q.1) (fun hab=>Jj hab) ?_
   refine cg.2 ⟨?_,MB h.2.2.1,?_⟩
   ·cases w<;>simp
   ·intro a ha b hb
    have hne:b.1≠[]:=pi h.2.2.1 (uf (F:=kids).1 (show(b.1,b.2)∈_ from hb))
    have ha0:a.1= []:=by
     rw[qq,lN]at ha;obtain⟨v,_,e⟩:=ha;rw[←e]
    rw[ha0];match b.1,hne with
    |c::l,_=>exact w8
  ·intro a ha b hb
   obtain⟨p,_,rfl⟩:=iH.1 ha;obtain⟨n,hn,e,_⟩:=qU h.2.2.2.2 (uf (F:=rest).1 (show(b.1,b.2)∈_ from hb))
   have hne:b.1≠[]:=pi h.2.2.2.2 (uf (F:=rest).1 (show(b.1,b.2)∈_ from hb))
   have:=h.2.2.2.1 n hn;exact K2 hne (by rw[pj h.1];omega)
theorem On{w:Option ByteArray}{F:Fo}(h:fS F):Up (vo w F):=by
 refine cg.2 ⟨by cases w<;>simp,MB h,?_⟩
 intro a ha b hb;have hne:b.1≠[]:=pi h (uf (F:=F).1 (show(b.1,b.2)∈_ from hb))
 have ha0:a.1= []:=by
  rw[qq,lN]at ha;obtain⟨v,_,e⟩:=ha;rw[←e]
 rw[ha0];match b.1,hne with
 |c::l,_=>exact w8
theorem Qx:∀{l l':List (List UInt8×ByteArray)},Up l→Up l'→(∀p,p∈l↔p∈l')→l=l'
 | [],[],_,_,_=>rfl
 | [],q::l',_,_,h=>absurd ((h q).2 (ao ..)) (by simp)
 |p::l,[],_,_,h=>absurd ((h p).1 (ao ..)) (by simp)
 |p::l,q::l',hr,hr',h=>by
  have hr:=aG.1 hr;have hr':=aG.1 hr';have e:p=q:=by
   rcases az.1 ((h p).1 (ao ..))with e|hp
   ·exact e
   ·rcases az.1 ((h q).2 (ao ..))with e|hq
    ·exact e.symm
    ·exact absurd (List.lt_trans (hr.1 q hq) (hr'.1 p hp)) (tX _)
  subst e;rw[Qx hr.2 hr'.2 fun z=>?_]
  constructor
  ·intro hz
   rcases az.1 ((h z).1 (aC _ hz))with e|hz'
   ·exact absurd (hr.1 z hz) (by rw[e];exact tX _)
   ·exact hz'
  ·intro hz
   rcases az.1 ((h z).2 (aC _ hz))with e|hz'
   ·exact absurd (hr'.1 z hz) (by rw[e];exact tX _)
   ·exact hz'
def Jc:Fo→Nat
 | .nil=>0
 | .cons _ _ kids rest=>1+Jc kids+Jc rest
theorem Jb:∀{F:Fo},fS F→Jc F+F.toL.length≤2*(yG F).length
 | .nil,_=>by simp[Jc,Fo.toL]
 | .cons lab w kids rest,h=>by
  have h1:=Jb h.2.2.1;have h2:=Jb h.2.2.2.2;have h3:=h.2.1;rw[Fo.toL_cons];unfold Jc yG;rw[ac,List.length_map,ac,ak];cases w with
  |none=>
   simp only[Option.map_none,Option.toList_none,aJ];have:2≤kids.toL.length:=h3.resolve_left (by simp);omega
  |some v=>simp only[Option.map_some,Option.toList_some,aR];omega
def LH:Fo→Prop
 | .nil=>True
 | .cons lab w kids rest=>lab.length≤10000∧(∀v,w=some v→v.size≤10000)∧kids.toL.length≤256∧LH kids∧LH rest
theorem M9:∀{F:Fo},fS F→(∀k v,qG F k v→k.length≤10000∧v.size≤10000)→LH F
 | .nil,_,_=>trivial
 | .cons lab w kids rest,h,hl=>by
  obtain⟨r,v,hr⟩:=mZ h _ (ao ..);have h1:=(hl _ v (fK.2 ⟨_,ao ..,r,rfl,hr⟩)).1;rw[ac]at h1;simp only at h1;refine⟨by omega,fun v hv=>(hl lab v (.inl ⟨[],(aK _).symm,.inl ⟨rfl,hv⟩⟩)).2,mC h.2.2.1,M9 h.2.2.1 fun k v hk=>?_,M9 h.2.2.2.2 fun k v hk=>hl k v (.inr hk)⟩
  have:=hl (lab++k) v (.inl ⟨k,rfl,.inr hk⟩);rw[ac]at this;exact⟨by omega,this.2⟩
def DZ:Option ByteArray→List UInt8
 |some v=>1::xa v
 |none=> [0]
def ue(lab:List UInt8)(w:Option ByteArray)(n:Nat):List UInt8:=xa ⟨lab.toArray⟩++(DZ w++qT n 2)
def pP:Fo→List UInt8
 | .nil=> []
 | .cons lab w kids rest=>ue lab w kids.toL.length++(pP kids++pP rest)
def pf(n:Bn):List UInt8:=ue n.1 n.2.1 n.2.2.toL.length++pP n.2.2
theorem Df:∀F:Fo,pP F=F.toL.flatMap pf
 | .nil=>rfl
 | .cons lab w kids rest=>by
  rw[Fo.toL_cons,aI,←Df rest];show ue lab w kids.toL.length++(pP kids++pP rest)=(ue lab w kids.toL.length++pP kids)++pP rest
  rw[al]
theorem Ho{lab:List UInt8}{w:Option ByteArray}{n:Nat}(h1:lab.length≤10000)(h2:∀v,w=some v→v.size≤10000):(ue lab w n).length≤20010:=by
 unfold ue;rw[ac,ac,kM,gj];have e:(lQ lab.toArray).size=lab.length:=by simp[ByteArray.size]
 rw[e];cases w with
 |none=>simp only[DZ,aR];omega
 |some v=>have:=h2 v rfl;simp only[DZ,ak,kM];omega
theorem zz:∀{F:Fo},LH F→(pP F).length≤Jc F*20010
 | .nil,_=>by simp[pP]
 | .cons lab w kids rest,h=>by
  have h1:=Ho (n:=kids.toL.length) h.1 h.2.1;have h2:=zz h.2.2.2.1;have h3:=zz h.2.2.2.2;unfold pP Jc;rw[ac,ac,ni,ni];omega
theorem Hp{lab lab':List UInt8}{w w':Option ByteArray}{n n':Nat}{r r':List UInt8}(h1:lab.length≤10000)(h1':lab'.length≤10000)(h2:∀v,w=some v→v.size≤10000)(h2':∀v,w'=some v→v.size≤10000)(hn:n≤256)(hn':n'≤256)(h:ue lab w n++r=ue lab' w' n'++r'):lab=lab'∧w=w'∧n=n'∧r=r':=by
 unfold ue at h;simp only[al]at h;have z:∀l:List UInt8,(lQ l.toArray).size=l.length:=fun l=>by simp[ByteArray.size]
 obtain⟨e1,h⟩:=yo (by rw[z];exact h1) (by rw[z];exact h1') h;have e1:lab=lab':=by
  have:=congrArg (fun b:ByteArray=>b.data.toList) e1
  simpa using this
 cases w with
 |none=>
  cases w' with
  |none=>
   simp only[DZ,cH,List.nil_append,gU.injEq,true_and]at h;obtain⟨e2,h⟩:=vr (k:=2) (by omega) (by omega) h;exact⟨e1,rfl,e2,h⟩
  |some v=>simp[DZ]at h
 |some v=>
  cases w' with
  |none=>simp[DZ]at h
  |some v'=>
   simp only[DZ,cH,gU.injEq,true_and]at h;obtain⟨e3,h⟩:=yo (h2 v rfl) (h2' v' rfl) h;obtain⟨e2,h⟩:=vr (k:=2) (by omega) (by omega) h;exact⟨e1,by rw[e3],e2,h⟩
theorem zA:∀{F F':Fo} {r r':List UInt8},LH F→LH F'→F.toL.length=F'.toL.length→pP F++r=pP F'++r'→F=F'∧r=r'
 | .nil,.nil,_,_,_,_,_,h=>⟨rfl,h⟩
 | .nil,.cons ..,_,_,_,_,e,_=>by simp[Fo.toL]at e
 | .cons ..,.nil,_,_,_,_,e,_=>by simp[Fo.toL]at e
 | .cons lab w kids rest,.cons lab' w' kids' rest',r,r',h1,h2,e,h=>by
  unfold pP at h;simp only[al]at h;obtain⟨e1,e2,e3,h⟩:=Hp h1.1 h2.1 h1.2.1 h2.2.1 h1.2.2.1 h2.2.2.1 h;obtain⟨e4,h⟩:=zA h1.2.2.2.1 h2.2.2.2.1 e3 h;obtain⟨e5,h⟩:=zA h1.2.2.2.2 h2.2.2.2.2 (by rw[Fo.toL_cons,Fo.toL_cons]at e;simpa using e) h;exact⟨by rw[e1,e2,e4,e5],h⟩
end Go.Proofs
namespace Go.Proofs
open Go Go.Lift
theorem Tz{M:Nat→Prop}{h:ad}{so:SliceV}{out ys:List UInt8}{vs:List Value}(hv:vs=ys.flatMap vj){n:Nat}(hn':n=ys.length){K:SliceV→ad→Prop}(ho:OwnS vj 1 fq M h so out)(hM:∀b,h.size≤b→M b)(hn:out.length+ys.length≤140737488355328)
  (hk:∀s' h',OwnS vj 1 fq M h' s' (out++ys)→Upd M h h'→K s' h'):
  ∃xs,SRow (hnew h vs fq) (some (ag h)) (n*1) xs∧AppP (some [.int .u8 0]) 1 1 fq so.a so.len so.cap n xs (hnew h vs fq) K:=by
 subst hv hn';have k:=Upd.hnew No h (ys.flatMap vj) fq;have h1:OwnS vj 1 fq (fun _=>True) (hnew h (ys.flatMap vj) fq) ⟨some (ag h),ys.length,ys.length⟩ ys:=⟨rfl,Cv,aq _,.inr ⟨h.size,[],rfl,trivial,by rw[aK];exact bZ ..,by simp⟩⟩
 refine⟨_,(h1.sl (W:=No) fun _ _ _ h=>h).srow,?_⟩
 refine AppP.own (ys:=ys) (ho.upd k fun _ _ h=>h) rfl rfl (Ej _) rfl (by omega) (by omega) (hM _ (by rw[iS];omega)) fun s' h' ho' hu=>?_
 exact hk s' h' ho' ((Upd.hnew M h _ _).tr hu)
def Wb(W:Nat→Prop)(n:Bn):Prop:=∀{b:Nat} {sl:ByteArray} {h0 h:ad} {M:Nat→Prop} {s:SliceV} {xs:List UInt8},RxN W h0 b sl n.2.1 n.2.2→sl.data.toList=n.1→Upd No h0 h→(∀y,M y→h0.size≤y)→OwnS vj 1 fq M h s xs→(∀y,h.size≤y→M y)→
 xs.length+(pf n).length≤140737488355328→∀{K:SliceV→ad→Prop},(∀s' h',OwnS vj 1 fq M h' s' (xs++pf n)→Upd M h h'→K s' h')→HC PG kF [.pointer (some ⟨b,0,none⟩),.slice s.a s.len s.cap] [.c .slice] K h
theorem QR{W:Nat→Prop}{lab:List UInt8}{w:Option ByteArray}{kids:Fo}(hl:lab.length≤10000)(hw:∀v,w=some v→v.size≤10000)(hk256:kids.toL.length≤256)(ih:∀m∈kids.toL,Wb W m):Wb W (lab,w,kids):=by
 intro b sl h0 h M s xs r hsl hu0 hM0 ho hM hx K hk;simp only at r hsl;have hsle:(⟨lab.toArray⟩:ByteArray)=sl:=by rw[←hsl]
 refine yJ (some ⟨b,0,none⟩) s ?_;unfold sE ay cj aD cd bI qJ T8 UX;obtain⟨val,s1,ow,ks,hb0,hv,hs,hcap,hF⟩:=r;have hL:=lr.1 hF;have st:∀{h'},Upd M h h'→Upd No h0 h':=fun k=>hu0.trans k fun y hy=>.inr (hM0 y hy)
 have blk:∀{h'},Upd M h h'→h'[b]? =some (.cells (B9 sl w.isSome val s1 ow) cf (0,0)):=fun k=>(st k).get0 hb0
 have hM':∀{h'},Upd M h h'→∀y,h'.size≤y→M y:=fun k y hy=>hM y (bc k.size hy)
 have hsz:sl.size=lab.length:=by rw[←hsl];simp
 have hsl1:=hs.len;rw[hL.1]at hsl1;unfold pf at hx hk;rw[Df]at hx hk;simp only at hx hk;rw[ac]at hx;have hnl:(ue lab w kids.toL.length).length=2+lab.length+((DZ w).length+2):=by
  unfold ue;rw[ac,ac,kM,gj,hsle,hsz]
 refine⟨_,rfl,sl,eo (i:=0) (blk (Upd.refl M h)),?_⟩;refine Eg (W:=No) (ho.sl fun _ _ _ h=>h) ho.cap sl (by omega) (by omega) fun s2 h2 ho2 hu2=>?_
 have ho2:=ho2.more hM;have hu02:Upd M h h2:=hu2.wide;refine Join.intro (fun t h'=>OwnS vj 1 fq M h' t (xs++xa sl++(DZ w))∧Upd M h h') (fun R hR=>⟨_,rfl,w.isSome,eo (i:=1) (blk hu02),?_⟩) ?_
 ·cases w with
  |none=>
   refine aj.2 (bq ?_);refine vG (b:=0) rfl ho2 (hM' hu02) ?_ fun s3 h3 ho3 hu3=>hR _ _ ⟨ho3,hu02.tr hu3⟩
   rw[ac,kM];simp only[DZ,aR]at hnl;omega
  |some v=>
   have hve:=vw hv v rfl;subst hve;have hvs:=hw val rfl;simp only[DZ,ak,kM]at hnl;have k3:Upd M h (hnew h2 [.int .u8 1] fq):=hu02.tr (Upd.hnew M h2 _ _);refine av.2 ⟨_,rfl,val,eo (i:=2) (blk hu02),bq ⟨eo (i:=2) (blk k3),?_⟩⟩;refine vG (b:=1) rfl ho2 (hM' hu02) (by rw[ac,kM];omega) fun s3 h3 ho3 hu3=>⟨eo (i:=2) (blk (hu02.tr hu3)),?_⟩
   refine Eg (W:=No) (ho3.sl fun _ _ _ h=>h) ho3.cap val (by omega) (by rw[ac,ac,kM,aR];omega) fun s4 h4 ho4 hu4=>hR _ _ ⟨?_,(hu02.tr hu3).tr hu4.wide⟩
   have ho4:=ho4.more (hM' (hu02.tr hu3));simp only[DZ,al,List.singleton_append]at ho4⊢;exact ho4
 ·rintro s3 h3 ⟨ho3,hu3⟩
  have e8:dT (s1.len:Int) (2^(min (8:Int).toNat (IntKind.bits .i64)))=((kids.toL.length>>>8:Nat):Int):=by
   have:(2^(min (8:Int).toNat (IntKind.bits .i64)):Int)=2^8:=rfl;rw[this,hsl1,m9]
  refine Join.intro (fun t h'=>OwnS vj 1 fq M h' t (xs++ue lab w kids.toL.length)∧Upd M h h') (fun R hR=>⟨_,rfl,s1,eo (i:=3) (blk hu3),_,rfl,s1,eo (i:=3) (blk hu3),by omega,?_⟩) ?_
  ·simp only[Bd]
   rw[e8];have k4:Upd M h (hnew h3 [.int .u8 (IntKind.wrap .u8 (s1.len:Int)),.int .u8 (IntKind.wrap .u8 ((kids.toL.length>>>8:Nat):Int))] fq):=hu3.tr (Upd.hnew M h3 _ _);refine bq ⟨eo (i:=3) (blk k4),eo (i:=3) (blk k4),?_⟩;refine Tz (ys:=qT kids.toL.length 2) ?_ rfl ho3 (hM' hu3) ?_ fun s5 h5 ho5 hu5=>⟨eo (i:=3) (blk (hu3.tr hu5)),eo (i:=3) (blk (hu3.tr hu5)),hR _ _ ⟨?_,hu3.tr hu5⟩⟩
   ·rw[hsl1,IntKind.wrap_u8,IntKind.wrap_u8]
    simp[qT,List.range_succ]
   ·rw[ac,ac,kM,gj];omega
   ·unfold ue
    rw[hsle,←al,←al];exact ho5
  ·rintro s4 h4 ⟨ho4,hu4⟩
   refine⟨_,rfl,s1,eo (i:=3) (blk hu4),?_⟩;have hs4:∀{h'},Upd M h h'→Sl rD 1 W h' s1 ks:=fun k=>hs.upd (st k) fun _ h=>h.elim
   refine LoopP.ghost (fun(i:Nat) (t:SliceV×Int) h'=>t.2=(i:Int)∧i≤kids.toL.length∧OwnS vj 1 fq M h' t.1 (xs++ue lab w kids.toL.length++(kids.toL.take i).flatMap pf)∧Upd M h h') (fun i=>kids.toL.length-i) 0 ⟨rfl,bw _,by simpa using ho4,hu4⟩ ?_
   rintro I i ⟨so,ti⟩ h' ⟨e1,hi,ho',hu'⟩ hI;simp only at e1 ho';subst e1;have hsplit:∀hlt:i<kids.toL.length,((kids.toL.take i).flatMap pf).length+(pf kids.toL[i]).length≤(kids.toL.flatMap pf).length:=fun hlt=>by
    have e:kids.toL=kids.toL.take i++kids.toL[i]::kids.toL.drop (i+1):=by rw[List.getElem_cons_drop,aZ]
    have:=congrArg (fun L=>(List.flatMap pf L).length) e
    simp only[bO,aI,ac]at this;omega
   refine aA (fun hlt=>?_) fun hge=>?_
   ·have hlt:i<kids.toL.length:=by have:(i:Int)<(s1.len:Int):=hlt;omega
    obtain⟨kb,ksl,hki,hkl,hkn⟩:=hL.at hlt;obtain⟨a,ha,_,hvv⟩:=(hs4 hu').at0 hki;have hsp:=hsplit hlt;refine⟨⟨by simp only;omega,by simp only;omega⟩,a,ha,some ⟨kb,0,none⟩,hvv,?_⟩
    refine ih _ (bN hlt) hkn hkl (st hu') hM0 ho' (hM' hu') (by rw[ac,ac];omega) fun s5 h5 ho5 hu5=>?_
    rw[gR hlt (by omega)];refine hI (i+1) _ _ ⟨rfl,hlt,?_,hu'.tr hu5⟩ (by omega);rw[ce hlt,bO,aI,kU,aK,←al];exact ho5
   ·have hil:i=kids.toL.length:=by have:¬(i:Int)<(s1.len:Int):=hge;omega
    subst hil;rw[cS]at ho';refine hk _ _ ?_ hu';rw[←al];exact ho'
theorem Ip{W:Nat→Prop}:∀{F:Fo},LH F→∀n∈F.toL,Wb W n
 | .nil,_,n,hn=>by simp[Fo.toL]at hn
 | .cons lab w kids rest,h,n,hn=>by
  rcases az.1 hn with rfl|hn
  ·exact QR h.1 h.2.1 h.2.2.1 (Ip h.2.2.2.1)
  ·exact Ip h.2.2.2.2 n hn
structure RadAt(W:Nat→Prop)(h:ad)(b:Nat)(l:List Pr):Prop where
 ex:∃w F,RxN W h b ⟨#[]⟩ w F∧fS F∧∀k v,(k,v)∈vo w F↔∃p∈l,p.1.data.toList=k∧p.2=v
theorem RadAt.upd0{W:Nat→Prop}{h h':ad}{b:Nat}{l:List Pr}(k:Upd No h h')(r:RadAt W h b l):RadAt W h' b l:=by
 obtain⟨w,F,r1,r2,r3⟩:=r.ex;exact⟨w,F,r1.upd0 k,r2,r3⟩
theorem RadAt.less{W W':Nat→Prop}{h:ad}(hm:∀b,W' b→W b∨h.size≤b){b:Nat}{l:List Pr}(r:RadAt W h b l):RadAt W' h b l:=by
 obtain⟨w,F,r1,r2,r3⟩:=r.ex;exact⟨w,F,r1.less hm,r2,r3⟩
theorem RadAt.updM{W M:Nat→Prop}{h h':ad}(k:Upd M h h')(hm:∀b,M b→W b∨h.size≤b){b:Nat}{l:List Pr}(r:RadAt W h b l):RadAt W h' b l:=by
 obtain⟨w,F,r1,r2,r3⟩:=r.ex;exact⟨w,F,r1.updM k hm,r2,r3⟩
def O7(l:List Pr):List (List UInt8×ByteArray):=l.map fun p=>(p.1.data.toList,p.2)
theorem Ub{l:List Pr}(hr:bE l):Up (O7 l):=by
 unfold O7 Up;rw[mF];refine List.Pairwise.imp (R:=fun p q:Pr=>kl p.1 q.1) (fun{a b} h=>?_) hr
 rw[IQ,ByteArray.toList_eq,ByteArray.toList_eq]at h;exact h
theorem N6:∀{l l':List Pr},O7 l=O7 l'→l=l'
 | [],[],_=>rfl
 | [],_::_,h=>by simp[O7]at h
 |_::_,[],h=>by simp[O7]at h
 |p::l,q::l',h=>by
  unfold O7 at h;simp only[List.map_cons,gU.injEq,rz.injEq]at h;obtain⟨⟨h1,h2⟩,h3⟩:=h;have e:p.1=q.1:=by
   generalize p.1=a at h1;generalize q.1=b at h1;cases a;cases b;exact congrArg lQ (jx.1 h1)
  rw[N6 h3,vZ e h2]
theorem Oj{w:Option ByteArray}{F:Fo}{l:List Pr}(hc:fS F)(hr:bE l)(he:∀k v,(k,v)∈vo w F↔∃p∈l,p.1.data.toList=k∧p.2=v):vo w F=O7 l:=by
 refine Qx (On hc) (Ub hr) fun p=>?_
 have:=he p.1 p.2;rw[show(p.1,p.2)=p from rfl]at this
 rw[this];unfold O7;rw[iH];constructor
 ·rintro⟨q,hq,e1,e2⟩;exact⟨q,hq,vZ e1 e2⟩
 ·rintro⟨q,hq,e⟩;rw[←e];exact⟨q,hq,rfl,rfl⟩
theorem QY{w w':Option ByteArray}{F F':Fo}(hc:fS F)(hc':fS F')(h:vo w F=vo w' F'):w=w'∧F=F':=by
 have hm:∀k v,sf w F k v↔sf w' F' k v:=fun k v=>by rw[←jV,←jV,h]
 refine⟨Option.ext fun v=>?_,Nn hc hc' fun k v=>?_⟩
 ·have:=hm [] v
  constructor
  ·intro e
   rcases this.1 (.inl ⟨rfl,e⟩)with⟨_,h⟩|h
   ·exact h
   ·exact absurd rfl (pi hc' h)
  ·intro e
   rcases this.2 (.inl ⟨rfl,e⟩)with⟨_,h⟩|h
   ·exact h
   ·exact absurd rfl (pi hc h)
 ·constructor
  ·intro hi
   rcases(hm k v).1 (.inr hi)with⟨e,_⟩|h
   ·exact absurd e (pi hc hi)
   ·exact h
  ·intro hi
   rcases(hm k v).2 (.inr hi)with⟨e,_⟩|h
   ·exact absurd e (pi hc' hi)
   ·exact h
end Go.Proofs
