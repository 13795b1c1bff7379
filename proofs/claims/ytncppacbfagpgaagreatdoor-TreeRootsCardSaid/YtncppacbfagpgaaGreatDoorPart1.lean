/- A part of the proof that the named laws of this program answer true, whatever the input. -/
import Derived.Test.YtncppacbfagpgaaGreatDoorPart0
import Derived.Sort.Walk0
open BitVec renaming ofInt→aj,ofInt_natCast→eT,getLsbD_ofNat→lH
open Bool renaming eq_iff_iff→ko
open Int renaming toNat_natCast→aP,fdiv→ee,fdiv_eq_ediv_of_nonneg→iE
open List renaming length_take→aK,length_drop→aS,flatMap_cons→aO,drop_eq_getElem_cons→fe,flatMap_append→bm,length_eq_zero_iff→aH,length_append→ac,append_assoc→aq,drop_left'→cV,take_left'→dY,drop_drop→d8,drop_append_of_le_length→gJ,length_cons→ax,pairwise_iff_getElem→cX,getElem?_eq_getElem→af,any_eq_true→dy,replicate→fW,replicate_succ→mh,flatten_append→dX,flatten_cons→fj,flatten_nil→oL,length→dT,take_of_length_le→bw,range→fF,range_add→qH,mem_range→gH,filterMap_append→ot
open Nat renaming le_refl→ao,min_eq_left→bA,sub_self→fV,zero_mul→tG,sub_zero→fz,lt_or_ge→bN,zero_le→aR,le_trans→bh,testBit_shiftRight→nX,testBit_and→gY,testBit_two_pow_sub_one→kR,shiftRight_eq_div_pow→cA,lt_of_le_of_lt→fC,shiftRight_le→gQ,mod_eq_of_lt→dw,testBit_two_pow→mf,testBit_lt_two_pow→hH,lt_of_lt_of_le→bB,pow_le_pow_right→fL,zero_add→aD,le_of_eq→eg
open UInt8 renaming ofNat→fJ
namespace Go.Proofs
open Go Go.Lift
theorem vo{W:Nat→Prop}{h:ad}{s:SliceV}{xs:List (ByteArray×ByteArray)}(h1:Sl eC 2 W h s xs)(hn:xs.length*32≤140737488355328){K:SliceV→ad→Prop}
  (hk:∀s' h',OwnS eC 2 ag (fun b=>h.size≤b) h' s' xs→Upd No h h'→K s' h'):HC PG cZ [.slice s.a s.len s.cap] [.c .slice] K h:=by
 refine me s ?_;unfold g7 kU;refine CondP.intro (fun he=>?_) (fun hne=>?_)
 ·have he:s.a=none:=by simpa using he
  have hx:xs= []:=by
   by_cases hx:xs= []
   ·exact hx
   ·obtain⟨a,ha,_⟩:=h1.row hx
    rw[he]at ha;cases ha
  subst hx;exact hk _ _ (OwnS.nil fO) (Upd.refl _ _)
 ·have h2:=h1.upd (Upd.hnew No h [] ag) (fun _ h=>h.elim)
  refine⟨_,h2.srow,?_⟩;refine AppP.own (f:=eC) (M:=fun b=>h.size≤b) (xs:= []) (ys:=xs) ⟨rfl,fO,ao _,.inl rfl⟩ h1.len rfl (vf xs) rfl (by omega) (by simpa using hn) (by rw[iS];omega) fun s' h' ho hu=>?_
  exact hk _ _ ho ((Upd.hnew No h [] ag).trans hu fun b hb=>.inr hb)
theorem Jh{M:Nat→Prop}{h:ad}{s:SliceV}{xs:List (ByteArray×ByteArray)}(hs:OwnS eC 2 ag M h s xs){k:Nat}(hkl:k<xs.length)(hn:xs.length≤4398046511104)
  {K:SliceV→ad→Prop}(hK:∀s' h',OwnS eC 2 ag M h' s' (xs.take k++xs.drop (k+1))→Upd M h h'→K s' h'):
  HC PG eZ [.slice s.a s.len s.cap,.int .i64 k,.int .i64 ((k+1:Nat):Int)] [.c .slice] K h:=by
 refine lX s k ((k+1:Nat):Int) ?_;unfold gO kU;have hlen:=hs.len;have hcap:=hs.cap;rcases hs.blk with h0|⟨b,rest,ha,hb,hc,hr⟩
 ·omega
 have hA:((xs.take k).flatMap eC).length=k*2:=by rw[lR fO,aK,bA (by omega)]
 have hB:((xs.drop (k+1)).flatMap eC).length=(xs.length-(k+1))*2:=by rw[lR fO,aS]
 have e1:xs.flatMap eC=(xs.take k).flatMap eC++(eC xs[k]++(xs.drop (k+1)).flatMap eC):=by
  rw[←aO,←fe hkl];exact za xs k
 rw[e1]at hc;have hone:=vf (xs.drop (k+1));have hins:(xs.take k++xs.drop (k+1)).flatMap eC=(xs.take k).flatMap eC++(xs.drop (k+1)).flatMap eC:=bm;have hX:(eC xs[k]).length=2:=rfl;generalize (xs.take k).flatMap eC=A at hA hc hins;generalize (xs.drop (k+1)).flatMap eC=B at hB hc hone hins;generalize eC xs[k]=X at hX hc;rw[ha];simp only[hlen,aP];refine⟨by omega,by omega,by omega,CondP.intro (fun e=>?_) fun _=>?_⟩
 ·have:(k:Int)=((k+1:Nat):Int):=by simpa using e
  omega
 refine Join.plain ⟨by omega,by omega,B,?_,?_⟩
 ·by_cases hlast:xs.length=k+1
  ·exact⟨hB,.inl (aH.1 (by rw[hB,hlast,fV,tG]))⟩
  rw[jP (by omega)];refine lg hc hB ?_;have:(A++X).length=0+(k+1)*2:=by rw[ac];omega
  rw[show A++(X++B)++rest=(A++X)++(B++rest) by simp only[aq],cV this,dY hB]
 ·rw[sub_zero]
  refine NW hc (by simp only[ac];omega) (by omega) hone fun h1 hb1 hu1=>?_
  have hr':rest.length=(s.cap-xs.length)*2:=by rw[hr,hlen]
  refine⟨by dsimp only;omega,by dsimp only;omega,?_⟩
  simp only[Bd];rw[jP (by omega)];have en:xs.length-(k-0+(xs.length-(k+1)))=1:=by omega
  have hd1:(A++(X++B)++rest).drop ((k-0)*2+B.length)=(X++B).drop B.length++rest:=by
   rw[aq,←d8,cV (show A.length=(k-0)*2 by rw[hA,fz]),gJ (by rw[ac];omega)]
  have ht1:(A++(X++B)++rest).take ((k-0)*2)=A:=by rw[aq,dY (show A.length=(k-0)*2 by rw[hA,fz])]
  rw[hd1,ht1]at hb1;have hdl:((X++B).drop B.length).length=2:=by rw[aS,ac];omega
  generalize (X++B).drop B.length=D at hdl hb1;rw[en];have hz:(dU 1 [.string (⟨#[]⟩:ByteArray),.string (⟨#[]⟩:ByteArray)]).length=2:=rfl;have hAB:(A++B).length=0+(k-0+(xs.length-(k+1)))*2:=by rw[ac,hA,hB];omega
  refine Kq hb1 (by simp only[ac]at hAB⊢;omega) fun h2 hb2 hu2=>?_
  rw[dY hAB,←d8,cV hAB]at hb2;refine hK _ _ ⟨by simp;omega,fO,by simp only;omega,.inr ⟨b,dU 1 [.string (⟨#[]⟩:ByteArray),.string (⟨#[]⟩:ByteArray)]++(D++rest).drop (dU 1 [.string (⟨#[]⟩:ByteArray),.string (⟨#[]⟩:ByteArray)]).length,rfl,hb,?_,?_⟩⟩ ((hu1.mono fun _ e=>.inl (e▸hb)).tr (hu2.mono fun _ e=>.inl (e▸hb)))
  ·rw[hb2,hins];simp only[aq]
  ·simp only[ac,aS,hz,hdl,hr']
   omega
theorem zd{W:Nat→Prop}{h:ad}{s:SliceV}{xs:List (Option Addr)}(h1:Sl pz 1 W h s xs)(hn:xs.length*8≤140737488355328){K:SliceV→ad→Prop}
  (hk:∀s' h',OwnS pz 1 bK (fun b=>h.size≤b) h' s' xs→Upd No h h'→K s' h'):HC PG dH [.slice s.a s.len s.cap] [.c .slice] K h:=by
 refine ku s ?_;unfold gg;refine CondP.intro (fun he=>?_) (fun hne=>?_)
 ·have he:s.a=none:=by simpa using he
  have hx:xs= []:=by
   by_cases hx:xs= []
   ·exact hx
   ·obtain⟨a,ha,_⟩:=h1.row hx
    rw[he]at ha;cases ha
  subst hx;exact hk _ _ (OwnS.nil py) (Upd.refl _ _)
 ·have h2:=h1.upd (Upd.hnew No h [] bK) (fun _ h=>h.elim)
  refine⟨_,h2.srow,?_⟩;refine AppP.own (f:=pz) (M:=fun b=>h.size≤b) (xs:= []) (ys:=xs) ⟨rfl,py,ao _,.inl rfl⟩ h1.len rfl (AM xs) rfl (by omega) (by simpa using hn) (by rw[iS];omega) fun s' h' ho hu=>?_
  exact hk _ _ ho ((Upd.hnew No h [] bK).trans hu fun b hb=>.inr hb)
theorem Ji{M:Nat→Prop}{h:ad}{s:SliceV}{xs:List (Option Addr)}(hs:OwnS pz 1 bK M h s xs){k:Nat}(hkl:k<xs.length)(hn:xs.length≤4398046511104)
  {K:SliceV→ad→Prop}(hK:∀s' h',OwnS pz 1 bK M h' s' (xs.take k++xs.drop (k+1))→Upd M h h'→K s' h'):
  HC PG eo [.slice s.a s.len s.cap,.int .i64 k,.int .i64 ((k+1:Nat):Int)] [.c .slice] K h:=by
 refine j9 s k ((k+1:Nat):Int) ?_;unfold f7;have hlen:=hs.len;have hcap:=hs.cap;rcases hs.blk with h0|⟨b,rest,ha,hb,hc,hr⟩
 ·omega
 have hA:((xs.take k).flatMap pz).length=k*1:=by rw[lR py,aK,bA (by omega)]
 have hB:((xs.drop (k+1)).flatMap pz).length=(xs.length-(k+1))*1:=by rw[lR py,aS]
 have e1:xs.flatMap pz=(xs.take k).flatMap pz++(pz xs[k]++(xs.drop (k+1)).flatMap pz):=by
  rw[←aO,←fe hkl];exact za xs k
 rw[e1]at hc;have hone:=AM (xs.drop (k+1));have hins:(xs.take k++xs.drop (k+1)).flatMap pz=(xs.take k).flatMap pz++(xs.drop (k+1)).flatMap pz:=bm;have hX:(pz xs[k]).length=1:=rfl;generalize (xs.take k).flatMap pz=A at hA hc hins;generalize (xs.drop (k+1)).flatMap pz=B at hB hc hone hins;generalize pz xs[k]=X at hX hc;rw[ha];simp only[hlen,aP];refine⟨by omega,by omega,by omega,CondP.intro (fun e=>?_) fun _=>?_⟩
 ·have:(k:Int)=((k+1:Nat):Int):=by simpa using e
  omega
 refine Join.plain ⟨by omega,by omega,B,?_,?_⟩
 ·by_cases hlast:xs.length=k+1
  ·exact⟨hB,.inl (aH.1 (by rw[hB,hlast,fV,tG]))⟩
  rw[jP (by omega)];refine lg hc hB ?_;have:(A++X).length=0+(k+1)*1:=by rw[ac];omega
  rw[show A++(X++B)++rest=(A++X)++(B++rest) by simp only[aq],cV this,dY hB]
 ·rw[sub_zero]
  refine NW hc (by simp only[ac];omega) (by omega) hone fun h1 hb1 hu1=>?_
  have hr':rest.length=(s.cap-xs.length)*1:=by rw[hr,hlen]
  refine⟨by dsimp only;omega,by dsimp only;omega,?_⟩
  simp only[Bd];rw[jP (by omega)];have en:xs.length-(k-0+(xs.length-(k+1)))=1:=by omega
  have hd1:(A++(X++B)++rest).drop ((k-0)*1+B.length)=(X++B).drop B.length++rest:=by
   rw[aq,←d8,cV (show A.length=(k-0)*1 by rw[hA,fz]),gJ (by rw[ac];omega)]
  have ht1:(A++(X++B)++rest).take ((k-0)*1)=A:=by rw[aq,dY (show A.length=(k-0)*1 by rw[hA,fz])]
  rw[hd1,ht1]at hb1;have hdl:((X++B).drop B.length).length=1:=by rw[aS,ac];omega
  generalize (X++B).drop B.length=D at hdl hb1;rw[en];have hz:(dU 1 [.pointer none]).length=1:=rfl;have hAB:(A++B).length=0+(k-0+(xs.length-(k+1)))*1:=by rw[ac,hA,hB];omega
  refine Kq hb1 (by simp only[ac]at hAB⊢;omega) fun h2 hb2 hu2=>?_
  rw[dY hAB,←d8,cV hAB]at hb2;refine hK _ _ ⟨by simp;omega,py,by simp only;omega,.inr ⟨b,dU 1 [.pointer none]++(D++rest).drop (dU 1 [.pointer none]).length,rfl,hb,?_,?_⟩⟩ ((hu1.mono fun _ e=>.inl (e▸hb)).tr (hu2.mono fun _ e=>.inl (e▸hb)))
  ·rw[hb2,hins];simp only[aq]
  ·simp only[ac,aS,hz,hdl,hr']
   omega
theorem El{W:Nat→Prop}{h:ad}{s:SliceV}{xs:List (Option Addr)}(h1:Sl ul 1 W h s xs)(hn:xs.length*8≤140737488355328){K:SliceV→ad→Prop}
  (hk:∀s' h',OwnS ul 1 bQ (fun b=>h.size≤b) h' s' xs→Upd No h h'→K s' h'):HC PG de [.slice s.a s.len s.cap] [.c .slice] K h:=by
 refine jY s ?_;unfold fU;refine CondP.intro (fun he=>?_) (fun hne=>?_)
 ·have he:s.a=none:=by simpa using he
  have hx:xs= []:=by
   by_cases hx:xs= []
   ·exact hx
   ·obtain⟨a,ha,_⟩:=h1.row hx
    rw[he]at ha;cases ha
  subst hx;exact hk _ _ (OwnS.nil pv) (Upd.refl _ _)
 ·have h2:=h1.upd (Upd.hnew No h [] bQ) (fun _ h=>h.elim)
  refine⟨_,h2.srow,?_⟩;refine AppP.own (f:=ul) (M:=fun b=>h.size≤b) (xs:= []) (ys:=xs) ⟨rfl,pv,ao _,.inl rfl⟩ h1.len rfl (EZ xs) rfl (by omega) (by simpa using hn) (by rw[iS];omega) fun s' h' ho hu=>?_
  exact hk _ _ ho ((Upd.hnew No h [] bQ).trans hu fun b hb=>.inr hb)
end Go.Proofs
namespace Go.Proofs
open Go.Lift
abbrev Pr:=ByteArray×ByteArray
theorem ze{a b:ByteArray}:a.toList=b.toList↔a=b:=by
 constructor
 ·intro h
  rw[ByteArray.toList_eq,ByteArray.toList_eq]at h;cases a;cases b;simp at h;subst h;rfl
 ·rintro rfl;rfl
def kl(a b:ByteArray):Prop:=Op.bytesLess a.toList b.toList=true
instance (a b:ByteArray):Decidable (kl a b):=inferInstanceAs (Decidable (_=true))
theorem IP{a b:ByteArray}:kl a b↔a.toList<b.toList:=by unfold kl;rw[bytesLess_eq,decide_eq_true_iff]
theorem db(a:ByteArray):¬kl a a:=by rw[IP];exact List.lt_irrefl _
theorem iZ{a b c:ByteArray}(h:kl a b)(k:kl b c):kl a c:=by rw[IP]at*;exact List.lt_trans h k
theorem tri:∀x y:List UInt8,Op.bytesLess x y=false→x≠y→Op.bytesLess y x=true
 | [],[],_,h=>absurd rfl h
 | [],_::_,h,_=>by simp[Op.bytesLess]at h
 |_::_,[],_,_=>rfl
 |a::x,b::y,h,hn=>by
  simp only[Op.bytesLess,Bool.or_eq_false_iff,decide_eq_false_iff_not,Bool.and_eq_false_iff]at h;simp only[Op.bytesLess,Bool.or_eq_true,decide_eq_true_iff,Bool.and_eq_true];by_cases e:a=b
  ·subst e
   right;refine⟨by simp,tri x y ?_ fun e=>hn (by rw[e])⟩
   rcases h.2 with h|h
   ·simp at h
   ·exact h
  ·left
   have h1:=h.1;rw[UInt8.lt_iff_toNat_lt]at h1⊢;have:a.toNat≠b.toNat:=fun h=>e (UInt8.toNat_inj.1 h)
   omega
theorem rA{a b:ByteArray}(h:¬kl a b)(k:a≠b):kl b a:=tri _ _ (by unfold kl at h;simpa using h) fun e=>k (ze.1 e)
def Fl(a b:ByteArray):Int:=if kl a b then-1 else if a=b then 0 else 1
theorem GN{x:ByteArray}{h:ad}{K:Bool→ad→Prop}(hk:K false h):HC PG mJ [.string x] [.c .bool] K h:=by
 refine AD x ?_;unfold tY;simpa using hk
theorem Jj{a b:ByteArray}{h:ad}{K:Int→ad→Prop}(hk:K (Fl a b) h):HC PG nH [.string a,.string b] [.c (.int .i64)] K h:=by
 refine yk a b ?_;unfold rk;refine GN (GN (al.2 (al.2 ?_)));unfold Fl at hk;refine CondP.intro (fun e=>?_) fun e=>?_
 ·rw[if_pos (show kl a b from e)]at hk;exact hk
 ·have hn:¬kl a b:=fun h=>by rw[show Op.bytesLess a.toList b.toList=true from h]at e;cases e
  rw[if_neg hn]at hk;rw[e];refine CondP.intro (fun e2=>?_) fun e2=>?_
  ·rw[if_neg (fun h=>by subst h;simp at e2)]at hk;exact hk
  ·have:a.toList=b.toList:=by simpa using e2
   rw[if_pos (ze.1 this)]at hk;exact hk
theorem GD{p:Pr}{k:ByteArray}{h:ad}{K:Int→ad→Prop}(hk:∀h',Upd No h h'→K (Fl p.1 k) h'):HC PG nD [.agg #[.string p.1,.string p.2],.string k] [.c (.int .i64)] K h:=by
 refine FO p k ?_;unfold yv jx cy av sP;have b1:=bZ h [.string p.1,.string p.2] ag;refine⟨p.1,by rw[cM,bP,aV b1];rfl,Jj (hk _ (Upd.hnew No h _ _))⟩
abbrev dD(l:List Pr):Prop:=l.Pairwise fun p q=>kl p.1 q.1
def ua(l:List Pr)(k:ByteArray):Nat:=(l.takeWhile fun p=>decide (kl p.1 k)).length
def fq(l:List Pr)(k:ByteArray):Bool:=l.any fun p=>decide (p.1=k)
theorem Nf{l:List Pr}{k:ByteArray}{i:Nat}(hi:i≤l.length)(h1:∀j (h:j<l.length),j<i→kl l[j].1 k)(h2:∀(h:i<l.length),¬kl l[i].1 k):ua l k=i:=by
 unfold ua;induction l generalizing i with
 |nil=>simp at hi;simp[hi]
 |cons p l ih=>
  rw[List.takeWhile_cons];cases i with
  |zero=>
   have:=h2 (by simp);simp only[List.getElem_cons_zero]at this;rw[if_neg (by simpa using this)];rfl
  |succ i=>
   have:=h1 0 (by simp) (by omega);simp only[List.getElem_cons_zero]at this;rw[if_pos (by simpa using this),ax];congr 1
   refine ih (by simpa using hi) (fun j hj hji=>?_) fun h=>?_
   ·have:=h1 (j+1) (by simpa using hj) (by omega)
    simpa using this
   ·have:=h2 (by simpa using h)
    simpa using this
theorem Qf(l:List Pr)(k:ByteArray):ua l k≤l.length:=by
 unfold ua;exact(List.takeWhile_prefix _).length_le
theorem KO{W:Nat→Prop}{h:ad}{s:SliceV}{l:List Pr}(hs:Sl eC 2 W h s l)(hr:dD l)(hn:l.length≤1000000000)(k:ByteArray){K:Int×Bool→ad→Prop}
  (hk:∀h',Upd No h h'→K ((ua l k:Int),fq l k) h'):HC PG qU [.slice s.a s.len s.cap,.string k] [.c (.int .i64),.c .bool] K h:=by
 refine Hu s k ?_;unfold Ak jz;refine il s k _ ?_;unfold eK dd o9 cy bC;have hlen:=hs.len;have cmp:∀{p:Pr} {h:ad} {K:Int→ad→Prop},(∀h',Upd No h h'→K (Fl p.1 k) h')→HV PG (.func (.func nD) #[] #[]) [.agg #[.string p.1,.string p.2],.string k] [.c (.int .i64)] K h:=fun hk=>HV.mk' (GD hk)
 refine LoopP.ghost (fun(g:Nat×Nat) (t:Int×Int) h'=>t.1=(g.1:Int)∧t.2=(g.2:Int)∧g.1≤g.2∧g.2≤l.length∧Upd No h h'∧(∀j (hj:j<l.length),j<g.1→kl l[j].1 k)∧(∀j (hj:j<l.length),g.2≤j→¬kl l[j].1 k)) (fun g=>g.2-g.1) (0,l.length)
  ⟨rfl,by simp only;omega,by simp,by simp,Upd.refl _ _,fun j hj h=>by omega,fun j hj h=>by simp only at h;omega⟩ ?_
 rintro I ⟨i,j⟩ ⟨ti,tj⟩ h' ⟨e1,e2,hij,hjl,hu,hlo,hhi⟩ hI;simp only at e1 e2 hij hjl hlo hhi;subst e1 e2;have hs':=hs.upd hu fun _ h=>h.elim
 have mono:∀a b (ha:a<l.length) (hb:b<l.length),a<b→kl l[a].1 l[b].1:=fun a b ha hb hab=>cX.1 hr a b ha hb hab
 refine aE (fun hlt=>?_) fun hge=>?_
 ·have hlt:i<j:=by have:(i:Int)<(j:Int):=hlt;omega
  have em:IntKind.wrap .i64 (ee (IntKind.wrap .u64 (IntKind.wrap .i64 ((i:Int)+(j:Int)))) (2^(min (1:Int).toNat (IntKind.bits .u64))))=(((i+j)/2:Nat):Int):=by
   have e3:(2^(min (1:Int).toNat (IntKind.bits .u64)):Int)=2:=rfl;rw[e3,jm (x:=(i:Int)+(j:Int)) (by omega),Go.IntWalk.u64_in _ (by omega),iE _ (by omega),jm (by omega)];omega
  refine⟨by decide,?_⟩;simp only[Bd];rw[em];generalize hm:(i+j)/2=m;have hml:m<l.length:=by omega
  obtain⟨a,ha,_,hv⟩:=hs'.at (af hml);refine⟨by omega,a,ha,l[m].1,hv 0 _ rfl,l[m].2,hv 1 _ rfl,cmp fun h2 hu2=>?_⟩
  refine aE (fun hneg=>?_) fun hpos=>?_
  ·have hkl:kl l[m].1 k:=by
    unfold Fl at hneg;by_cases hkl:kl l[m].1 k
    ·exact hkl
    ·rw[if_neg hkl]at hneg;split at hneg<;>omega
   refine hI (m+1,j) _ _ ⟨by simp only;rw[jm (by omega)];omega,rfl,by simp only;omega,hjl,hu.tr hu2,fun q hq hqm=>?_,hhi⟩ (by simp only;omega)
   simp only at hqm;rcases bN q m with h|h
   ·exact iZ (mono q m hq hml h) hkl
   ·have:q=m:=by omega
    subst this;exact hkl
  ·have hnk:¬kl l[m].1 k:=fun hkl=>hpos (by unfold Fl;rw[if_pos hkl];decide)
   refine hI (i,m) _ _ ⟨rfl,rfl,by simp only;omega,by simp only;omega,hu.tr hu2,hlo,fun q hq hqm hqk=>?_⟩ (by simp only;omega)
   simp only at hqm;rcases bN m q with h|h
   ·exact hnk (iZ (mono m q hml hq h) hqk)
   ·have:q=m:=by omega
    subst this;exact hnk hqk
 ·have hij:i=j:=by have:¬(i:Int)<(j:Int):=hge;omega
  subst hij;have hp:ua l k=i:=Nf hjl hlo fun hi=>hhi i hi (ao _)
  rw[hp]at hk;refine aE (fun hlt=>?_) fun hnl=>?_
  ·have hil:i<l.length:=by have:(i:Int)<(s.len:Int):=hlt;omega
   obtain⟨a,ha,_,hv⟩:=hs'.at (af hil);refine⟨by simp only;omega,a,ha,l[i].1,hv 0 _ rfl,l[i].2,hv 1 _ rfl,cmp fun h2 hu2=>?_⟩
   have hnk:=hhi i hil (ao _);have et:(Fl l[i].1 k==(0:Int))=fq l k:=by
    unfold Fl fq;rw[if_neg hnk,ko,dy];constructor
    ·intro h
     split at h
     ·rename_i e;exact⟨l[i],List.getElem_mem hil,decide_eq_true e⟩
     ·simp at h
    ·rintro⟨p,hp,e⟩
     have e:=of_decide_eq_true e;obtain⟨q,hq,rfl⟩:=List.mem_iff_getElem.1 hp;have:q=i:=by
      rcases Nat.lt_trichotomy q i with h|h|h
      ·exact absurd (e▸hlo q hq h) (db _)
      ·exact h
      ·exact absurd (e▸mono i q hil hq h) hnk
     subst this;rw[if_pos e];rfl
   rw[et];exact hk _ (hu.tr hu2)
  ·have hil:i=l.length:=by have:¬(i:Int)<(s.len:Int):=hnl;omega
   have et:fq l k=false:=by
    unfold fq;rw[List.any_eq_false];intro p hp e;have e:=of_decide_eq_true e;obtain⟨q,hq,rfl⟩:=List.mem_iff_getElem.1 hp;exact absurd (e▸hlo q hq (by omega)) (db _)
   rw[et]at hk;exact hk _ hu
end Go.Proofs
namespace Go.Proofs
open Go.Lift
theorem OwnS.zero{α:Type}{f:α→List Value}{sz:Nat}{t:TypeId}{M:Nat→Prop}{h:ad}{s:SliceV}{xs:List α}(hs:OwnS f sz t M h s xs):OwnS f sz t M h ⟨aY s.a 0 s.cap sz,0-0,s.cap-0⟩ []:=by
 have hf:∀x,(f x).length=sz∧0<sz:=hs.ne;have hlen:=hs.len;have hcap:=hs.cap;refine⟨rfl,hf,by simp only;omega,?_⟩
 rcases hs.blk with h0|⟨b,rest,ha,hb,hc,hr⟩
 ·exact .inl (by simp only;omega)
 ·refine .inr ⟨b,xs.flatMap f++rest,by rw[ha,sub_zero],hb,hc,?_⟩
  rw[ac,lR hf,hr,←Nat.add_mul];simp only;congr 1;omega
def Oo:Pr:=(⟨#[]⟩,⟨#[]⟩)
theorem J0(n:Nat):dU n [.string (⟨#[]⟩:ByteArray),.string (⟨#[]⟩:ByteArray)]=(fW n Oo).flatMap eC:=by
 unfold dU;induction n with
 |zero=>rfl
 |succ n ih=>rw[mh,mh,aO,←ih];rfl
theorem O9{n:Nat}(hn:n*32≤140737488355328){h:ad}{K:SliceV→ad→Prop}(hk:∀s' h',OwnS eC 2 ag (fun b=>h.size≤b) h' s' []→Upd No h h'→K s' h'):
  HC PG fu [.slice none 0 0,.int .i64 n] [.c .slice] K h:=by
 refine mD ⟨none,0,0⟩ n ?_;unfold ia kU;have e:IntKind.wrap .i64 ((n:Int)-IntKind.wrap .i64 (((0:Nat):Int)-((0:Nat):Int)))=(n:Int):=by rw[jm (x:=((0:Nat):Int)-((0:Nat):Int)) (by omega),jm (by omega)];omega
 refine Join.plain (aE (fun h=>by omega) fun _=>?_)
 simp only[Bd];rw[e];refine aE (fun hp=>?_) fun hz=>hk _ _ (OwnS.nil fO) (Upd.refl _ _)
 refine⟨by omega,⟨by omega,by omega,by omega,by omega⟩,?_⟩
 refine AppP.own (f:=eC) (M:=fun b=>h.size≤b) (xs:= []) (ys:=fW n Oo) (OwnS.nil fO) (by simp) (J0 _) (by rw[J0];exact vf _) rfl (by omega) (by simpa using hn) (ao _) fun s' h' ho hu=>?_
 exact⟨by omega,hk _ _ (OwnS.zero ho) (hu.mono fun b hb=>.inr hb)⟩
abbrev slF(s:SliceV):List Value:= [.slice s.a s.len s.cap]
def ParS(h:ad):List SliceV→List (List Pr)→Prop
 | [],[]=>True
 |v::vs,l::ls=>Sl eC 2 No h v l∧ParS h vs ls
 |_,_=>False
theorem ParS.upd{h h':ad}(k:Upd No h h'):∀{vs:List SliceV} {ls:List (List Pr)},ParS h vs ls→ParS h' vs ls
 | [],[],_=>trivial
 |_::_,_::_,q=>⟨q.1.upd k fun _ h=>h.elim,ParS.upd k q.2⟩
 | [],_::_,q=>q.elim
 |_::_,[],q=>q.elim
theorem ParS.len{h:ad}:∀{vs:List SliceV} {ls:List (List Pr)},ParS h vs ls→vs.length=ls.length
 | [],[],_=>rfl
 |_::_,_::_,q=>by rw[ax,ax,ParS.len q.2]
 | [],_::_,q=>q.elim
 |_::_,[],q=>q.elim
theorem ParS.at{h:ad}:∀{vs:List SliceV} {ls:List (List Pr)},ParS h vs ls→∀{i:Nat} (h1:i<vs.length) (h2:i<ls.length),Sl eC 2 No h vs[i] ls[i]
 |_::_,_::_,q,0,_,_=>q.1
 |_::_,_::_,q,i+1,h1,h2=>ParS.at q.2 (by simpa using h1) (by simpa using h2)
theorem Ef(ls:List (List Pr)){i:Nat}(hi:i<ls.length):(ls.take (i+1)).flatten=(ls.take i).flatten++ls[i]:=by
 rw[List.take_succ_eq_append_getElem hi,dX,fj,oL,List.append_nil]
theorem KM(ls:List (List Pr))(i:Nat):(ls.take i).flatten.length≤ls.flatten.length:=by
 have:ls.flatten=(ls.take i).flatten++(ls.drop i).flatten:=by rw[←dX,List.take_append_drop]
 rw[this,ac];omega
theorem LW{h:ad}{s:SliceV}{vs:List SliceV}{ls:List (List Pr)}(hs:Sl slF 1 No h s vs)(hp:ParS h vs ls)(hn:ls.flatten.length*32≤140737488355328)(hv:vs.length≤1000)
  {K:SliceV→ad→Prop}(hk:∀s' h',OwnS eC 2 ag (fun b=>h.size≤b) h' s' ls.flatten→Upd No h h'→K s' h'):HC PG fa [.slice s.a s.len s.cap] [.c .slice] K h:=by
 refine lY s ?_;unfold gP cf dd kU;have hlen:=hs.len;have hpl:=hp.len;refine LoopP.ghost (fun(i:Nat) (t:Int×Int) h'=>t.2=(i:Int)∧i≤vs.length∧t.1=((ls.take i).flatten.length:Int)∧h'=h) (fun i=>vs.length-i) 0 ⟨rfl,aR _,by simp,rfl⟩ ?_
 rintro I i ⟨tz,ti⟩ h' ⟨e1,hi,e2,rfl⟩ hI;simp only at e1 e2;subst e1 e2;refine aE (fun hlt=>?_) fun hge=>?_
 ·have hlt:i<vs.length:=by have:(i:Int)<(s.len:Int):=hlt;omega
  obtain⟨a,ha,_,hv'⟩:=hs.at (af hlt);have hvl:=(hp.at hlt (hpl▸hlt)).len;have hft:=congrArg dT (Ef ls (hpl▸hlt));rw[ac]at hft;have hfl:=KM ls (i+1);refine Join.plain ⟨by simp only;omega,a,ha,_,hv' 0 _ rfl,?_⟩;simp only;have ew:IntKind.wrap .i64 (((ls.take i).flatten.length:Int)+((vs[i]).len:Int))=((ls.take (i+1)).flatten.length:Int):=by rw[jm (by omega)];omega
  rw[ew];refine aE (fun h=>by omega) fun _=>?_
  rw[cp hlt (by omega)];exact hI (i+1) _ _ ⟨rfl,hlt,rfl,rfl⟩ (by omega)
 ·have hil:i=vs.length:=by have:¬(i:Int)<(s.len:Int):=hge;omega
  rw[bw (by omega)];refine O9 hn fun s0 h0 ho0 hu0=>?_
  refine LoopP.ghost (fun(i:Nat) (t:SliceV×Int) h1=>t.2=(i:Int)∧i≤vs.length∧OwnS eC 2 ag (fun b=>h'.size≤b) h1 t.1 (ls.take i).flatten∧Upd No h' h1) (fun i=>vs.length-i) 0 ⟨rfl,aR _,by simpa using ho0,hu0⟩ ?_
  rintro I2 j ⟨sj,tj⟩ h1 ⟨e1,hj,ho,hu⟩ hI2;simp only at e1 ho;subst e1;refine aE (fun hlt=>?_) fun hge2=>?_
  ·have hlt:j<vs.length:=by have:(j:Int)<(s.len:Int):=hlt;omega
   obtain⟨a,ha,_,hv'⟩:=(hs.upd hu fun _ h=>h.elim).at (af hlt)
   have hvj:=((hp.upd hu).at hlt (hpl▸hlt));have hft:=Ef ls (hpl▸hlt);have hft2:=congrArg dT hft;rw[ac]at hft2;have hfl:=KM ls (j+1);refine Join.plain ⟨by simp only;omega,a,ha,_,hv' 0 _ rfl,_,hvj.srow,?_⟩;refine AppP.own (ys:=ls[j]) ho hvj.len rfl (vf _) rfl (by omega) (by omega) hu.size fun s2 h2 ho2 hu2=>?_
   simp only;rw[cp hlt (by omega)];exact hI2 (j+1) _ _ ⟨rfl,hlt,hft▸ho2,hu.trans hu2 fun b hb=>.inr hb⟩ (by omega)
  ·have hjl:j=vs.length:=by have:¬(j:Int)<(s.len:Int):=hge2;omega
   rw[bw (by omega)]at ho;exact hk _ _ ho hu
def E7(l:List Pr)(p:Pr):List Pr:=l.take (ua l p.1)++p::l.drop (if fq l p.1 then ua l p.1+1 else ua l p.1)
theorem Iy{l:List Pr}(hr:dD l){k:ByteArray}(ht:fq l k=true):∃h:ua l k<l.length,l[ua l k].1=k:=by
 unfold fq at ht;obtain⟨p,hp,e⟩:=dy.1 ht;have e:=of_decide_eq_true e;obtain⟨q,hq,rfl⟩:=List.mem_iff_getElem.1 hp;have:ua l k=q:=Nf (by omega) (fun j hj hjq=>by rw[←e];exact cX.1 hr j q hj hq hjq) fun h=>by rw[←e];exact db _
 subst this;exact⟨hq,e⟩
theorem MW{h:ad}{s:SliceV}{l:List Pr}(hs:Sl eC 2 No h s l){i j m:Nat}(h1:i≤j)(h2:j≤l.length)(h3:j≤m)(c:Nat):Sl eC 2 No h ⟨aY s.a i m 2,j-i,c⟩ ((l.drop i).take (j-i)):=Sl.sub hs h1 h2 h3
theorem IE{h:ad}{s:SliceV}{l:List Pr}(hs:Sl eC 2 No h s l)(hc:s.len≤s.cap)(hr:dD l)(hn:l.length≤1000000000)(p:Pr)
  {K:SliceV→ad→Prop}(hk:∀s' h',OwnS eC 2 ag (fun b=>h.size≤b) h' s' (E7 l p)→Upd No h h'→K s' h'):HC PG wP [.slice s.a s.len s.cap,.agg #[.string p.1,.string p.2]] [.c .slice] K h:=by
 refine JJ s p ?_;unfold CL jx av sP jz wi;have hlen:=hs.len;have k1:=Upd.hnew No h [.string p.1,.string p.2] ag;have b1:=bZ h [.string p.1,.string p.2] ag;refine bj ?_;simp only[cM h];generalize hnew h [.string p.1,.string p.2] ag=h1 at k1 b1;refine⟨p.1,by rw[bP,aV b1];rfl,KO (hs.upd k1 fun _ h=>h.elim) hr hn p.1 fun h2 hu2=>?_⟩
 have hp:=Qf l p.1;have hu02:=k1.tr hu2;refine⟨by simp only;omega,?_⟩;let q:=if fq l p.1 then ua l p.1+1 else ua l p.1
 have hq:q≤l.length:=by
  show(if fq l p.1 then ua l p.1+1 else ua l p.1)≤l.length
  split
  ·rename_i ht;obtain⟨h,_⟩:=Iy hr ht;omega
  ·exact hp
 refine Join.intro (fun t h'=>h'=h2∧t=⟨aY s.a q s.cap 2,s.len-q,s.cap-q⟩) (fun R hR=>?_) ?_
 ·refine CondP.intro (fun e=>?_) fun e=>hR _ _ ⟨rfl,?_⟩
  ·have e:fq l p.1=true:=e
   obtain⟨hlt,_⟩:=Iy hr e;have ew:IntKind.wrap .i64 ((ua l p.1:Int)+1)=((ua l p.1+1:Nat):Int):=by rw[jm (by omega)];omega
   simp only;rw[ew];refine⟨by omega,hR _ _ ⟨rfl,?_⟩⟩;have:q=ua l p.1+1:=by show(if fq l p.1 then _ else _)=_;rw[if_pos e]
   rw[this];rfl
  ·have e:fq l p.1=false:=e
   have:q=ua l p.1:=by show(if fq l p.1 then _ else _)=_;rw[if_neg (by rw[e];decide)]
   rw[this];rfl
 ·rintro t h' ⟨rfl,rfl⟩
  have b2:=hu2.get0 b1;refine⟨by simp only;omega,p.1,by rw[bP,aV b2];rfl,p.2,by rw[bP,aV b2];rfl,?_⟩
  have k3:=Upd.hnew No h' [.string p.1,.string p.2] ag;have b3:=bZ h' [.string p.1,.string p.2] ag;refine bj ?_;simp only[cM h'];generalize hnew h' [.string p.1,.string p.2] ag=h3 at k3 b3;refine bj ?_;have hs2:=(hs.upd hu02 fun _ h=>h.elim).upd k3 fun _ h=>h.elim
  have k4:=Upd.hnew No h3 [.slice (aY s.a 0 s.cap 2) ((ua l p.1:Int).toNat-0) (s.cap-0),.slice (some ⟨h'.size,0,none⟩) 1 1,.slice (aY s.a q s.cap 2) (s.len-q) (s.cap-q)] cL;have b4:=bZ h3 [.slice (aY s.a 0 s.cap 2) ((ua l p.1:Int).toNat-0) (s.cap-0),.slice (some ⟨h'.size,0,none⟩) 1 1,.slice (aY s.a q s.cap 2) (s.len-q) (s.cap-q)] cL;have hA:=MW hs2 (i:=0) (j:=ua l p.1) (m:=s.cap) (aR _) hp (by omega) (s.cap-0)
  have hB:Sl eC 2 No h3 ⟨some ⟨h'.size,0,none⟩,1,1⟩ [p]:=⟨rfl,fO,fun _=>⟨_,rfl,fun h=>h.elim,oQ b3 fun i v hv=>by simpa using hv⟩⟩
  have hC:=MW hs2 (i:=q) (j:=l.length) (m:=s.cap) hq (ao _) (by omega) (s.cap-q);rw[←hlen]at hC;rw[List.drop_zero]at hA;rw[bw (by rw[aS];omega)]at hC;have e0:E7 l p= [l.take (ua l p.1-0),[p],l.drop q].flatten:=by simp[E7,q]
  refine LW (s:=⟨some (az h3),3,3⟩) (vs:= [⟨aY s.a 0 s.cap 2,(ua l p.1:Int).toNat-0,s.cap-0⟩,⟨some ⟨h'.size,0,none⟩,1,1⟩,⟨aY s.a q s.cap 2,s.len-q,s.cap-q⟩]) (ls:= [l.take (ua l p.1-0),[p],l.drop q])
   ⟨rfl,fun x=>⟨rfl,Nat.one_pos⟩,fun _=>⟨_,rfl,fun h=>h.elim,oQ b4 fun i v hv=>by simpa[slF]using hv⟩⟩ ⟨hA.upd k4 fun _ h=>h.elim,hB.upd k4 fun _ h=>h.elim,hC.upd k4 fun _ h=>h.elim,trivial⟩ ?_ (by simp) fun s5 h5 ho5 hu5=>?_
  ·simp only[fj,oL,ac,aK,aS,List.length_singleton,List.length_nil];omega
  ·rw[←e0]at ho5
   have hu:=((hu02.tr k3).tr k4);exact hk _ _ (ho5.more fun b hb=>bh hu.size hb) (hu.tr hu5)
end Go.Proofs
namespace Go.Proofs
open Go.Lift
def sH(n d:Nat):Nat:=(fF n).countP (d.testBit ·)
theorem AW(m n d:Nat):sH (m+n) d=sH m d+sH n (d>>>m):=by
 unfold sH;rw[qH,List.countP_append,List.countP_map];congr 1
 refine List.countP_congr fun i _=>?_
 simp[nX]
theorem KV(d:Nat)(i:Nat):∀n,i≤n→sH n (d&&&(2^i-1))=sH i d:=by
 intro n hn;obtain⟨m,rfl⟩:=Nat.exists_eq_add_of_le hn;rw[AW];have e1:sH i (d&&&(2^i-1))=sH i d:=by
  unfold sH;refine List.countP_congr fun j hj=>?_
  have:=gH.1 hj;simp[gY,kR,this]
 have e2:sH m ((d&&&(2^i-1))>>>i)=0:=by
  unfold sH;rw[List.countP_eq_zero];intro j _;simp[nX,gY,kR];intro h;omega
 omega
theorem Qr(d:Nat):sH 8 (d&&&255)=sH 8 d:=KV d 8 8 (ao _)
theorem wS(n d:Nat):sH n d≤n:=by
 have:=List.countP_le_length (p:=(d.testBit ·)) (l:=fF n)
 simpa[sH]using this
theorem lu(d n:Nat):ee (d:Int) (2^n)=((d>>>n:Nat):Int):=by
 rw[iE _ (by exact Int.le_of_lt (Int.pow_pos (by decide))),cA];simp
theorem N0(a b:Nat):(aj (IntKind.bits .u32) (a:Int)&&&aj (IntKind.bits .u32) (b:Int)).toNat=(a%4294967296)&&&(b%4294967296):=by
 simp[IntKind.bits,BitVec.toNat_and,BitVec.toNat_ofInt];rfl
theorem xr{n:Nat}(h:n<4294967296):IntKind.wrap .u32 (n:Int)=(n:Int):=Go.IntWalk.u32_in _ (by omega)
theorem BA{i:Nat}(hi:i<32){h:ad}{K:Bool→ad→Prop}(hk:K true h):HC PG mw [.int .i64 i] [.c .bool] K h:=by
 refine Dq i ?_;unfold wg;refine aE (fun _=>?_) fun h=>absurd (Int.natCast_nonneg i) h
 rw[decide_eq_true (by omega)];exact hk
theorem Fy{a b:Nat}(h:b<4294967296):a&&&b<4294967296:=fC Nat.and_le_right h
theorem yY{d i:Nat}(hd:d<4294967296)(hi:i<32){h:ad}{K:Bool→ad→Prop}(hk:K (d.testBit i) h):HC PG fI [.int .u32 d,.int .i64 i] [.c .bool] K h:=by
 refine zu d i ?_;unfold sF;refine BA hi (aw.2 ⟨by omega,?_⟩);have e:min (i:Int).toNat (IntKind.bits .u32)=i:=by rw[aP];exact bA (by show i≤32;omega)
 rw[e,lu];have e2:=N0 (d>>>i) 1;have hlt:d>>>i<4294967296:=fC (gQ d i) hd;rw[dw hlt,show(1:Nat)%4294967296=1 from rfl]at e2
 simp only[Bd];rw[show((1:Nat):Int)=(1:Int)from rfl]at e2
 rw[e2,xr (Fy (by omega))];have e3:(((d>>>i&&&1:Nat):Int)==(1:Int))=d.testBit i:=by
  rw[ko,beq_iff_eq,Nat.testBit,Nat.and_comm];simp only[bne_iff_ne,ne_eq,Nat.one_and_eq_mod_two];have:(d>>>i)%2<2:=Nat.mod_lt _ (by omega);omega
 rw[e3];exact hk
theorem L5{d i:Nat}(hd:d<4294967296)(hi:i<32):∃w:Nat,IntKind.wrap .u32 (aj (IntKind.bits .u32) (d:Int)|||aj (IntKind.bits .u32) (IntKind.wrap .u32 (1*2^(min (i:Int).toNat (IntKind.bits .u32))))).toNat=(w:Int)∧w<4294967296∧∀j,w.testBit j=(d.testBit j||decide (j=i)):=by
 have e:min (i:Int).toNat (IntKind.bits .u32)=i:=by rw[aP];exact bA (by show i≤32;omega)
 have hp:2^i<4294967296:=Nat.pow_lt_pow_right (by omega) (show i<32 from hi)
 have e2:(1*2^i:Int)=((2^i:Nat):Int):=by simp
 rw[e,e2,xr hp];refine⟨_,xr (BitVec.isLt _),BitVec.isLt _,fun j=>?_⟩
 rw[BitVec.testBit_toNat,BitVec.getLsbD_or,eT,eT,lH,lH,mf];by_cases hj:j<32
 ·have:decide (j<IntKind.bits .u32)=true:=decide_eq_true hj
  rw[this];simp[eq_comm]
 ·have h1:decide (j<IntKind.bits .u32)=false:=decide_eq_false hj
  have h2:d.testBit j=false:=hH (bB hd (fL (n:=2) (by omega) (show 32≤j by omega)))
  rw[h1,h2];simp;omega
theorem Kd{d i:Nat}(hd:d<4294967296)(hi:i<32){h:ad}{K:Int→ad→Prop}(hk:∀w:Nat,w<4294967296→(∀j,w.testBit j=(d.testBit j||decide (j=i)))→K (w:Int) h):HC PG fh [.int .u32 d,.int .i64 i] [.c (.int .u32)] K h:=by
 refine yl d i ?_;unfold rl;refine BA hi (al.2 ⟨by omega,?_⟩);obtain⟨w,e,h1,h2⟩:=L5 hd hi;simp only[Bd];rw[e];exact hk w h1 h2
theorem Fv{d i:Nat}(hd:d<4294967296)(hi:i<32):∃w:Nat,IntKind.wrap .u32 (aj (IntKind.bits .u32) (d:Int)&&& ~~~aj (IntKind.bits .u32) (IntKind.wrap .u32 (1*2^(min (i:Int).toNat (IntKind.bits .u32))))).toNat=(w:Int)∧w<4294967296∧∀j,w.testBit j=(d.testBit j&&decide (j≠i)):=by
 have e:min (i:Int).toNat (IntKind.bits .u32)=i:=by rw[aP];exact bA (by show i≤32;omega)
 have hp:2^i<4294967296:=Nat.pow_lt_pow_right (by omega) (show i<32 from hi)
 have e2:(1*2^i:Int)=((2^i:Nat):Int):=by simp
 rw[e,e2,xr hp];refine⟨_,xr (BitVec.isLt _),BitVec.isLt _,fun j=>?_⟩
 rw[BitVec.testBit_toNat,BitVec.getLsbD_and,BitVec.getLsbD_not,eT,eT,lH,lH,mf];by_cases hj:j<32
 ·have:decide (j<IntKind.bits .u32)=true:=decide_eq_true hj
  rw[this];simp[eq_comm]
 ·have h1:decide (j<IntKind.bits .u32)=false:=decide_eq_false hj
  have h2:d.testBit j=false:=hH (bB hd (fL (n:=2) (by omega) (show 32≤j by omega)))
  rw[h1,h2];simp
theorem A4{d i:Nat}(hd:d<4294967296)(hi:i<32){h:ad}{K:Int→ad→Prop}(hk:∀w:Nat,w<4294967296→(∀j,w.testBit j=(d.testBit j&&decide (j≠i)))→K (w:Int) h):HC PG i7 [.int .u32 d,.int .i64 i] [.c (.int .u32)] K h:=by
 refine uR d i ?_;unfold pp;refine BA hi (al.2 ⟨by omega,?_⟩);obtain⟨w,e,h1,h2⟩:=Fv hd hi;simp only[Bd];rw[e];exact hk w h1 h2
abbrev QQ:ByteArray:=⟨#[0,1,1,2,1,2,2,3,1,2,2,3,2,3,3,4,1,2,2,3,2,3,3,4,2,3,3,4,3,4,4,5,1,2,2,3,2,3,3,4,2,3,3,4,3,4,4,5,2,3,3,4,3,4,4,5,3,4,4,5,4,5,5,6,1,2,2,3,2,3,3,4,2,3,3,4,3,4,4,5,2,3,3,4,3,4,4,5,3,4,4,5,4,5,5,6,2,3,3,4,3,4,4,5,3,4,4,5,4,5,5,6,3,4,4,5,4,5,5,6,4,5,5,6,5,6,6,7,1,2,2,3,2,3,3,4,2,3,3,4,3,4,4,5,2,3,3,4,3,4,4,5,3,4,4,5,4,5,5,6,2,3,3,4,3,4,4,5,3,4,4,5,4,5,5,6,3,4,4,5,4,5,5,6,4,5,5,6,5,6,6,7,2,3,3,4,3,4,4,5,3,4,4,5,4,5,5,6,3,4,4,5,4,5,5,6,4,5,5,6,5,6,6,7,3,4,4,5,4,5,5,6,4,5,5,6,5,6,6,7,4,5,5,6,5,6,6,7,5,6,6,7,6,7,7,8]⟩
theorem Ow:(fF 256).all (fun b=>decide (QQ[b]? =some (fJ (sH 8 b))))=true:=by decide+kernel
theorem EJ{b:Nat}(h:b<256):QQ[b]? =some (fJ (sH 8 b)):=of_decide_eq_true (List.all_eq_true.1 Ow b (gH.2 h))
theorem Fj(b:Nat):(fJ (sH 8 b)).toNat=sH 8 b:=by
 have:=wS 8 b;simp;omega
theorem RJ(d:Nat):sH 32 d=sH 8 (d>>>24)+sH 8 ((d>>>16)&&&255)+sH 8 ((d>>>8)&&&255)+sH 8 (d&&&255):=by
 rw[Qr,Qr,Qr,show(32:Nat)=8+(8+(8+8))from rfl,AW,AW,AW]
 simp only[←Nat.shiftRight_add,Nat.reduceAdd];omega
set_option maxRecDepth 100000 in
theorem OX{d:Nat}(hd:d<4294967296){h:ad}{K:Int→ad→Prop}(hk:K (sH 32 d:Int) h):HC PG jD [.int .u32 d] [.c (.int .i64)] K h:=by
 refine sd d ?_;unfold ni;have e24:ee (d:Int) (2^(min (24:Int).toNat (IntKind.bits .u32)))=((d>>>24:Nat):Int):=lu d 24;have e16:ee (d:Int) (2^(min (16:Int).toNat (IntKind.bits .u32)))=((d>>>16:Nat):Int):=lu d 16;have e8:ee (d:Int) (2^(min (8:Int).toNat (IntKind.bits .u32)))=((d>>>8:Nat):Int):=lu d 8;have b:∀x:Nat,x<4294967296→IntKind.wrap .u32 (aj (IntKind.bits .u32) (x:Int)&&&aj (IntKind.bits .u32) 255).toNat=((x&&&255:Nat):Int):=fun x hx=>by
  have:=N0 x 255;rw[dw hx]at this;rw[show((255:Nat):Int)=(255:Int)from rfl]at this
  rw[this,xr (Fy (by omega))]
 have l24:d>>>24<256:=by rw[cA];omega
 have lb:∀x:Nat,x&&&255<256:=fun x=>fC Nat.and_le_right (by omega)
 have s16:d>>>16<4294967296:=fC (gQ d 16) hd;have s8:d>>>8<4294967296:=fC (gQ d 8) hd;simp only[Bd];rw[e24,e16,e8,b _ s16,b _ s8,b _ hd];refine⟨by decide,_,by omega,EJ (b:=d>>>24) l24,by decide,_,by omega,EJ (lb _),by decide,_,by omega,EJ (lb _),_,by omega,EJ (lb _),?_⟩
 rw[Fj,Fj,Fj,Fj];simp only[aP];have q1:=wS 8 (d>>>24);have q2:=wS 8 (d>>>16&&&255);have q3:=wS 8 (d>>>8&&&255);have q4:=wS 8 (d&&&255);rw[RJ]at hk;have u8:∀n:Nat,n≤255→IntKind.wrap .u8 (n:Int)=(n:Int):=fun n hn=>Go.IntWalk.u8_in _ (by omega)
 rw[←Int.natCast_add,u8 _ (by omega),←Int.natCast_add,u8 _ (by omega),←Int.natCast_add,u8 _ (by omega),jm (by omega)];exact hk
theorem oU{d i:Nat}(hd:d<4294967296)(hi:i<32){h:ad}{K:Int→ad→Prop}(hk:K (sH i d:Int) h):HC PG dA [.int .u32 d,.int .i64 i] [.c (.int .i64)] K h:=by
 refine ym d i ?_;unfold rm cy;refine aE (fun h0=>?_) fun h0=>?_
 ·have:i=0:=by omega
  subst this;exact hk
 ·refine aE (fun h=>by omega) fun _=>⟨by omega,?_⟩
  have e:min (i:Int).toNat (IntKind.bits .u32)=i:=by rw[aP];exact bA (by show i≤32;omega)
  have hp:2^i<4294967296:=Nat.pow_lt_pow_right (by omega) (show i<32 from hi)
  have hp0:0<2^i:=Nat.pow_pos (by omega);have e2:(1*2^i:Int)=((2^i:Nat):Int):=by simp
  have e3:(((2^i:Nat):Int)-1)=((2^i-1:Nat):Int):=by omega
  simp only[Bd];rw[e,e2,xr hp,e3,xr (show 2^i-1<4294967296 by omega),N0,dw hd,dw (show 2^i-1<4294967296 by omega),xr (Fy (by omega))]
  refine xf _ ?_;unfold qD cy;refine OX (Fy (by omega)) ?_;rw[KV d i 32 (by omega)];exact hk
end Go.Proofs
namespace Go.Proofs
open Go.Lift
def fm{β:Type}(g:Nat→Option β)(n:Nat):List β:=(fF n).filterMap g
def upd{β:Type}(g:Nat→Option β)(i:Nat)(x:Option β)(j:Nat):Option β:=if j=i then x else g j
theorem Q2{β:Type}{f g:Nat→Option β}:∀l:List Nat,(∀j∈l,f j=g j)→l.filterMap f=l.filterMap g
 | [],_=>rfl
 |j::l,h=>by
  rw[List.filterMap_cons,List.filterMap_cons,h j (List.mem_cons_self ..),Q2 l fun k hk=>h k (List.mem_cons_of_mem _ hk)]
section
variable {β:Type} {g:Nat→Option β} {d:Nat}
theorem BZ(hd:∀c,c<32→d.testBit c=(g c).isSome){i:Nat}(hi:i≤32):(fm g i).length=sH i d:=by
 unfold fm sH;rw[List.length_filterMap_eq_countP];exact List.countP_congr fun j hj=>by rw[hd j (by have:=gH.1 hj;omega)]
theorem pi{i n:Nat}(hi:i<n):fm g n=fm g i++((g i).toList++(fF (n-(i+1))).filterMap fun j=>g (i+1+j)):=by
 unfold fm;have e:n=i+(1+(n-(i+1))):=by omega
 rw[e,qH,ot,qH];have e2:i+(1+(n-(i+1)))-(i+1)=n-(i+1):=by omega
 rw[e2];congr 1
 rw[List.map_append,ot,List.map_map];congr 1
 rw[List.filterMap_map];refine Q2 _ fun j _=>?_
 show g (i+(1+j))=_
 rw[Nat.add_assoc]
theorem wF{i:Nat}{x:Option β}:fm (upd g i x) i=fm g i:=by
 unfold fm;refine Q2 _ fun j hj=>?_
 have:=gH.1 hj;unfold upd;rw[if_neg (by omega)]
theorem ux{i m:Nat}{x:Option β}:((fF m).filterMap fun j=>upd g i x (i+1+j))=(fF m).filterMap fun j=>g (i+1+j):=by
 refine Q2 _ fun j _=>?_
 unfold upd;rw[if_neg (by omega)]
theorem NC{i:Nat}(hi:i<32)(hd:∀c,c<32→d.testBit c=(g c).isSome)(hn:g i=none)(x:β):fm (upd g i (some x)) 32=(fm g 32).take (sH i d)++x::(fm g 32).drop (sH i d):=by
 have hl:=BZ hd (i:=i) (by omega);rw[pi (g:=upd g i (some x)) hi,pi (g:=g) hi,wF,ux,hn,dY hl,cV hl];simp[upd]
theorem NB{i:Nat}(hi:i<32)(hd:∀c,c<32→d.testBit c=(g c).isSome){y:β}(hn:g i=some y)(x:β):fm (upd g i (some x)) 32=(fm g 32).take (sH i d)++x::(fm g 32).drop (sH i d+1):=by
 have hl:=BZ hd (i:=i) (by omega);rw[pi (g:=upd g i (some x)) hi,pi (g:=g) hi,wF,ux,hn,dY hl,←d8,cV hl];simp[upd]
theorem ND{i:Nat}(hi:i<32)(hd:∀c,c<32→d.testBit c=(g c).isSome){y:β}(hn:g i=some y):fm (upd g i none) 32=(fm g 32).take (sH i d)++(fm g 32).drop (sH i d+1):=by
 have hl:=BZ hd (i:=i) (by omega);rw[pi (g:=upd g i none) hi,pi (g:=g) hi,wF,ux,hn,dY hl,←d8,cV hl];simp[upd]
theorem NF{i:Nat}(hi:i<32)(hd:∀c,c<32→d.testBit c=(g c).isSome){y:β}(hn:g i=some y):(fm g 32)[sH i d]? =some y:=by
 have hl:=BZ hd (i:=i) (by omega);rw[pi (g:=g) hi,hn,List.getElem?_append_right (by omega),hl,fV];rfl
theorem Ee{i:Nat}(hi:i<32)(hd:∀c,c<32→d.testBit c=(g c).isSome){y:β}(hn:g i=some y):sH i d<(fm g 32).length:=(List.getElem?_eq_some_iff.1 (NF hi hd hn)).1
theorem PL{i:Nat}(hi:i<32)(hd:∀c,c<32→d.testBit c=(g c).isSome):sH i d≤(fm g 32).length:=by
 have hl:=BZ hd (i:=i) (by omega);rw[pi (g:=g) hi,ac];omega
theorem vO:(fm g 32).length≤32:=by
 have:=List.length_filterMap_le g (fF 32);simpa[fm]using this
end
end Go.Proofs
namespace Go.Proofs
open Go.Lift
abbrev sv(s:SliceV):Value:=.slice s.a s.len s.cap
structure Slots where
 p:Nat→Option Pr
 k:Nat→Option (Option Addr)
def fA(d n:Nat)(sp sk:SliceV)(bu:Bool)(ow:Option Addr):Array Value:= #[.int .u32 (d:Int),.int .u32 (n:Int),sv sp,sv sk,.bool bu,.pointer ow]
structure BitsOf(d n:Nat)(s:Slots):Prop where
 d32:d<4294967296
 n32:n<4294967296
 dp:∀c,c<32→d.testBit c=(s.p c).isSome
 nk:∀c,c<32→n.testBit c=(s.k c).isSome
structure NodeAt(W:Nat→Prop)(h:ad)(b:Nat)(s:Slots):Prop where
 ex:∃d n sp sk ow,h[b]? =some (.cells (fA d n sp sk false ow) bE (0,0))∧BitsOf d n s∧Sl eC 2 W h sp (fm s.p 32)∧Sl pz 1 W h sk (fm s.k 32)∧sp.len≤sp.cap∧sk.len≤sk.cap
 nw:¬W b
theorem NodeAt.upd{W M:Nat→Prop}{h h':ad}{b:Nat}{s:Slots}(n:NodeAt W h b s)(k:Upd M h h')(hm:∀b,M b→W b∨h.size≤b):NodeAt W h' b s:=by
 obtain⟨d,m,sp,sk,ow,h1,h2,h3,h4,h5,h6⟩:=n.ex;exact⟨⟨d,m,sp,sk,ow,k.get h1 (fun hb=>(hm _ hb).elim n.nw fun h=>by have:=aJ h1;omega),h2,h3.upd k hm,h4.upd k hm,h5,h6⟩,n.nw⟩
structure OwnN(M:Nat→Prop)(h:ad)(b d n:Nat)(sp sk:SliceV)(s:Slots)(ow:Option Addr):Prop where
 blk:h[b]? =some (.cells (fA d n sp sk false ow) bE (0,0))
 bits:BitsOf d n s
 ex:∃A B:Nat→Prop,OwnS eC 2 ag A h sp (fm s.p 32)∧OwnS pz 1 bK B h sk (fm s.k 32)∧(∀x,A x→M x∧¬B x∧x≠b∧x<h.size)∧(∀x,B x→M x∧x≠b∧x<h.size)
 mb:M b
theorem ur{h:ad}{K:Bool→ad→Prop}(hk:K false h):HC PG gl [.pointer none] [.c .bool] K h:=by
 refine wX none ?_;unfold qs ge;exact al.2 hk
theorem DT{b:Nat}{h:ad}{K:Bool→ad→Prop}(hk:K false h):HC PG nF [.pointer (some ⟨b,0,none⟩),.pointer none] [.c .bool] K h:=by
 refine yi _ none ?_;unfold ri tK;exact aw.2 (ur (al.2 hk))
theorem OwnN.upd{M M':Nat→Prop}{h h':ad}{b d n:Nat}{sp sk:SliceV}{s:Slots}{ow:Option Addr}(o:OwnN M h b d n sp sk s ow)(k:Upd M' h h')(hm:∀x,M' x→¬M x):OwnN M h' b d n sp sk s ow:=by
 obtain⟨A,B,h1,h2,h3,h4⟩:=o.ex;have z:=k.size;exact⟨k.get o.blk fun hb=>hm _ hb o.mb,o.bits,⟨A,B,h1.upd k fun x hx hy=>hm _ hy (h3 x hx).1,h2.upd k fun x hx hy=>hm _ hy (h4 x hx).1,fun x hx=>⟨(h3 x hx).1,(h3 x hx).2.1,(h3 x hx).2.2.1,by have:=(h3 x hx).2.2.2;omega⟩,fun x hx=>⟨(h4 x hx).1,(h4 x hx).2.1,by have:=(h4 x hx).2.2;omega⟩⟩,o.mb⟩
set_option maxRecDepth 4000 in
theorem Ni{W:Nat→Prop}{h:ad}{b:Nat}{s:Slots}(nd:NodeAt W h b s){K:Option Addr→ad→Prop}
  (hk:∀h' d n sp sk,OwnN (fun x=>h.size≤x) h' h.size d n sp sk s none→Upd No h h'→K (some ⟨h.size,0,none⟩) h'):
  HC PG iT [.pointer (some ⟨b,0,none⟩),.pointer none] [.c .ptr] K h:=by
 obtain⟨d,n,sp,sk,ow,hb,bits,hsp,hsk,hcp,hck⟩:=nd.ex;refine tQ _ none ?_;unfold pH nv dL ge bG Mv pV gL tK PT;refine DT (al.2 ?_);have c:∀{h:ad} {b:Nat} {c:Array Value} {i:Nat},h[b]? =some (.cells c bE (0,0))→aN h ⟨b,0+i,none⟩=c[i]?:=fun hb=>by rw[aD];exact aV hb
 refine⟨_,rfl,_,c (i:=0) hb,_,c (i:=1) hb,sp,c (i:=2) hb,sk,c (i:=3) hb,_,c (i:=4) hb,_,c (i:=5) hb,?_⟩;have k1:=Upd.hnew No h [.int .u32 0,.int .u32 0,.slice none 0 0,.slice none 0 0,.bool false,.pointer none] bE;have b1:=bZ h [.int .u32 0,.int .u32 0,.slice none 0 0,.slice none 0 0,.bool false,.pointer none] bE;refine bj ?_;simp only[cM h];generalize hnew h [.int .u32 0,.int .u32 0,.slice none 0 0,.slice none 0 0,.bool false,.pointer none] bE=h1 at k1 b1
 have hs1:jA h1 ⟨h.size,0,none⟩ 0 [.int .u32 (d:Int),.int .u32 (n:Int),.slice sp.a sp.len sp.cap,.slice sk.a sk.len sk.cap,.bool false,.pointer ow]=_:=iR _ h1 0 0 _ b1 (by simp);refine⟨.inr ⟨_,rfl,fun j hj=>by rw[bP];exact gS b1 (by simp at hj⊢;omega)⟩,bj ?_⟩
 rw[hs1];have b2:=iY (o:=.cells (fA d n sp sk false ow) bE (0,0)) b1;have k2:Upd No h _:=k1.trans (M':=(· =h.size)) (Upd.set h1 (.cells (fA d n sp sk false ow) bE (0,0)) rfl) fun x hx=>.inr (eg hx.symm)
 have hz2:h.size<(h1.setIfInBounds h.size (.cells (fA d n sp sk false ow) bE (0,0))).size:=aJ b2;have hbb:h.size≠b:=fun e=>by have:=aJ hb;omega
 have e2:(Obj.cells (List.take (0+0) [Value.int .u32 0,.int .u32 0,.slice none 0 0,.slice none 0 0,.bool false,.pointer none]++ [Value.int .u32 (d:Int),.int .u32 (n:Int),.slice sp.a sp.len sp.cap,.slice sk.a sk.len sk.cap,.bool false,.pointer ow]++List.drop (0+0+ [Value.int .u32 (d:Int),.int .u32 (n:Int),.slice sp.a sp.len sp.cap,.slice sk.a sk.len sk.cap,.bool false,.pointer ow].length) [Value.int .u32 0,.int .u32 0,.slice none 0 0,.slice none 0 0,.bool false,.pointer none]).toArray bE (0,0))=.cells (fA d n sp sk false ow) bE (0,0):=rfl
 rw[e2];generalize h1.setIfInBounds h.size (.cells (fA d n sp sk false ow) bE (0,0))=h2 at b2 k2 hz2;have hb2:=k2.get0 hb;refine⟨_,rfl,sp,c (i:=2) hb2,_,rfl,sk,c (i:=3) hb2,?_⟩;refine vo (hsp.upd k2 fun _ h=>h.elim) (by have:=vO (g:=s.p);omega) fun s3 h3 ho3 hu3=>?_
 refine⟨c (i:=3) (hu3.get0 hb2),?_⟩;refine zd ((hsk.upd k2 fun _ h=>h.elim).upd hu3 fun _ h=>h.elim) (by have:=vO (g:=s.k);omega) fun s4 h4 ho4 hu4=>?_
 have b4:=hu4.get0 (hu3.get0 b2);have ho3':=ho3.within.upd hu4 fun _ _ h=>h
 have ho4':=ho4.within;have z3:=hu3.size;have z4:=hu4.size;have w:∀{h:ad} {c:Array Value} {x i:Nat},h[x]? =some (.cells c bE (0,0))→i<c.size→Wr h ⟨x,0+i,none⟩:=fun hb hi=>by rw[aD];exact gS hb hi
 have st:∀{h:ad} {c c':Array Value} {x i:Nat} {v:Value} {k:ad→Prop},h[x]? =some (.cells c bE (0,0))→c.setIfInBounds i v=c'→(∀h',h'[x]? =some (.cells c' bE (0,0))→Upd (· =x) h h'→k h')→At (hset h ⟨x,i,none⟩ v) k:=fun hb e hk=>rH hb fun h' hb' hu=>hk h' (e▸hb') hu
 refine⟨w (i:=2) b4 (show 2<6 by decide),st (i:=2) (c':=fA d n s3 sk false ow) b4 rfl fun h5 b5 hu5=>?_⟩
 refine⟨w (i:=3) b5 (show 3<6 by decide),st (i:=3) (c':=fA d n s3 s4 false ow) b5 rfl fun h6 b6 hu6=>?_⟩
 refine⟨w (i:=5) b6 (show 5<6 by decide),st (i:=5) (c':=fA d n s3 s4 false none) b6 rfl fun h7 b7 hu7=>?_⟩
 refine ur (al.2 ?_);have hu47:=hu5.tr (hu6.tr hu7);have z7:=hu47.size;refine hk _ d n s3 s4 ⟨b7,bits,⟨fun x=>h2.size≤x∧x<h3.size,fun x=>h3.size≤x∧x<h4.size,ho3'.upd hu47 fun x hx e=>by have e:x=h.size:=e;omega,ho4'.upd hu47 fun x hx e=>by have e:x=h.size:=e;omega,fun x hx=>⟨by omega,by omega,by omega,by omega⟩,fun x hx=>⟨by omega,by omega,by omega⟩⟩,ao _⟩ ?_
 exact((k2.tr hu3).tr hu4).trans hu47 fun x hx=>.inr (eg hx.symm)
end Go.Proofs
namespace Go.Proofs
open Go.Lift
theorem rR{β:Type}{g:Nat→Option β}{i:Nat}(h:g i=none):upd g i none=g:=by
 funext j;unfold upd;split
 ·rename_i e;rw[e,h]
 ·rfl
theorem eI{h:ad}{b:Nat}{c:Array Value}{t:TypeId}{i:Nat}(hb:h[b]? =some (.cells c t (0,0))):aN h ⟨b,0+i,none⟩=c[i]?:=by rw[aD];exact aV hb
theorem OY{h:ad}{b:Nat}{c:Array Value}{t:TypeId}{i:Nat}(hb:h[b]? =some (.cells c t (0,0))) (hi:i<c.size):Wr h ⟨b,0+i,none⟩:=by rw[aD];exact gS hb hi
theorem E1{h:ad}{b:Nat}{c c':Array Value}{t:TypeId}{i:Nat}{v:Value}{k:ad→Prop}(hb:h[b]? =some (.cells c t (0,0))) (e:c.setIfInBounds i v=c')
 (hk:∀h',h'[b]? =some (.cells c' t (0,0))→Upd (· =b) h h'→k h'):At (hset h ⟨b,i,none⟩ v) k:=rH hb fun h' hb' hu=>hk h' (e▸hb') hu
theorem KP{M:Nat→Prop}{h:ad}{b d n:Nat}{sp sk:SliceV}{s:Slots}{ow:Option Addr}(o:OwnN M h b d n sp sk s ow){i:Nat}(hi:i<32){K:Unit→ad→Prop}
  (hk:∀h' d' n' sp' sk',OwnN M h' b d' n' sp' sk' ⟨upd s.p i none,upd s.k i none⟩ ow→Upd M h h'→K () h'):HC PG kI [.pointer (some ⟨b,0,none⟩),.int .i64 i] [] K h:=by
 obtain⟨A,B,hA,hB,hAm,hBm⟩:=o.ex;have bits:=o.bits;refine yg _ i ?_;unfold rg cy dL bG iK gL mN ME;have ew:∀k:Nat,k≤100→IntKind.wrap .i64 ((k:Int)+1)=((k+1:Nat):Int):=fun k hk=>by rw[jm (by omega)];omega
 have hc1:=wS i d;have hc2:=wS i n;have hAM:∀x,A x→M x∨h.size≤x:=fun x hx=>.inl (hAm x hx).1
 refine Join.intro (fun _ h'=>∃sp',h'[b]? =some (.cells (fA d n sp' sk false ow) bE (0,0))∧OwnS eC 2 ag A h' sp' (fm (upd s.p i none) 32)∧OwnS pz 1 bK B h' sk (fm s.k 32)∧Upd M h h') (fun R hR=>?_) ?_
 ·refine⟨_,rfl,_,eI (i:=0) o.blk,yY bits.d32 hi ?_⟩
  rw[bits.dp i hi];cases hp:s.p i with
  |none=>exact al.2 (hR _ _ ⟨sp,o.blk,by rw[rR hp];exact hA,hB,Upd.refl _ _⟩)
  |some y=>
   refine aw.2 ⟨_,rfl,_,eI (i:=0) o.blk,oU bits.d32 hi ⟨_,rfl,sp,eI (i:=2) o.blk,?_⟩⟩;rw[ew _ (by omega)];refine Jh hA (Ee hi bits.dp hp) (by have:=vO (g:=s.p);omega) fun s2 h2 ho2 hu2=>?_
   rw[←ND hi bits.dp hp]at ho2;have b2:=hu2.get o.blk fun hb=>(hAm b hb).2.2.1 rfl
   refine⟨_,rfl,OY (i:=2) b2 (show 2<6 by decide),E1 (i:=2) (c':=fA d n s2 sk false ow) b2 rfl fun h3 b3 hu3=>?_⟩
   refine hR _ _ ⟨s2,b3,ho2.upd hu3 fun x hx e=>(hAm x hx).2.2.1 e,(hB.upd hu2 fun x hx hy=>(hAm x hy).2.1 hx).upd hu3 fun x hx e=>(hBm x hx).2.1 e,(hu2.mono hAM).tr (hu3.mono fun x e=>.inl (e▸o.mb))⟩
 rintro _ h1 ⟨sp1,b1,hA1,hB1,hu1⟩;refine Join.intro (fun _ h'=>∃sk',h'[b]? =some (.cells (fA d n sp1 sk' false ow) bE (0,0))∧OwnS eC 2 ag A h' sp1 (fm (upd s.p i none) 32)∧OwnS pz 1 bK B h' sk' (fm (upd s.k i none) 32)∧Upd M h1 h') (fun R hR=>?_) ?_
 ·refine⟨_,rfl,_,eI (i:=1) b1,yY bits.n32 hi ?_⟩
  rw[bits.nk i hi];cases hp:s.k i with
  |none=>exact al.2 (hR _ _ ⟨sk,b1,hA1,by rw[rR hp];exact hB1,Upd.refl _ _⟩)
  |some y=>
   refine aw.2 ⟨_,rfl,_,eI (i:=1) b1,oU bits.n32 hi ⟨_,rfl,sk,eI (i:=3) b1,?_⟩⟩;rw[ew _ (by omega)];refine Ji hB1 (Ee hi bits.nk hp) (by have:=vO (g:=s.k);omega) fun s2 h2 ho2 hu2=>?_
   rw[←ND hi bits.nk hp]at ho2;have b2:=hu2.get b1 fun hb=>(hBm b hb).2.1 rfl
   refine⟨_,rfl,OY (i:=3) b2 (show 3<6 by decide),E1 (i:=3) (c':=fA d n sp1 s2 false ow) b2 rfl fun h3 b3 hu3=>?_⟩
   refine hR _ _ ⟨s2,b3,(hA1.upd hu2 fun x hx hy=>(hAm x hx).2.1 hy).upd hu3 fun x hx e=>(hAm x hx).2.2.1 e,ho2.upd hu3 fun x hx e=>(hBm x hx).2.1 e,(hu2.mono fun x hx=>.inl (hBm x hx).1).tr (hu3.mono fun x e=>.inl (e▸o.mb))⟩
 rintro _ h2 ⟨sk2,b2,hA2,hB2,hu2⟩;refine⟨_,rfl,_,eI (i:=0) b2,_,rfl,_,eI (i:=1) b2,?_⟩;refine A4 bits.d32 hi fun d' hd' hdt=>⟨eI (i:=1) b2,?_⟩
 refine A4 bits.n32 hi fun n' hn' hnt=>?_
 refine⟨_,rfl,OY (i:=0) b2 (show 0<6 by decide),E1 (i:=0) (c':=fA d' n sp1 sk2 false ow) b2 rfl fun h3 b3 hu3=>?_⟩
 refine⟨_,rfl,OY (i:=1) b3 (show 1<6 by decide),E1 (i:=1) (c':=fA d' n' sp1 sk2 false ow) b3 rfl fun h4 b4 hu4=>?_⟩
 have hu34:=hu3.tr hu4;have z:=(hu1.tr (hu2.tr (hu34.mono (M':=M) fun x e=>.inl (e▸o.mb)))).size
 refine hk h4 d' n' sp1 sk2 ⟨b4,⟨hd',hn',fun c hc=>?_,fun c hc=>?_⟩,⟨A,B,hA2.upd hu34 fun x hx e=>(hAm x hx).2.2.1 e,hB2.upd hu34 fun x hx e=>(hBm x hx).2.1 e,fun x hx=>⟨(hAm x hx).1,(hAm x hx).2.1,(hAm x hx).2.2.1,by have:=(hAm x hx).2.2.2;omega⟩,fun x hx=>⟨(hBm x hx).1,(hBm x hx).2.1,by have:=(hBm x hx).2.2;omega⟩⟩,o.mb⟩ (hu1.tr (hu2.tr (hu34.mono fun x e=>.inl (e▸o.mb))))
 ·rw[hdt,bits.dp c hc];simp only[upd];split<;>simp[*]
 ·rw[hnt,bits.nk c hc];simp only[upd];split<;>simp[*]
end Go.Proofs
namespace Go.Proofs
open Go.Lift
theorem OwnS.setAt{α:Type}{f:α→List Value}{sz:Nat}{t:TypeId}{M:Nat→Prop}{h:ad}{s:SliceV}{xs:List α}(hs:OwnS f sz t M h s xs){k:Nat}(hkl:k<xs.length)(x:α):
  ∃a,s.a=some a∧M a.block∧uc h (some (adr a (k*sz))) 0 (f x)∧OwnS f sz t M (jA h (adr a (k*sz)) 0 (f x)) s (xs.take k++x::xs.drop (k+1))∧Upd (· =a.block) h (jA h (adr a (k*sz)) 0 (f x)):=by
 have hf:∀x,(f x).length=sz∧0<sz:=hs.ne;have hlen:=hs.len;have hcap:=hs.cap;rcases hs.blk with h0|⟨b,rest,ha,hb,hc,hr⟩
 ·omega
 have hA:((xs.take k).flatMap f).length=k*sz:=by rw[lR hf,aK,bA (by omega)]
 have e1:xs.flatMap f=(xs.take k).flatMap f++(f xs[k]++(xs.drop (k+1)).flatMap f):=by
  rw[←aO,←fe hkl];exact za xs k
 rw[e1]at hc;have hX:=(hf xs[k]).1;have hY:=(hf x).1;have hins:(xs.take k++x::xs.drop (k+1)).flatMap f=(xs.take k).flatMap f++(f x++(xs.drop (k+1)).flatMap f):=by rw[bm,aO]
 generalize (xs.take k).flatMap f=A at hA hc hins;generalize (xs.drop (k+1)).flatMap f=B at hc hins;generalize f xs[k]=X at hX hc;have hl:k*sz+0+(f x).length≤(A++(X++B)++rest).length:=by simp only[ac];omega
 have ea:adr ⟨b,0,none⟩ (k*sz)=⟨b,k*sz,none⟩:=by rw[bP,aD]
 refine⟨⟨b,0,none⟩,ha,hb,?_,?_,?_⟩
 ·rw[ea]
  refine .inr ⟨_,rfl,fun j hj=>?_⟩
  rw[bP];exact gS hc (by rw[List.size_toArray];omega)
 ·rw[ea,iR (f x) h 0 (k*sz) _ hc hl]
  refine⟨by simp;omega,hf,hcap,.inr ⟨b,rest,ha,hb,?_,?_⟩⟩
  ·rw[iY hc,hins]
   congr 3
   rw[Nat.add_zero,aq A,dY hA,←d8,cV hA,aq X,cV (by omega)];simp only[aq]
  ·exact hr
 ·rw[ea,iR (f x) h 0 (k*sz) _ hc hl]
  exact Upd.set h _ rfl
theorem OwnN.node{M W:Nat→Prop}{h:ad}{b d n:Nat}{sp sk:SliceV}{s:Slots}{ow:Option Addr}(o:OwnN M h b d n sp sk s ow)(hW:∀x,M x→¬W x):NodeAt W h b s:=by
 obtain⟨A,B,h1,h2,h3,h4⟩:=o.ex;exact⟨⟨d,n,sp,sk,ow,o.blk,o.bits,h1.sl fun x hx _=>hW _ (h3 x hx).1,h2.sl fun x hx _=>hW _ (h4 x hx).1,h1.cap,h2.cap⟩,hW _ o.mb⟩
theorem GR{W:Nat→Prop}{h:ad}{b:Nat}{s:Slots}(nd:NodeAt W h b s){i:Nat}(hi:i<32){K:Bool→ad→Prop}(hk:K true h):HC PG kJ [.pointer (some ⟨b,0,none⟩),.int .i64 i] [.c .bool] K h:=by
 obtain⟨d,n,sp,sk,ow,hb,_⟩:=nd.ex;refine yh _ i ?_;unfold rh ge;refine aw.2 ⟨_,rfl,_,eI (i:=4) hb,aw.2 ?_⟩;refine aE (fun _=>?_) fun h=>absurd (Int.natCast_nonneg i) h
 rw[decide_eq_true (by omega)];exact hk
theorem Ke{β:Type}{g:Nat→Option β}{i:Nat}{x y:Option β}:upd (upd g i x) i y=upd g i y:=by
 funext j;unfold upd;split<;>rfl
theorem kX{β:Type}{g:Nat→Option β}{i:Nat}{x:Option β}:upd g i x i=x:=by simp[upd]
theorem sK{W:Nat→Prop}{h:ad}{b:Nat}{s:Slots}(nd:NodeAt W h b s)(hW:∀x,W x→x<h.size){i:Nat}(hi:i<32)(hx:∀y,s.p i=some y→s.k i=none)(p:Pr){K:Option Addr→ad→Prop}
  (hk:∀h' b',NodeAt W h' b' ⟨upd s.p i (some p),upd s.k i none⟩→Upd No h h'→K (some ⟨b',0,none⟩) h'):
  HC PG fY [.pointer (some ⟨b,0,none⟩),.pointer none,.int .i64 i,.agg #[.string p.1,.string p.2]] [.c .ptr] K h:=by
 refine vA _ none i p ?_;unfold pU dd jx cy xo av dL sP bG rt iK pV gL mN;have k1:=Upd.hnew No h [.string p.1,.string p.2] ag;have b1:=bZ h [.string p.1,.string p.2] ag;refine bj ?_;simp only[cM h];generalize hnew h [.string p.1,.string p.2] ag=h1 at k1 b1;have z1:=aJ b1;have nd1:=nd.upd k1 fun _ h=>h.elim
 refine GR nd1 hi (al.2 ?_);refine Ni nd1 fun h2 d n sp sk o hu2=>?_
 have bits:=o.bits;obtain⟨A,B,hA,hB,hAm,hBm⟩:=o.ex;have hu02:=k1.tr hu2;have b12:=hu2.get0 b1;have hMW:∀x,h1.size≤x→¬W x:=fun x hx hw=>by have:=hW x hw;omega
 refine⟨_,rfl,_,eI (i:=0) o.blk,yY bits.d32 hi ?_⟩;rw[bits.dp i hi];cases hp:s.p i with
 |some y=>
  refine aw.2 ⟨_,rfl,sp,eI (i:=2) o.blk,_,rfl,_,eI (i:=0) o.blk,p.1,by rw[bP,aV b12];rfl,p.2,by rw[bP,aV b12];rfl,?_⟩
  refine oU bits.d32 hi ⟨⟨by rw[bP,aV b12];rfl,by rw[bP,aV b12];rfl⟩,eI (i:=2) o.blk,?_⟩
  have hlt:=Ee hi bits.dp hp;obtain⟨a,ha,hab,hw,ho3,hu3⟩:=OwnS.setAt hA hlt p;have hlen:=hA.len;refine⟨by omega,a,ha,?_⟩;rw[aP];refine⟨hw,bj ?_⟩;rw[←NB hi bits.dp hp]at ho3;have ob:=hu3.get o.blk fun e=>(hAm _ hab).2.2.1 e.symm
  have z3:=hu3.size;have o3:OwnN (fun x=>h1.size≤x) _ h1.size d n sp sk ⟨upd s.p i (some p),upd s.k i none⟩ none:=⟨ob,⟨bits.d32,bits.n32,fun c hc=>by
    rw[bits.dp c hc];simp only[upd];split
    ·rename_i e;rw[e,hp];rfl
    ·rfl,fun c hc=>by rw[bits.nk c hc,rR (hx y hp)]⟩,
   ⟨A,B,ho3,by rw[rR (hx y hp)];exact hB.upd hu3 fun x hx e=>(hAm _ hab).2.1 (e▸hx),fun x hx=>⟨(hAm x hx).1,(hAm x hx).2.1,(hAm x hx).2.2.1,by have:=(hAm x hx).2.2.2;omega⟩,fun x hx=>⟨(hBm x hx).1,(hBm x hx).2.1,by have:=(hBm x hx).2.2;omega⟩⟩,o.mb⟩
  refine hk _ _ (o3.node hMW) (hu02.trans hu3 fun x hx=>.inr ?_)
  have:=(hAm _ hab).1;have hx:x=a.block:=hx;omega
 |none=>
  refine al.2 ⟨_,rfl,KP o hi fun h3 d3 n3 sp3 sk3 o3 hu3=>?_⟩
  have bits3:=o3.bits;obtain⟨A3,B3,hA3,hB3,hAm3,hBm3⟩:=o3.ex;have z2:=hu2.size;have z3:=hu3.size;have b13:=hu3.get b12 (show ¬h1.size≤h.size by omega)
  have hu03:Upd No h h3:=hu02.trans hu3 fun x hx=>.inr (bh (Nat.le_of_lt z1) hx)
  refine⟨_,rfl,sp3,eI (i:=2) o3.blk,_,rfl,_,eI (i:=0) o3.blk,p.1,by rw[bP,aV b13];rfl,p.2,by rw[bP,aV b13];rfl,?_⟩
  have k4:=Upd.hnew No h3 [.string p.1,.string p.2] ag;have b4:=bZ h3 [.string p.1,.string p.2] ag;have z4:=iS h3 [.string p.1,.string p.2] ag;have o4:=o3.upd k4 fun _ h=>h.elim
  have fin:HC PG cS [.slice sp3.a sp3.len sp3.cap,.int .i64 (sH i d3),.slice (some (az h3)) 1 1] [.c .slice] (fun(e32:SliceV) h33=>
       ∃a34:Addr,some (⟨h1.size,0,none⟩:Addr)=some a34∧
       (Wr h33 (adr (adr a34 0) 2)∧
        At (hset h33 (adr (adr a34 0) 2) (.slice e32.a e32.len e32.cap)) (fun h35=>
         ∃a36:Addr,some (⟨h1.size,0,none⟩:Addr)=some a36∧
         ∃v37:Int,aN h35 (adr (adr a36 0) 0)=some (.int .u32 v37)∧
         HC PG fh [.int .u32 v37,.int .i64 i] [.c (.int .u32)] (fun(e38:Int) h39=>
          ∃a40:Addr,some (⟨h1.size,0,none⟩:Addr)=some a40∧
          (Wr h39 (adr (adr a40 0) 0)∧
           At (hset h39 (adr (adr a40 0) 0) (.int .u32 e38)) (fun h41=>
            K (some ⟨h1.size,0,none⟩) h41))) h35))) (hnew h3 [.string p.1,.string p.2] ag):=by
   generalize hnew h3 [.string p.1,.string p.2] ag=h4 at k4 b4 z4 o4;rw[cM h3];have hA4:=(hA3.upd k4 fun _ _ h=>h).more (M':=fun x=>A3 x∨h4.size≤x) fun x hx=>.inl hx
   have hpn:(⟨upd s.p i none,upd s.k i none⟩:Slots).p i=none:=kX;refine I0 hA4 (PL hi bits3.dp) (by have:=vO (g:=(⟨upd s.p i none,upd s.k i none⟩:Slots).p);omega) (x:=p) b4 (fun e=>e.elim (fun e=>by have:=(hAm3 _ e).2.2.2;omega) fun e=>by omega) (fun x hx=>.inr hx) fun s5 h5 ho5 hu5=>?_
   rw[←NC hi bits3.dp hpn p]at ho5;have hbl:h1.size<h3.size:=aJ o3.blk;have b5:=hu5.get o4.blk fun e=>e.elim (fun e=>(hAm3 _ e).2.2.1 rfl) fun e=>by omega
   refine⟨_,rfl,OY (i:=2) b5 (show 2<6 by decide),E1 (i:=2) (c':=fA d3 n3 s5 sk3 false none) b5 rfl fun h6 b6 hu6=>?_⟩
   refine⟨_,rfl,_,eI (i:=0) b6,Kd bits3.d32 hi fun w hw hwt=>?_⟩
   refine⟨_,rfl,OY (i:=0) b6 (show 0<6 by decide),E1 (i:=0) (c':=fA w n3 s5 sk3 false none) b6 rfl fun h7 b7 hu7=>?_⟩
   have hu57:=hu6.tr hu7;have z5:=hu5.size;have z7:=hu57.size;have ho5':=ho5.within;have e1:(⟨upd (⟨upd s.p i none,upd s.k i none⟩:Slots).p i (some p),upd s.k i none⟩:Slots)=⟨upd s.p i (some p),upd s.k i none⟩:=by rw[Ke]
   have o7:OwnN (fun x=>h1.size≤x) h7 h1.size w n3 s5 sk3 ⟨upd s.p i (some p),upd s.k i none⟩ none:=by
    rw[←e1];refine⟨b7,⟨hw,bits3.n32,fun c hc=>?_,bits3.nk⟩,⟨fun x=>(A3 x∨h4.size≤x)∧x<h5.size,B3,ho5'.upd hu57 fun x hx e=>?_,((hB3.upd k4 fun _ _ h=>h).upd hu5 fun x hx e=>?_).upd hu57 fun x hx e=>(hBm3 x hx).2.1 e,fun x hx=>⟨?_,?_,?_,by omega⟩,fun x hx=>⟨(hBm3 x hx).1,(hBm3 x hx).2.1,by have:=(hBm3 x hx).2.2;omega⟩⟩,o.mb⟩
    ·rw[hwt,bits3.dp c hc];simp only[upd];split<;>simp[*]
    ·have e:x=h1.size:=e
     rcases hx.1 with h|h
     ·exact(hAm3 x h).2.2.1 e
     ·omega
    ·rcases e with e|e
     ·exact(hAm3 x e).2.1 hx
     ·have:=(hBm3 x hx).2.2;omega
    ·rcases hx.1 with h|h
     ·exact(hAm3 x h).1
     ·omega
    ·rcases hx.1 with h|h
     ·exact(hAm3 x h).2.1
     ·exact fun hb=>by have:=(hBm3 x hb).2.2;omega
    ·rcases hx.1 with h|h
     ·exact(hAm3 x h).2.2.1
     ·omega
   refine hk _ _ (o7.node hMW) (((hu03.tr k4).trans hu5 fun x hx=>.inr ?_).trans hu57 fun x hx=>.inr ?_)
   ·rcases hx with h|h
    ·have:=(hAm3 x h).1;omega
    ·omega
   ·have hx:x=h1.size:=hx
    omega
  refine⟨oU bits3.d32 hi ⟨⟨by rw[bP,aV b13];rfl,by rw[bP,aV b13];rfl⟩,eI (i:=2) o3.blk,bj ⟨eI (i:=2) o4.blk,fin⟩⟩,bj ⟨eI (i:=0) o4.blk,eI (i:=2) o4.blk,oU bits3.d32 hi ⟨eI (i:=2) o4.blk,fin⟩⟩⟩
end Go.Proofs
namespace Go.Proofs
open Go.Lift
theorem yM{W:Nat→Prop}{h:ad}{b:Nat}{s:Slots}(nd:NodeAt W h b s)(hW:∀x,W x→x<h.size){i:Nat}(hi:i<32)(hx:∀y,s.k i=some y→s.p i=none)(kid:Addr){K:Option Addr→ad→Prop}
  (hk:∀h' b',NodeAt W h' b' ⟨upd s.p i none,upd s.k i (some (some kid))⟩→Upd No h h'→K (some ⟨b',0,none⟩) h'):
  HC PG iu [.pointer (some ⟨b,0,none⟩),.pointer none,.int .i64 i,.pointer (some kid)] [.c .ptr] K h:=by
 refine xe _ none i (some kid) ?_;unfold qC dd cy xo dL bG iK pV MF gL mN;refine al.2 ?_;refine GR nd hi (al.2 ?_);refine Ni nd fun h2 d n sp sk o hu2=>?_
 have bits:=o.bits;obtain⟨A,B,hA,hB,hAm,hBm⟩:=o.ex;have hMW:∀x,h.size≤x→¬W x:=fun x hx hw=>by have:=hW x hw;omega
 refine⟨_,rfl,_,eI (i:=1) o.blk,yY bits.n32 hi ?_⟩;rw[bits.nk i hi];cases hp:s.k i with
 |some y=>
  refine aw.2 ⟨_,rfl,sk,eI (i:=3) o.blk,_,rfl,_,eI (i:=1) o.blk,?_⟩;refine oU bits.n32 hi ⟨eI (i:=3) o.blk,?_⟩;have hlt:=Ee hi bits.nk hp;obtain⟨a,ha,hab,hw,ho3,hu3⟩:=OwnS.setAt hB hlt (some kid);have hlen:=hB.len;refine⟨by omega,a,ha,?_⟩;rw[aP];have hw1:Wr h2 (adr a (sH i n*1)):=by
   rcases hw with hw|⟨b',hb',hw⟩
   ·cases hw
   ·cases hb';exact hw 0 (by simp)
  refine⟨hw1,bj ?_⟩;rw[←NB hi bits.nk hp]at ho3;have ob:=hu3.get o.blk fun e=>(hBm _ hab).2.1 e.symm
  have z3:=hu3.size;have o3:OwnN (fun x=>h.size≤x) _ h.size d n sp sk ⟨upd s.p i none,upd s.k i (some (some kid))⟩ none:=⟨ob,⟨bits.d32,bits.n32,fun c hc=>by rw[bits.dp c hc,rR (hx y hp)],fun c hc=>by
    rw[bits.nk c hc];simp only[upd];split
    ·rename_i e;rw[e,hp];rfl
    ·rfl⟩,
   ⟨A,B,by rw[rR (hx y hp)];exact hA.upd hu3 fun x hx e=>(hAm _ hx).2.1 (e▸hab),ho3,fun x hx=>⟨(hAm x hx).1,(hAm x hx).2.1,(hAm x hx).2.2.1,by have:=(hAm x hx).2.2.2;omega⟩,fun x hx=>⟨(hBm x hx).1,(hBm x hx).2.1,by have:=(hBm x hx).2.2;omega⟩⟩,o.mb⟩
  refine hk _ _ (o3.node hMW) (hu2.trans hu3 fun x hx=>.inr ?_)
  have:=(hBm _ hab).1;have hx:x=a.block:=hx;omega
 |none=>
  refine al.2 ⟨_,rfl,KP o hi fun h3 d3 n3 sp3 sk3 o3 hu3=>?_⟩
  have bits3:=o3.bits;obtain⟨A3,B3,hA3,hB3,hAm3,hBm3⟩:=o3.ex;have z2:=hu2.size;have z3:=hu3.size;have hu03:Upd No h h3:=hu2.trans hu3 fun x hx=>.inr hx
  refine⟨_,rfl,sk3,eI (i:=3) o3.blk,_,rfl,_,eI (i:=1) o3.blk,?_⟩;have k4:=Upd.hnew No h3 [.pointer (some kid)] bK;have b4:=bZ h3 [.pointer (some kid)] bK;have z4:=iS h3 [.pointer (some kid)] bK;have o4:=o3.upd k4 fun _ h=>h.elim
  have fin:HC PG cK [.slice sk3.a sk3.len sk3.cap,.int .i64 (sH i n3),.slice (some (az h3)) 1 1] [.c .slice] (fun(e32:SliceV) h33=>
       ∃a34:Addr,some (⟨h.size,0,none⟩:Addr)=some a34∧
       (Wr h33 (adr (adr a34 0) 3)∧
        At (hset h33 (adr (adr a34 0) 3) (.slice e32.a e32.len e32.cap)) (fun h35=>
         ∃a36:Addr,some (⟨h.size,0,none⟩:Addr)=some a36∧
         ∃v37:Int,aN h35 (adr (adr a36 0) 1)=some (.int .u32 v37)∧
         HC PG fh [.int .u32 v37,.int .i64 i] [.c (.int .u32)] (fun(e38:Int) h39=>
          ∃a40:Addr,some (⟨h.size,0,none⟩:Addr)=some a40∧
          (Wr h39 (adr (adr a40 0) 1)∧
           At (hset h39 (adr (adr a40 0) 1) (.int .u32 e38)) (fun h41=>
            K (some ⟨h.size,0,none⟩) h41))) h35))) (hnew h3 [.pointer (some kid)] bK):=by
   generalize hnew h3 [.pointer (some kid)] bK=h4 at k4 b4 z4 o4;rw[cM h3];have hB4:=(hB3.upd k4 fun _ _ h=>h).more (M':=fun x=>B3 x∨h4.size≤x) fun x hx=>.inl hx
   have hpn:(⟨upd s.p i none,upd s.k i none⟩:Slots).k i=none:=kX;refine I6 hB4 (PL hi bits3.nk) (by have:=vO (g:=(⟨upd s.p i none,upd s.k i none⟩:Slots).k);omega) (x:=some kid) b4 (fun e=>e.elim (fun e=>by have:=(hBm3 _ e).2.2;omega) fun e=>by omega) (fun x hx=>.inr hx) fun s5 h5 ho5 hu5=>?_
   rw[←NC hi bits3.nk hpn (some kid)]at ho5;have hbl:h.size<h3.size:=aJ o3.blk;have b5:=hu5.get o4.blk fun e=>e.elim (fun e=>(hBm3 _ e).2.1 rfl) fun e=>by omega
   refine⟨_,rfl,OY (i:=3) b5 (show 3<6 by decide),E1 (i:=3) (c':=fA d3 n3 sp3 s5 false none) b5 rfl fun h6 b6 hu6=>?_⟩
   refine⟨_,rfl,_,eI (i:=1) b6,Kd bits3.n32 hi fun w hw hwt=>?_⟩
   refine⟨_,rfl,OY (i:=1) b6 (show 1<6 by decide),E1 (i:=1) (c':=fA d3 w sp3 s5 false none) b6 rfl fun h7 b7 hu7=>?_⟩
   have hu57:=hu6.tr hu7;have z5:=hu5.size;have z7:=hu57.size;have ho5':=ho5.within;have e1:(⟨upd s.p i none,upd (⟨upd s.p i none,upd s.k i none⟩:Slots).k i (some (some kid))⟩:Slots)=⟨upd s.p i none,upd s.k i (some (some kid))⟩:=by rw[Ke]
   have o7:OwnN (fun x=>h.size≤x) h7 h.size d3 w sp3 s5 ⟨upd s.p i none,upd s.k i (some (some kid))⟩ none:=by
    rw[←e1];refine⟨b7,⟨bits3.d32,hw,bits3.dp,fun c hc=>?_⟩,⟨A3,fun x=>(B3 x∨h4.size≤x)∧x<h5.size,((hA3.upd k4 fun _ _ h=>h).upd hu5 fun x hx e=>?_).upd hu57 fun x hx e=>(hAm3 x hx).2.2.1 e,ho5'.upd hu57 fun x hx e=>?_,fun x hx=>⟨(hAm3 x hx).1,?_,(hAm3 x hx).2.2.1,by have:=(hAm3 x hx).2.2.2;omega⟩,fun x hx=>⟨?_,?_,by omega⟩⟩,o.mb⟩
    ·rw[hwt,bits3.nk c hc];simp only[upd];split<;>simp[*]
    ·rcases e with e|e
     ·exact(hAm3 x hx).2.1 e
     ·have:=(hAm3 x hx).2.2.2;omega
    ·have e:x=h.size:=e
     rcases hx.1 with h|h
     ·exact(hBm3 x h).2.1 e
     ·omega
    ·rintro⟨h|h,_⟩
     ·exact(hAm3 x hx).2.1 h
     ·have:=(hAm3 x hx).2.2.2;omega
    ·rcases hx.1 with h|h
     ·exact(hBm3 x h).1
     ·omega
    ·rcases hx.1 with h|h
     ·exact(hBm3 x h).2.1
     ·omega
   refine hk _ _ (o7.node hMW) (((hu03.tr k4).trans hu5 fun x hx=>.inr ?_).trans hu57 fun x hx=>.inr ?_)
   ·rcases hx with h|h
    ·exact(hBm3 x h).1
    ·omega
   ·have hx:x=h.size:=hx
    omega
  refine⟨oU bits3.n32 hi ⟨eI (i:=3) o3.blk,bj ⟨eI (i:=3) o4.blk,fin⟩⟩,bj ⟨eI (i:=1) o4.blk,eI (i:=3) o4.blk,oU bits3.n32 hi ⟨eI (i:=3) o4.blk,fin⟩⟩⟩
end Go.Proofs
