/- A part of the proof that the named laws of this program answer true, whatever the input. -/
import Derived.Test.YtncppacbfagpgaaGreatDoorPart0
import Derived.Sort.Walk0
open BitVec renaming ofInt→aq,ofInt_natCast→fh,getLsbD_ofNat→mc
open Bool renaming eq_iff_iff→kQ
open Int renaming toNat_natCast→aJ,fdiv→eD,fdiv_eq_ediv_of_nonneg→iY
open List renaming length_take→aK,length_drop→aM,flatMap_cons→aO,drop_eq_getElem_cons→eE,flatMap_append→bw,length_eq_zero_iff→aG,length_append→ae,append_assoc→ar,drop_left'→cE,take_left'→cZ,drop_drop→dE,drop_append_of_le_length→fG,length_cons→az,pairwise_iff_getElem→ci,getElem?_eq_getElem→af,any_eq_true→cp,replicate→eg,replicate_succ→iy,flatten_append→dZ,flatten_cons→ey,flatten_nil→mE,length→dW,take_of_length_le→bA,range→fz,range_add→rK,mem_range→fP,filterMap_append→pj
open Nat renaming le_refl→al,min_eq_left→bG,sub_self→fQ,zero_mul→qU,sub_zero→eT,lt_or_ge→bE,zero_le→aP,le_trans→aY,testBit_shiftRight→oW,testBit_and→ik,testBit_two_pow_sub_one→lC,shiftRight_eq_div_pow→cz,lt_of_le_of_lt→fS,shiftRight_le→hO,mod_eq_of_lt→dy,testBit_two_pow→mM,testBit_lt_two_pow→ge,lt_of_lt_of_le→aR,pow_le_pow_right→ff,zero_add→aF,le_of_eq→eH
open UInt8 renaming ofNat→fW
namespace Go.Proofs
open Go Go.Lift
theorem tT{W:Nat→Prop}{h:ad}{s:SliceV}{xs:List (ByteArray×ByteArray)}(h1:Sl eJ 2 W h s xs)(hn:xs.length*32≤140737488355328){K:SliceV→ad→Prop}
  (hk:∀s' h',OwnS eJ 2 aj (fun b=>h.size≤b) h' s' xs→Upd No h h'→K s' h'):HC PG cG [.slice s.a s.len s.cap] [.c .slice] K h:=by
 refine mJ s ?_;unfold ix jN;refine CondP.intro (fun he=>?_) (fun hne=>?_)
 ·have he:s.a=none:=by simpa using he
  have hx:xs= []:=by
   by_cases hx:xs= []
   ·exact hx
   ·obtain⟨a,ha,_⟩:=h1.row hx
    rw[he]at ha;cases ha
  subst hx;exact hk _ _ (OwnS.nil ig) (Upd.refl _ _)
 ·have h2:=h1.upd (Upd.hnew No h [] aj) (fun _ h=>h.elim)
  refine⟨_,h2.srow,?_⟩;refine AppP.own (f:=eJ) (M:=fun b=>h.size≤b) (xs:= []) (ys:=xs) ⟨rfl,ig,al _,.inl rfl⟩ h1.len rfl (wH xs) rfl (by omega) (by simpa using hn) (by rw[jg];omega) fun s' h' ho hu=>?_
  exact hk _ _ ho ((Upd.hnew No h [] aj).trans hu fun b hb=>.inr hb)
theorem Mc{M:Nat→Prop}{h:ad}{s:SliceV}{xs:List (ByteArray×ByteArray)}(hs:OwnS eJ 2 aj M h s xs){k:Nat}(hkl:k<xs.length)(hn:xs.length≤4398046511104)
  {K:SliceV→ad→Prop}(hK:∀s' h',OwnS eJ 2 aj M h' s' (xs.take k++xs.drop (k+1))→Upd M h h'→K s' h'):
  HC PG fl [.slice s.a s.len s.cap,.int .i64 k,.int .i64 ((k+1:Nat):Int)] [.c .slice] K h:=by
 refine mw s k ((k+1:Nat):Int) ?_;unfold hH jN;have hlen:=hs.len;have hcap:=hs.cap;rcases hs.blk with h0|⟨b,rest,ha,hb,hc,hr⟩
 ·omega
 have hA:((xs.take k).flatMap eJ).length=k*2:=by rw[kA ig,aK,bG (by omega)]
 have hB:((xs.drop (k+1)).flatMap eJ).length=(xs.length-(k+1))*2:=by rw[kA ig,aM]
 have e1:xs.flatMap eJ=(xs.take k).flatMap eJ++(eJ xs[k]++(xs.drop (k+1)).flatMap eJ):=by
  rw[←aO,←eE hkl];exact yk xs k
 rw[e1]at hc;have hone:=wH (xs.drop (k+1));have hins:(xs.take k++xs.drop (k+1)).flatMap eJ=(xs.take k).flatMap eJ++(xs.drop (k+1)).flatMap eJ:=bw;have hX:(eJ xs[k]).length=2:=rfl;generalize (xs.take k).flatMap eJ=A at hA hc hins;generalize (xs.drop (k+1)).flatMap eJ=B at hB hc hone hins;generalize eJ xs[k]=X at hX hc;rw[ha];simp only[hlen,aJ];refine⟨by omega,by omega,by omega,CondP.intro (fun e=>?_) fun _=>?_⟩
 ·have:(k:Int)=((k+1:Nat):Int):=by simpa using e
  omega
 refine Join.plain ⟨by omega,by omega,B,?_,?_⟩
 ·by_cases hlast:xs.length=k+1
  ·exact⟨hB,.inl (aG.1 (by rw[hB,hlast,fQ,qU]))⟩
  rw[jC (by omega)];refine kU hc hB ?_;have:(A++X).length=0+(k+1)*2:=by rw[ae];omega
  rw[show A++(X++B)++rest=(A++X)++(B++rest) by simp only[ar],cE this,cZ hB]
 ·rw[sub_zero]
  refine Mj hc (by simp only[ae];omega) (by omega) hone fun h1 hb1 hu1=>?_
  have hr':rest.length=(s.cap-xs.length)*2:=by rw[hr,hlen]
  refine⟨by dsimp only;omega,by dsimp only;omega,?_⟩
  simp only[Bd];rw[jC (by omega)];have en:xs.length-(k-0+(xs.length-(k+1)))=1:=by omega
  have hd1:(A++(X++B)++rest).drop ((k-0)*2+B.length)=(X++B).drop B.length++rest:=by
   rw[ar,←dE,cE (show A.length=(k-0)*2 by rw[hA,eT]),fG (by rw[ae];omega)]
  have ht1:(A++(X++B)++rest).take ((k-0)*2)=A:=by rw[ar,cZ (show A.length=(k-0)*2 by rw[hA,eT])]
  rw[hd1,ht1]at hb1;have hdl:((X++B).drop B.length).length=2:=by rw[aM,ae];omega
  generalize (X++B).drop B.length=D at hdl hb1;rw[en];have hz:(dK 1 [.string (⟨#[]⟩:ByteArray),.string (⟨#[]⟩:ByteArray)]).length=2:=rfl;have hAB:(A++B).length=0+(k-0+(xs.length-(k+1)))*2:=by rw[ae,hA,hB];omega
  refine He hb1 (by simp only[ae]at hAB⊢;omega) fun h2 hb2 hu2=>?_
  rw[cZ hAB,←dE,cE hAB]at hb2;refine hK _ _ ⟨by simp;omega,ig,by simp only;omega,.inr ⟨b,dK 1 [.string (⟨#[]⟩:ByteArray),.string (⟨#[]⟩:ByteArray)]++(D++rest).drop (dK 1 [.string (⟨#[]⟩:ByteArray),.string (⟨#[]⟩:ByteArray)]).length,rfl,hb,?_,?_⟩⟩ ((hu1.mono fun _ e=>.inl (e▸hb)).tr (hu2.mono fun _ e=>.inl (e▸hb)))
  ·rw[hb2,hins];simp only[ar]
  ·simp only[ae,aM,hz,hdl,hr']
   omega
theorem A7{W:Nat→Prop}{h:ad}{s:SliceV}{xs:List (Option Addr)}(h1:Sl qf 1 W h s xs)(hn:xs.length*8≤140737488355328){K:SliceV→ad→Prop}
  (hk:∀s' h',OwnS qf 1 bO (fun b=>h.size≤b) h' s' xs→Upd No h h'→K s' h'):HC PG dH [.slice s.a s.len s.cap] [.c .slice] K h:=by
 refine kX s ?_;unfold gw;refine CondP.intro (fun he=>?_) (fun hne=>?_)
 ·have he:s.a=none:=by simpa using he
  have hx:xs= []:=by
   by_cases hx:xs= []
   ·exact hx
   ·obtain⟨a,ha,_⟩:=h1.row hx
    rw[he]at ha;cases ha
  subst hx;exact hk _ _ (OwnS.nil qm) (Upd.refl _ _)
 ·have h2:=h1.upd (Upd.hnew No h [] bO) (fun _ h=>h.elim)
  refine⟨_,h2.srow,?_⟩;refine AppP.own (f:=qf) (M:=fun b=>h.size≤b) (xs:= []) (ys:=xs) ⟨rfl,qm,al _,.inl rfl⟩ h1.len rfl (CE xs) rfl (by omega) (by simpa using hn) (by rw[jg];omega) fun s' h' ho hu=>?_
  exact hk _ _ ho ((Upd.hnew No h [] bO).trans hu fun b hb=>.inr hb)
theorem Md{M:Nat→Prop}{h:ad}{s:SliceV}{xs:List (Option Addr)}(hs:OwnS qf 1 bO M h s xs){k:Nat}(hkl:k<xs.length)(hn:xs.length≤4398046511104)
  {K:SliceV→ad→Prop}(hK:∀s' h',OwnS qf 1 bO M h' s' (xs.take k++xs.drop (k+1))→Upd M h h'→K s' h'):
  HC PG eN [.slice s.a s.len s.cap,.int .i64 k,.int .i64 ((k+1:Nat):Int)] [.c .slice] K h:=by
 refine kM s k ((k+1:Nat):Int) ?_;unfold gl;have hlen:=hs.len;have hcap:=hs.cap;rcases hs.blk with h0|⟨b,rest,ha,hb,hc,hr⟩
 ·omega
 have hA:((xs.take k).flatMap qf).length=k*1:=by rw[kA qm,aK,bG (by omega)]
 have hB:((xs.drop (k+1)).flatMap qf).length=(xs.length-(k+1))*1:=by rw[kA qm,aM]
 have e1:xs.flatMap qf=(xs.take k).flatMap qf++(qf xs[k]++(xs.drop (k+1)).flatMap qf):=by
  rw[←aO,←eE hkl];exact yk xs k
 rw[e1]at hc;have hone:=CE (xs.drop (k+1));have hins:(xs.take k++xs.drop (k+1)).flatMap qf=(xs.take k).flatMap qf++(xs.drop (k+1)).flatMap qf:=bw;have hX:(qf xs[k]).length=1:=rfl;generalize (xs.take k).flatMap qf=A at hA hc hins;generalize (xs.drop (k+1)).flatMap qf=B at hB hc hone hins;generalize qf xs[k]=X at hX hc;rw[ha];simp only[hlen,aJ];refine⟨by omega,by omega,by omega,CondP.intro (fun e=>?_) fun _=>?_⟩
 ·have:(k:Int)=((k+1:Nat):Int):=by simpa using e
  omega
 refine Join.plain ⟨by omega,by omega,B,?_,?_⟩
 ·by_cases hlast:xs.length=k+1
  ·exact⟨hB,.inl (aG.1 (by rw[hB,hlast,fQ,qU]))⟩
  rw[jC (by omega)];refine kU hc hB ?_;have:(A++X).length=0+(k+1)*1:=by rw[ae];omega
  rw[show A++(X++B)++rest=(A++X)++(B++rest) by simp only[ar],cE this,cZ hB]
 ·rw[sub_zero]
  refine Mj hc (by simp only[ae];omega) (by omega) hone fun h1 hb1 hu1=>?_
  have hr':rest.length=(s.cap-xs.length)*1:=by rw[hr,hlen]
  refine⟨by dsimp only;omega,by dsimp only;omega,?_⟩
  simp only[Bd];rw[jC (by omega)];have en:xs.length-(k-0+(xs.length-(k+1)))=1:=by omega
  have hd1:(A++(X++B)++rest).drop ((k-0)*1+B.length)=(X++B).drop B.length++rest:=by
   rw[ar,←dE,cE (show A.length=(k-0)*1 by rw[hA,eT]),fG (by rw[ae];omega)]
  have ht1:(A++(X++B)++rest).take ((k-0)*1)=A:=by rw[ar,cZ (show A.length=(k-0)*1 by rw[hA,eT])]
  rw[hd1,ht1]at hb1;have hdl:((X++B).drop B.length).length=1:=by rw[aM,ae];omega
  generalize (X++B).drop B.length=D at hdl hb1;rw[en];have hz:(dK 1 [.pointer none]).length=1:=rfl;have hAB:(A++B).length=0+(k-0+(xs.length-(k+1)))*1:=by rw[ae,hA,hB];omega
  refine He hb1 (by simp only[ae]at hAB⊢;omega) fun h2 hb2 hu2=>?_
  rw[cZ hAB,←dE,cE hAB]at hb2;refine hK _ _ ⟨by simp;omega,qm,by simp only;omega,.inr ⟨b,dK 1 [.pointer none]++(D++rest).drop (dK 1 [.pointer none]).length,rfl,hb,?_,?_⟩⟩ ((hu1.mono fun _ e=>.inl (e▸hb)).tr (hu2.mono fun _ e=>.inl (e▸hb)))
  ·rw[hb2,hins];simp only[ar]
  ·simp only[ae,aM,hz,hdl,hr']
   omega
theorem Gx{W:Nat→Prop}{h:ad}{s:SliceV}{xs:List (Option Addr)}(h1:Sl qB 1 W h s xs)(hn:xs.length*8≤140737488355328){K:SliceV→ad→Prop}
  (hk:∀s' h',OwnS qB 1 bI (fun b=>h.size≤b) h' s' xs→Upd No h h'→K s' h'):HC PG de [.slice s.a s.len s.cap] [.c .slice] K h:=by
 refine kB s ?_;unfold gd;refine CondP.intro (fun he=>?_) (fun hne=>?_)
 ·have he:s.a=none:=by simpa using he
  have hx:xs= []:=by
   by_cases hx:xs= []
   ·exact hx
   ·obtain⟨a,ha,_⟩:=h1.row hx
    rw[he]at ha;cases ha
  subst hx;exact hk _ _ (OwnS.nil nr) (Upd.refl _ _)
 ·have h2:=h1.upd (Upd.hnew No h [] bI) (fun _ h=>h.elim)
  refine⟨_,h2.srow,?_⟩;refine AppP.own (f:=qB) (M:=fun b=>h.size≤b) (xs:= []) (ys:=xs) ⟨rfl,nr,al _,.inl rfl⟩ h1.len rfl (CD xs) rfl (by omega) (by simpa using hn) (by rw[jg];omega) fun s' h' ho hu=>?_
  exact hk _ _ ho ((Upd.hnew No h [] bI).trans hu fun b hb=>.inr hb)
theorem Mb{M:Nat→Prop}{h:ad}{s:SliceV}{xs:List (Option Addr)}(hs:OwnS qB 1 bI M h s xs){k:Nat}(hkl:k<xs.length)(hn:xs.length≤4398046511104)
  {K:SliceV→ad→Prop}(hK:∀s' h',OwnS qB 1 bI M h' s' (xs.take k++xs.drop (k+1))→Upd M h h'→K s' h'):
  HC PG eB [.slice s.a s.len s.cap,.int .i64 k,.int .i64 ((k+1:Nat):Int)] [.c .slice] K h:=by
 refine jZ s k ((k+1:Nat):Int) ?_;unfold f7;have hlen:=hs.len;have hcap:=hs.cap;rcases hs.blk with h0|⟨b,rest,ha,hb,hc,hr⟩
 ·omega
 have hA:((xs.take k).flatMap qB).length=k*1:=by rw[kA nr,aK,bG (by omega)]
 have hB:((xs.drop (k+1)).flatMap qB).length=(xs.length-(k+1))*1:=by rw[kA nr,aM]
 have e1:xs.flatMap qB=(xs.take k).flatMap qB++(qB xs[k]++(xs.drop (k+1)).flatMap qB):=by
  rw[←aO,←eE hkl];exact yk xs k
 rw[e1]at hc;have hone:=CD (xs.drop (k+1));have hins:(xs.take k++xs.drop (k+1)).flatMap qB=(xs.take k).flatMap qB++(xs.drop (k+1)).flatMap qB:=bw;have hX:(qB xs[k]).length=1:=rfl;generalize (xs.take k).flatMap qB=A at hA hc hins;generalize (xs.drop (k+1)).flatMap qB=B at hB hc hone hins;generalize qB xs[k]=X at hX hc;rw[ha];simp only[hlen,aJ];refine⟨by omega,by omega,by omega,CondP.intro (fun e=>?_) fun _=>?_⟩
 ·have:(k:Int)=((k+1:Nat):Int):=by simpa using e
  omega
 refine Join.plain ⟨by omega,by omega,B,?_,?_⟩
 ·by_cases hlast:xs.length=k+1
  ·exact⟨hB,.inl (aG.1 (by rw[hB,hlast,fQ,qU]))⟩
  rw[jC (by omega)];refine kU hc hB ?_;have:(A++X).length=0+(k+1)*1:=by rw[ae];omega
  rw[show A++(X++B)++rest=(A++X)++(B++rest) by simp only[ar],cE this,cZ hB]
 ·rw[sub_zero]
  refine Mj hc (by simp only[ae];omega) (by omega) hone fun h1 hb1 hu1=>?_
  have hr':rest.length=(s.cap-xs.length)*1:=by rw[hr,hlen]
  refine⟨by dsimp only;omega,by dsimp only;omega,?_⟩
  simp only[Bd];rw[jC (by omega)];have en:xs.length-(k-0+(xs.length-(k+1)))=1:=by omega
  have hd1:(A++(X++B)++rest).drop ((k-0)*1+B.length)=(X++B).drop B.length++rest:=by
   rw[ar,←dE,cE (show A.length=(k-0)*1 by rw[hA,eT]),fG (by rw[ae];omega)]
  have ht1:(A++(X++B)++rest).take ((k-0)*1)=A:=by rw[ar,cZ (show A.length=(k-0)*1 by rw[hA,eT])]
  rw[hd1,ht1]at hb1;have hdl:((X++B).drop B.length).length=1:=by rw[aM,ae];omega
  generalize (X++B).drop B.length=D at hdl hb1;rw[en];have hz:(dK 1 [.pointer none]).length=1:=rfl;have hAB:(A++B).length=0+(k-0+(xs.length-(k+1)))*1:=by rw[ae,hA,hB];omega
  refine He hb1 (by simp only[ae]at hAB⊢;omega) fun h2 hb2 hu2=>?_
  rw[cZ hAB,←dE,cE hAB]at hb2;refine hK _ _ ⟨by simp;omega,nr,by simp only;omega,.inr ⟨b,dK 1 [.pointer none]++(D++rest).drop (dK 1 [.pointer none]).length,rfl,hb,?_,?_⟩⟩ ((hu1.mono fun _ e=>.inl (e▸hb)).tr (hu2.mono fun _ e=>.inl (e▸hb)))
  ·rw[hb2,hins];simp only[ar]
  ·simp only[ae,aM,hz,hdl,hr']
   omega
end Go.Proofs
namespace Go.Proofs
open Go.Lift
abbrev Pr:=ByteArray×ByteArray
theorem A8{a b:ByteArray}:a.toList=b.toList↔a=b:=by
 constructor
 ·intro h
  rw[ByteArray.toList_eq,ByteArray.toList_eq]at h;cases a;cases b;simp at h;subst h;rfl
 ·rintro rfl;rfl
def kl(a b:ByteArray):Prop:=Op.bytesLess a.toList b.toList=true
instance (a b:ByteArray):Decidable (kl a b):=inferInstanceAs (Decidable (_=true))
theorem LM{a b:ByteArray}:kl a b↔a.toList<b.toList:=by unfold kl;rw[bytesLess_eq,decide_eq_true_iff]
theorem cx(a:ByteArray):¬kl a a:=by rw[LM];exact List.lt_irrefl _
theorem ir{a b c:ByteArray}(h:kl a b)(k:kl b c):kl a c:=by rw[LM]at*;exact List.lt_trans h k
theorem tri:∀x y:List UInt8,Op.bytesLess x y=false→x≠y→Op.bytesLess y x=true
 | [],[],_,h=>absurd rfl h
 | [],_::_,h,_=>by simp[Op.bytesLess]at h
 |_::_,[],_,_=>rfl
 |a::x,b::y,h,hn=>by
  simp only[Op.bytesLess,Bool.or_eq_false_iff,decide_eq_false_iff_not,Bool.and_eq_false_iff]at h;simp only[Op.bytesLess,Bool.or_eq_true,decide_eq_true_iff,Bool.and_eq_true];by_cases e:a=b
  ·subst e
   right;refine⟨by simp,tri x y ?_ fun e=>hn (by rw[e])⟩
   rcases h.2 with h|h
   ·simp at h
   ·exact h
  ·left
   have h1:=h.1;rw[UInt8.lt_iff_toNat_lt]at h1⊢;have:a.toNat≠b.toNat:=fun h=>e (UInt8.toNat_inj.1 h)
   omega
theorem qn{a b:ByteArray}(h:¬kl a b)(k:a≠b):kl b a:=tri _ _ (by unfold kl at h;simpa using h) fun e=>k (A8.1 e)
def E5(a b:ByteArray):Int:=if kl a b then-1 else if a=b then 0 else 1
theorem JA{x:ByteArray}{h:ad}{K:Bool→ad→Prop}(hk:K false h):HC PG m9 [.string x] [.c .bool] K h:=by
 refine Cv x ?_;unfold vt;simpa using hk
theorem D3{a b:ByteArray}{h:ad}{K:Int→ad→Prop}(hk:K (E5 a b) h):HC PG lu [.string a,.string b] [.c (.int .i64)] K h:=by
 refine zY a b ?_;unfold sM;refine JA (JA (ag.2 (ag.2 ?_)));unfold E5 at hk;refine CondP.intro (fun e=>?_) fun e=>?_
 ·rw[if_pos (show kl a b from e)]at hk;exact hk
 ·have hn:¬kl a b:=fun h=>by rw[show Op.bytesLess a.toList b.toList=true from h]at e;cases e
  rw[if_neg hn]at hk;rw[e];refine CondP.intro (fun e2=>?_) fun e2=>?_
  ·rw[if_neg (fun h=>by subst h;simp at e2)]at hk;exact hk
  ·have:a.toList=b.toList:=by simpa using e2
   rw[if_pos (A8.1 this)]at hk;exact hk
theorem Jp{p:Pr}{k:ByteArray}{h:ad}{K:Int→ad→Prop}(hk:∀h',Upd No h h'→K (E5 p.1 k) h'):HC PG oz [.agg #[.string p.1,.string p.2],.string k] [.c (.int .i64)] K h:=by
 refine H7 p k ?_;unfold Aj gZ cd aw rM;have b1:=bW h [.string p.1,.string p.2] aj;refine⟨p.1,by rw[cM,bQ,ba b1];rfl,D3 (hk _ (Upd.hnew No h _ _))⟩
abbrev cl(l:List Pr):Prop:=l.Pairwise fun p q=>kl p.1 q.1
def ns(l:List Pr)(k:ByteArray):Nat:=(l.takeWhile fun p=>decide (kl p.1 k)).length
def cg(l:List Pr)(k:ByteArray):Bool:=l.any fun p=>decide (p.1=k)
theorem Qh{l:List Pr}{k:ByteArray}{i:Nat}(hi:i≤l.length)(h1:∀j (h:j<l.length),j<i→kl l[j].1 k)(h2:∀(h:i<l.length),¬kl l[i].1 k):ns l k=i:=by
 unfold ns;induction l generalizing i with
 |nil=>simp at hi;simp[hi]
 |cons p l ih=>
  rw[List.takeWhile_cons];cases i with
  |zero=>
   have:=h2 (by simp);simp only[List.getElem_cons_zero]at this;rw[if_neg (by simpa using this)];rfl
  |succ i=>
   have:=h1 0 (by simp) (by omega);simp only[List.getElem_cons_zero]at this;rw[if_pos (by simpa using this),az];congr 1
   refine ih (by simpa using hi) (fun j hj hji=>?_) fun h=>?_
   ·have:=h1 (j+1) (by simpa using hj) (by omega)
    simpa using this
   ·have:=h2 (by simpa using h)
    simpa using this
theorem Qi(l:List Pr)(k:ByteArray):ns l k≤l.length:=by
 unfold ns;exact(List.takeWhile_prefix _).length_le
theorem Hy{W:Nat→Prop}{h:ad}{s:SliceV}{l:List Pr}(hs:Sl eJ 2 W h s l)(hr:cl l)(hn:l.length≤1000000000)(k:ByteArray){K:Int×Bool→ad→Prop}
  (hk:∀h',Upd No h h'→K ((ns l k:Int),cg l k) h'):HC PG p7 [.slice s.a s.len s.cap,.string k] [.c (.int .i64),.c .bool] K h:=by
 refine Kl s k ?_;unfold Ca kW;refine iP s k _ ?_;unfold eX cD aQ pn cd;have hlen:=hs.len;have cmp:∀{p:Pr} {h:ad} {K:Int→ad→Prop},(∀h',Upd No h h'→K (E5 p.1 k) h')→HV PG (.func (.func oz) #[] #[]) [.agg #[.string p.1,.string p.2],.string k] [.c (.int .i64)] K h:=fun hk=>HV.mk' (Jp hk)
 refine LoopP.ghost (fun(g:Nat×Nat) (t:Int×Int) h'=>t.1=(g.1:Int)∧t.2=(g.2:Int)∧g.1≤g.2∧g.2≤l.length∧Upd No h h'∧(∀j (hj:j<l.length),j<g.1→kl l[j].1 k)∧(∀j (hj:j<l.length),g.2≤j→¬kl l[j].1 k)) (fun g=>g.2-g.1) (0,l.length)
  ⟨rfl,by simp only;omega,by simp,by simp,Upd.refl _ _,fun j hj h=>by omega,fun j hj h=>by simp only at h;omega⟩ ?_
 rintro I ⟨i,j⟩ ⟨ti,tj⟩ h' ⟨e1,e2,hij,hjl,hu,hlo,hhi⟩ hI;simp only at e1 e2 hij hjl hlo hhi;subst e1 e2;have hs':=hs.upd hu fun _ h=>h.elim
 have mono:∀a b (ha:a<l.length) (hb:b<l.length),a<b→kl l[a].1 l[b].1:=fun a b ha hb hab=>ci.1 hr a b ha hb hab
 refine ay (fun hlt=>?_) fun hge=>?_
 ·have hlt:i<j:=by have:(i:Int)<(j:Int):=hlt;omega
  have em:IntKind.wrap .i64 (eD (IntKind.wrap .u64 (IntKind.wrap .i64 ((i:Int)+(j:Int)))) (2^(min (1:Int).toNat (IntKind.bits .u64))))=(((i+j)/2:Nat):Int):=by
   have e3:(2^(min (1:Int).toNat (IntKind.bits .u64)):Int)=2:=rfl;rw[e3,gr (x:=(i:Int)+(j:Int)) (by omega),Go.IntWalk.u64_in _ (by omega),iY _ (by omega),gr (by omega)];omega
  refine⟨by decide,?_⟩;simp only[Bd];rw[em];generalize hm:(i+j)/2=m;have hml:m<l.length:=by omega
  obtain⟨a,ha,_,hv⟩:=hs'.at (af hml);refine⟨by omega,a,ha,l[m].1,hv 0 _ rfl,l[m].2,hv 1 _ rfl,cmp fun h2 hu2=>?_⟩
  refine ay (fun hneg=>?_) fun hpos=>?_
  ·have hkl:kl l[m].1 k:=by
    unfold E5 at hneg;by_cases hkl:kl l[m].1 k
    ·exact hkl
    ·rw[if_neg hkl]at hneg;split at hneg<;>omega
   refine hI (m+1,j) _ _ ⟨by simp only;rw[gr (by omega)];omega,rfl,by simp only;omega,hjl,hu.tr hu2,fun q hq hqm=>?_,hhi⟩ (by simp only;omega)
   simp only at hqm;rcases bE q m with h|h
   ·exact ir (mono q m hq hml h) hkl
   ·have:q=m:=by omega
    subst this;exact hkl
  ·have hnk:¬kl l[m].1 k:=fun hkl=>hpos (by unfold E5;rw[if_pos hkl];decide)
   refine hI (i,m) _ _ ⟨rfl,rfl,by simp only;omega,by simp only;omega,hu.tr hu2,hlo,fun q hq hqm hqk=>?_⟩ (by simp only;omega)
   simp only at hqm;rcases bE m q with h|h
   ·exact hnk (ir (mono m q hml hq h) hqk)
   ·have:q=m:=by omega
    subst this;exact hnk hqk
 ·have hij:i=j:=by have:¬(i:Int)<(j:Int):=hge;omega
  subst hij;have hp:ns l k=i:=Qh hjl hlo fun hi=>hhi i hi (al _)
  rw[hp]at hk;refine ay (fun hlt=>?_) fun hnl=>?_
  ·have hil:i<l.length:=by have:(i:Int)<(s.len:Int):=hlt;omega
   obtain⟨a,ha,_,hv⟩:=hs'.at (af hil);refine⟨by simp only;omega,a,ha,l[i].1,hv 0 _ rfl,l[i].2,hv 1 _ rfl,cmp fun h2 hu2=>?_⟩
   have hnk:=hhi i hil (al _);have et:(E5 l[i].1 k==(0:Int))=cg l k:=by
    unfold E5 cg;rw[if_neg hnk,kQ,cp];constructor
    ·intro h
     split at h
     ·rename_i e;exact⟨l[i],List.getElem_mem hil,decide_eq_true e⟩
     ·simp at h
    ·rintro⟨p,hp,e⟩
     have e:=of_decide_eq_true e;obtain⟨q,hq,rfl⟩:=List.mem_iff_getElem.1 hp;have:q=i:=by
      rcases Nat.lt_trichotomy q i with h|h|h
      ·exact absurd (e▸hlo q hq h) (cx _)
      ·exact h
      ·exact absurd (e▸mono i q hil hq h) hnk
     subst this;rw[if_pos e];rfl
   rw[et];exact hk _ (hu.tr hu2)
  ·have hil:i=l.length:=by have:¬(i:Int)<(s.len:Int):=hnl;omega
   have et:cg l k=false:=by
    unfold cg;rw[List.any_eq_false];intro p hp e;have e:=of_decide_eq_true e;obtain⟨q,hq,rfl⟩:=List.mem_iff_getElem.1 hp;exact absurd (e▸hlo q hq (by omega)) (cx _)
   rw[et]at hk;exact hk _ hu
end Go.Proofs
namespace Go.Proofs
open Go.Lift
theorem OwnS.zero{α:Type}{f:α→List Value}{sz:Nat}{t:TypeId}{M:Nat→Prop}{h:ad}{s:SliceV}{xs:List α}(hs:OwnS f sz t M h s xs):OwnS f sz t M h ⟨aV s.a 0 s.cap sz,0-0,s.cap-0⟩ []:=by
 have hf:∀x,(f x).length=sz∧0<sz:=hs.ne;have hlen:=hs.len;have hcap:=hs.cap;refine⟨rfl,hf,by simp only;omega,?_⟩
 rcases hs.blk with h0|⟨b,rest,ha,hb,hc,hr⟩
 ·exact .inl (by simp only;omega)
 ·refine .inr ⟨b,xs.flatMap f++rest,by rw[ha,sub_zero],hb,hc,?_⟩
  rw[ae,kA hf,hr,←Nat.add_mul];simp only;congr 1;omega
def GJ:Pr:=(⟨#[]⟩,⟨#[]⟩)
theorem MY(n:Nat):dK n [.string (⟨#[]⟩:ByteArray),.string (⟨#[]⟩:ByteArray)]=(eg n GJ).flatMap eJ:=by
 unfold dK;induction n with
 |zero=>rfl
 |succ n ih=>rw[iy,iy,aO,←ih];rfl
theorem Sz{n:Nat}(hn:n*32≤140737488355328){h:ad}{K:SliceV→ad→Prop}(hk:∀s' h',OwnS eJ 2 aj (fun b=>h.size≤b) h' s' []→Upd No h h'→K s' h'):
  HC PG fL [.slice none 0 0,.int .i64 n] [.c .slice] K h:=by
 refine m0 ⟨none,0,0⟩ n ?_;unfold iI jN;have e:IntKind.wrap .i64 ((n:Int)-IntKind.wrap .i64 (((0:Nat):Int)-((0:Nat):Int)))=(n:Int):=by rw[gr (x:=((0:Nat):Int)-((0:Nat):Int)) (by omega),gr (by omega)];omega
 refine Join.plain (ay (fun h=>by omega) fun _=>?_)
 simp only[Bd];rw[e];refine ay (fun hp=>?_) fun hz=>hk _ _ (OwnS.nil ig) (Upd.refl _ _)
 refine⟨by omega,⟨by omega,by omega,by omega,by omega⟩,?_⟩
 refine AppP.own (f:=eJ) (M:=fun b=>h.size≤b) (xs:= []) (ys:=eg n GJ) (OwnS.nil ig) (by simp) (MY _) (by rw[MY];exact wH _) rfl (by omega) (by simpa using hn) (al _) fun s' h' ho hu=>?_
 exact⟨by omega,hk _ _ (OwnS.zero ho) (hu.mono fun b hb=>.inr hb)⟩
abbrev Vh(s:SliceV):List Value:= [.slice s.a s.len s.cap]
def ParS(h:ad):List SliceV→List (List Pr)→Prop
 | [],[]=>True
 |v::vs,l::ls=>Sl eJ 2 No h v l∧ParS h vs ls
 |_,_=>False
theorem ParS.upd{h h':ad}(k:Upd No h h'):∀{vs:List SliceV} {ls:List (List Pr)},ParS h vs ls→ParS h' vs ls
 | [],[],_=>trivial
 |_::_,_::_,q=>⟨q.1.upd k fun _ h=>h.elim,ParS.upd k q.2⟩
 | [],_::_,q=>q.elim
 |_::_,[],q=>q.elim
theorem ParS.len{h:ad}:∀{vs:List SliceV} {ls:List (List Pr)},ParS h vs ls→vs.length=ls.length
 | [],[],_=>rfl
 |_::_,_::_,q=>by rw[az,az,ParS.len q.2]
 | [],_::_,q=>q.elim
 |_::_,[],q=>q.elim
theorem ParS.at{h:ad}:∀{vs:List SliceV} {ls:List (List Pr)},ParS h vs ls→∀{i:Nat} (h1:i<vs.length) (h2:i<ls.length),Sl eJ 2 No h vs[i] ls[i]
 |_::_,_::_,q,0,_,_=>q.1
 |_::_,_::_,q,i+1,h1,h2=>ParS.at q.2 (by simpa using h1) (by simpa using h2)
theorem Gq(ls:List (List Pr)){i:Nat}(hi:i<ls.length):(ls.take (i+1)).flatten=(ls.take i).flatten++ls[i]:=by
 rw[List.take_succ_eq_append_getElem hi,dZ,ey,mE,List.append_nil]
theorem ND(ls:List (List Pr))(i:Nat):(ls.take i).flatten.length≤ls.flatten.length:=by
 have:ls.flatten=(ls.take i).flatten++(ls.drop i).flatten:=by rw[←dZ,List.take_append_drop]
 rw[this,ae];omega
theorem Gv{h:ad}{s:SliceV}{vs:List SliceV}{ls:List (List Pr)}(hs:Sl Vh 1 No h s vs)(hp:ParS h vs ls)(hn:ls.flatten.length*32≤140737488355328)(hv:vs.length≤1000)
  {K:SliceV→ad→Prop}(hk:∀s' h',OwnS eJ 2 aj (fun b=>h.size≤b) h' s' ls.flatten→Upd No h h'→K s' h'):HC PG dU [.slice s.a s.len s.cap] [.c .slice] K h:=by
 refine my s ?_;unfold hJ bl cD jN;have hlen:=hs.len;have hpl:=hp.len;refine LoopP.ghost (fun(i:Nat) (t:Int×Int) h'=>t.2=(i:Int)∧i≤vs.length∧t.1=((ls.take i).flatten.length:Int)∧h'=h) (fun i=>vs.length-i) 0 ⟨rfl,aP _,by simp,rfl⟩ ?_
 rintro I i ⟨tz,ti⟩ h' ⟨e1,hi,e2,rfl⟩ hI;simp only at e1 e2;subst e1 e2;refine ay (fun hlt=>?_) fun hge=>?_
 ·have hlt:i<vs.length:=by have:(i:Int)<(s.len:Int):=hlt;omega
  obtain⟨a,ha,_,hv'⟩:=hs.at (af hlt);have hvl:=(hp.at hlt (hpl▸hlt)).len;have hft:=congrArg dW (Gq ls (hpl▸hlt));rw[ae]at hft;have hfl:=ND ls (i+1);refine Join.plain ⟨by simp only;omega,a,ha,_,hv' 0 _ rfl,?_⟩;simp only;have ew:IntKind.wrap .i64 (((ls.take i).flatten.length:Int)+((vs[i]).len:Int))=((ls.take (i+1)).flatten.length:Int):=by rw[gr (by omega)];omega
  rw[ew];refine ay (fun h=>by omega) fun _=>?_
  rw[co hlt (by omega)];exact hI (i+1) _ _ ⟨rfl,hlt,rfl,rfl⟩ (by omega)
 ·have hil:i=vs.length:=by have:¬(i:Int)<(s.len:Int):=hge;omega
  rw[bA (by omega)];refine Sz hn fun s0 h0 ho0 hu0=>?_
  refine LoopP.ghost (fun(i:Nat) (t:SliceV×Int) h1=>t.2=(i:Int)∧i≤vs.length∧OwnS eJ 2 aj (fun b=>h'.size≤b) h1 t.1 (ls.take i).flatten∧Upd No h' h1) (fun i=>vs.length-i) 0 ⟨rfl,aP _,by simpa using ho0,hu0⟩ ?_
  rintro I2 j ⟨sj,tj⟩ h1 ⟨e1,hj,ho,hu⟩ hI2;simp only at e1 ho;subst e1;refine ay (fun hlt=>?_) fun hge2=>?_
  ·have hlt:j<vs.length:=by have:(j:Int)<(s.len:Int):=hlt;omega
   obtain⟨a,ha,_,hv'⟩:=(hs.upd hu fun _ h=>h.elim).at (af hlt)
   have hvj:=((hp.upd hu).at hlt (hpl▸hlt));have hft:=Gq ls (hpl▸hlt);have hft2:=congrArg dW hft;rw[ae]at hft2;have hfl:=ND ls (j+1);refine Join.plain ⟨by simp only;omega,a,ha,_,hv' 0 _ rfl,_,hvj.srow,?_⟩;refine AppP.own (ys:=ls[j]) ho hvj.len rfl (wH _) rfl (by omega) (by omega) hu.size fun s2 h2 ho2 hu2=>?_
   simp only;rw[co hlt (by omega)];exact hI2 (j+1) _ _ ⟨rfl,hlt,hft▸ho2,hu.trans hu2 fun b hb=>.inr hb⟩ (by omega)
  ·have hjl:j=vs.length:=by have:¬(j:Int)<(s.len:Int):=hge2;omega
   rw[bA (by omega)]at ho;exact hk _ _ ho hu
def Ht(l:List Pr)(p:Pr):List Pr:=l.take (ns l p.1)++p::l.drop (if cg l p.1 then ns l p.1+1 else ns l p.1)
def O0(l:List Pr)(k:ByteArray):List Pr:=if cg l k then l.take (ns l k)++l.drop (ns l k+1)else l
theorem Hf{l:List Pr}(hr:cl l){k:ByteArray}(ht:cg l k=true):∃h:ns l k<l.length,l[ns l k].1=k:=by
 unfold cg at ht;obtain⟨p,hp,e⟩:=cp.1 ht;have e:=of_decide_eq_true e;obtain⟨q,hq,rfl⟩:=List.mem_iff_getElem.1 hp;have:ns l k=q:=Qh (by omega) (fun j hj hjq=>by rw[←e];exact ci.1 hr j q hj hq hjq) fun h=>by rw[←e];exact cx _
 subst this;exact⟨hq,e⟩
theorem G4{h:ad}{s:SliceV}{l:List Pr}(hs:Sl eJ 2 No h s l){i j m:Nat}(h1:i≤j)(h2:j≤l.length)(h3:j≤m)(c:Nat):Sl eJ 2 No h ⟨aV s.a i m 2,j-i,c⟩ ((l.drop i).take (j-i)):=Sl.sub hs h1 h2 h3
theorem LC{h:ad}{s:SliceV}{l:List Pr}(hs:Sl eJ 2 No h s l)(hc:s.len≤s.cap)(hr:cl l)(hn:l.length≤1000000000)(p:Pr)
  {K:SliceV→ad→Prop}(hk:∀s' h',OwnS eJ 2 aj (fun b=>h.size≤b) h' s' (Ht l p)→Upd No h h'→K s' h'):HC PG yi [.slice s.a s.len s.cap,.agg #[.string p.1,.string p.2]] [.c .slice] K h:=by
 refine MH s p ?_;unfold EH yR gZ aw rM kW;have hlen:=hs.len;have k1:=Upd.hnew No h [.string p.1,.string p.2] aj;have b1:=bW h [.string p.1,.string p.2] aj;refine bo ?_;simp only[cM h];generalize hnew h [.string p.1,.string p.2] aj=h1 at k1 b1;refine⟨p.1,by rw[bQ,ba b1];rfl,Hy (hs.upd k1 fun _ h=>h.elim) hr hn p.1 fun h2 hu2=>?_⟩
 have hp:=Qi l p.1;have hu02:=k1.tr hu2;refine⟨by simp only;omega,?_⟩;let q:=if cg l p.1 then ns l p.1+1 else ns l p.1
 have hq:q≤l.length:=by
  show(if cg l p.1 then ns l p.1+1 else ns l p.1)≤l.length
  split
  ·rename_i ht;obtain⟨h,_⟩:=Hf hr ht;omega
  ·exact hp
 refine Join.intro (fun t h'=>h'=h2∧t=⟨aV s.a q s.cap 2,s.len-q,s.cap-q⟩) (fun R hR=>?_) ?_
 ·refine CondP.intro (fun e=>?_) fun e=>hR _ _ ⟨rfl,?_⟩
  ·have e:cg l p.1=true:=e
   obtain⟨hlt,_⟩:=Hf hr e;have ew:IntKind.wrap .i64 ((ns l p.1:Int)+1)=((ns l p.1+1:Nat):Int):=by rw[gr (by omega)];omega
   simp only;rw[ew];refine⟨by omega,hR _ _ ⟨rfl,?_⟩⟩;have:q=ns l p.1+1:=by show(if cg l p.1 then _ else _)=_;rw[if_pos e]
   rw[this];rfl
  ·have e:cg l p.1=false:=e
   have:q=ns l p.1:=by show(if cg l p.1 then _ else _)=_;rw[if_neg (by rw[e];decide)]
   rw[this];rfl
 ·rintro t h' ⟨rfl,rfl⟩
  have b2:=hu2.get0 b1;refine⟨by simp only;omega,p.1,by rw[bQ,ba b2];rfl,p.2,by rw[bQ,ba b2];rfl,?_⟩
  have k3:=Upd.hnew No h' [.string p.1,.string p.2] aj;have b3:=bW h' [.string p.1,.string p.2] aj;refine bo ?_;simp only[cM h'];generalize hnew h' [.string p.1,.string p.2] aj=h3 at k3 b3;refine bo ?_;have hs2:=(hs.upd hu02 fun _ h=>h.elim).upd k3 fun _ h=>h.elim
  have k4:=Upd.hnew No h3 [.slice (aV s.a 0 s.cap 2) ((ns l p.1:Int).toNat-0) (s.cap-0),.slice (some ⟨h'.size,0,none⟩) 1 1,.slice (aV s.a q s.cap 2) (s.len-q) (s.cap-q)] dh;have b4:=bW h3 [.slice (aV s.a 0 s.cap 2) ((ns l p.1:Int).toNat-0) (s.cap-0),.slice (some ⟨h'.size,0,none⟩) 1 1,.slice (aV s.a q s.cap 2) (s.len-q) (s.cap-q)] dh;have hA:=G4 hs2 (i:=0) (j:=ns l p.1) (m:=s.cap) (aP _) hp (by omega) (s.cap-0)
  have hB:Sl eJ 2 No h3 ⟨some ⟨h'.size,0,none⟩,1,1⟩ [p]:=⟨rfl,ig,fun _=>⟨_,rfl,fun h=>h.elim,od b3 fun i v hv=>by simpa using hv⟩⟩
  have hC:=G4 hs2 (i:=q) (j:=l.length) (m:=s.cap) hq (al _) (by omega) (s.cap-q);rw[←hlen]at hC;rw[List.drop_zero]at hA;rw[bA (by rw[aM];omega)]at hC;have e0:Ht l p= [l.take (ns l p.1-0),[p],l.drop q].flatten:=by simp[Ht,q]
  refine Gv (s:=⟨some (aA h3),3,3⟩) (vs:= [⟨aV s.a 0 s.cap 2,(ns l p.1:Int).toNat-0,s.cap-0⟩,⟨some ⟨h'.size,0,none⟩,1,1⟩,⟨aV s.a q s.cap 2,s.len-q,s.cap-q⟩]) (ls:= [l.take (ns l p.1-0),[p],l.drop q])
   ⟨rfl,fun x=>⟨rfl,Nat.one_pos⟩,fun _=>⟨_,rfl,fun h=>h.elim,od b4 fun i v hv=>by simpa[Vh]using hv⟩⟩ ⟨hA.upd k4 fun _ h=>h.elim,hB.upd k4 fun _ h=>h.elim,hC.upd k4 fun _ h=>h.elim,trivial⟩ ?_ (by simp) fun s5 h5 ho5 hu5=>?_
  ·simp only[ey,mE,ae,aK,aM,List.length_singleton,List.length_nil];omega
  ·rw[←e0]at ho5
   have hu:=((hu02.tr k3).tr k4);exact hk _ _ (ho5.more fun b hb=>aY hu.size hb) (hu.tr hu5)
end Go.Proofs
namespace Go.Proofs
open Go.Lift
def uo(n d:Nat):Nat:=(fz n).countP (d.testBit ·)
theorem CO(m n d:Nat):uo (m+n) d=uo m d+uo n (d>>>m):=by
 unfold uo;rw[rK,List.countP_append,List.countP_map];congr 1
 refine List.countP_congr fun i _=>?_
 simp[oW]
theorem NL(d:Nat)(i:Nat):∀n,i≤n→uo n (d&&&(2^i-1))=uo i d:=by
 intro n hn;obtain⟨m,rfl⟩:=Nat.exists_eq_add_of_le hn;rw[CO];have e1:uo i (d&&&(2^i-1))=uo i d:=by
  unfold uo;refine List.countP_congr fun j hj=>?_
  have:=fP.1 hj;simp[ik,lC,this]
 have e2:uo m ((d&&&(2^i-1))>>>i)=0:=by
  unfold uo;rw[List.countP_eq_zero];intro j _;simp[oW,ik,lC];intro h;omega
 omega
theorem TY(d:Nat):uo 8 (d&&&255)=uo 8 d:=NL d 8 8 (al _)
theorem ym(n d:Nat):uo n d≤n:=by
 have:=List.countP_le_length (p:=(d.testBit ·)) (l:=fz n)
 simpa[uo]using this
theorem lX(d n:Nat):eD (d:Int) (2^n)=((d>>>n:Nat):Int):=by
 rw[iY _ (by exact Int.le_of_lt (Int.pow_pos (by decide))),cz];simp
theorem Q8(a b:Nat):(aq (IntKind.bits .u32) (a:Int)&&&aq (IntKind.bits .u32) (b:Int)).toNat=(a%4294967296)&&&(b%4294967296):=by
 simp[IntKind.bits,BitVec.toNat_and,BitVec.toNat_ofInt];rfl
theorem yO{n:Nat}(h:n<4294967296):IntKind.wrap .u32 (n:Int)=(n:Int):=Go.IntWalk.u32_in _ (by omega)
theorem Ds{i:Nat}(hi:i<32){h:ad}{K:Bool→ad→Prop}(hk:K true h):HC PG mV [.int .i64 i] [.c .bool] K h:=by
 refine Ft i ?_;unfold xI;refine ay (fun _=>?_) fun h=>absurd (Int.natCast_nonneg i) h
 rw[decide_eq_true (by omega)];exact hk
theorem HQ{a b:Nat}(h:b<4294967296):a&&&b<4294967296:=fS Nat.and_le_right h
theorem AW{d i:Nat}(hd:d<4294967296)(hi:i<32){h:ad}{K:Bool→ad→Prop}(hk:K (d.testBit i) h):HC PG fV [.int .u32 d,.int .i64 i] [.c .bool] K h:=by
 refine Bp d i ?_;unfold ul;refine Ds hi (au.2 ⟨by omega,?_⟩);have e:min (i:Int).toNat (IntKind.bits .u32)=i:=by rw[aJ];exact bG (by show i≤32;omega)
 rw[e,lX];have e2:=Q8 (d>>>i) 1;have hlt:d>>>i<4294967296:=fS (hO d i) hd;rw[dy hlt,show(1:Nat)%4294967296=1 from rfl]at e2
 simp only[Bd];rw[show((1:Nat):Int)=(1:Int)from rfl]at e2
 rw[e2,yO (HQ (by omega))];have e3:(((d>>>i&&&1:Nat):Int)==(1:Int))=d.testBit i:=by
  rw[kQ,beq_iff_eq,Nat.testBit,Nat.and_comm];simp only[bne_iff_ne,ne_eq,Nat.one_and_eq_mod_two];have:(d>>>i)%2<2:=Nat.mod_lt _ (by omega);omega
 rw[e3];exact hk
theorem Pa{d i:Nat}(hd:d<4294967296)(hi:i<32):∃w:Nat,IntKind.wrap .u32 (aq (IntKind.bits .u32) (d:Int)|||aq (IntKind.bits .u32) (IntKind.wrap .u32 (1*2^(min (i:Int).toNat (IntKind.bits .u32))))).toNat=(w:Int)∧w<4294967296∧∀j,w.testBit j=(d.testBit j||decide (j=i)):=by
 have e:min (i:Int).toNat (IntKind.bits .u32)=i:=by rw[aJ];exact bG (by show i≤32;omega)
 have hp:2^i<4294967296:=Nat.pow_lt_pow_right (by omega) (show i<32 from hi)
 have e2:(1*2^i:Int)=((2^i:Nat):Int):=by simp
 rw[e,e2,yO hp];refine⟨_,yO (BitVec.isLt _),BitVec.isLt _,fun j=>?_⟩
 rw[BitVec.testBit_toNat,BitVec.getLsbD_or,fh,fh,mc,mc,mM];by_cases hj:j<32
 ·have:decide (j<IntKind.bits .u32)=true:=decide_eq_true hj
  rw[this];simp[eq_comm]
 ·have h1:decide (j<IntKind.bits .u32)=false:=decide_eq_false hj
  have h2:d.testBit j=false:=ge (aR hd (ff (n:=2) (by omega) (show 32≤j by omega)))
  rw[h1,h2];simp;omega
theorem M3{d i:Nat}(hd:d<4294967296)(hi:i<32){h:ad}{K:Int→ad→Prop}(hk:∀w:Nat,w<4294967296→(∀j,w.testBit j=(d.testBit j||decide (j=i)))→K (w:Int) h):HC PG fE [.int .u32 d,.int .i64 i] [.c (.int .u32)] K h:=by
 refine zZ d i ?_;unfold sN;refine Ds hi (ag.2 ⟨by omega,?_⟩);obtain⟨w,e,h1,h2⟩:=Pa hd hi;simp only[Bd];rw[e];exact hk w h1 h2
theorem HN{d i:Nat}(hd:d<4294967296)(hi:i<32):∃w:Nat,IntKind.wrap .u32 (aq (IntKind.bits .u32) (d:Int)&&& ~~~aq (IntKind.bits .u32) (IntKind.wrap .u32 (1*2^(min (i:Int).toNat (IntKind.bits .u32))))).toNat=(w:Int)∧w<4294967296∧∀j,w.testBit j=(d.testBit j&&decide (j≠i)):=by
 have e:min (i:Int).toNat (IntKind.bits .u32)=i:=by rw[aJ];exact bG (by show i≤32;omega)
 have hp:2^i<4294967296:=Nat.pow_lt_pow_right (by omega) (show i<32 from hi)
 have e2:(1*2^i:Int)=((2^i:Nat):Int):=by simp
 rw[e,e2,yO hp];refine⟨_,yO (BitVec.isLt _),BitVec.isLt _,fun j=>?_⟩
 rw[BitVec.testBit_toNat,BitVec.getLsbD_and,BitVec.getLsbD_not,fh,fh,mc,mc,mM];by_cases hj:j<32
 ·have:decide (j<IntKind.bits .u32)=true:=decide_eq_true hj
  rw[this];simp[eq_comm]
 ·have h1:decide (j<IntKind.bits .u32)=false:=decide_eq_false hj
  have h2:d.testBit j=false:=ge (aR hd (ff (n:=2) (by omega) (show 32≤j by omega)))
  rw[h1,h2];simp
theorem CT{d i:Nat}(hd:d<4294967296)(hi:i<32){h:ad}{K:Int→ad→Prop}(hk:∀w:Nat,w<4294967296→(∀j,w.testBit j=(d.testBit j&&decide (j≠i)))→K (w:Int) h):HC PG jt [.int .u32 d,.int .i64 i] [.c (.int .u32)] K h:=by
 refine wn d i ?_;unfold qd;refine Ds hi (ag.2 ⟨by omega,?_⟩);obtain⟨w,e,h1,h2⟩:=HN hd hi;simp only[Bd];rw[e];exact hk w h1 h2
abbrev Uz:ByteArray:=⟨#[0,1,1,2,1,2,2,3,1,2,2,3,2,3,3,4,1,2,2,3,2,3,3,4,2,3,3,4,3,4,4,5,1,2,2,3,2,3,3,4,2,3,3,4,3,4,4,5,2,3,3,4,3,4,4,5,3,4,4,5,4,5,5,6,1,2,2,3,2,3,3,4,2,3,3,4,3,4,4,5,2,3,3,4,3,4,4,5,3,4,4,5,4,5,5,6,2,3,3,4,3,4,4,5,3,4,4,5,4,5,5,6,3,4,4,5,4,5,5,6,4,5,5,6,5,6,6,7,1,2,2,3,2,3,3,4,2,3,3,4,3,4,4,5,2,3,3,4,3,4,4,5,3,4,4,5,4,5,5,6,2,3,3,4,3,4,4,5,3,4,4,5,4,5,5,6,3,4,4,5,4,5,5,6,4,5,5,6,5,6,6,7,2,3,3,4,3,4,4,5,3,4,4,5,4,5,5,6,3,4,4,5,4,5,5,6,4,5,5,6,5,6,6,7,3,4,4,5,4,5,5,6,4,5,5,6,5,6,6,7,4,5,5,6,5,6,6,7,5,6,6,7,6,7,7,8]⟩
theorem RM:(fz 256).all (fun b=>decide (Uz[b]? =some (fW (uo 8 b))))=true:=by decide+kernel
theorem GW{b:Nat}(h:b<256):Uz[b]? =some (fW (uo 8 b)):=of_decide_eq_true (List.all_eq_true.1 RM b (fP.2 h))
theorem HH(b:Nat):(fW (uo 8 b)).toNat=uo 8 b:=by
 have:=ym 8 b;simp;omega
theorem Vv(d:Nat):uo 32 d=uo 8 (d>>>24)+uo 8 ((d>>>16)&&&255)+uo 8 ((d>>>8)&&&255)+uo 8 (d&&&255):=by
 rw[TY,TY,TY,show(32:Nat)=8+(8+(8+8))from rfl,CO,CO,CO]
 simp only[←Nat.shiftRight_add,Nat.reduceAdd];omega
set_option maxRecDepth 100000 in
theorem Sk{d:Nat}(hd:d<4294967296){h:ad}{K:Int→ad→Prop}(hk:K (uo 32 d:Int) h):HC PG jV [.int .u32 d] [.c (.int .i64)] K h:=by
 refine tW d ?_;unfold nW;have e24:eD (d:Int) (2^(min (24:Int).toNat (IntKind.bits .u32)))=((d>>>24:Nat):Int):=lX d 24;have e16:eD (d:Int) (2^(min (16:Int).toNat (IntKind.bits .u32)))=((d>>>16:Nat):Int):=lX d 16;have e8:eD (d:Int) (2^(min (8:Int).toNat (IntKind.bits .u32)))=((d>>>8:Nat):Int):=lX d 8;have b:∀x:Nat,x<4294967296→IntKind.wrap .u32 (aq (IntKind.bits .u32) (x:Int)&&&aq (IntKind.bits .u32) 255).toNat=((x&&&255:Nat):Int):=fun x hx=>by
  have:=Q8 x 255;rw[dy hx]at this;rw[show((255:Nat):Int)=(255:Int)from rfl]at this
  rw[this,yO (HQ (by omega))]
 have l24:d>>>24<256:=by rw[cz];omega
 have lb:∀x:Nat,x&&&255<256:=fun x=>fS Nat.and_le_right (by omega)
 have s16:d>>>16<4294967296:=fS (hO d 16) hd;have s8:d>>>8<4294967296:=fS (hO d 8) hd;simp only[Bd];rw[e24,e16,e8,b _ s16,b _ s8,b _ hd];refine⟨by decide,_,by omega,GW (b:=d>>>24) l24,by decide,_,by omega,GW (lb _),by decide,_,by omega,GW (lb _),_,by omega,GW (lb _),?_⟩
 rw[HH,HH,HH,HH];simp only[aJ];have q1:=ym 8 (d>>>24);have q2:=ym 8 (d>>>16&&&255);have q3:=ym 8 (d>>>8&&&255);have q4:=ym 8 (d&&&255);rw[Vv]at hk;have u8:∀n:Nat,n≤255→IntKind.wrap .u8 (n:Int)=(n:Int):=fun n hn=>Go.IntWalk.u8_in _ (by omega)
 rw[←Int.natCast_add,u8 _ (by omega),←Int.natCast_add,u8 _ (by omega),←Int.natCast_add,u8 _ (by omega),gr (by omega)];exact hk
theorem pN{d i:Nat}(hd:d<4294967296)(hi:i<32){h:ad}{K:Int→ad→Prop}(hk:K (uo i d:Int) h):HC PG dB [.int .u32 d,.int .i64 i] [.c (.int .i64)] K h:=by
 refine Aa d i ?_;unfold sO cd;refine ay (fun h0=>?_) fun h0=>?_
 ·have:i=0:=by omega
  subst this;exact hk
 ·refine ay (fun h=>by omega) fun _=>⟨by omega,?_⟩
  have e:min (i:Int).toNat (IntKind.bits .u32)=i:=by rw[aJ];exact bG (by show i≤32;omega)
  have hp:2^i<4294967296:=Nat.pow_lt_pow_right (by omega) (show i<32 from hi)
  have hp0:0<2^i:=Nat.pow_pos (by omega);have e2:(1*2^i:Int)=((2^i:Nat):Int):=by simp
  have e3:(((2^i:Nat):Int)-1)=((2^i-1:Nat):Int):=by omega
  simp only[Bd];rw[e,e2,yO hp,e3,yO (show 2^i-1<4294967296 by omega),Q8,dy hd,dy (show 2^i-1<4294967296 by omega),yO (HQ (by omega))]
  refine yC _ ?_;unfold rH cd;refine Sk (HQ (by omega)) ?_;rw[NL d i 32 (by omega)];exact hk
end Go.Proofs
namespace Go.Proofs
open Go.Lift
def fm{β:Type}(g:Nat→Option β)(n:Nat):List β:=(fz n).filterMap g
def upd{β:Type}(g:Nat→Option β)(i:Nat)(x:Option β)(j:Nat):Option β:=if j=i then x else g j
theorem UN{β:Type}{f g:Nat→Option β}:∀l:List Nat,(∀j∈l,f j=g j)→l.filterMap f=l.filterMap g
 | [],_=>rfl
 |j::l,h=>by
  rw[List.filterMap_cons,List.filterMap_cons,h j (List.mem_cons_self ..),UN l fun k hk=>h k (List.mem_cons_of_mem _ hk)]
section
variable {β:Type} {g:Nat→Option β} {d:Nat}
theorem DS(hd:∀c,c<32→d.testBit c=(g c).isSome){i:Nat}(hi:i≤32):(fm g i).length=uo i d:=by
 unfold fm uo;rw[List.length_filterMap_eq_countP];exact List.countP_congr fun j hj=>by rw[hd j (by have:=fP.1 hj;omega)]
theorem p5{i n:Nat}(hi:i<n):fm g n=fm g i++((g i).toList++(fz (n-(i+1))).filterMap fun j=>g (i+1+j)):=by
 unfold fm;have e:n=i+(1+(n-(i+1))):=by omega
 rw[e,rK,pj,rK];have e2:i+(1+(n-(i+1)))-(i+1)=n-(i+1):=by omega
 rw[e2];congr 1
 rw[List.map_append,pj,List.map_map];congr 1
 rw[List.filterMap_map];refine UN _ fun j _=>?_
 show g (i+(1+j))=_
 rw[Nat.add_assoc]
theorem x9{i:Nat}{x:Option β}:fm (upd g i x) i=fm g i:=by
 unfold fm;refine UN _ fun j hj=>?_
 have:=fP.1 hj;unfold upd;rw[if_neg (by omega)]
theorem vM{i m:Nat}{x:Option β}:((fz m).filterMap fun j=>upd g i x (i+1+j))=(fz m).filterMap fun j=>g (i+1+j):=by
 refine UN _ fun j _=>?_
 unfold upd;rw[if_neg (by omega)]
theorem QE{i:Nat}(hi:i<32)(hd:∀c,c<32→d.testBit c=(g c).isSome)(hn:g i=none)(x:β):fm (upd g i (some x)) 32=(fm g 32).take (uo i d)++x::(fm g 32).drop (uo i d):=by
 have hl:=DS hd (i:=i) (by omega);rw[p5 (g:=upd g i (some x)) hi,p5 (g:=g) hi,x9,vM,hn,cZ hl,cE hl];simp[upd]
theorem QD{i:Nat}(hi:i<32)(hd:∀c,c<32→d.testBit c=(g c).isSome){y:β}(hn:g i=some y)(x:β):fm (upd g i (some x)) 32=(fm g 32).take (uo i d)++x::(fm g 32).drop (uo i d+1):=by
 have hl:=DS hd (i:=i) (by omega);rw[p5 (g:=upd g i (some x)) hi,p5 (g:=g) hi,x9,vM,hn,cZ hl,←dE,cE hl];simp[upd]
theorem QF{i:Nat}(hi:i<32)(hd:∀c,c<32→d.testBit c=(g c).isSome){y:β}(hn:g i=some y):fm (upd g i none) 32=(fm g 32).take (uo i d)++(fm g 32).drop (uo i d+1):=by
 have hl:=DS hd (i:=i) (by omega);rw[p5 (g:=upd g i none) hi,p5 (g:=g) hi,x9,vM,hn,cZ hl,←dE,cE hl];simp[upd]
theorem QG{i:Nat}(hi:i<32)(hd:∀c,c<32→d.testBit c=(g c).isSome){y:β}(hn:g i=some y):(fm g 32)[uo i d]? =some y:=by
 have hl:=DS hd (i:=i) (by omega);rw[p5 (g:=g) hi,hn,List.getElem?_append_right (by omega),hl,fQ];rfl
theorem Gp{i:Nat}(hi:i<32)(hd:∀c,c<32→d.testBit c=(g c).isSome){y:β}(hn:g i=some y):uo i d<(fm g 32).length:=(List.getElem?_eq_some_iff.1 (QG hi hd hn)).1
theorem Te{i:Nat}(hi:i<32)(hd:∀c,c<32→d.testBit c=(g c).isSome):uo i d≤(fm g 32).length:=by
 have hl:=DS hd (i:=i) (by omega);rw[p5 (g:=g) hi,ae];omega
theorem vd:(fm g 32).length≤32:=by
 have:=List.length_filterMap_le g (fz 32);simpa[fm]using this
end
end Go.Proofs
namespace Go.Proofs
open Go.Lift
abbrev sv(s:SliceV):Value:=.slice s.a s.len s.cap
structure Slots where
 p:Nat→Option Pr
 k:Nat→Option (Option Addr)
def ft(d n:Nat)(sp sk:SliceV)(bu:Bool)(ow:Option Addr):Array Value:= #[.int .u32 (d:Int),.int .u32 (n:Int),sv sp,sv sk,.bool bu,.pointer ow]
structure BitsOf(d n:Nat)(s:Slots):Prop where
 d32:d<4294967296
 n32:n<4294967296
 dp:∀c,c<32→d.testBit c=(s.p c).isSome
 nk:∀c,c<32→n.testBit c=(s.k c).isSome
structure NodeAt(W:Nat→Prop)(h:ad)(b:Nat)(s:Slots):Prop where
 ex:∃d n sp sk ow,h[b]? =some (.cells (ft d n sp sk false ow) bD (0,0))∧BitsOf d n s∧Sl eJ 2 W h sp (fm s.p 32)∧Sl qf 1 W h sk (fm s.k 32)∧sp.len≤sp.cap∧sk.len≤sk.cap
 nw:¬W b
theorem NodeAt.upd{W M:Nat→Prop}{h h':ad}{b:Nat}{s:Slots}(n:NodeAt W h b s)(k:Upd M h h')(hm:∀b,M b→W b∨h.size≤b):NodeAt W h' b s:=by
 obtain⟨d,m,sp,sk,ow,h1,h2,h3,h4,h5,h6⟩:=n.ex;exact⟨⟨d,m,sp,sk,ow,k.get h1 (fun hb=>(hm _ hb).elim n.nw fun h=>by have:=bh h1;omega),h2,h3.upd k hm,h4.upd k hm,h5,h6⟩,n.nw⟩
structure OwnN(M:Nat→Prop)(h:ad)(b d n:Nat)(sp sk:SliceV)(s:Slots)(ow:Option Addr):Prop where
 blk:h[b]? =some (.cells (ft d n sp sk false ow) bD (0,0))
 bits:BitsOf d n s
 ex:∃A B:Nat→Prop,OwnS eJ 2 aj A h sp (fm s.p 32)∧OwnS qf 1 bO B h sk (fm s.k 32)∧(∀x,A x→M x∧¬B x∧x≠b∧x<h.size)∧(∀x,B x→M x∧x≠b∧x<h.size)
 mb:M b
theorem vJ{h:ad}{K:Bool→ad→Prop}(hk:K false h):HC PG gC [.pointer none] [.c .bool] K h:=by
 refine yq none ?_;unfold rx dT;exact ag.2 hk
theorem F3{b:Nat}{h:ad}{K:Bool→ad→Prop}(hk:K false h):HC PG oB [.pointer (some ⟨b,0,none⟩),.pointer none] [.c .bool] K h:=by
 refine zV _ none ?_;unfold sJ re;exact au.2 (vJ (ag.2 hk))
theorem OwnN.upd{M M':Nat→Prop}{h h':ad}{b d n:Nat}{sp sk:SliceV}{s:Slots}{ow:Option Addr}(o:OwnN M h b d n sp sk s ow)(k:Upd M' h h')(hm:∀x,M' x→¬M x):OwnN M h' b d n sp sk s ow:=by
 obtain⟨A,B,h1,h2,h3,h4⟩:=o.ex;have z:=k.size;exact⟨k.get o.blk fun hb=>hm _ hb o.mb,o.bits,⟨A,B,h1.upd k fun x hx hy=>hm _ hy (h3 x hx).1,h2.upd k fun x hx hy=>hm _ hy (h4 x hx).1,fun x hx=>⟨(h3 x hx).1,(h3 x hx).2.1,(h3 x hx).2.2.1,by have:=(h3 x hx).2.2.2;omega⟩,fun x hx=>⟨(h4 x hx).1,(h4 x hx).2.1,by have:=(h4 x hx).2.2;omega⟩⟩,o.mb⟩
set_option maxRecDepth 4000 in
theorem LD{W:Nat→Prop}{h:ad}{b:Nat}{s:Slots}(nd:NodeAt W h b s){K:Option Addr→ad→Prop}
  (hk:∀h' d n sp sk,OwnN (fun x=>h.size≤x) h' h.size d n sp sk s none→Upd No h h'→K (some ⟨h.size,0,none⟩) h'):
  HC PG gj [.pointer (some ⟨b,0,none⟩),.pointer none] [.c .ptr] K h:=by
 obtain⟨d,n,sp,sk,ow,hb,bits,hsp,hsk,hcp,hck⟩:=nd.ex;refine vi _ none ?_;unfold qv re bC nv cT dT Pw lI g7 To;refine F3 (ag.2 ?_);have c:∀{h:ad} {b:Nat} {c:Array Value} {i:Nat},h[b]? =some (.cells c bD (0,0))→aE h ⟨b,0+i,none⟩=c[i]?:=fun hb=>by rw[aF];exact ba hb
 refine⟨_,rfl,_,c (i:=0) hb,_,c (i:=1) hb,sp,c (i:=2) hb,sk,c (i:=3) hb,_,c (i:=4) hb,_,c (i:=5) hb,?_⟩;have k1:=Upd.hnew No h [.int .u32 0,.int .u32 0,.slice none 0 0,.slice none 0 0,.bool false,.pointer none] bD;have b1:=bW h [.int .u32 0,.int .u32 0,.slice none 0 0,.slice none 0 0,.bool false,.pointer none] bD;refine bo ?_;simp only[cM h];generalize hnew h [.int .u32 0,.int .u32 0,.slice none 0 0,.slice none 0 0,.bool false,.pointer none] bD=h1 at k1 b1
 have hs1:g8 h1 ⟨h.size,0,none⟩ 0 [.int .u32 (d:Int),.int .u32 (n:Int),.slice sp.a sp.len sp.cap,.slice sk.a sk.len sk.cap,.bool false,.pointer ow]=_:=jf _ h1 0 0 _ b1 (by simp);refine⟨.inr ⟨_,rfl,fun j hj=>by rw[bQ];exact hP b1 (by simp at hj⊢;omega)⟩,bo ?_⟩
 rw[hs1];have b2:=jl (o:=.cells (ft d n sp sk false ow) bD (0,0)) b1;have k2:Upd No h _:=k1.trans (M':=(· =h.size)) (Upd.set h1 (.cells (ft d n sp sk false ow) bD (0,0)) rfl) fun x hx=>.inr (eH hx.symm)
 have hz2:h.size<(h1.setIfInBounds h.size (.cells (ft d n sp sk false ow) bD (0,0))).size:=bh b2;have hbb:h.size≠b:=fun e=>by have:=bh hb;omega
 have e2:(Obj.cells (List.take (0+0) [Value.int .u32 0,.int .u32 0,.slice none 0 0,.slice none 0 0,.bool false,.pointer none]++ [Value.int .u32 (d:Int),.int .u32 (n:Int),.slice sp.a sp.len sp.cap,.slice sk.a sk.len sk.cap,.bool false,.pointer ow]++List.drop (0+0+ [Value.int .u32 (d:Int),.int .u32 (n:Int),.slice sp.a sp.len sp.cap,.slice sk.a sk.len sk.cap,.bool false,.pointer ow].length) [Value.int .u32 0,.int .u32 0,.slice none 0 0,.slice none 0 0,.bool false,.pointer none]).toArray bD (0,0))=.cells (ft d n sp sk false ow) bD (0,0):=rfl
 rw[e2];generalize h1.setIfInBounds h.size (.cells (ft d n sp sk false ow) bD (0,0))=h2 at b2 k2 hz2;have hb2:=k2.get0 hb;refine⟨_,rfl,sp,c (i:=2) hb2,_,rfl,sk,c (i:=3) hb2,?_⟩;refine tT (hsp.upd k2 fun _ h=>h.elim) (by have:=vd (g:=s.p);omega) fun s3 h3 ho3 hu3=>?_
 refine⟨c (i:=3) (hu3.get0 hb2),?_⟩;refine A7 ((hsk.upd k2 fun _ h=>h.elim).upd hu3 fun _ h=>h.elim) (by have:=vd (g:=s.k);omega) fun s4 h4 ho4 hu4=>?_
 have b4:=hu4.get0 (hu3.get0 b2);have ho3':=ho3.within.upd hu4 fun _ _ h=>h
 have ho4':=ho4.within;have z3:=hu3.size;have z4:=hu4.size;have w:∀{h:ad} {c:Array Value} {x i:Nat},h[x]? =some (.cells c bD (0,0))→i<c.size→Wr h ⟨x,0+i,none⟩:=fun hb hi=>by rw[aF];exact hP hb hi
 have st:∀{h:ad} {c c':Array Value} {x i:Nat} {v:Value} {k:ad→Prop},h[x]? =some (.cells c bD (0,0))→c.setIfInBounds i v=c'→(∀h',h'[x]? =some (.cells c' bD (0,0))→Upd (· =x) h h'→k h')→At (hset h ⟨x,i,none⟩ v) k:=fun hb e hk=>tB hb fun h' hb' hu=>hk h' (e▸hb') hu
 refine⟨w (i:=2) b4 (show 2<6 by decide),st (i:=2) (c':=ft d n s3 sk false ow) b4 rfl fun h5 b5 hu5=>?_⟩
 refine⟨w (i:=3) b5 (show 3<6 by decide),st (i:=3) (c':=ft d n s3 s4 false ow) b5 rfl fun h6 b6 hu6=>?_⟩
 refine⟨w (i:=5) b6 (show 5<6 by decide),st (i:=5) (c':=ft d n s3 s4 false none) b6 rfl fun h7 b7 hu7=>?_⟩
 refine vJ (ag.2 ?_);have hu47:=hu5.tr (hu6.tr hu7);have z7:=hu47.size;refine hk _ d n s3 s4 ⟨b7,bits,⟨fun x=>h2.size≤x∧x<h3.size,fun x=>h3.size≤x∧x<h4.size,ho3'.upd hu47 fun x hx e=>by have e:x=h.size:=e;omega,ho4'.upd hu47 fun x hx e=>by have e:x=h.size:=e;omega,fun x hx=>⟨by omega,by omega,by omega,by omega⟩,fun x hx=>⟨by omega,by omega,by omega⟩⟩,al _⟩ ?_
 exact((k2.tr hu3).tr hu4).trans hu47 fun x hx=>.inr (eH hx.symm)
end Go.Proofs
namespace Go.Proofs
open Go.Lift
theorem tL{β:Type}{g:Nat→Option β}{i:Nat}(h:g i=none):upd g i none=g:=by
 funext j;unfold upd;split
 ·rename_i e;rw[e,h]
 ·rfl
theorem eK{h:ad}{b:Nat}{c:Array Value}{t:TypeId}{i:Nat}(hb:h[b]? =some (.cells c t (0,0))):aE h ⟨b,0+i,none⟩=c[i]?:=by rw[aF];exact ba hb
theorem RB{h:ad}{b:Nat}{c:Array Value}{t:TypeId}{i:Nat}(hb:h[b]? =some (.cells c t (0,0))) (hi:i<c.size):Wr h ⟨b,0+i,none⟩:=by rw[aF];exact hP hb hi
theorem E0{h:ad}{b:Nat}{c c':Array Value}{t:TypeId}{i:Nat}{v:Value}{k:ad→Prop}(hb:h[b]? =some (.cells c t (0,0))) (e:c.setIfInBounds i v=c')
 (hk:∀h',h'[b]? =some (.cells c' t (0,0))→Upd (· =b) h h'→k h'):At (hset h ⟨b,i,none⟩ v) k:=tB hb fun h' hb' hu=>hk h' (e▸hb') hu
theorem HD{M:Nat→Prop}{h:ad}{b d n:Nat}{sp sk:SliceV}{s:Slots}{ow:Option Addr}(o:OwnN M h b d n sp sk s ow){i:Nat}(hi:i<32){K:Unit→ad→Prop}
  (hk:∀h' d' n' sp' sk',OwnN M h' b d' n' sp' sk' ⟨upd s.p i none,upd s.k i none⟩ ow→Upd M h h'→K () h'):HC PG jr [.pointer (some ⟨b,0,none⟩),.int .i64 i] [] K h:=by
 obtain⟨A,B,hA,hB,hAm,hBm⟩:=o.ex;have bits:=o.bits;refine zT _ i ?_;unfold sH bC cd cT iG Iw g7 nm;have ew:∀k:Nat,k≤100→IntKind.wrap .i64 ((k:Int)+1)=((k+1:Nat):Int):=fun k hk=>by rw[gr (by omega)];omega
 have hc1:=ym i d;have hc2:=ym i n;have hAM:∀x,A x→M x∨h.size≤x:=fun x hx=>.inl (hAm x hx).1
 refine Join.intro (fun _ h'=>∃sp',h'[b]? =some (.cells (ft d n sp' sk false ow) bD (0,0))∧OwnS eJ 2 aj A h' sp' (fm (upd s.p i none) 32)∧OwnS qf 1 bO B h' sk (fm s.k 32)∧Upd M h h') (fun R hR=>?_) ?_
 ·refine⟨_,rfl,_,eK (i:=0) o.blk,AW bits.d32 hi ?_⟩
  rw[bits.dp i hi];cases hp:s.p i with
  |none=>exact ag.2 (hR _ _ ⟨sp,o.blk,by rw[tL hp];exact hA,hB,Upd.refl _ _⟩)
  |some y=>
   refine au.2 ⟨_,rfl,_,eK (i:=0) o.blk,pN bits.d32 hi ⟨_,rfl,sp,eK (i:=2) o.blk,?_⟩⟩;rw[ew _ (by omega)];refine Mc hA (Gp hi bits.dp hp) (by have:=vd (g:=s.p);omega) fun s2 h2 ho2 hu2=>?_
   rw[←QF hi bits.dp hp]at ho2;have b2:=hu2.get o.blk fun hb=>(hAm b hb).2.2.1 rfl
   refine⟨_,rfl,RB (i:=2) b2 (show 2<6 by decide),E0 (i:=2) (c':=ft d n s2 sk false ow) b2 rfl fun h3 b3 hu3=>?_⟩
   refine hR _ _ ⟨s2,b3,ho2.upd hu3 fun x hx e=>(hAm x hx).2.2.1 e,(hB.upd hu2 fun x hx hy=>(hAm x hy).2.1 hx).upd hu3 fun x hx e=>(hBm x hx).2.1 e,(hu2.mono hAM).tr (hu3.mono fun x e=>.inl (e▸o.mb))⟩
 rintro _ h1 ⟨sp1,b1,hA1,hB1,hu1⟩;refine Join.intro (fun _ h'=>∃sk',h'[b]? =some (.cells (ft d n sp1 sk' false ow) bD (0,0))∧OwnS eJ 2 aj A h' sp1 (fm (upd s.p i none) 32)∧OwnS qf 1 bO B h' sk' (fm (upd s.k i none) 32)∧Upd M h1 h') (fun R hR=>?_) ?_
 ·refine⟨_,rfl,_,eK (i:=1) b1,AW bits.n32 hi ?_⟩
  rw[bits.nk i hi];cases hp:s.k i with
  |none=>exact ag.2 (hR _ _ ⟨sk,b1,hA1,by rw[tL hp];exact hB1,Upd.refl _ _⟩)
  |some y=>
   refine au.2 ⟨_,rfl,_,eK (i:=1) b1,pN bits.n32 hi ⟨_,rfl,sk,eK (i:=3) b1,?_⟩⟩;rw[ew _ (by omega)];refine Md hB1 (Gp hi bits.nk hp) (by have:=vd (g:=s.k);omega) fun s2 h2 ho2 hu2=>?_
   rw[←QF hi bits.nk hp]at ho2;have b2:=hu2.get b1 fun hb=>(hBm b hb).2.1 rfl
   refine⟨_,rfl,RB (i:=3) b2 (show 3<6 by decide),E0 (i:=3) (c':=ft d n sp1 s2 false ow) b2 rfl fun h3 b3 hu3=>?_⟩
   refine hR _ _ ⟨s2,b3,(hA1.upd hu2 fun x hx hy=>(hAm x hx).2.1 hy).upd hu3 fun x hx e=>(hAm x hx).2.2.1 e,ho2.upd hu3 fun x hx e=>(hBm x hx).2.1 e,(hu2.mono fun x hx=>.inl (hBm x hx).1).tr (hu3.mono fun x e=>.inl (e▸o.mb))⟩
 rintro _ h2 ⟨sk2,b2,hA2,hB2,hu2⟩;refine⟨_,rfl,_,eK (i:=0) b2,_,rfl,_,eK (i:=1) b2,?_⟩;refine CT bits.d32 hi fun d' hd' hdt=>⟨eK (i:=1) b2,?_⟩
 refine CT bits.n32 hi fun n' hn' hnt=>?_
 refine⟨_,rfl,RB (i:=0) b2 (show 0<6 by decide),E0 (i:=0) (c':=ft d' n sp1 sk2 false ow) b2 rfl fun h3 b3 hu3=>?_⟩
 refine⟨_,rfl,RB (i:=1) b3 (show 1<6 by decide),E0 (i:=1) (c':=ft d' n' sp1 sk2 false ow) b3 rfl fun h4 b4 hu4=>?_⟩
 have hu34:=hu3.tr hu4;have z:=(hu1.tr (hu2.tr (hu34.mono (M':=M) fun x e=>.inl (e▸o.mb)))).size
 refine hk h4 d' n' sp1 sk2 ⟨b4,⟨hd',hn',fun c hc=>?_,fun c hc=>?_⟩,⟨A,B,hA2.upd hu34 fun x hx e=>(hAm x hx).2.2.1 e,hB2.upd hu34 fun x hx e=>(hBm x hx).2.1 e,fun x hx=>⟨(hAm x hx).1,(hAm x hx).2.1,(hAm x hx).2.2.1,by have:=(hAm x hx).2.2.2;omega⟩,fun x hx=>⟨(hBm x hx).1,(hBm x hx).2.1,by have:=(hBm x hx).2.2;omega⟩⟩,o.mb⟩ (hu1.tr (hu2.tr (hu34.mono fun x e=>.inl (e▸o.mb))))
 ·rw[hdt,bits.dp c hc];simp only[upd];split<;>simp[*]
 ·rw[hnt,bits.nk c hc];simp only[upd];split<;>simp[*]
end Go.Proofs
namespace Go.Proofs
open Go.Lift
theorem OwnS.setAt{α:Type}{f:α→List Value}{sz:Nat}{t:TypeId}{M:Nat→Prop}{h:ad}{s:SliceV}{xs:List α}(hs:OwnS f sz t M h s xs){k:Nat}(hkl:k<xs.length)(x:α):
  ∃a,s.a=some a∧M a.block∧rP h (some (adr a (k*sz))) 0 (f x)∧OwnS f sz t M (g8 h (adr a (k*sz)) 0 (f x)) s (xs.take k++x::xs.drop (k+1))∧Upd (· =a.block) h (g8 h (adr a (k*sz)) 0 (f x)):=by
 have hf:∀x,(f x).length=sz∧0<sz:=hs.ne;have hlen:=hs.len;have hcap:=hs.cap;rcases hs.blk with h0|⟨b,rest,ha,hb,hc,hr⟩
 ·omega
 have hA:((xs.take k).flatMap f).length=k*sz:=by rw[kA hf,aK,bG (by omega)]
 have e1:xs.flatMap f=(xs.take k).flatMap f++(f xs[k]++(xs.drop (k+1)).flatMap f):=by
  rw[←aO,←eE hkl];exact yk xs k
 rw[e1]at hc;have hX:=(hf xs[k]).1;have hY:=(hf x).1;have hins:(xs.take k++x::xs.drop (k+1)).flatMap f=(xs.take k).flatMap f++(f x++(xs.drop (k+1)).flatMap f):=by rw[bw,aO]
 generalize (xs.take k).flatMap f=A at hA hc hins;generalize (xs.drop (k+1)).flatMap f=B at hc hins;generalize f xs[k]=X at hX hc;have hl:k*sz+0+(f x).length≤(A++(X++B)++rest).length:=by simp only[ae];omega
 have ea:adr ⟨b,0,none⟩ (k*sz)=⟨b,k*sz,none⟩:=by rw[bQ,aF]
 refine⟨⟨b,0,none⟩,ha,hb,?_,?_,?_⟩
 ·rw[ea]
  refine .inr ⟨_,rfl,fun j hj=>?_⟩
  rw[bQ];exact hP hc (by rw[List.size_toArray];omega)
 ·rw[ea,jf (f x) h 0 (k*sz) _ hc hl]
  refine⟨by simp;omega,hf,hcap,.inr ⟨b,rest,ha,hb,?_,?_⟩⟩
  ·rw[jl hc,hins]
   congr 3
   rw[Nat.add_zero,ar A,cZ hA,←dE,cE hA,ar X,cE (by omega)];simp only[ar]
  ·exact hr
 ·rw[ea,jf (f x) h 0 (k*sz) _ hc hl]
  exact Upd.set h _ rfl
theorem OwnN.node{M W:Nat→Prop}{h:ad}{b d n:Nat}{sp sk:SliceV}{s:Slots}{ow:Option Addr}(o:OwnN M h b d n sp sk s ow)(hW:∀x,M x→¬W x):NodeAt W h b s:=by
 obtain⟨A,B,h1,h2,h3,h4⟩:=o.ex;exact⟨⟨d,n,sp,sk,ow,o.blk,o.bits,h1.sl fun x hx _=>hW _ (h3 x hx).1,h2.sl fun x hx _=>hW _ (h4 x hx).1,h1.cap,h2.cap⟩,hW _ o.mb⟩
theorem DN{W:Nat→Prop}{h:ad}{b:Nat}{s:Slots}(nd:NodeAt W h b s){i:Nat}(hi:i<32){K:Bool→ad→Prop}(hk:K true h):HC PG js [.pointer (some ⟨b,0,none⟩),.int .i64 i] [.c .bool] K h:=by
 obtain⟨d,n,sp,sk,ow,hb,_⟩:=nd.ex;refine zU _ i ?_;unfold sI dT;refine au.2 ⟨_,rfl,_,eK (i:=4) hb,au.2 ?_⟩;refine ay (fun _=>?_) fun h=>absurd (Int.natCast_nonneg i) h
 rw[decide_eq_true (by omega)];exact hk
theorem M5{β:Type}{g:Nat→Option β}{i:Nat}{x y:Option β}:upd (upd g i x) i y=upd g i y:=by
 funext j;unfold upd;split<;>rfl
theorem gR{β:Type}{g:Nat→Option β}{i:Nat}{x:Option β}:upd g i x i=x:=by simp[upd]
theorem ra{W:Nat→Prop}{h:ad}{b:Nat}{s:Slots}(nd:NodeAt W h b s)(hW:∀x,W x→x<h.size){i:Nat}(hi:i<32)(hx:∀y,s.p i=some y→s.k i=none)(p:Pr){K:Option Addr→ad→Prop}
  (hk:∀h' b',NodeAt W h' b' ⟨upd s.p i (some p),upd s.k i none⟩→Upd No h h'→K (some ⟨b',0,none⟩) h'):
  HC PG fy [.pointer (some ⟨b,0,none⟩),.pointer none,.int .i64 i,.agg #[.string p.1,.string p.2]] [.c .ptr] K h:=by
 refine w6 _ none i p ?_;unfold qK cD bC gZ cd un aw cT rM ni iG lI g7 nm;have k1:=Upd.hnew No h [.string p.1,.string p.2] aj;have b1:=bW h [.string p.1,.string p.2] aj;refine bo ?_;simp only[cM h];generalize hnew h [.string p.1,.string p.2] aj=h1 at k1 b1;have z1:=bh b1;have nd1:=nd.upd k1 fun _ h=>h.elim
 refine DN nd1 hi (ag.2 ?_);refine LD nd1 fun h2 d n sp sk o hu2=>?_
 have bits:=o.bits;obtain⟨A,B,hA,hB,hAm,hBm⟩:=o.ex;have hu02:=k1.tr hu2;have b12:=hu2.get0 b1;have hMW:∀x,h1.size≤x→¬W x:=fun x hx hw=>by have:=hW x hw;omega
 refine⟨_,rfl,_,eK (i:=0) o.blk,AW bits.d32 hi ?_⟩;rw[bits.dp i hi];cases hp:s.p i with
 |some y=>
  refine au.2 ⟨_,rfl,sp,eK (i:=2) o.blk,_,rfl,_,eK (i:=0) o.blk,p.1,by rw[bQ,ba b12];rfl,p.2,by rw[bQ,ba b12];rfl,?_⟩
  refine pN bits.d32 hi ⟨⟨by rw[bQ,ba b12];rfl,by rw[bQ,ba b12];rfl⟩,eK (i:=2) o.blk,?_⟩
  have hlt:=Gp hi bits.dp hp;obtain⟨a,ha,hab,hw,ho3,hu3⟩:=OwnS.setAt hA hlt p;have hlen:=hA.len;refine⟨by omega,a,ha,?_⟩;rw[aJ];refine⟨hw,bo ?_⟩;rw[←QD hi bits.dp hp]at ho3;have ob:=hu3.get o.blk fun e=>(hAm _ hab).2.2.1 e.symm
  have z3:=hu3.size;have o3:OwnN (fun x=>h1.size≤x) _ h1.size d n sp sk ⟨upd s.p i (some p),upd s.k i none⟩ none:=⟨ob,⟨bits.d32,bits.n32,fun c hc=>by
    rw[bits.dp c hc];simp only[upd];split
    ·rename_i e;rw[e,hp];rfl
    ·rfl,fun c hc=>by rw[bits.nk c hc,tL (hx y hp)]⟩,
   ⟨A,B,ho3,by rw[tL (hx y hp)];exact hB.upd hu3 fun x hx e=>(hAm _ hab).2.1 (e▸hx),fun x hx=>⟨(hAm x hx).1,(hAm x hx).2.1,(hAm x hx).2.2.1,by have:=(hAm x hx).2.2.2;omega⟩,fun x hx=>⟨(hBm x hx).1,(hBm x hx).2.1,by have:=(hBm x hx).2.2;omega⟩⟩,o.mb⟩
  refine hk _ _ (o3.node hMW) (hu02.trans hu3 fun x hx=>.inr ?_)
  have:=(hAm _ hab).1;have hx:x=a.block:=hx;omega
 |none=>
  refine ag.2 ⟨_,rfl,HD o hi fun h3 d3 n3 sp3 sk3 o3 hu3=>?_⟩
  have bits3:=o3.bits;obtain⟨A3,B3,hA3,hB3,hAm3,hBm3⟩:=o3.ex;have z2:=hu2.size;have z3:=hu3.size;have b13:=hu3.get b12 (show ¬h1.size≤h.size by omega)
  have hu03:Upd No h h3:=hu02.trans hu3 fun x hx=>.inr (aY (Nat.le_of_lt z1) hx)
  refine⟨_,rfl,sp3,eK (i:=2) o3.blk,_,rfl,_,eK (i:=0) o3.blk,p.1,by rw[bQ,ba b13];rfl,p.2,by rw[bQ,ba b13];rfl,?_⟩
  have k4:=Upd.hnew No h3 [.string p.1,.string p.2] aj;have b4:=bW h3 [.string p.1,.string p.2] aj;have z4:=jg h3 [.string p.1,.string p.2] aj;have o4:=o3.upd k4 fun _ h=>h.elim
  have fin:HC PG cV [.slice sp3.a sp3.len sp3.cap,.int .i64 (uo i d3),.slice (some (aA h3)) 1 1] [.c .slice] (fun(e32:SliceV) h33=>
       ∃a34:Addr,some (⟨h1.size,0,none⟩:Addr)=some a34∧
       (Wr h33 (adr (adr a34 0) 2)∧
        At (hset h33 (adr (adr a34 0) 2) (.slice e32.a e32.len e32.cap)) (fun h35=>
         ∃a36:Addr,some (⟨h1.size,0,none⟩:Addr)=some a36∧
         ∃v37:Int,aE h35 (adr (adr a36 0) 0)=some (.int .u32 v37)∧
         HC PG fE [.int .u32 v37,.int .i64 i] [.c (.int .u32)] (fun(e38:Int) h39=>
          ∃a40:Addr,some (⟨h1.size,0,none⟩:Addr)=some a40∧
          (Wr h39 (adr (adr a40 0) 0)∧
           At (hset h39 (adr (adr a40 0) 0) (.int .u32 e38)) (fun h41=>
            K (some ⟨h1.size,0,none⟩) h41))) h35))) (hnew h3 [.string p.1,.string p.2] aj):=by
   generalize hnew h3 [.string p.1,.string p.2] aj=h4 at k4 b4 z4 o4;rw[cM h3];have hA4:=(hA3.upd k4 fun _ _ h=>h).more (M':=fun x=>A3 x∨h4.size≤x) fun x hx=>.inl hx
   have hpn:(⟨upd s.p i none,upd s.k i none⟩:Slots).p i=none:=gR;refine LX hA4 (Te hi bits3.dp) (by have:=vd (g:=(⟨upd s.p i none,upd s.k i none⟩:Slots).p);omega) (x:=p) b4 (fun e=>e.elim (fun e=>by have:=(hAm3 _ e).2.2.2;omega) fun e=>by omega) (fun x hx=>.inr hx) fun s5 h5 ho5 hu5=>?_
   rw[←QE hi bits3.dp hpn p]at ho5;have hbl:h1.size<h3.size:=bh o3.blk;have b5:=hu5.get o4.blk fun e=>e.elim (fun e=>(hAm3 _ e).2.2.1 rfl) fun e=>by omega
   refine⟨_,rfl,RB (i:=2) b5 (show 2<6 by decide),E0 (i:=2) (c':=ft d3 n3 s5 sk3 false none) b5 rfl fun h6 b6 hu6=>?_⟩
   refine⟨_,rfl,_,eK (i:=0) b6,M3 bits3.d32 hi fun w hw hwt=>?_⟩
   refine⟨_,rfl,RB (i:=0) b6 (show 0<6 by decide),E0 (i:=0) (c':=ft w n3 s5 sk3 false none) b6 rfl fun h7 b7 hu7=>?_⟩
   have hu57:=hu6.tr hu7;have z5:=hu5.size;have z7:=hu57.size;have ho5':=ho5.within;have e1:(⟨upd (⟨upd s.p i none,upd s.k i none⟩:Slots).p i (some p),upd s.k i none⟩:Slots)=⟨upd s.p i (some p),upd s.k i none⟩:=by rw[M5]
   have o7:OwnN (fun x=>h1.size≤x) h7 h1.size w n3 s5 sk3 ⟨upd s.p i (some p),upd s.k i none⟩ none:=by
    rw[←e1];refine⟨b7,⟨hw,bits3.n32,fun c hc=>?_,bits3.nk⟩,⟨fun x=>(A3 x∨h4.size≤x)∧x<h5.size,B3,ho5'.upd hu57 fun x hx e=>?_,((hB3.upd k4 fun _ _ h=>h).upd hu5 fun x hx e=>?_).upd hu57 fun x hx e=>(hBm3 x hx).2.1 e,fun x hx=>⟨?_,?_,?_,by omega⟩,fun x hx=>⟨(hBm3 x hx).1,(hBm3 x hx).2.1,by have:=(hBm3 x hx).2.2;omega⟩⟩,o.mb⟩
    ·rw[hwt,bits3.dp c hc];simp only[upd];split<;>simp[*]
    ·have e:x=h1.size:=e
     rcases hx.1 with h|h
     ·exact(hAm3 x h).2.2.1 e
     ·omega
    ·rcases e with e|e
     ·exact(hAm3 x e).2.1 hx
     ·have:=(hBm3 x hx).2.2;omega
    ·rcases hx.1 with h|h
     ·exact(hAm3 x h).1
     ·omega
    ·rcases hx.1 with h|h
     ·exact(hAm3 x h).2.1
     ·exact fun hb=>by have:=(hBm3 x hb).2.2;omega
    ·rcases hx.1 with h|h
     ·exact(hAm3 x h).2.2.1
     ·omega
   refine hk _ _ (o7.node hMW) (((hu03.tr k4).trans hu5 fun x hx=>.inr ?_).trans hu57 fun x hx=>.inr ?_)
   ·rcases hx with h|h
    ·have:=(hAm3 x h).1;omega
    ·omega
   ·have hx:x=h1.size:=hx
    omega
  refine⟨pN bits3.d32 hi ⟨⟨by rw[bQ,ba b13];rfl,by rw[bQ,ba b13];rfl⟩,eK (i:=2) o3.blk,bo ⟨eK (i:=2) o4.blk,fin⟩⟩,bo ⟨eK (i:=0) o4.blk,eK (i:=2) o4.blk,pN bits3.d32 hi ⟨eK (i:=2) o4.blk,fin⟩⟩⟩
end Go.Proofs
namespace Go.Proofs
open Go.Lift
theorem QT{W:Nat→Prop}{h:ad}{b:Nat}{s:Slots}(nd:NodeAt W h b s)(hW:∀x,W x→x<h.size){i:Nat}(hi:i<32){K:Option Addr→ad→Prop}
  (hk:∀h' b',NodeAt W h' b' ⟨upd s.p i none,upd s.k i none⟩→Upd No h h'→K (some ⟨b',0,none⟩) h'):
  HC PG lr [.pointer (some ⟨b,0,none⟩),.pointer none,.int .i64 i] [.c .ptr] K h:=by
 refine zX _ none i ?_;unfold sL un lI;refine DN nd hi (ag.2 ?_);refine LD nd fun h2 d n sp sk o hu2=>⟨_,rfl,HD o hi fun h3 d3 n3 sp3 sk3 o3 hu3=>?_⟩
 exact hk _ _ (o3.node fun x hx hw=>by have:=hW x hw;omega) (hu2.trans hu3 fun x hx=>.inr hx)
theorem wC{W:Nat→Prop}{h:ad}{b:Nat}{s:Slots}(nd:NodeAt W h b s)(hW:∀x,W x→x<h.size){i:Nat}(hi:i<32)(hx:∀y,s.k i=some y→s.p i=none)(kid:Addr){K:Option Addr→ad→Prop}
  (hk:∀h' b',NodeAt W h' b' ⟨upd s.p i none,upd s.k i (some (some kid))⟩→Upd No h h'→K (some ⟨b',0,none⟩) h'):
  HC PG gH [.pointer (some ⟨b,0,none⟩),.pointer none,.int .i64 i,.pointer (some kid)] [.c .ptr] K h:=by
 refine yB _ none i (some kid) ?_;unfold rG cD bC cd un cT iG lI GQ g7 nm;refine ag.2 ?_;refine DN nd hi (ag.2 ?_);refine LD nd fun h2 d n sp sk o hu2=>?_
 have bits:=o.bits;obtain⟨A,B,hA,hB,hAm,hBm⟩:=o.ex;have hMW:∀x,h.size≤x→¬W x:=fun x hx hw=>by have:=hW x hw;omega
 refine⟨_,rfl,_,eK (i:=1) o.blk,AW bits.n32 hi ?_⟩;rw[bits.nk i hi];cases hp:s.k i with
 |some y=>
  refine au.2 ⟨_,rfl,sk,eK (i:=3) o.blk,_,rfl,_,eK (i:=1) o.blk,?_⟩;refine pN bits.n32 hi ⟨eK (i:=3) o.blk,?_⟩;have hlt:=Gp hi bits.nk hp;obtain⟨a,ha,hab,hw,ho3,hu3⟩:=OwnS.setAt hB hlt (some kid);have hlen:=hB.len;refine⟨by omega,a,ha,?_⟩;rw[aJ];have hw1:Wr h2 (adr a (uo i n*1)):=by
   rcases hw with hw|⟨b',hb',hw⟩
   ·cases hw
   ·cases hb';exact hw 0 (by simp)
  refine⟨hw1,bo ?_⟩;rw[←QD hi bits.nk hp]at ho3;have ob:=hu3.get o.blk fun e=>(hBm _ hab).2.1 e.symm
  have z3:=hu3.size;have o3:OwnN (fun x=>h.size≤x) _ h.size d n sp sk ⟨upd s.p i none,upd s.k i (some (some kid))⟩ none:=⟨ob,⟨bits.d32,bits.n32,fun c hc=>by rw[bits.dp c hc,tL (hx y hp)],fun c hc=>by
    rw[bits.nk c hc];simp only[upd];split
    ·rename_i e;rw[e,hp];rfl
    ·rfl⟩,
   ⟨A,B,by rw[tL (hx y hp)];exact hA.upd hu3 fun x hx e=>(hAm _ hx).2.1 (e▸hab),ho3,fun x hx=>⟨(hAm x hx).1,(hAm x hx).2.1,(hAm x hx).2.2.1,by have:=(hAm x hx).2.2.2;omega⟩,fun x hx=>⟨(hBm x hx).1,(hBm x hx).2.1,by have:=(hBm x hx).2.2;omega⟩⟩,o.mb⟩
  refine hk _ _ (o3.node hMW) (hu2.trans hu3 fun x hx=>.inr ?_)
  have:=(hBm _ hab).1;have hx:x=a.block:=hx;omega
 |none=>
  refine ag.2 ⟨_,rfl,HD o hi fun h3 d3 n3 sp3 sk3 o3 hu3=>?_⟩
  have bits3:=o3.bits;obtain⟨A3,B3,hA3,hB3,hAm3,hBm3⟩:=o3.ex;have z2:=hu2.size;have z3:=hu3.size;have hu03:Upd No h h3:=hu2.trans hu3 fun x hx=>.inr hx
  refine⟨_,rfl,sk3,eK (i:=3) o3.blk,_,rfl,_,eK (i:=1) o3.blk,?_⟩;have k4:=Upd.hnew No h3 [.pointer (some kid)] bO;have b4:=bW h3 [.pointer (some kid)] bO;have z4:=jg h3 [.pointer (some kid)] bO;have o4:=o3.upd k4 fun _ h=>h.elim
  have fin:HC PG cJ [.slice sk3.a sk3.len sk3.cap,.int .i64 (uo i n3),.slice (some (aA h3)) 1 1] [.c .slice] (fun(e32:SliceV) h33=>
       ∃a34:Addr,some (⟨h.size,0,none⟩:Addr)=some a34∧
       (Wr h33 (adr (adr a34 0) 3)∧
        At (hset h33 (adr (adr a34 0) 3) (.slice e32.a e32.len e32.cap)) (fun h35=>
         ∃a36:Addr,some (⟨h.size,0,none⟩:Addr)=some a36∧
         ∃v37:Int,aE h35 (adr (adr a36 0) 1)=some (.int .u32 v37)∧
         HC PG fE [.int .u32 v37,.int .i64 i] [.c (.int .u32)] (fun(e38:Int) h39=>
          ∃a40:Addr,some (⟨h.size,0,none⟩:Addr)=some a40∧
          (Wr h39 (adr (adr a40 0) 1)∧
           At (hset h39 (adr (adr a40 0) 1) (.int .u32 e38)) (fun h41=>
            K (some ⟨h.size,0,none⟩) h41))) h35))) (hnew h3 [.pointer (some kid)] bO):=by
   generalize hnew h3 [.pointer (some kid)] bO=h4 at k4 b4 z4 o4;rw[cM h3];have hB4:=(hB3.upd k4 fun _ _ h=>h).more (M':=fun x=>B3 x∨h4.size≤x) fun x hx=>.inl hx
   have hpn:(⟨upd s.p i none,upd s.k i none⟩:Slots).k i=none:=gR;refine LY hB4 (Te hi bits3.nk) (by have:=vd (g:=(⟨upd s.p i none,upd s.k i none⟩:Slots).k);omega) (x:=some kid) b4 (fun e=>e.elim (fun e=>by have:=(hBm3 _ e).2.2;omega) fun e=>by omega) (fun x hx=>.inr hx) fun s5 h5 ho5 hu5=>?_
   rw[←QE hi bits3.nk hpn (some kid)]at ho5;have hbl:h.size<h3.size:=bh o3.blk;have b5:=hu5.get o4.blk fun e=>e.elim (fun e=>(hBm3 _ e).2.1 rfl) fun e=>by omega
   refine⟨_,rfl,RB (i:=3) b5 (show 3<6 by decide),E0 (i:=3) (c':=ft d3 n3 sp3 s5 false none) b5 rfl fun h6 b6 hu6=>?_⟩
   refine⟨_,rfl,_,eK (i:=1) b6,M3 bits3.n32 hi fun w hw hwt=>?_⟩
   refine⟨_,rfl,RB (i:=1) b6 (show 1<6 by decide),E0 (i:=1) (c':=ft d3 w sp3 s5 false none) b6 rfl fun h7 b7 hu7=>?_⟩
   have hu57:=hu6.tr hu7;have z5:=hu5.size;have z7:=hu57.size;have ho5':=ho5.within;have e1:(⟨upd s.p i none,upd (⟨upd s.p i none,upd s.k i none⟩:Slots).k i (some (some kid))⟩:Slots)=⟨upd s.p i none,upd s.k i (some (some kid))⟩:=by rw[M5]
   have o7:OwnN (fun x=>h.size≤x) h7 h.size d3 w sp3 s5 ⟨upd s.p i none,upd s.k i (some (some kid))⟩ none:=by
    rw[←e1];refine⟨b7,⟨bits3.d32,hw,bits3.dp,fun c hc=>?_⟩,⟨A3,fun x=>(B3 x∨h4.size≤x)∧x<h5.size,((hA3.upd k4 fun _ _ h=>h).upd hu5 fun x hx e=>?_).upd hu57 fun x hx e=>(hAm3 x hx).2.2.1 e,ho5'.upd hu57 fun x hx e=>?_,fun x hx=>⟨(hAm3 x hx).1,?_,(hAm3 x hx).2.2.1,by have:=(hAm3 x hx).2.2.2;omega⟩,fun x hx=>⟨?_,?_,by omega⟩⟩,o.mb⟩
    ·rw[hwt,bits3.nk c hc];simp only[upd];split<;>simp[*]
    ·rcases e with e|e
     ·exact(hAm3 x hx).2.1 e
     ·have:=(hAm3 x hx).2.2.2;omega
    ·have e:x=h.size:=e
     rcases hx.1 with h|h
     ·exact(hBm3 x h).2.1 e
     ·omega
    ·rintro⟨h|h,_⟩
     ·exact(hAm3 x hx).2.1 h
     ·have:=(hAm3 x hx).2.2.2;omega
    ·rcases hx.1 with h|h
     ·exact(hBm3 x h).1
     ·omega
    ·rcases hx.1 with h|h
     ·exact(hBm3 x h).2.1
     ·omega
   refine hk _ _ (o7.node hMW) (((hu03.tr k4).trans hu5 fun x hx=>.inr ?_).trans hu57 fun x hx=>.inr ?_)
   ·rcases hx with h|h
    ·exact(hBm3 x h).1
    ·omega
   ·have hx:x=h.size:=hx
    omega
  refine⟨pN bits3.n32 hi ⟨eK (i:=3) o3.blk,bo ⟨eK (i:=3) o4.blk,fin⟩⟩,bo ⟨eK (i:=1) o4.blk,eK (i:=3) o4.blk,pN bits3.n32 hi ⟨eK (i:=3) o4.blk,fin⟩⟩⟩
end Go.Proofs
