/- A part of the proof that the named laws of this program answer true, whatever the input. -/
import Derived.Test.YtncppacbfagpgaaGreatDoorPart0
import Derived.Sort.Walk0
open BitVec renaming ofInt→av,ofInt_natCast→ga,getLsbD_ofNat→oG
open Bool renaming eq_iff_iff→iI
open Int renaming toNat_natCast→aU,fdiv→dG,fdiv_eq_ediv_of_nonneg→is
open List renaming length_take→aH,length_drop→aV,flatMap_cons→aO,drop_eq_getElem_cons→dI,flatMap_append→bO,length_eq_zero_iff→ay,length_append→ac,append_assoc→ar,drop_left'→cN,take_left'→du,drop_drop→ed,drop_append_of_le_length→gD,getElem_cons_zero→gj,length_cons→ao,pairwise_iff_getElem→ce,getElem?_eq_getElem→af,any_eq_true→cy,replicate→fg,replicate_succ→jV,flatten_append→iy,flatten_cons→gC,flatten_nil→sY,length→fu,take_of_length_le→bm,range→gV,range_add→vL,mem_range→gQ,filterMap_append→se
open Nat renaming le_refl→al,min_eq_left→bJ,sub_self→dP,zero_mul→uX,sub_zero→eZ,lt_or_ge→bW,zero_le→aS,le_trans→bj,testBit_shiftRight→rL,testBit_and→jP,testBit_two_pow_sub_one→nN,shiftRight_eq_div_pow→cO,lt_of_le_of_lt→gU,shiftRight_le→jH,mod_eq_of_lt→dW,testBit_two_pow→pz,testBit_lt_two_pow→im,lt_of_lt_of_le→aC,pow_le_pow_right→fX,zero_add→aR,le_of_eq→gS
open UInt8 renaming ofNat→g6
namespace Go.Proofs
open Go Go.Lift
theorem xF{W:Nat→Prop}{h:ae}{s:SliceV}{xs:List (ByteArray×ByteArray)}(d:Sl eC 2 W h s xs)(n:xs.length*32≤140737488355328){K:SliceV→ae→Prop}
  (g:∀s' h',OwnS eC 2 aq (fun b=>h.size≤b) h' s' xs→Upd No h h'→K s' h'):HC PG cW [.slice s.a s.len s.cap] [.c .slice] K h:=by
 refine px s ?_;unfold jU lM;refine CondP.intro (fun c=>?_) (fun m=>?_)
 ·have c:s.a=none:=by simpa using c
  have hx:xs= []:=by
   by_cases hx:xs= []
   ·exact hx
   ·obtain⟨a,e,_⟩:=d.row hx
    rw[c]at e;cases e
  subst hx;exact g _ _ (OwnS.nil gq) (Upd.refl _ _)
 ·have h2:=d.upd (Upd.hnew No h [] aq) (fun _ h=>h.elim)
  refine⟨_,h2.srow,?_⟩;refine AppP.own (f:=eC) (M:=fun b=>h.size≤b) (xs:= []) (ys:=xs) ⟨rfl,gq,al _,.inl rfl⟩ d.len rfl (yj xs) rfl (by omega) (by simpa using n) (by rw[iY];omega) fun s' h' j k=>?_
  exact g _ _ j ((Upd.hnew No h [] aq).trans k fun b i=>.inr i)
theorem R8{M:Nat→Prop}{h:ae}{s:SliceV}{xs:List (ByteArray×ByteArray)}(q:OwnS eC 2 aq M h s xs){k:Nat}(z:k<xs.length)(P:xs.length≤4398046511104)
  {K:SliceV→ae→Prop}(F:∀s' h',OwnS eC 2 aq M h' s' (xs.take k++xs.drop (k+1))→Upd M h h'→K s' h'):
  HC PG gh [.slice s.a s.len s.cap,.int .i64 k,.int .i64 ((k+1:Nat):Int)] [.c .slice] K h:=by
 refine o9 s k ((k+1:Nat):Int) ?_;unfold jF lM;have f:=q.len;have C:=q.cap;rcases q.blk with O|⟨b,a,E,t,hc,G⟩
 ·omega
 have p:((xs.take k).flatMap eC).length=k*2:=by rw[lW gq,aH,bJ (by omega)]
 have m:((xs.drop (k+1)).flatMap eC).length=(xs.length-(k+1))*2:=by rw[lW gq,aV]
 have J:xs.flatMap eC=(xs.take k).flatMap eC++(eC xs[k]++(xs.drop (k+1)).flatMap eC):=by
  rw[←aO,←dI z];exact Aa xs k
 rw[J]at hc;have d:=yj (xs.drop (k+1));have c:(xs.take k++xs.drop (k+1)).flatMap eC=(xs.take k).flatMap eC++(xs.drop (k+1)).flatMap eC:=bO;have H:(eC xs[k]).length=2:=rfl;generalize (xs.take k).flatMap eC=A at p hc c;generalize (xs.drop (k+1)).flatMap eC=B at m hc d c;generalize eC xs[k]=X at H hc;rw[E];simp only[f,aU];refine⟨by omega,by omega,by omega,CondP.intro (fun e=>?_) fun _=>?_⟩
 ·have:(k:Int)=((k+1:Nat):Int):=by simpa using e
  omega
 refine Join.plain ⟨by omega,by omega,B,?_,?_⟩
 ·by_cases i:xs.length=k+1
  ·exact⟨m,.inl (ay.1 (by rw[m,i,dP,uX]))⟩
  rw[lF (by omega)];refine ni hc m ?_;have:(A++X).length=0+(k+1)*2:=by rw[ac];omega
  rw[show A++(X++B)++a=(A++X)++(B++a) by simp only[ar],cN this,du m]
 ·rw[sub_zero]
  refine Sk hc (by simp only[ac];omega) (by omega) d fun N g y=>?_
  have u:a.length=(s.cap-xs.length)*2:=by rw[G,f]
  refine⟨by dsimp only;omega,by dsimp only;omega,?_⟩
  simp only[Bd];rw[lF (by omega)];have I:xs.length-(k-0+(xs.length-(k+1)))=1:=by omega
  have w:(A++(X++B)++a).drop ((k-0)*2+B.length)=(X++B).drop B.length++a:=by
   rw[ar,←ed,cN (show A.length=(k-0)*2 by rw[p,eZ]),gD (by rw[ac];omega)]
  have x:(A++(X++B)++a).take ((k-0)*2)=A:=by rw[ar,du (show A.length=(k-0)*2 by rw[p,eZ])]
  rw[w,x]at g;have o:((X++B).drop B.length).length=2:=by rw[aV,ac];omega
  generalize (X++B).drop B.length=D at o g;rw[I];have L:(eh 1 [.string (⟨#[]⟩:ByteArray),.string (⟨#[]⟩:ByteArray)]).length=2:=rfl;have j:(A++B).length=0+(k-0+(xs.length-(k+1)))*2:=by rw[ac,p,m];omega
  refine M7 g (by simp only[ac]at j⊢;omega) fun h2 n v=>?_
  rw[du j,←ed,cN j]at n;refine F _ _ ⟨by simp;omega,gq,by simp only;omega,.inr ⟨b,eh 1 [.string (⟨#[]⟩:ByteArray),.string (⟨#[]⟩:ByteArray)]++(D++a).drop (eh 1 [.string (⟨#[]⟩:ByteArray),.string (⟨#[]⟩:ByteArray)]).length,rfl,t,?_,?_⟩⟩ ((y.mono fun _ e=>.inl (e▸t)).tr (v.mono fun _ e=>.inl (e▸t)))
  ·rw[n,c];simp only[ar]
  ·simp only[ac,aV,L,o,u]
   omega
theorem Fh{W:Nat→Prop}{h:ae}{s:SliceV}{xs:List (Option Addr)}(d:Sl tI 1 W h s xs)(n:xs.length*8≤140737488355328){K:SliceV→ae→Prop}
  (g:∀s' h',OwnS tI 1 cg (fun b=>h.size≤b) h' s' xs→Upd No h h'→K s' h'):HC PG eg [.slice s.a s.len s.cap] [.c .slice] K h:=by
 refine nu s ?_;unfold iT;refine CondP.intro (fun c=>?_) (fun m=>?_)
 ·have c:s.a=none:=by simpa using c
  have hx:xs= []:=by
   by_cases hx:xs= []
   ·exact hx
   ·obtain⟨a,e,_⟩:=d.row hx
    rw[c]at e;cases e
  subst hx;exact g _ _ (OwnS.nil ui) (Upd.refl _ _)
 ·have h2:=d.upd (Upd.hnew No h [] cg) (fun _ h=>h.elim)
  refine⟨_,h2.srow,?_⟩;refine AppP.own (f:=tI) (M:=fun b=>h.size≤b) (xs:= []) (ys:=xs) ⟨rfl,ui,al _,.inl rfl⟩ d.len rfl (Hi xs) rfl (by omega) (by simpa using n) (by rw[iY];omega) fun s' h' j k=>?_
  exact g _ _ j ((Upd.hnew No h [] cg).trans k fun b i=>.inr i)
theorem R9{M:Nat→Prop}{h:ae}{s:SliceV}{xs:List (Option Addr)}(q:OwnS tI 1 cg M h s xs){k:Nat}(z:k<xs.length)(P:xs.length≤4398046511104)
  {K:SliceV→ae→Prop}(F:∀s' h',OwnS tI 1 cg M h' s' (xs.take k++xs.drop (k+1))→Upd M h h'→K s' h'):
  HC PG fE [.slice s.a s.len s.cap,.int .i64 k,.int .i64 ((k+1:Nat):Int)] [.c .slice] K h:=by
 refine m0 s k ((k+1:Nat):Int) ?_;unfold iE;have f:=q.len;have C:=q.cap;rcases q.blk with O|⟨b,a,E,t,hc,G⟩
 ·omega
 have p:((xs.take k).flatMap tI).length=k*1:=by rw[lW ui,aH,bJ (by omega)]
 have m:((xs.drop (k+1)).flatMap tI).length=(xs.length-(k+1))*1:=by rw[lW ui,aV]
 have J:xs.flatMap tI=(xs.take k).flatMap tI++(tI xs[k]++(xs.drop (k+1)).flatMap tI):=by
  rw[←aO,←dI z];exact Aa xs k
 rw[J]at hc;have d:=Hi (xs.drop (k+1));have c:(xs.take k++xs.drop (k+1)).flatMap tI=(xs.take k).flatMap tI++(xs.drop (k+1)).flatMap tI:=bO;have H:(tI xs[k]).length=1:=rfl;generalize (xs.take k).flatMap tI=A at p hc c;generalize (xs.drop (k+1)).flatMap tI=B at m hc d c;generalize tI xs[k]=X at H hc;rw[E];simp only[f,aU];refine⟨by omega,by omega,by omega,CondP.intro (fun e=>?_) fun _=>?_⟩
 ·have:(k:Int)=((k+1:Nat):Int):=by simpa using e
  omega
 refine Join.plain ⟨by omega,by omega,B,?_,?_⟩
 ·by_cases i:xs.length=k+1
  ·exact⟨m,.inl (ay.1 (by rw[m,i,dP,uX]))⟩
  rw[lF (by omega)];refine ni hc m ?_;have:(A++X).length=0+(k+1)*1:=by rw[ac];omega
  rw[show A++(X++B)++a=(A++X)++(B++a) by simp only[ar],cN this,du m]
 ·rw[sub_zero]
  refine Sk hc (by simp only[ac];omega) (by omega) d fun N g y=>?_
  have u:a.length=(s.cap-xs.length)*1:=by rw[G,f]
  refine⟨by dsimp only;omega,by dsimp only;omega,?_⟩
  simp only[Bd];rw[lF (by omega)];have I:xs.length-(k-0+(xs.length-(k+1)))=1:=by omega
  have w:(A++(X++B)++a).drop ((k-0)*1+B.length)=(X++B).drop B.length++a:=by
   rw[ar,←ed,cN (show A.length=(k-0)*1 by rw[p,eZ]),gD (by rw[ac];omega)]
  have x:(A++(X++B)++a).take ((k-0)*1)=A:=by rw[ar,du (show A.length=(k-0)*1 by rw[p,eZ])]
  rw[w,x]at g;have o:((X++B).drop B.length).length=1:=by rw[aV,ac];omega
  generalize (X++B).drop B.length=D at o g;rw[I];have L:(eh 1 [.pointer none]).length=1:=rfl;have j:(A++B).length=0+(k-0+(xs.length-(k+1)))*1:=by rw[ac,p,m];omega
  refine M7 g (by simp only[ac]at j⊢;omega) fun h2 n v=>?_
  rw[du j,←ed,cN j]at n;refine F _ _ ⟨by simp;omega,ui,by simp only;omega,.inr ⟨b,eh 1 [.pointer none]++(D++a).drop (eh 1 [.pointer none]).length,rfl,t,?_,?_⟩⟩ ((y.mono fun _ e=>.inl (e▸t)).tr (v.mono fun _ e=>.inl (e▸t)))
  ·rw[n,c];simp only[ar]
  ·simp only[ac,aV,L,o,u]
   omega
theorem Mk{W:Nat→Prop}{h:ae}{s:SliceV}{xs:List (Option Addr)}(d:Sl pj 1 W h s xs)(n:xs.length*8≤140737488355328){K:SliceV→ae→Prop}
  (g:∀s' h',OwnS pj 1 bo (fun b=>h.size≤b) h' s' xs→Upd No h h'→K s' h'):HC PG dN [.slice s.a s.len s.cap] [.c .slice] K h:=by
 refine mL s ?_;unfold il;refine CondP.intro (fun c=>?_) (fun m=>?_)
 ·have c:s.a=none:=by simpa using c
  have hx:xs= []:=by
   by_cases hx:xs= []
   ·exact hx
   ·obtain⟨a,e,_⟩:=d.row hx
    rw[c]at e;cases e
  subst hx;exact g _ _ (OwnS.nil nh) (Upd.refl _ _)
 ·have h2:=d.upd (Upd.hnew No h [] bo) (fun _ h=>h.elim)
  refine⟨_,h2.srow,?_⟩;refine AppP.own (f:=pj) (M:=fun b=>h.size≤b) (xs:= []) (ys:=xs) ⟨rfl,nh,al _,.inl rfl⟩ d.len rfl (Hh xs) rfl (by omega) (by simpa using n) (by rw[iY];omega) fun s' h' j k=>?_
  exact g _ _ j ((Upd.hnew No h [] bo).trans k fun b i=>.inr i)
theorem RZ{M:Nat→Prop}{h:ae}{s:SliceV}{xs:List (Option Addr)}(q:OwnS pj 1 bo M h s xs){k:Nat}(z:k<xs.length)(P:xs.length≤4398046511104)
  {K:SliceV→ae→Prop}(F:∀s' h',OwnS pj 1 bo M h' s' (xs.take k++xs.drop (k+1))→Upd M h h'→K s' h'):
  HC PG ft [.slice s.a s.len s.cap,.int .i64 k,.int .i64 ((k+1:Nat):Int)] [.c .slice] K h:=by
 refine mh s k ((k+1:Nat):Int) ?_;unfold hO;have f:=q.len;have C:=q.cap;rcases q.blk with O|⟨b,a,E,t,hc,G⟩
 ·omega
 have p:((xs.take k).flatMap pj).length=k*1:=by rw[lW nh,aH,bJ (by omega)]
 have m:((xs.drop (k+1)).flatMap pj).length=(xs.length-(k+1))*1:=by rw[lW nh,aV]
 have J:xs.flatMap pj=(xs.take k).flatMap pj++(pj xs[k]++(xs.drop (k+1)).flatMap pj):=by
  rw[←aO,←dI z];exact Aa xs k
 rw[J]at hc;have d:=Hh (xs.drop (k+1));have c:(xs.take k++xs.drop (k+1)).flatMap pj=(xs.take k).flatMap pj++(xs.drop (k+1)).flatMap pj:=bO;have H:(pj xs[k]).length=1:=rfl;generalize (xs.take k).flatMap pj=A at p hc c;generalize (xs.drop (k+1)).flatMap pj=B at m hc d c;generalize pj xs[k]=X at H hc;rw[E];simp only[f,aU];refine⟨by omega,by omega,by omega,CondP.intro (fun e=>?_) fun _=>?_⟩
 ·have:(k:Int)=((k+1:Nat):Int):=by simpa using e
  omega
 refine Join.plain ⟨by omega,by omega,B,?_,?_⟩
 ·by_cases i:xs.length=k+1
  ·exact⟨m,.inl (ay.1 (by rw[m,i,dP,uX]))⟩
  rw[lF (by omega)];refine ni hc m ?_;have:(A++X).length=0+(k+1)*1:=by rw[ac];omega
  rw[show A++(X++B)++a=(A++X)++(B++a) by simp only[ar],cN this,du m]
 ·rw[sub_zero]
  refine Sk hc (by simp only[ac];omega) (by omega) d fun N g y=>?_
  have u:a.length=(s.cap-xs.length)*1:=by rw[G,f]
  refine⟨by dsimp only;omega,by dsimp only;omega,?_⟩
  simp only[Bd];rw[lF (by omega)];have I:xs.length-(k-0+(xs.length-(k+1)))=1:=by omega
  have w:(A++(X++B)++a).drop ((k-0)*1+B.length)=(X++B).drop B.length++a:=by
   rw[ar,←ed,cN (show A.length=(k-0)*1 by rw[p,eZ]),gD (by rw[ac];omega)]
  have x:(A++(X++B)++a).take ((k-0)*1)=A:=by rw[ar,du (show A.length=(k-0)*1 by rw[p,eZ])]
  rw[w,x]at g;have o:((X++B).drop B.length).length=1:=by rw[aV,ac];omega
  generalize (X++B).drop B.length=D at o g;rw[I];have L:(eh 1 [.pointer none]).length=1:=rfl;have j:(A++B).length=0+(k-0+(xs.length-(k+1)))*1:=by rw[ac,p,m];omega
  refine M7 g (by simp only[ac]at j⊢;omega) fun h2 n v=>?_
  rw[du j,←ed,cN j]at n;refine F _ _ ⟨by simp;omega,nh,by simp only;omega,.inr ⟨b,eh 1 [.pointer none]++(D++a).drop (eh 1 [.pointer none]).length,rfl,t,?_,?_⟩⟩ ((y.mono fun _ e=>.inl (e▸t)).tr (v.mono fun _ e=>.inl (e▸t)))
  ·rw[n,c];simp only[ar]
  ·simp only[ac,aV,L,o,u]
   omega
end Go.Proofs
namespace Go.Proofs
open Go.Lift
abbrev Pr:=ByteArray×ByteArray
theorem Fi{a b:ByteArray}:a.toList=b.toList↔a=b:=by
 constructor
 ·intro h
  rw[ByteArray.toList_eq,ByteArray.toList_eq]at h;cases a;cases b;simp at h;subst h;rfl
 ·rintro rfl;rfl
def kl(a b:ByteArray):Prop:=Op.bytesLess a.toList b.toList=true
instance (a b:ByteArray):Decidable (kl a b):=inferInstanceAs (Decidable (_=true))
theorem Nj{a b:ByteArray}:kl a b↔a.toList<b.toList:=by unfold kl;rw[bytesLess_eq,decide_eq_true_iff]
theorem cr(a:ByteArray):¬kl a a:=by rw[Nj];exact List.lt_irrefl _
theorem gJ{a b c:ByteArray}(h:kl a b)(k:kl b c):kl a c:=by rw[Nj]at*;exact List.lt_trans h k
theorem tri:∀x y:List UInt8,Op.bytesLess x y=false→x≠y→Op.bytesLess y x=true
 | [],[],_,h=>absurd rfl h
 | [],_::_,h,_=>by simp[Op.bytesLess]at h
 |_::_,[],_,_=>rfl
 |a::x,b::y,h,hn=>by
  simp only[Op.bytesLess,Bool.or_eq_false_iff,decide_eq_false_iff_not,Bool.and_eq_false_iff]at h;simp only[Op.bytesLess,Bool.or_eq_true,decide_eq_true_iff,Bool.and_eq_true];by_cases e:a=b
  ·subst e
   right;refine⟨by simp,tri x y ?_ fun e=>hn (by rw[e])⟩
   rcases h.2 with h|h
   ·simp at h
   ·exact h
  ·left
   have c:=h.1;rw[UInt8.lt_iff_toNat_lt]at c⊢;have:a.toNat≠b.toNat:=fun h=>e (UInt8.toNat_inj.1 h)
   omega
theorem ql{a b:ByteArray}(h:¬kl a b)(k:a≠b):kl b a:=tri _ _ (by unfold kl at h;simpa using h) fun e=>k (Fi.1 e)
def Kz(a b:ByteArray):Int:=if kl a b then-1 else if a=b then 0 else 1
theorem Po{x:ByteArray}{h:ae}{K:Bool→ae→Prop}(a:K false h):HC PG qa [.string x] [.c .bool] K h:=by
 refine GZ x ?_;unfold zg;simpa using a
theorem IW{a b:ByteArray}{h:ae}{K:Int→ae→Prop}(c:K (Kz a b) h):HC PG nJ [.string a,.string b] [.c (.int .i64)] K h:=by
 refine Ec a b ?_;unfold wP;refine Po (Po (aj.2 (aj.2 ?_)));unfold Kz at c;refine CondP.intro (fun e=>?_) fun e=>?_
 ·rw[if_pos (show kl a b from e)]at c;exact c
 ·have f:¬kl a b:=fun h=>by rw[show Op.bytesLess a.toList b.toList=true from h]at e;cases e
  rw[if_neg f]at c;rw[e];refine CondP.intro (fun d=>?_) fun d=>?_
  ·rw[if_neg (fun h=>by subst h;simp at d)]at c;exact c
  ·have:a.toList=b.toList:=by simpa using d
   rw[if_pos (Fi.1 this)]at c;exact c
theorem Pe{p:Pr}{k:ByteArray}{h:ae}{K:Int→ae→Prop}(a:∀h',Upd No h h'→K (Kz p.1 k) h'):HC PG rp [.agg #[.string p.1,.string p.2],.string k] [.c (.int .i64)] K h:=by
 refine NY p k ?_;unfold Ep ax hP vN;have b1:=cp h [.string p.1,.string p.2] aq;refine⟨p.1,by rw[cY,cj,bH b1];rfl,IW (a _ (Upd.hnew No h _ _))⟩
abbrev cf(l:List Pr):Prop:=l.Pairwise fun p q=>kl p.1 q.1
def qk(l:List Pr)(k:ByteArray):Nat:=(l.takeWhile fun p=>decide (kl p.1 k)).length
def cF(l:List Pr)(k:ByteArray):Bool:=l.any fun p=>decide (p.1=k)
theorem WL{l:List Pr}{k:ByteArray}{i:Nat}(hi:i≤l.length)(a:∀j (h:j<l.length),j<i→kl l[j].1 k)(h2:∀(h:i<l.length),¬kl l[i].1 k):qk l k=i:=by
 unfold qk;induction l generalizing i with
 |nil=>simp at hi;simp[hi]
 |cons p l ih=>
  rw[List.takeWhile_cons];cases i with
  |zero=>
   have:=h2 (by simp);simp only[gj]at this;rw[if_neg (by simpa using this)];rfl
  |succ i=>
   have:=a 0 (by simp) (by omega);simp only[gj]at this;rw[if_pos (by simpa using this),ao];congr 1
   refine ih (by simpa using hi) (fun j c b=>?_) fun h=>?_
   ·have:=a (j+1) (by simpa using c) (by omega)
    simpa using this
   ·have:=h2 (by simpa using h)
    simpa using this
theorem WM(l:List Pr)(k:ByteArray):qk l k≤l.length:=by
 unfold qk;exact(List.takeWhile_prefix _).length_le
theorem Nt{W:Nat→Prop}{h:ae}{s:SliceV}{l:List Pr}(S:Sl eC 2 W h s l)(Z:cf l)(hn:l.length≤1000000000)(k:ByteArray){K:Int×Bool→ae→Prop}
  (E:∀h',Upd No h h'→K ((qk l k:Int),cF l k) h'):HC PG tR [.slice s.a s.len s.cap,.string k] [.c (.int .i64),.c .bool] K h:=by
 refine Qb s k ?_;unfold GD;refine kw s k _ ?_;unfold fP cl aK ld qO;have Y:=S.len;have G:∀{p:Pr} {h:ae} {K:Int→ae→Prop},(∀h',Upd No h h'→K (Kz p.1 k) h')→HV PG (.func (.func rp) #[] #[]) [.agg #[.string p.1,.string p.2],.string k] [.c (.int .i64)] K h:=fun E=>HV.mk' (Pe E)
 refine LoopP.ghost (fun(g:Nat×Nat) (t:Int×Int) h'=>t.1=(g.1:Int)∧t.2=(g.2:Int)∧g.1≤g.2∧g.2≤l.length∧Upd No h h'∧(∀j (O:j<l.length),j<g.1→kl l[j].1 k)∧(∀j (O:j<l.length),g.2≤j→¬kl l[j].1 k)) (fun g=>g.2-g.1) (0,l.length)
  ⟨rfl,by simp only;omega,by simp,by simp,Upd.refl _ _,fun j O h=>by omega,fun j O h=>by simp only at h;omega⟩ ?_
 rintro I ⟨i,j⟩ ⟨ti,tj⟩ h' ⟨V,X,z,B,J,d,u⟩ T;simp only at V X z B d u;subst V X;have L:=S.upd J fun _ h=>h.elim
 have mono:∀a b (D:a<l.length) (U:b<l.length),a<b→kl l[a].1 l[b].1:=fun a b D U R=>ce.1 Z a b D U R
 refine az (fun w=>?_) fun Q=>?_
 ·have w:i<j:=by have:(i:Int)<(j:Int):=w;omega
  have em:IntKind.wrap .i64 (dG (IntKind.wrap .u64 (IntKind.wrap .i64 ((i:Int)+(j:Int)))) (2^(min (1:Int).toNat (IntKind.bits .u64))))=(((i+j)/2:Nat):Int):=by
   have e3:(2^(min (1:Int).toNat (IntKind.bits .u64)):Int)=2:=rfl;rw[e3,fx (x:=(i:Int)+(j:Int)) (by omega),Go.IntWalk.u64_in _ (by omega),is _ (by omega),fx (by omega)];omega
  refine⟨by decide,?_⟩;simp only[Bd];rw[em];generalize hm:(i+j)/2=m;have A:m<l.length:=by omega
  obtain⟨a,D,_,hv⟩:=L.at (af A);refine⟨by omega,a,D,l[m].1,hv 0 _ rfl,l[m].2,hv 1 _ rfl,G fun h2 v=>?_⟩
  refine az (fun f=>?_) fun F=>?_
  ·have c:kl l[m].1 k:=by
    unfold Kz at f;by_cases c:kl l[m].1 k
    ·exact c
    ·rw[if_neg c]at f;split at f<;>omega
   refine T (m+1,j) _ _ ⟨by simp only;rw[fx (by omega)];omega,rfl,by simp only;omega,B,J.tr v,fun q y C=>?_,u⟩ (by simp only;omega)
   simp only at C;rcases bW q m with h|h
   ·exact gJ (mono q m y A h) c
   ·have:q=m:=by omega
    subst this;exact c
  ·have o:¬kl l[m].1 k:=fun c=>F (by unfold Kz;rw[if_pos c];decide)
   refine T (i,m) _ _ ⟨rfl,rfl,by simp only;omega,by simp only;omega,J.tr v,d,fun q y C M=>?_⟩ (by simp only;omega)
   simp only at C;rcases bW m q with h|h
   ·exact o (gJ (mono m q A y h) M)
   ·have:q=m:=by omega
    subst this;exact o M
 ·have z:i=j:=by have:¬(i:Int)<(j:Int):=Q;omega
  subst z;have H:qk l k=i:=WL B d fun hi=>u i hi (al _)
  rw[H]at E;refine az (fun w=>?_) fun N=>?_
  ·have n:i<l.length:=by have:(i:Int)<(s.len:Int):=w;omega
   obtain⟨a,D,_,hv⟩:=L.at (af n);refine⟨by simp only;omega,a,D,l[i].1,hv 0 _ rfl,l[i].2,hv 1 _ rfl,G fun h2 v=>?_⟩
   have o:=u i n (al _);have P:(Kz l[i].1 k==(0:Int))=cF l k:=by
    unfold Kz cF;rw[if_neg o,iI,cy];constructor
    ·intro h
     split at h
     ·rename_i e;exact⟨l[i],List.getElem_mem n,decide_eq_true e⟩
     ·simp at h
    ·rintro⟨p,H,e⟩
     have e:=of_decide_eq_true e;obtain⟨q,y,rfl⟩:=List.mem_iff_getElem.1 H;have:q=i:=by
      rcases Nat.lt_trichotomy q i with h|h|h
      ·exact absurd (e▸d q y h) (cr _)
      ·exact h
      ·exact absurd (e▸mono i q n y h) o
     subst this;rw[if_pos e];rfl
   rw[P];exact E _ (J.tr v)
  ·have n:i=l.length:=by have:¬(i:Int)<(s.len:Int):=N;omega
   have P:cF l k=false:=by
    unfold cF;rw[List.any_eq_false];intro p H e;have e:=of_decide_eq_true e;obtain⟨q,y,rfl⟩:=List.mem_iff_getElem.1 H;exact absurd (e▸d q y (by omega)) (cr _)
   rw[P]at E;exact E _ J
end Go.Proofs
namespace Go.Proofs
open Go.Lift
theorem OwnS.zero{α:Type}{f:α→List Value}{a:Nat}{t:TypeId}{M:Nat→Prop}{h:ae}{s:SliceV}{xs:List α}(d:OwnS f a t M h s xs):OwnS f a t M h ⟨bh s.a 0 s.cap a,0-0,s.cap-0⟩ []:=by
 have g:∀x,(f x).length=a∧0<a:=d.ne;have e:=d.len;have i:=d.cap;refine⟨rfl,g,by simp only;omega,?_⟩
 rcases d.blk with n|⟨b,c,m,j,hc,k⟩
 ·exact .inl (by simp only;omega)
 ·refine .inr ⟨b,xs.flatMap f++c,by rw[m,sub_zero],j,hc,?_⟩
  rw[ac,lW g,k,←Nat.add_mul];simp only;congr 1;omega
def Qz:Pr:=(⟨#[]⟩,⟨#[]⟩)
theorem S3(n:Nat):eh n [.string (⟨#[]⟩:ByteArray),.string (⟨#[]⟩:ByteArray)]=(fg n Qz).flatMap eC:=by
 unfold eh;induction n with
 |zero=>rfl
 |succ n ih=>rw[jV,jV,aO,←ih];rfl
theorem YW{n:Nat}(i:n*32≤140737488355328){h:ae}{K:SliceV→ae→Prop}(a:∀s' h',OwnS eC 2 aq (fun b=>h.size≤b) h' s' []→Upd No h h'→K s' h'):
  HC PG gM [.slice none 0 0,.int .i64 n] [.c .slice] K h:=by
 refine pV ⟨none,0,0⟩ n ?_;unfold ki lM;have e:IntKind.wrap .i64 ((n:Int)-IntKind.wrap .i64 (((0:Nat):Int)-((0:Nat):Int)))=(n:Int):=by rw[fx (x:=((0:Nat):Int)-((0:Nat):Int)) (by omega),fx (by omega)];omega
 refine Join.plain (az (fun h=>by omega) fun _=>?_)
 simp only[Bd];rw[e];refine az (fun j=>?_) fun k=>a _ _ (OwnS.nil gq) (Upd.refl _ _)
 refine⟨by omega,⟨by omega,by omega,by omega,by omega⟩,?_⟩
 refine AppP.own (f:=eC) (M:=fun b=>h.size≤b) (xs:= []) (ys:=fg n Qz) (OwnS.nil gq) (by simp) (S3 _) (by rw[S3];exact yj _) rfl (by omega) (by simpa using i) (al _) fun s' h' d g=>?_
 exact⟨by omega,a _ _ (OwnS.zero d) (g.mono fun b c=>.inr c)⟩
abbrev abE(s:SliceV):List Value:= [.slice s.a s.len s.cap]
def ParS(h:ae):List SliceV→List (List Pr)→Prop
 | [],[]=>True
 |v::vs,l::ls=>Sl eC 2 No h v l∧ParS h vs ls
 |_,_=>False
theorem ParS.upd{h h':ae}(k:Upd No h h'):∀{vs:List SliceV} {ls:List (List Pr)},ParS h vs ls→ParS h' vs ls
 | [],[],_=>trivial
 |_::_,_::_,q=>⟨q.1.upd k fun _ h=>h.elim,ParS.upd k q.2⟩
 | [],_::_,q=>q.elim
 |_::_,[],q=>q.elim
theorem ParS.len{h:ae}:∀{vs:List SliceV} {ls:List (List Pr)},ParS h vs ls→vs.length=ls.length
 | [],[],_=>rfl
 |_::_,_::_,q=>by rw[ao,ao,ParS.len q.2]
 | [],_::_,q=>q.elim
 |_::_,[],q=>q.elim
theorem ParS.at{h:ae}:∀{vs:List SliceV} {ls:List (List Pr)},ParS h vs ls→∀{i:Nat} (h1:i<vs.length) (h2:i<ls.length),Sl eC 2 No h vs[i] ls[i]
 |_::_,_::_,q,0,_,_=>q.1
 |_::_,_::_,q,i+1,h1,h2=>ParS.at q.2 (by simpa using h1) (by simpa using h2)
theorem L9(ls:List (List Pr)){i:Nat}(hi:i<ls.length):(ls.take (i+1)).flatten=(ls.take i).flatten++ls[i]:=by
 rw[List.take_succ_eq_append_getElem hi,iy,gC,sY,List.append_nil]
theorem TO(ls:List (List Pr))(i:Nat):(ls.take i).flatten.length≤ls.flatten.length:=by
 have:ls.flatten=(ls.take i).flatten++(ls.drop i).flatten:=by rw[←iy,List.take_append_drop]
 rw[this,ac];omega
theorem Mg{h:ae}{s:SliceV}{vs:List SliceV}{ls:List (List Pr)}(w:Sl abE 1 No h s vs)(v:ParS h vs ls)(P:ls.flatten.length*32≤140737488355328)(hv:vs.length≤1000)
  {K:SliceV→ae→Prop}(M:∀s' h',OwnS eC 2 aq (fun b=>h.size≤b) h' s' ls.flatten→Upd No h h'→K s' h'):HC PG eS [.slice s.a s.len s.cap] [.c .slice] K h:=by
 refine pa s ?_;unfold jG bI cl lM;have F:=w.len;have e:=v.len;refine LoopP.ghost (fun(i:Nat) (t:Int×Int) h'=>t.2=(i:Int)∧i≤vs.length∧t.1=((ls.take i).flatten.length:Int)∧h'=h) (fun i=>vs.length-i) 0 ⟨rfl,aS _,by simp,rfl⟩ ?_
 rintro I i ⟨X,U⟩ h' ⟨n,hi,E,rfl⟩ J;simp only at n E;subst n E;refine az (fun c=>?_) fun A=>?_
 ·have c:i<vs.length:=by have:(i:Int)<(s.len:Int):=c;omega
  obtain⟨a,q,_,f⟩:=w.at (af c);have H:=(v.at c (e▸c)).len;have d:=congrArg fu (L9 ls (e▸c));rw[ac]at d;have B:=TO ls (i+1);refine Join.plain ⟨by simp only;omega,a,q,_,f 0 _ rfl,?_⟩;simp only;have O:IntKind.wrap .i64 (((ls.take i).flatten.length:Int)+((vs[i]).len:Int))=((ls.take (i+1)).flatten.length:Int):=by rw[fx (by omega)];omega
  rw[O];refine az (fun h=>by omega) fun _=>?_
  rw[dd c (by omega)];exact J (i+1) _ _ ⟨rfl,c,rfl,rfl⟩ (by omega)
 ·have N:i=vs.length:=by have:¬(i:Int)<(s.len:Int):=A;omega
  rw[bm (by omega)];refine YW P fun R Y u z=>?_
  refine LoopP.ghost (fun(i:Nat) (t:SliceV×Int) x=>t.2=(i:Int)∧i≤vs.length∧OwnS eC 2 aq (fun b=>h'.size≤b) x t.1 (ls.take i).flatten∧Upd No h' x) (fun i=>vs.length-i) 0 ⟨rfl,aS _,by simpa using u,z⟩ ?_
  rintro T j ⟨S,W⟩ x ⟨n,Q,p,g⟩ C;simp only at n p;subst n;refine az (fun c=>?_) fun k=>?_
  ·have c:j<vs.length:=by have:(j:Int)<(s.len:Int):=c;omega
   obtain⟨a,q,_,f⟩:=(w.upd g fun _ h=>h.elim).at (af c)
   have m:=((v.upd g).at c (e▸c));have d:=L9 ls (e▸c);have o:=congrArg fu d;rw[ac]at o;have B:=TO ls (j+1);refine Join.plain ⟨by simp only;omega,a,q,_,f 0 _ rfl,_,m.srow,?_⟩;refine AppP.own (ys:=ls[j]) p m.len rfl (yj _) rfl (by omega) (by omega) g.size fun V h2 D y=>?_
   simp only;rw[dd c (by omega)];exact C (j+1) _ _ ⟨rfl,c,d▸D,g.trans y fun b L=>.inr L⟩ (by omega)
  ·have G:j=vs.length:=by have:¬(j:Int)<(s.len:Int):=k;omega
   rw[bm (by omega)]at p;exact M _ _ p g
def Ks(l:List Pr)(p:Pr):List Pr:=l.take (qk l p.1)++p::l.drop (if cF l p.1 then qk l p.1+1 else qk l p.1)
def Vg(l:List Pr)(k:ByteArray):List Pr:=if cF l k then l.take (qk l k)++l.drop (qk l k+1)else l
theorem M9{l:List Pr}(d:cf l){k:ByteArray}(c:cF l k=true):∃h:qk l k<l.length,l[qk l k].1=k:=by
 unfold cF at c;obtain⟨p,g,e⟩:=cy.1 c;have e:=of_decide_eq_true e;obtain⟨q,b,rfl⟩:=List.mem_iff_getElem.1 g;have:qk l k=q:=WL (by omega) (fun j f a=>by rw[←e];exact ce.1 d j q f b a) fun h=>by rw[←e];exact cr _
 subst this;exact⟨b,e⟩
theorem MS{h:ae}{s:SliceV}{l:List Pr}(a:Sl eC 2 No h s l){i j m:Nat}(d:i≤j)(h2:j≤l.length)(b:j≤m)(c:Nat):Sl eC 2 No h ⟨bh s.a i m 2,j-i,c⟩ ((l.drop i).take (j-i)):=Sl.sub a d h2 b
theorem Rm{h:ae}{s:SliceV}{l:List Pr}(n:Sl eC 2 No h s l)(hc:s.len≤s.cap)(o:cf l)(M:l.length≤1000000000)(p:Pr)
  {K:SliceV→ae→Prop}(G:∀s' h',OwnS eC 2 aq (fun b=>h.size≤b) h' s' (Ks l p)→Upd No h h'→K s' h'):HC PG Co [.slice s.a s.len s.cap,.agg #[.string p.1,.string p.2]] [.c .slice] K h:=by
 refine SL s p ?_;unfold JM ax hP vN CM;have f:=n.len;have k1:=Upd.hnew No h [.string p.1,.string p.2] aq;have b1:=cp h [.string p.1,.string p.2] aq;refine bP ?_;simp only[cY h];generalize hnew h [.string p.1,.string p.2] aq=h1 at k1 b1;refine⟨p.1,by rw[cj,bH b1];rfl,Nt (n.upd k1 fun _ h=>h.elim) o M p.1 fun h2 d=>?_⟩
 have C:=WM l p.1;have a:=k1.tr d;refine⟨by simp only;omega,?_⟩;let q:=if cF l p.1 then qk l p.1+1 else qk l p.1
 have I:q≤l.length:=by
  show(if cF l p.1 then qk l p.1+1 else qk l p.1)≤l.length
  split
  ·rename_i ht;obtain⟨h,_⟩:=M9 o ht;omega
  ·exact C
 refine Join.intro (fun t h'=>h'=h2∧t=⟨bh s.a q s.cap 2,s.len-q,s.cap-q⟩) (fun R B=>?_) ?_
 ·refine CondP.intro (fun e=>?_) fun e=>B _ _ ⟨rfl,?_⟩
  ·have e:cF l p.1=true:=e
   obtain⟨H,_⟩:=M9 o e;have J:IntKind.wrap .i64 ((qk l p.1:Int)+1)=((qk l p.1+1:Nat):Int):=by rw[fx (by omega)];omega
   simp only;rw[J];refine⟨by omega,B _ _ ⟨rfl,?_⟩⟩;have:q=qk l p.1+1:=by show(if cF l p.1 then _ else _)=_;rw[if_pos e]
   rw[this];rfl
  ·have e:cF l p.1=false:=e
   have:q=qk l p.1:=by show(if cF l p.1 then _ else _)=_;rw[if_neg (by rw[e];decide)]
   rw[this];rfl
 ·rintro t h' ⟨rfl,rfl⟩
  have b2:=d.get0 b1;refine⟨by simp only;omega,p.1,by rw[cj,bH b2];rfl,p.2,by rw[cj,bH b2];rfl,?_⟩
  have y:=Upd.hnew No h' [.string p.1,.string p.2] aq;have b3:=cp h' [.string p.1,.string p.2] aq;refine bP ?_;simp only[cY h'];generalize hnew h' [.string p.1,.string p.2] aq=h3 at y b3;refine bP ?_;have c:=(n.upd a fun _ h=>h.elim).upd y fun _ h=>h.elim
  have k:=Upd.hnew No h3 [.slice (bh s.a 0 s.cap 2) ((qk l p.1:Int).toNat-0) (s.cap-0),.slice (some ⟨h'.size,0,none⟩) 1 1,.slice (bh s.a q s.cap 2) (s.len-q) (s.cap-q)] cK;have D:=cp h3 [.slice (bh s.a 0 s.cap 2) ((qk l p.1:Int).toNat-0) (s.cap-0),.slice (some ⟨h'.size,0,none⟩) 1 1,.slice (bh s.a q s.cap 2) (s.len-q) (s.cap-q)] cK;have A:=MS c (i:=0) (j:=qk l p.1) (m:=s.cap) (aS _) C (by omega) (s.cap-0)
  have E:Sl eC 2 No h3 ⟨some ⟨h'.size,0,none⟩,1,1⟩ [p]:=⟨rfl,gq,fun _=>⟨_,rfl,fun h=>h.elim,oI b3 fun i v hv=>by simpa using hv⟩⟩
  have u:=MS c (i:=q) (j:=l.length) (m:=s.cap) I (al _) (by omega) (s.cap-q);rw[←f]at u;rw[List.drop_zero]at A;rw[bm (by rw[aV];omega)]at u;have L:Ks l p= [l.take (qk l p.1-0),[p],l.drop q].flatten:=by simp[Ks,q]
  refine Mg (s:=⟨some (aF h3),3,3⟩) (vs:= [⟨bh s.a 0 s.cap 2,(qk l p.1:Int).toNat-0,s.cap-0⟩,⟨some ⟨h'.size,0,none⟩,1,1⟩,⟨bh s.a q s.cap 2,s.len-q,s.cap-q⟩]) (ls:= [l.take (qk l p.1-0),[p],l.drop q])
   ⟨rfl,fun x=>⟨rfl,Nat.one_pos⟩,fun _=>⟨_,rfl,fun h=>h.elim,oI D fun i v hv=>by simpa[abE]using hv⟩⟩ ⟨A.upd k fun _ h=>h.elim,E.upd k fun _ h=>h.elim,u.upd k fun _ h=>h.elim,trivial⟩ ?_ (by simp) fun O N g w=>?_
  ·simp only[gC,sY,ac,aH,aV,List.length_singleton,List.length_nil];omega
  ·rw[←L]at g
   have z:=((a.tr y).tr k);exact G _ _ (g.more fun b F=>bj z.size F) (z.tr w)
end Go.Proofs
namespace Go.Proofs
open Go.Lift
def yb(n d:Nat):Nat:=(gV n).countP (d.testBit ·)
theorem Hq(m n d:Nat):yb (m+n) d=yb m d+yb n (d>>>m):=by
 unfold yb;rw[vL,List.countP_append,List.countP_map];congr 1
 refine List.countP_congr fun i _=>?_
 simp[rL]
theorem TW(d:Nat)(i:Nat):∀n,i≤n→yb n (d&&&(2^i-1))=yb i d:=by
 intro n a;obtain⟨m,rfl⟩:=Nat.exists_eq_add_of_le a;rw[Hq];have e:yb i (d&&&(2^i-1))=yb i d:=by
  unfold yb;refine List.countP_congr fun j b=>?_
  have:=gQ.1 b;simp[jP,nN,this]
 have c:yb m ((d&&&(2^i-1))>>>i)=0:=by
  unfold yb;rw[List.countP_eq_zero];intro j _;simp[rL,jP,nN];intro h;omega
 omega
theorem aan(d:Nat):yb 8 (d&&&255)=yb 8 d:=TW d 8 8 (al _)
theorem Cr(n d:Nat):yb n d≤n:=by
 have:=List.countP_le_length (p:=(d.testBit ·)) (l:=gV n)
 simpa[yb]using this
theorem oq(d n:Nat):dG (d:Int) (2^n)=((d>>>n:Nat):Int):=by
 rw[is _ (by exact Int.le_of_lt (Int.pow_pos (by decide))),cO];simp
theorem XG(a b:Nat):(av (IntKind.bits .u32) (a:Int)&&&av (IntKind.bits .u32) (b:Int)).toNat=(a%4294967296)&&&(b%4294967296):=by
 simp[IntKind.bits,BitVec.toNat_and,BitVec.toNat_ofInt];rfl
theorem CO{n:Nat}(h:n<4294967296):IntKind.wrap .u32 (n:Int)=(n:Int):=Go.IntWalk.u32_in _ (by omega)
theorem H7{i:Nat}(hi:i<32){h:ae}{K:Bool→ae→Prop}(a:K true h):HC PG pN [.int .i64 i] [.c .bool] K h:=by
 refine KU i ?_;unfold BM;refine az (fun _=>?_) fun h=>absurd (Int.natCast_nonneg i) h
 rw[decide_eq_true (by omega)];exact a
theorem NP{a b:Nat}(h:b<4294967296):a&&&b<4294967296:=gU Nat.and_le_right h
theorem E4{d i:Nat}(hd:d<4294967296)(hi:i<32){h:ae}{K:Bool→ae→Prop}(f:K (d.testBit i) h):HC PG gZ [.int .u32 d,.int .i64 i] [.c .bool] K h:=by
 refine FF d i ?_;unfold x8;refine H7 hi (au.2 ⟨by omega,?_⟩);have e:min (i:Int).toNat (IntKind.bits .u32)=i:=by rw[aU];exact bJ (by show i≤32;omega)
 rw[e,oq];have a:=XG (d>>>i) 1;have b:d>>>i<4294967296:=gU (jH d i) hd;rw[dW b,show(1:Nat)%4294967296=1 from rfl]at a
 simp only[Bd];rw[show((1:Nat):Int)=(1:Int)from rfl]at a
 rw[a,CO (NP (by omega))];have c:(((d>>>i&&&1:Nat):Int)==(1:Int))=d.testBit i:=by
  rw[iI,beq_iff_eq,Nat.testBit,Nat.and_comm];simp only[bne_iff_ne,ne_eq,Nat.one_and_eq_mod_two];have:(d>>>i)%2<2:=Nat.mod_lt _ (by omega);omega
 rw[c];exact f
theorem Vr{d i:Nat}(hd:d<4294967296)(hi:i<32):∃w:Nat,IntKind.wrap .u32 (av (IntKind.bits .u32) (d:Int)|||av (IntKind.bits .u32) (IntKind.wrap .u32 (1*2^(min (i:Int).toNat (IntKind.bits .u32))))).toNat=(w:Int)∧w<4294967296∧∀j,w.testBit j=(d.testBit j||decide (j=i)):=by
 have e:min (i:Int).toNat (IntKind.bits .u32)=i:=by rw[aU];exact bJ (by show i≤32;omega)
 have b:2^i<4294967296:=Nat.pow_lt_pow_right (by omega) (show i<32 from hi)
 have c:(1*2^i:Int)=((2^i:Nat):Int):=by simp
 rw[e,c,CO b];refine⟨_,CO (BitVec.isLt _),BitVec.isLt _,fun j=>?_⟩
 rw[BitVec.testBit_toNat,BitVec.getLsbD_or,ga,ga,oG,oG,pz];by_cases a:j<32
 ·have:decide (j<IntKind.bits .u32)=true:=decide_eq_true a
  rw[this];simp[eq_comm]
 ·have f:decide (j<IntKind.bits .u32)=false:=decide_eq_false a
  have h2:d.testBit j=false:=im (aC hd (fX (n:=2) (by omega) (show 32≤j by omega)))
  rw[f,h2];simp;omega
theorem S8{d i:Nat}(hd:d<4294967296)(hi:i<32){h:ae}{K:Int→ae→Prop}(b:∀w:Nat,w<4294967296→(∀j,w.testBit j=(d.testBit j||decide (j=i)))→K (w:Int) h):HC PG gz [.int .u32 d,.int .i64 i] [.c (.int .u32)] K h:=by
 refine Ee d i ?_;unfold wR;refine H7 hi (aj.2 ⟨by omega,?_⟩);obtain⟨w,e,a,h2⟩:=Vr hd hi;simp only[Bd];rw[e];exact b w a h2
theorem NM{d i:Nat}(hd:d<4294967296)(hi:i<32):∃w:Nat,IntKind.wrap .u32 (av (IntKind.bits .u32) (d:Int)&&& ~~~av (IntKind.bits .u32) (IntKind.wrap .u32 (1*2^(min (i:Int).toNat (IntKind.bits .u32))))).toNat=(w:Int)∧w<4294967296∧∀j,w.testBit j=(d.testBit j&&decide (j≠i)):=by
 have e:min (i:Int).toNat (IntKind.bits .u32)=i:=by rw[aU];exact bJ (by show i≤32;omega)
 have b:2^i<4294967296:=Nat.pow_lt_pow_right (by omega) (show i<32 from hi)
 have c:(1*2^i:Int)=((2^i:Nat):Int):=by simp
 rw[e,c,CO b];refine⟨_,CO (BitVec.isLt _),BitVec.isLt _,fun j=>?_⟩
 rw[BitVec.testBit_toNat,BitVec.getLsbD_and,BitVec.getLsbD_not,ga,ga,oG,oG,pz];by_cases a:j<32
 ·have:decide (j<IntKind.bits .u32)=true:=decide_eq_true a
  rw[this];simp[eq_comm]
 ·have f:decide (j<IntKind.bits .u32)=false:=decide_eq_false a
  have h2:d.testBit j=false:=im (aC hd (fX (n:=2) (by omega) (show 32≤j by omega)))
  rw[f,h2];simp
theorem Hy{d i:Nat}(hd:d<4294967296)(hi:i<32){h:ae}{K:Int→ae→Prop}(b:∀w:Nat,w<4294967296→(∀j,w.testBit j=(d.testBit j&&decide (j≠i)))→K (w:Int) h):HC PG lw [.int .u32 d,.int .i64 i] [.c (.int .u32)] K h:=by
 refine Ad d i ?_;unfold tZ;refine H7 hi (aj.2 ⟨by omega,?_⟩);obtain⟨w,e,a,h2⟩:=NM hd hi;simp only[Bd];rw[e];exact b w a h2
abbrev aaQ:ByteArray:=⟨#[0,1,1,2,1,2,2,3,1,2,2,3,2,3,3,4,1,2,2,3,2,3,3,4,2,3,3,4,3,4,4,5,1,2,2,3,2,3,3,4,2,3,3,4,3,4,4,5,2,3,3,4,3,4,4,5,3,4,4,5,4,5,5,6,1,2,2,3,2,3,3,4,2,3,3,4,3,4,4,5,2,3,3,4,3,4,4,5,3,4,4,5,4,5,5,6,2,3,3,4,3,4,4,5,3,4,4,5,4,5,5,6,3,4,4,5,4,5,5,6,4,5,5,6,5,6,6,7,1,2,2,3,2,3,3,4,2,3,3,4,3,4,4,5,2,3,3,4,3,4,4,5,3,4,4,5,4,5,5,6,2,3,3,4,3,4,4,5,3,4,4,5,4,5,5,6,3,4,4,5,4,5,5,6,4,5,5,6,5,6,6,7,2,3,3,4,3,4,4,5,3,4,4,5,4,5,5,6,3,4,4,5,4,5,5,6,4,5,5,6,5,6,6,7,3,4,4,5,4,5,5,6,4,5,5,6,5,6,6,7,4,5,5,6,5,6,6,7,5,6,6,7,6,7,7,8]⟩
theorem Yb:(gV 256).all (fun b=>decide (aaQ[b]? =some (g6 (yb 8 b))))=true:=by decide+kernel
theorem MO{b:Nat}(h:b<256):aaQ[b]? =some (g6 (yb 8 b)):=of_decide_eq_true (List.all_eq_true.1 Yb b (gQ.2 h))
theorem NC(b:Nat):(g6 (yb 8 b)).toNat=yb 8 b:=by
 have:=Cr 8 b;simp;omega
theorem ab0(d:Nat):yb 32 d=yb 8 (d>>>24)+yb 8 ((d>>>16)&&&255)+yb 8 ((d>>>8)&&&255)+yb 8 (d&&&255):=by
 rw[aan,aan,aan,show(32:Nat)=8+(8+(8+8))from rfl,Hq,Hq,Hq]
 simp only[←Nat.shiftRight_add,Nat.reduceAdd];omega
set_option maxRecDepth 100000 in
theorem YH{d:Nat}(hd:d<4294967296){h:ae}{K:Int→ae→Prop}(j:K (yb 32 d:Int) h):HC PG l6 [.int .u32 d] [.c (.int .i64)] K h:=by
 refine xM d ?_;unfold qJ;have c:dG (d:Int) (2^(min (24:Int).toNat (IntKind.bits .u32)))=((d>>>24:Nat):Int):=oq d 24;have g:dG (d:Int) (2^(min (16:Int).toNat (IntKind.bits .u32)))=((d>>>16:Nat):Int):=oq d 16;have k:dG (d:Int) (2^(min (8:Int).toNat (IntKind.bits .u32)))=((d>>>8:Nat):Int):=oq d 8;have b:∀x:Nat,x<4294967296→IntKind.wrap .u32 (av (IntKind.bits .u32) (x:Int)&&&av (IntKind.bits .u32) 255).toNat=((x&&&255:Nat):Int):=fun x hx=>by
  have:=XG x 255;rw[dW hx]at this;rw[show((255:Nat):Int)=(255:Int)from rfl]at this
  rw[this,CO (NP (by omega))]
 have a:d>>>24<256:=by rw[cO];omega
 have f:∀x:Nat,x&&&255<256:=fun x=>gU Nat.and_le_right (by omega)
 have e:d>>>16<4294967296:=gU (jH d 16) hd;have m:d>>>8<4294967296:=gU (jH d 8) hd;simp only[Bd];rw[c,g,k,b _ e,b _ m,b _ hd];refine⟨by decide,_,by omega,MO (b:=d>>>24) a,by decide,_,by omega,MO (f _),by decide,_,by omega,MO (f _),_,by omega,MO (f _),?_⟩
 rw[NC,NC,NC,NC];simp only[aU];have p:=Cr 8 (d>>>24);have o:=Cr 8 (d>>>16&&&255);have s:=Cr 8 (d>>>8&&&255);have q4:=Cr 8 (d&&&255);rw[ab0]at j;have i:∀n:Nat,n≤255→IntKind.wrap .u8 (n:Int)=(n:Int):=fun n q=>Go.IntWalk.u8_in _ (by omega)
 rw[←Int.natCast_add,i _ (by omega),←Int.natCast_add,i _ (by omega),←Int.natCast_add,i _ (by omega),fx (by omega)];exact j
theorem th{d i:Nat}(hd:d<4294967296)(hi:i<32){h:ae}{K:Int→ae→Prop}(a:K (yb i d:Int) h):HC PG dZ [.int .u32 d,.int .i64 i] [.c (.int .i64)] K h:=by
 refine Ef d i ?_;unfold wS;refine az (fun j=>?_) fun j=>?_
 ·have:i=0:=by omega
  subst this;exact a
 ·refine az (fun h=>by omega) fun _=>⟨by omega,?_⟩
  have e:min (i:Int).toNat (IntKind.bits .u32)=i:=by rw[aU];exact bJ (by show i≤32;omega)
  have g:2^i<4294967296:=Nat.pow_lt_pow_right (by omega) (show i<32 from hi)
  have c:0<2^i:=Nat.pow_pos (by omega);have b:(1*2^i:Int)=((2^i:Nat):Int):=by simp
  have f:(((2^i:Nat):Int)-1)=((2^i-1:Nat):Int):=by omega
  simp only[Bd];rw[e,b,CO g,f,CO (show 2^i-1<4294967296 by omega),XG,dW hd,dW (show 2^i-1<4294967296 by omega),CO (NP (by omega))]
  refine CF _ ?_;unfold vJ;refine YH (NP (by omega)) ?_;rw[TW d i 32 (by omega)];exact a
end Go.Proofs
namespace Go.Proofs
open Go.Lift
def fm{β:Type}(g:Nat→Option β)(n:Nat):List β:=(gV n).filterMap g
def upd{β:Type}(g:Nat→Option β)(i:Nat)(x:Option β)(j:Nat):Option β:=if j=i then x else g j
theorem abb{β:Type}{f g:Nat→Option β}:∀l:List Nat,(∀j∈l,f j=g j)→l.filterMap f=l.filterMap g
 | [],_=>rfl
 |j::l,h=>by
  rw[List.filterMap_cons,List.filterMap_cons,h j (List.mem_cons_self ..),abb l fun k a=>h k (List.mem_cons_of_mem _ a)]
section
variable {β:Type} {g:Nat→Option β} {d:Nat}
theorem IJ(hd:∀c,c<32→d.testBit c=(g c).isSome){i:Nat}(hi:i≤32):(fm g i).length=yb i d:=by
 unfold fm yb;rw[List.length_filterMap_eq_countP];exact List.countP_congr fun j a=>by rw[hd j (by have:=gQ.1 a;omega)]
theorem tO{i n:Nat}(hi:i<n):fm g n=fm g i++((g i).toList++(gV (n-(i+1))).filterMap fun j=>g (i+1+j)):=by
 unfold fm;have e:n=i+(1+(n-(i+1))):=by omega
 rw[e,vL,se,vL];have a:i+(1+(n-(i+1)))-(i+1)=n-(i+1):=by omega
 rw[a];congr 1
 rw[List.map_append,se,List.map_map];congr 1
 rw[List.filterMap_map];refine abb _ fun j _=>?_
 show g (i+(1+j))=_
 rw[Nat.add_assoc]
theorem Cf{i:Nat}{x:Option β}:fm (upd g i x) i=fm g i:=by
 unfold fm;refine abb _ fun j a=>?_
 have:=gQ.1 a;unfold upd;rw[if_neg (by omega)]
theorem zF{i m:Nat}{x:Option β}:((gV m).filterMap fun j=>upd g i x (i+1+j))=(gV m).filterMap fun j=>g (i+1+j):=by
 refine abb _ fun j _=>?_
 unfold upd;rw[if_neg (by omega)]
theorem W9{i:Nat}(hi:i<32)(hd:∀c,c<32→d.testBit c=(g c).isSome)(b:g i=none)(x:β):fm (upd g i (some x)) 32=(fm g 32).take (yb i d)++x::(fm g 32).drop (yb i d):=by
 have a:=IJ hd (i:=i) (by omega);rw[tO (g:=upd g i (some x)) hi,tO (g:=g) hi,Cf,zF,b,du a,cN a];simp[upd]
theorem W8{i:Nat}(hi:i<32)(hd:∀c,c<32→d.testBit c=(g c).isSome){y:β}(b:g i=some y)(x:β):fm (upd g i (some x)) 32=(fm g 32).take (yb i d)++x::(fm g 32).drop (yb i d+1):=by
 have a:=IJ hd (i:=i) (by omega);rw[tO (g:=upd g i (some x)) hi,tO (g:=g) hi,Cf,zF,b,du a,←ed,cN a];simp[upd]
theorem Xa{i:Nat}(hi:i<32)(hd:∀c,c<32→d.testBit c=(g c).isSome){y:β}(b:g i=some y):fm (upd g i none) 32=(fm g 32).take (yb i d)++(fm g 32).drop (yb i d+1):=by
 have a:=IJ hd (i:=i) (by omega);rw[tO (g:=upd g i none) hi,tO (g:=g) hi,Cf,zF,b,du a,←ed,cN a];simp[upd]
theorem Xb{i:Nat}(hi:i<32)(hd:∀c,c<32→d.testBit c=(g c).isSome){y:β}(a:g i=some y):(fm g 32)[yb i d]? =some y:=by
 have b:=IJ hd (i:=i) (by omega);rw[tO (g:=g) hi,a,List.getElem?_append_right (by omega),b,dP];rfl
theorem L8{i:Nat}(hi:i<32)(hd:∀c,c<32→d.testBit c=(g c).isSome){y:β}(a:g i=some y):yb i d<(fm g 32).length:=(List.getElem?_eq_some_iff.1 (Xb hi hd a)).1
theorem ZA{i:Nat}(hi:i<32)(hd:∀c,c<32→d.testBit c=(g c).isSome):yb i d≤(fm g 32).length:=by
 have a:=IJ hd (i:=i) (by omega);rw[tO (g:=g) hi,ac];omega
theorem zG:(fm g 32).length≤32:=by
 have:=List.length_filterMap_le g (gV 32);simpa[fm]using this
end
end Go.Proofs
namespace Go.Proofs
open Go.Lift
abbrev sv(s:SliceV):Value:=.slice s.a s.len s.cap
structure Slots where
 p:Nat→Option Pr
 k:Nat→Option (Option Addr)
def fT(d n:Nat)(sp sk:SliceV)(a:Bool)(ow:Option Addr):Array Value:= #[.int .u32 (d:Int),.int .u32 (n:Int),sv sp,sv sk,.bool a,.pointer ow]
structure BitsOf(d n:Nat)(s:Slots):Prop where
 d32:d<4294967296
 n32:n<4294967296
 dp:∀c,c<32→d.testBit c=(s.p c).isSome
 nk:∀c,c<32→n.testBit c=(s.k c).isSome
structure NodeAt(W:Nat→Prop)(h:ae)(b:Nat)(s:Slots):Prop where
 ex:∃d n sp sk ow,h[b]? =some (.cells (fT d n sp sk false ow) bT (0,0))∧BitsOf d n s∧Sl eC 2 W h sp (fm s.p 32)∧Sl tI 1 W h sk (fm s.k 32)∧sp.len≤sp.cap∧sk.len≤sk.cap
 nw:¬W b
theorem NodeAt.upd{W M:Nat→Prop}{h h':ae}{b:Nat}{s:Slots}(n:NodeAt W h b s)(k:Upd M h h')(hm:∀b,M b→W b∨h.size≤b):NodeAt W h' b s:=by
 obtain⟨d,m,sp,sk,ow,a,h2,f,i,g,e⟩:=n.ex;exact⟨⟨d,m,sp,sk,ow,k.get a (fun c=>(hm _ c).elim n.nw fun h=>by have:=bD a;omega),h2,f.upd k hm,i.upd k hm,g,e⟩,n.nw⟩
structure OwnN(M:Nat→Prop)(h:ae)(b d n:Nat)(sp sk:SliceV)(s:Slots)(ow:Option Addr):Prop where
 blk:h[b]? =some (.cells (fT d n sp sk false ow) bT (0,0))
 bits:BitsOf d n s
 ex:∃A B:Nat→Prop,OwnS eC 2 aq A h sp (fm s.p 32)∧OwnS tI 1 cg B h sk (fm s.k 32)∧(∀x,A x→M x∧¬B x∧x≠b∧x<h.size)∧(∀x,B x→M x∧x≠b∧x<h.size)
 mb:M b
theorem zC{h:ae}{K:Bool→ae→Prop}(a:K false h):HC PG iZ [.pointer none] [.c .bool] K h:=by
 refine Cw none ?_;unfold vA cD;exact aj.2 a
theorem LI{b:Nat}{h:ae}{K:Bool→ae→Prop}(a:K false h):HC PG rq [.pointer (some ⟨b,0,none⟩),.pointer none] [.c .bool] K h:=by
 refine D6 _ none ?_;unfold wK yU;exact au.2 (zC (aj.2 a))
theorem OwnN.upd{M M':Nat→Prop}{h h':ae}{b d n:Nat}{sp sk:SliceV}{s:Slots}{ow:Option Addr}(o:OwnN M h b d n sp sk s ow)(k:Upd M' h h')(hm:∀x,M' x→¬M x):OwnN M h' b d n sp sk s ow:=by
 obtain⟨A,B,g,h2,a,c⟩:=o.ex;have z:=k.size;exact⟨k.get o.blk fun f=>hm _ f o.mb,o.bits,⟨A,B,g.upd k fun x hx e=>hm _ e (a x hx).1,h2.upd k fun x hx e=>hm _ e (c x hx).1,fun x hx=>⟨(a x hx).1,(a x hx).2.1,(a x hx).2.2.1,by have:=(a x hx).2.2.2;omega⟩,fun x hx=>⟨(c x hx).1,(c x hx).2.1,by have:=(c x hx).2.2;omega⟩⟩,o.mb⟩
set_option maxRecDepth 4000 in
theorem Rn{W:Nat→Prop}{h:ae}{b:Nat}{s:Slots}(X:NodeAt W h b s){K:Option Addr→ae→Prop}
  (G:∀h' d n sp sk,OwnN (fun x=>h.size≤x) h' h.size d n sp sk s none→Upd No h h'→K (some ⟨h.size,0,none⟩) h'):
  HC PG iz [.pointer (some ⟨b,0,none⟩),.pointer none] [.c .ptr] K h:=by
 obtain⟨d,n,sp,sk,ow,a,bits,M,B,S,R⟩:=X.ex;refine y4 _ none ?_;unfold uq db nv cD bU yU VV nV jz ZL;refine LI (aj.2 ?_);have c:∀{h:ae} {b:Nat} {c:Array Value} {i:Nat},h[b]? =some (.cells c bT (0,0))→aP h ⟨b,0+i,none⟩=c[i]?:=fun a=>by rw[aR];exact bH a
 refine⟨_,rfl,_,c (i:=0) a,_,c (i:=1) a,sp,c (i:=2) a,sk,c (i:=3) a,_,c (i:=4) a,_,c (i:=5) a,?_⟩;have k1:=Upd.hnew No h [.int .u32 0,.int .u32 0,.slice none 0 0,.slice none 0 0,.bool false,.pointer none] bT;have b1:=cp h [.int .u32 0,.int .u32 0,.slice none 0 0,.slice none 0 0,.bool false,.pointer none] bT;refine bP ?_;simp only[cY h];generalize hnew h [.int .u32 0,.int .u32 0,.slice none 0 0,.slice none 0 0,.bool false,.pointer none] bT=h1 at k1 b1
 have L:iP h1 ⟨h.size,0,none⟩ 0 [.int .u32 (d:Int),.int .u32 (n:Int),.slice sp.a sp.len sp.cap,.slice sk.a sk.len sk.cap,.bool false,.pointer ow]=_:=kT _ h1 0 0 _ b1 (by simp);refine⟨.inr ⟨_,rfl,fun j U=>by rw[cj];exact iV b1 (by simp at U⊢;omega)⟩,bP ?_⟩
 rw[L];have b2:=kY (o:=.cells (fT d n sp sk false ow) bT (0,0)) b1;have t:Upd No h _:=k1.trans (M':=(· =h.size)) (Upd.set h1 (.cells (fT d n sp sk false ow) bT (0,0)) rfl) fun x hx=>.inr (gS hx.symm)
 have A:h.size<(h1.setIfInBounds h.size (.cells (fT d n sp sk false ow) bT (0,0))).size:=bD b2;have V:h.size≠b:=fun e=>by have:=bD a;omega
 have Z:(Obj.cells (List.take (0+0) [Value.int .u32 0,.int .u32 0,.slice none 0 0,.slice none 0 0,.bool false,.pointer none]++ [Value.int .u32 (d:Int),.int .u32 (n:Int),.slice sp.a sp.len sp.cap,.slice sk.a sk.len sk.cap,.bool false,.pointer ow]++List.drop (0+0+ [Value.int .u32 (d:Int),.int .u32 (n:Int),.slice sp.a sp.len sp.cap,.slice sk.a sk.len sk.cap,.bool false,.pointer ow].length) [Value.int .u32 0,.int .u32 0,.slice none 0 0,.slice none 0 0,.bool false,.pointer none]).toArray bT (0,0))=.cells (fT d n sp sk false ow) bT (0,0):=rfl
 rw[Z];generalize h1.setIfInBounds h.size (.cells (fT d n sp sk false ow) bT (0,0))=h2 at b2 t A;have q:=t.get0 a;refine⟨_,rfl,sp,c (i:=2) q,_,rfl,sk,c (i:=3) q,?_⟩;refine xF (M.upd t fun _ h=>h.elim) (by have:=zG (g:=s.p);omega) fun z Q I m=>?_
 refine⟨c (i:=3) (m.get0 q),?_⟩;refine Fh ((B.upd t fun _ h=>h.elim).upd m fun _ h=>h.elim) (by have:=zG (g:=s.k);omega) fun E Y D p=>?_
 have O:=p.get0 (m.get0 b2);have u:=I.within.upd p fun _ _ h=>h
 have y:=D.within;have z3:=m.size;have z4:=p.size;have w:∀{h:ae} {c:Array Value} {x i:Nat},h[x]? =some (.cells c bT (0,0))→i<c.size→Wr h ⟨x,0+i,none⟩:=fun a hi=>by rw[aR];exact iV a hi
 have st:∀{h:ae} {c c':Array Value} {x i:Nat} {v:Value} {k:ae→Prop},h[x]? =some (.cells c bT (0,0))→c.setIfInBounds i v=c'→(∀h',h'[x]? =some (.cells c' bT (0,0))→Upd (· =x) h h'→k h')→At (hset h ⟨x,i,none⟩ v) k:=fun a e G=>un a fun h' F T=>G h' (e▸F) T
 refine⟨w (i:=2) O (show 2<6 by decide),st (i:=2) (c':=fT d n z sk false ow) O rfl fun h5 N H=>?_⟩
 refine⟨w (i:=3) N (show 3<6 by decide),st (i:=3) (c':=fT d n z E false ow) N rfl fun h6 P C=>?_⟩
 refine⟨w (i:=5) P (show 5<6 by decide),st (i:=5) (c':=fT d n z E false none) P rfl fun h7 b7 J=>?_⟩
 refine zC (aj.2 ?_);have f:=H.tr (C.tr J);have z7:=f.size;refine G _ d n z E ⟨b7,bits,⟨fun x=>h2.size≤x∧x<Q.size,fun x=>Q.size≤x∧x<Y.size,u.upd f fun x hx e=>by have e:x=h.size:=e;omega,y.upd f fun x hx e=>by have e:x=h.size:=e;omega,fun x hx=>⟨by omega,by omega,by omega,by omega⟩,fun x hx=>⟨by omega,by omega,by omega⟩⟩,al _⟩ ?_
 exact((t.tr m).tr p).trans f fun x hx=>.inr (gS hx.symm)
end Go.Proofs
namespace Go.Proofs
open Go.Lift
theorem xp{β:Type}{g:Nat→Option β}{i:Nat}(h:g i=none):upd g i none=g:=by
 funext j;unfold upd;split
 ·rename_i e;rw[e,h]
 ·rfl
theorem fB{h:ae}{b:Nat}{c:Array Value}{t:TypeId}{i:Nat}(a:h[b]? =some (.cells c t (0,0))):aP h ⟨b,0+i,none⟩=c[i]?:=by rw[aR];exact bH a
theorem X3{h:ae}{b:Nat}{c:Array Value}{t:TypeId}{i:Nat}(a:h[b]? =some (.cells c t (0,0))) (hi:i<c.size):Wr h ⟨b,0+i,none⟩:=by rw[aR];exact iV a hi
theorem Kp{h:ae}{b:Nat}{c c':Array Value}{t:TypeId}{i:Nat}{v:Value}{k:ae→Prop}(f:h[b]? =some (.cells c t (0,0))) (e:c.setIfInBounds i v=c')
 (g:∀h',h'[b]? =some (.cells c' t (0,0))→Upd (· =b) h h'→k h'):At (hset h ⟨b,i,none⟩ v) k:=un f fun h' a d=>g h' (e▸a) d
theorem Nx{M:Nat→Prop}{h:ae}{b d n:Nat}{sp sk:SliceV}{s:Slots}{ow:Option Addr}(o:OwnN M h b d n sp sk s ow){i:Nat}(hi:i<32){K:Unit→ae→Prop}
  (V:∀h' v n' sp' sk',OwnN M h' b v n' sp' sk' ⟨upd s.p i none,upd s.k i none⟩ ow→Upd M h h'→K () h'):HC PG lq [.pointer (some ⟨b,0,none⟩),.int .i64 i] [] K h:=by
 obtain⟨A,B,U,T,a,m⟩:=o.ex;have bits:=o.bits;refine D4 _ i ?_;unfold wI db bU Ov jz qf;have X:∀k:Nat,k≤100→IntKind.wrap .i64 ((k:Int)+1)=((k+1:Nat):Int):=fun k V=>by rw[fx (by omega)];omega
 have hc1:=Cr i d;have hc2:=Cr i n;have H:∀x,A x→M x∨h.size≤x:=fun x hx=>.inl (a x hx).1
 refine Join.intro (fun _ h'=>∃sp',h'[b]? =some (.cells (fT d n sp' sk false ow) bT (0,0))∧OwnS eC 2 aq A h' sp' (fm (upd s.p i none) 32)∧OwnS tI 1 cg B h' sk (fm s.k 32)∧Upd M h h') (fun R E=>?_) ?_
 ·refine⟨_,rfl,_,fB (i:=0) o.blk,E4 bits.d32 hi ?_⟩
  rw[bits.dp i hi];cases hp:s.p i with
  |none=>exact aj.2 (E _ _ ⟨sp,o.blk,by rw[xp hp];exact U,T,Upd.refl _ _⟩)
  |some y=>
   refine au.2 ⟨_,rfl,_,fB (i:=0) o.blk,th bits.d32 hi ⟨_,rfl,sp,fB (i:=2) o.blk,?_⟩⟩;rw[X _ (by omega)];refine R8 U (L8 hi bits.dp hp) (by have:=zG (g:=s.p);omega) fun D h2 t f=>?_
   rw[←Xa hi bits.dp hp]at t;have b2:=f.get o.blk fun N=>(a b N).2.2.1 rfl
   refine⟨_,rfl,X3 (i:=2) b2 (show 2<6 by decide),Kp (i:=2) (c':=fT d n D sk false ow) b2 rfl fun W b3 j=>?_⟩
   refine E _ _ ⟨D,b3,t.upd j fun x hx e=>(a x hx).2.2.1 e,(T.upd f fun x hx Q=>(a x Q).2.1 hx).upd j fun x hx e=>(m x hx).2.1 e,(f.mono H).tr (j.mono fun x e=>.inl (e▸o.mb))⟩
 rintro _ Z ⟨q,b1,F,w,C⟩;refine Join.intro (fun _ h'=>∃sk',h'[b]? =some (.cells (fT d n q sk' false ow) bT (0,0))∧OwnS eC 2 aq A h' q (fm (upd s.p i none) 32)∧OwnS tI 1 cg B h' sk' (fm (upd s.k i none) 32)∧Upd M Z h') (fun R E=>?_) ?_
 ·refine⟨_,rfl,_,fB (i:=1) b1,E4 bits.n32 hi ?_⟩
  rw[bits.nk i hi];cases hp:s.k i with
  |none=>exact aj.2 (E _ _ ⟨sk,b1,F,by rw[xp hp];exact w,Upd.refl _ _⟩)
  |some y=>
   refine au.2 ⟨_,rfl,_,fB (i:=1) b1,th bits.n32 hi ⟨_,rfl,sk,fB (i:=3) b1,?_⟩⟩;rw[X _ (by omega)];refine R9 w (L8 hi bits.nk hp) (by have:=zG (g:=s.k);omega) fun D h2 t f=>?_
   rw[←Xa hi bits.nk hp]at t;have b2:=f.get b1 fun N=>(m b N).2.1 rfl
   refine⟨_,rfl,X3 (i:=3) b2 (show 3<6 by decide),Kp (i:=3) (c':=fT d n q D false ow) b2 rfl fun W b3 j=>?_⟩
   refine E _ _ ⟨D,b3,(F.upd f fun x hx Q=>(a x hx).2.1 Q).upd j fun x hx e=>(a x hx).2.2.1 e,t.upd j fun x hx e=>(m x hx).2.1 e,(f.mono fun x hx=>.inl (m x hx).1).tr (j.mono fun x e=>.inl (e▸o.mb))⟩
 rintro _ h2 ⟨u,b2,S,P,f⟩;refine⟨_,rfl,_,fB (i:=0) b2,_,rfl,_,fB (i:=1) b2,?_⟩;refine Hy bits.d32 hi fun v L O=>⟨fB (i:=1) b2,?_⟩
 refine Hy bits.n32 hi fun n' G I=>?_
 refine⟨_,rfl,X3 (i:=0) b2 (show 0<6 by decide),Kp (i:=0) (c':=fT v n q u false ow) b2 rfl fun W b3 j=>?_⟩
 refine⟨_,rfl,X3 (i:=1) b3 (show 1<6 by decide),Kp (i:=1) (c':=fT v n' q u false ow) b3 rfl fun h4 Y J=>?_⟩
 have p:=j.tr J;have z:=(C.tr (f.tr (p.mono (M':=M) fun x e=>.inl (e▸o.mb)))).size
 refine V h4 v n' q u ⟨Y,⟨L,G,fun c hc=>?_,fun c hc=>?_⟩,⟨A,B,S.upd p fun x hx e=>(a x hx).2.2.1 e,P.upd p fun x hx e=>(m x hx).2.1 e,fun x hx=>⟨(a x hx).1,(a x hx).2.1,(a x hx).2.2.1,by have:=(a x hx).2.2.2;omega⟩,fun x hx=>⟨(m x hx).1,(m x hx).2.1,by have:=(m x hx).2.2;omega⟩⟩,o.mb⟩ (C.tr (f.tr (p.mono fun x e=>.inl (e▸o.mb))))
 ·rw[O,bits.dp c hc];simp only[upd];split<;>simp[*]
 ·rw[I,bits.nk c hc];simp only[upd];split<;>simp[*]
end Go.Proofs
namespace Go.Proofs
open Go.Lift
theorem OwnS.setAt{α:Type}{f:α→List Value}{c:Nat}{t:TypeId}{M:Nat→Prop}{h:ae}{s:SliceV}{xs:List α}(i:OwnS f c t M h s xs){k:Nat}(p:k<xs.length)(x:α):
  ∃a,s.a=some a∧M a.block∧u6 h (some (adr a (k*c))) 0 (f x)∧OwnS f c t M (iP h (adr a (k*c)) 0 (f x)) s (xs.take k++x::xs.drop (k+1))∧Upd (· =a.block) h (iP h (adr a (k*c)) 0 (f x)):=by
 have m:∀x,(f x).length=c∧0<c:=i.ne;have w:=i.len;have g:=i.cap;rcases i.blk with F|⟨b,e,q,v,hc,y⟩
 ·omega
 have o:((xs.take k).flatMap f).length=k*c:=by rw[lW m,aH,bJ (by omega)]
 have C:xs.flatMap f=(xs.take k).flatMap f++(f xs[k]++(xs.drop (k+1)).flatMap f):=by
  rw[←aO,←dI p];exact Aa xs k
 rw[C]at hc;have z:=(m xs[k]).1;have E:=(m x).1;have d:(xs.take k++x::xs.drop (k+1)).flatMap f=(xs.take k).flatMap f++(f x++(xs.drop (k+1)).flatMap f):=by rw[bO,aO]
 generalize (xs.take k).flatMap f=A at o hc d;generalize (xs.drop (k+1)).flatMap f=B at hc d;generalize f xs[k]=X at z hc;have u:k*c+0+(f x).length≤(A++(X++B)++e).length:=by simp only[ac];omega
 have n:adr ⟨b,0,none⟩ (k*c)=⟨b,k*c,none⟩:=by rw[cj,aR]
 refine⟨⟨b,0,none⟩,q,v,?_,?_,?_⟩
 ·rw[n]
  refine .inr ⟨_,rfl,fun j D=>?_⟩
  rw[cj];exact iV hc (by rw[List.size_toArray];omega)
 ·rw[n,kT (f x) h 0 (k*c) _ hc u]
  refine⟨by simp;omega,m,g,.inr ⟨b,e,q,v,?_,?_⟩⟩
  ·rw[kY hc,d]
   congr 3
   rw[Nat.add_zero,ar A,du o,←ed,cN o,ar X,cN (by omega)];simp only[ar]
  ·exact y
 ·rw[n,kT (f x) h 0 (k*c) _ hc u]
  exact Upd.set h _ rfl
theorem OwnN.node{M W:Nat→Prop}{h:ae}{b d n:Nat}{sp sk:SliceV}{s:Slots}{ow:Option Addr}(o:OwnN M h b d n sp sk s ow)(a:∀x,M x→¬W x):NodeAt W h b s:=by
 obtain⟨A,B,c,h2,e,f⟩:=o.ex;exact⟨⟨d,n,sp,sk,ow,o.blk,o.bits,c.sl fun x hx _=>a _ (e x hx).1,h2.sl fun x hx _=>a _ (f x hx).1,c.cap,h2.cap⟩,a _ o.mb⟩
theorem IC{W:Nat→Prop}{h:ae}{b:Nat}{s:Slots}(a:NodeAt W h b s){i:Nat}(hi:i<32){K:Bool→ae→Prop}(e:K true h):HC PG lr [.pointer (some ⟨b,0,none⟩),.int .i64 i] [.c .bool] K h:=by
 obtain⟨d,n,sp,sk,ow,c,_⟩:=a.ex;refine D5 _ i ?_;unfold wJ cD;refine au.2 ⟨_,rfl,_,fB (i:=4) c,au.2 ?_⟩;refine az (fun _=>?_) fun h=>absurd (Int.natCast_nonneg i) h
 rw[decide_eq_true (by omega)];exact e
theorem S9{β:Type}{g:Nat→Option β}{i:Nat}{x y:Option β}:upd (upd g i x) i y=upd g i y:=by
 funext j;unfold upd;split<;>rfl
theorem gH{β:Type}{g:Nat→Option β}{i:Nat}{x:Option β}:upd g i x i=x:=by simp[upd]
theorem sA{W:Nat→Prop}{h:ae}{b:Nat}{s:Slots}(nd:NodeAt W h b s)(hW:∀x,W x→x<h.size){i:Nat}(hi:i<32)(hx:∀y,s.p i=some y→s.k i=none)(p:Pr){K:Option Addr→ae→Prop}
  (hk:∀h' b',NodeAt W h' b' ⟨upd s.p i (some p),upd s.k i none⟩→Upd No h h'→K (some ⟨b',0,none⟩) h'):
  HC PG eY [.pointer (some ⟨b,0,none⟩),.pointer none,.int .i64 i,.agg #[.string p.1,.string p.2]] [.c .ptr] K h:=by
 refine A9 _ none i p ?_;unfold uJ cl db ax hP uy vN bU lP nV jz qf;have k1:=Upd.hnew No h [.string p.1,.string p.2] aq;have b1:=cp h [.string p.1,.string p.2] aq;refine bP ?_;simp only[cY h];generalize hnew h [.string p.1,.string p.2] aq=h1 at k1 b1;have z1:=bD b1;have O:=nd.upd k1 fun _ h=>h.elim
 refine IC O hi (aj.2 ?_);refine Rn O fun h2 d n sp sk o J=>?_
 have bits:=o.bits;obtain⟨A,B,hA,hB,q,G⟩:=o.ex;have F:=k1.tr J;have u:=J.get0 b1;have U:∀x,h1.size≤x→¬W x:=fun x hx Q=>by have:=hW x Q;omega
 refine⟨_,rfl,_,fB (i:=0) o.blk,E4 bits.d32 hi ?_⟩;rw[bits.dp i hi];cases hp:s.p i with
 |some y=>
  refine au.2 ⟨_,rfl,sp,fB (i:=2) o.blk,_,rfl,_,fB (i:=0) o.blk,p.1,by rw[cj,bH u];rfl,p.2,by rw[cj,bH u];rfl,?_⟩
  refine th bits.d32 hi ⟨⟨by rw[cj,bH u];rfl,by rw[cj,bH u];rfl⟩,fB (i:=2) o.blk,?_⟩
  have hlt:=L8 hi bits.dp hp;obtain⟨a,ha,L,Q,V,m⟩:=OwnS.setAt hA hlt p;have hlen:=hA.len;refine⟨by omega,a,ha,?_⟩;rw[aU];refine⟨Q,bP ?_⟩;rw[←W8 hi bits.dp hp]at V;have ob:=m.get o.blk fun e=>(q _ L).2.2.1 e.symm
  have z3:=m.size;have z:OwnN (fun x=>h1.size≤x) _ h1.size d n sp sk ⟨upd s.p i (some p),upd s.k i none⟩ none:=⟨ob,⟨bits.d32,bits.n32,fun c hc=>by
    rw[bits.dp c hc];simp only[upd];split
    ·rename_i e;rw[e,hp];rfl
    ·rfl,fun c hc=>by rw[bits.nk c hc,xp (hx y hp)]⟩,
   ⟨A,B,V,by rw[xp (hx y hp)];exact hB.upd m fun x hx e=>(q _ L).2.1 (e▸hx),fun x hx=>⟨(q x hx).1,(q x hx).2.1,(q x hx).2.2.1,by have:=(q x hx).2.2.2;omega⟩,fun x hx=>⟨(G x hx).1,(G x hx).2.1,by have:=(G x hx).2.2;omega⟩⟩,o.mb⟩
  refine hk _ _ (z.node U) (F.trans m fun x hx=>.inr ?_)
  have:=(q _ L).1;have hx:x=a.block:=hx;omega
 |none=>
  refine aj.2 ⟨_,rfl,Nx o hi fun E d3 n3 v I z m=>?_⟩
  have f:=z.bits;obtain⟨A3,B3,hA3,hB3,j,k⟩:=z.ex;have z2:=J.size;have z3:=m.size;have C:=m.get u (show ¬h1.size≤h.size by omega)
  have P:Upd No h E:=F.trans m fun x hx=>.inr (bj (Nat.le_of_lt z1) hx)
  refine⟨_,rfl,v,fB (i:=2) z.blk,_,rfl,_,fB (i:=0) z.blk,p.1,by rw[cj,bH C];rfl,p.2,by rw[cj,bH C];rfl,?_⟩
  have N:=Upd.hnew No E [.string p.1,.string p.2] aq;have b4:=cp E [.string p.1,.string p.2] aq;have z4:=iY E [.string p.1,.string p.2] aq;have M:=z.upd N fun _ h=>h.elim
  have Z:HC PG dB [.slice v.a v.len v.cap,.int .i64 (yb i d3),.slice (some (aF E)) 1 1] [.c .slice] (fun(H:SliceV) S=>
       ∃a34:Addr,some (⟨h1.size,0,none⟩:Addr)=some a34∧
       (Wr S (adr (adr a34 0) 2)∧
        At (hset S (adr (adr a34 0) 2) (.slice H.a H.len H.cap)) (fun T=>
         ∃a36:Addr,some (⟨h1.size,0,none⟩:Addr)=some a36∧
         ∃v37:Int,aP T (adr (adr a36 0) 0)=some (.int .u32 v37)∧
         HC PG gz [.int .u32 v37,.int .i64 i] [.c (.int .u32)] (fun(e38:Int) R=>
          ∃a40:Addr,some (⟨h1.size,0,none⟩:Addr)=some a40∧
          (Wr R (adr (adr a40 0) 0)∧
           At (hset R (adr (adr a40 0) 0) (.int .u32 e38)) (fun h41=>
            K (some ⟨h1.size,0,none⟩) h41))) T))) (hnew E [.string p.1,.string p.2] aq):=by
   generalize hnew E [.string p.1,.string p.2] aq=h4 at N b4 z4 M;rw[cY E];have hA4:=(hA3.upd N fun _ _ h=>h).more (M':=fun x=>A3 x∨h4.size≤x) fun x hx=>.inl hx
   have hpn:(⟨upd s.p i none,upd s.k i none⟩:Slots).p i=none:=gH;refine RH hA4 (ZA hi f.dp) (by have:=zG (g:=(⟨upd s.p i none,upd s.k i none⟩:Slots).p);omega) (x:=p) b4 (fun e=>e.elim (fun e=>by have:=(j _ e).2.2.2;omega) fun e=>by omega) (fun x hx=>.inr hx) fun s5 h5 Y D=>?_
   rw[←W9 hi f.dp hpn p]at Y;have hbl:h1.size<E.size:=bD z.blk;have b5:=D.get M.blk fun e=>e.elim (fun e=>(j _ e).2.2.1 rfl) fun e=>by omega
   refine⟨_,rfl,X3 (i:=2) b5 (show 2<6 by decide),Kp (i:=2) (c':=fT d3 n3 s5 I false none) b5 rfl fun h6 b6 hu6=>?_⟩
   refine⟨_,rfl,_,fB (i:=0) b6,S8 f.d32 hi fun w Q hwt=>?_⟩
   refine⟨_,rfl,X3 (i:=0) b6 (show 0<6 by decide),Kp (i:=0) (c':=fT w n3 s5 I false none) b6 rfl fun h7 b7 hu7=>?_⟩
   have t:=hu6.tr hu7;have z5:=D.size;have z7:=t.size;have X:=Y.within;have e1:(⟨upd (⟨upd s.p i none,upd s.k i none⟩:Slots).p i (some p),upd s.k i none⟩:Slots)=⟨upd s.p i (some p),upd s.k i none⟩:=by rw[S9]
   have o7:OwnN (fun x=>h1.size≤x) h7 h1.size w n3 s5 I ⟨upd s.p i (some p),upd s.k i none⟩ none:=by
    rw[←e1];refine⟨b7,⟨Q,f.n32,fun c hc=>?_,f.nk⟩,⟨fun x=>(A3 x∨h4.size≤x)∧x<h5.size,B3,X.upd t fun x hx e=>?_,((hB3.upd N fun _ _ h=>h).upd D fun x hx e=>?_).upd t fun x hx e=>(k x hx).2.1 e,fun x hx=>⟨?_,?_,?_,by omega⟩,fun x hx=>⟨(k x hx).1,(k x hx).2.1,by have:=(k x hx).2.2;omega⟩⟩,o.mb⟩
    ·rw[hwt,f.dp c hc];simp only[upd];split<;>simp[*]
    ·have e:x=h1.size:=e
     rcases hx.1 with h|h
     ·exact(j x h).2.2.1 e
     ·omega
    ·rcases e with e|e
     ·exact(j x e).2.1 hx
     ·have:=(k x hx).2.2;omega
    ·rcases hx.1 with h|h
     ·exact(j x h).1
     ·omega
    ·rcases hx.1 with h|h
     ·exact(j x h).2.1
     ·exact fun hb=>by have:=(k x hb).2.2;omega
    ·rcases hx.1 with h|h
     ·exact(j x h).2.2.1
     ·omega
   refine hk _ _ (o7.node U) (((P.tr N).trans D fun x hx=>.inr ?_).trans t fun x hx=>.inr ?_)
   ·rcases hx with h|h
    ·have:=(j x h).1;omega
    ·omega
   ·have hx:x=h1.size:=hx
    omega
  refine⟨th f.d32 hi ⟨⟨by rw[cj,bH C];rfl,by rw[cj,bH C];rfl⟩,fB (i:=2) z.blk,bP ⟨fB (i:=2) M.blk,Z⟩⟩,bP ⟨fB (i:=0) M.blk,fB (i:=2) M.blk,th f.d32 hi ⟨fB (i:=2) M.blk,Z⟩⟩⟩
end Go.Proofs
namespace Go.Proofs
open Go.Lift
theorem Xo{W:Nat→Prop}{h:ae}{b:Nat}{s:Slots}(e:NodeAt W h b s)(m:∀x,W x→x<h.size){i:Nat}(hi:i<32){K:Option Addr→ae→Prop}
  (k:∀h' b',NodeAt W h' b' ⟨upd s.p i none,upd s.k i none⟩→Upd No h h'→K (some ⟨b',0,none⟩) h'):
  HC PG nI [.pointer (some ⟨b,0,none⟩),.pointer none,.int .i64 i] [.c .ptr] K h:=by
 refine D8 _ none i ?_;unfold wM uy nV;refine IC e hi (aj.2 ?_);refine Rn e fun h2 d n sp sk o a=>⟨_,rfl,Nx o hi fun q u t j p f c=>?_⟩
 exact k _ _ (f.node fun x hx g=>by have:=m x g;omega) (a.trans c fun x hx=>.inr hx)
theorem xt{W:Nat→Prop}{h:ae}{b:Nat}{s:Slots}(nd:NodeAt W h b s)(hW:∀x,W x→x<h.size){i:Nat}(hi:i<32)(hx:∀y,s.k i=some y→s.p i=none)(kid:Addr){K:Option Addr→ae→Prop}
  (hk:∀h' b',NodeAt W h' b' ⟨upd s.p i none,upd s.k i (some (some kid))⟩→Upd No h h'→K (some ⟨b',0,none⟩) h'):
  HC PG fU [.pointer (some ⟨b,0,none⟩),.pointer none,.int .i64 i,.pointer (some kid)] [.c .ptr] K h:=by
 refine CD _ none i (some kid) ?_;unfold vH cl db uy bU nV MI jz qf;refine aj.2 ?_;refine IC nd hi (aj.2 ?_);refine Rn nd fun h2 d n sp sk o G=>?_
 have bits:=o.bits;obtain⟨A,B,hA,hB,t,q⟩:=o.ex;have P:∀x,h.size≤x→¬W x:=fun x hx v=>by have:=hW x v;omega
 refine⟨_,rfl,_,fB (i:=1) o.blk,E4 bits.n32 hi ?_⟩;rw[bits.nk i hi];cases hp:s.k i with
 |some y=>
  refine au.2 ⟨_,rfl,sk,fB (i:=3) o.blk,_,rfl,_,fB (i:=1) o.blk,?_⟩;refine th bits.n32 hi ⟨fB (i:=3) o.blk,?_⟩;have hlt:=L8 hi bits.nk hp;obtain⟨a,ha,H,v,Q,m⟩:=OwnS.setAt hB hlt (some kid);have hlen:=hB.len;refine⟨by omega,a,ha,?_⟩;rw[aU];have hw1:Wr h2 (adr a (yb i n*1)):=by
   rcases v with v|⟨b',Z,v⟩
   ·cases v
   ·cases Z;exact v 0 (by simp)
  refine⟨hw1,bP ?_⟩;rw[←W8 hi bits.nk hp]at Q;have ob:=m.get o.blk fun e=>(q _ H).2.1 e.symm
  have z3:=m.size;have u:OwnN (fun x=>h.size≤x) _ h.size d n sp sk ⟨upd s.p i none,upd s.k i (some (some kid))⟩ none:=⟨ob,⟨bits.d32,bits.n32,fun c hc=>by rw[bits.dp c hc,xp (hx y hp)],fun c hc=>by
    rw[bits.nk c hc];simp only[upd];split
    ·rename_i e;rw[e,hp];rfl
    ·rfl⟩,
   ⟨A,B,by rw[xp (hx y hp)];exact hA.upd m fun x hx e=>(t _ hx).2.1 (e▸H),Q,fun x hx=>⟨(t x hx).1,(t x hx).2.1,(t x hx).2.2.1,by have:=(t x hx).2.2.2;omega⟩,fun x hx=>⟨(q x hx).1,(q x hx).2.1,by have:=(q x hx).2.2;omega⟩⟩,o.mb⟩
  refine hk _ _ (u.node P) (G.trans m fun x hx=>.inr ?_)
  have:=(q _ H).1;have hx:x=a.block:=hx;omega
 |none=>
  refine aj.2 ⟨_,rfl,Nx o hi fun D d3 n3 E z u m=>?_⟩
  have f:=u.bits;obtain⟨A3,B3,Y,hB3,j,k⟩:=u.ex;have z2:=G.size;have z3:=m.size;have L:Upd No h D:=G.trans m fun x hx=>.inr hx
  refine⟨_,rfl,z,fB (i:=3) u.blk,_,rfl,_,fB (i:=1) u.blk,?_⟩;have J:=Upd.hnew No D [.pointer (some kid)] cg;have b4:=cp D [.pointer (some kid)] cg;have z4:=iY D [.pointer (some kid)] cg;have I:=u.upd J fun _ h=>h.elim
  have T:HC PG c7 [.slice z.a z.len z.cap,.int .i64 (yb i n3),.slice (some (aF D)) 1 1] [.c .slice] (fun(F:SliceV) N=>
       ∃a34:Addr,some (⟨h.size,0,none⟩:Addr)=some a34∧
       (Wr N (adr (adr a34 0) 3)∧
        At (hset N (adr (adr a34 0) 3) (.slice F.a F.len F.cap)) (fun O=>
         ∃a36:Addr,some (⟨h.size,0,none⟩:Addr)=some a36∧
         ∃v37:Int,aP O (adr (adr a36 0) 1)=some (.int .u32 v37)∧
         HC PG gz [.int .u32 v37,.int .i64 i] [.c (.int .u32)] (fun(e38:Int) M=>
          ∃a40:Addr,some (⟨h.size,0,none⟩:Addr)=some a40∧
          (Wr M (adr (adr a40 0) 1)∧
           At (hset M (adr (adr a40 0) 1) (.int .u32 e38)) (fun h41=>
            K (some ⟨h.size,0,none⟩) h41))) O))) (hnew D [.pointer (some kid)] cg):=by
   generalize hnew D [.pointer (some kid)] cg=h4 at J b4 z4 I;rw[cY D];have hB4:=(hB3.upd J fun _ _ h=>h).more (M':=fun x=>B3 x∨h4.size≤x) fun x hx=>.inl hx
   have U:(⟨upd s.p i none,upd s.k i none⟩:Slots).k i=none:=gH;refine RI hB4 (ZA hi f.nk) (by have:=zG (g:=(⟨upd s.p i none,upd s.k i none⟩:Slots).k);omega) (x:=some kid) b4 (fun e=>e.elim (fun e=>by have:=(k _ e).2.2;omega) fun e=>by omega) (fun x hx=>.inr hx) fun X h5 S C=>?_
   rw[←W9 hi f.nk U (some kid)]at S;have hbl:h.size<D.size:=bD u.blk;have b5:=C.get I.blk fun e=>e.elim (fun e=>(k _ e).2.1 rfl) fun e=>by omega
   refine⟨_,rfl,X3 (i:=3) b5 (show 3<6 by decide),Kp (i:=3) (c':=fT d3 n3 E X false none) b5 rfl fun h6 V hu6=>?_⟩
   refine⟨_,rfl,_,fB (i:=1) V,S8 f.n32 hi fun w v hwt=>?_⟩
   refine⟨_,rfl,X3 (i:=1) V (show 1<6 by decide),Kp (i:=1) (c':=fT d3 w E X false none) V rfl fun h7 b7 hu7=>?_⟩
   have p:=hu6.tr hu7;have z5:=C.size;have z7:=p.size;have R:=S.within;have e1:(⟨upd s.p i none,upd (⟨upd s.p i none,upd s.k i none⟩:Slots).k i (some (some kid))⟩:Slots)=⟨upd s.p i none,upd s.k i (some (some kid))⟩:=by rw[S9]
   have o7:OwnN (fun x=>h.size≤x) h7 h.size d3 w E X ⟨upd s.p i none,upd s.k i (some (some kid))⟩ none:=by
    rw[←e1];refine⟨b7,⟨f.d32,v,f.dp,fun c hc=>?_⟩,⟨A3,fun x=>(B3 x∨h4.size≤x)∧x<h5.size,((Y.upd J fun _ _ h=>h).upd C fun x hx e=>?_).upd p fun x hx e=>(j x hx).2.2.1 e,R.upd p fun x hx e=>?_,fun x hx=>⟨(j x hx).1,?_,(j x hx).2.2.1,by have:=(j x hx).2.2.2;omega⟩,fun x hx=>⟨?_,?_,by omega⟩⟩,o.mb⟩
    ·rw[hwt,f.nk c hc];simp only[upd];split<;>simp[*]
    ·rcases e with e|e
     ·exact(j x hx).2.1 e
     ·have:=(j x hx).2.2.2;omega
    ·have e:x=h.size:=e
     rcases hx.1 with h|h
     ·exact(k x h).2.1 e
     ·omega
    ·rintro⟨h|h,_⟩
     ·exact(j x hx).2.1 h
     ·have:=(j x hx).2.2.2;omega
    ·rcases hx.1 with h|h
     ·exact(k x h).1
     ·omega
    ·rcases hx.1 with h|h
     ·exact(k x h).2.1
     ·omega
   refine hk _ _ (o7.node P) (((L.tr J).trans C fun x hx=>.inr ?_).trans p fun x hx=>.inr ?_)
   ·rcases hx with h|h
    ·exact(k x h).1
    ·omega
   ·have hx:x=h.size:=hx
    omega
  refine⟨th f.n32 hi ⟨fB (i:=3) u.blk,bP ⟨fB (i:=3) I.blk,T⟩⟩,bP ⟨fB (i:=1) I.blk,fB (i:=3) I.blk,th f.n32 hi ⟨fB (i:=3) I.blk,T⟩⟩⟩
end Go.Proofs
