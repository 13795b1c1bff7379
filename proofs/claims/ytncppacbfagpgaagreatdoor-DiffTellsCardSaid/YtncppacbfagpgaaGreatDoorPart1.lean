/- A part of the proof that the named laws of this program answer true, whatever the input. -/
import Derived.Test.YtncppacbfagpgaaGreatDoorPart0
import Derived.Sort.Walk0
open BitVec renaming ofInt→aq,ofInt_natCast→gm,getLsbD_ofNat→pG
open Bool renaming eq_iff_iff→jf
open Int renaming toNat_natCast→aR,fdiv→dD,fdiv_eq_ediv_of_nonneg→iS
open List renaming length_take→aI,length_drop→aU,flatMap_cons→aP,drop_eq_getElem_cons→eH,flatMap_append→bR,length_eq_zero_iff→aw,length_append→ac,append_assoc→ar,drop_left'→cK,take_left'→dq,drop_drop→eo,drop_append_of_le_length→gQ,getElem_cons_zero→gB,length_cons→al,pairwise_iff_getElem→ce,getElem?_eq_getElem→ae,any_eq_true→cA,replicate→iP,replicate_succ→qs,flatten_append→iU,flatten_cons→iQ,flatten_nil→un,length→fy,take_of_length_le→bo,range→gg,range_add→w7,mem_range→g7,filterMap_append→oE
open Nat renaming le_refl→aj,min_eq_left→bN,sub_self→dP,zero_mul→vV,sub_zero→fa,lt_or_ge→bZ,zero_le→aS,le_trans→bh,testBit_shiftRight→te,testBit_and→kG,testBit_two_pow_sub_one→oO,shiftRight_eq_div_pow→cL,lt_of_le_of_lt→hE,shiftRight_le→ko,mod_eq_of_lt→dX,testBit_two_pow→qq,testBit_lt_two_pow→iJ,lt_of_lt_of_le→aD,pow_le_pow_right→gf,zero_add→aQ,le_of_eq→fS
open UInt8 renaming ofNat→ii
namespace Go.Proofs
open Go Go.Lift
theorem yL{W:Nat→Prop}{h:ad}{s:SliceV}{xs:List (ByteArray×ByteArray)}(c:Sl eu 2 W h s xs)(n:xs.length*32≤140737488355328){K:SliceV→ad→Prop}
  (g:∀s' h',OwnS eu 2 ao (fun b=>h.size≤b) h' s' xs→Upd No h h'→K s' h'):HC PG cW [.slice s.a s.len s.cap] [.c .slice] K h:=by
 refine qn s ?_;unfold kM lN;refine CondP.intro (fun d=>?_) (fun m=>?_)
 ·have d:s.a=none:=by simpa using d
  have hx:xs= []:=by
   by_cases hx:xs= []
   ·exact hx
   ·obtain⟨a,e,_⟩:=c.row hx
    rw[d]at e;cases e
  subst hx;exact g _ _ (OwnS.nil gu) (Upd.refl _ _)
 ·have h2:=c.upd (Upd.hnew No h [] ao) (fun _ h=>h.elim)
  refine⟨_,h2.srow,?_⟩;refine AppP.own (f:=eu) (M:=fun b=>h.size≤b) (xs:= []) (ys:=xs) ⟨rfl,gu,aj _,.inl rfl⟩ c.len rfl (xj xs) rfl (by omega) (by simpa using n) (by rw[jw];omega) fun s' h' j i=>?_
  exact g _ _ j ((Upd.hnew No h [] ao).trans i fun b k=>.inr k)
theorem TJ{M:Nat→Prop}{h:ad}{s:SliceV}{xs:List (ByteArray×ByteArray)}(z:OwnS eu 2 ao M h s xs){k:Nat}(u:k<xs.length)(P:xs.length≤4398046511104)
  {K:SliceV→ad→Prop}(I:∀s' h',OwnS eu 2 ao M h' s' (xs.take k++xs.drop (k+1))→Upd M h h'→K s' h'):
  HC PG gz [.slice s.a s.len s.cap,.int .i64 k,.int .i64 ((k+1:Nat):Int)] [.c .slice] K h:=by
 refine pY s k ((k+1:Nat):Int) ?_;unfold ki lN;have f:=z.len;have C:=z.cap;rcases z.blk with O|⟨b,a,H,v,hc,E⟩
 ·omega
 have p:((xs.take k).flatMap eu).length=k*2:=by rw[nr gu,aI,bN (by omega)]
 have m:((xs.drop (k+1)).flatMap eu).length=(xs.length-(k+1))*2:=by rw[nr gu,aU]
 have G:xs.flatMap eu=(xs.take k).flatMap eu++(eu xs[k]++(xs.drop (k+1)).flatMap eu):=by
  rw[←aP,←eH u];exact DF xs k
 rw[G]at hc;have d:=xj (xs.drop (k+1));have c:(xs.take k++xs.drop (k+1)).flatMap eu=(xs.take k).flatMap eu++(xs.drop (k+1)).flatMap eu:=bR;have L:(eu xs[k]).length=2:=rfl;generalize (xs.take k).flatMap eu=A at p hc c;generalize (xs.drop (k+1)).flatMap eu=B at m hc d c;generalize eu xs[k]=X at L hc;rw[H];simp only[f,aR];refine⟨by omega,by omega,by omega,CondP.intro (fun e=>?_) fun _=>?_⟩
 ·have:(k:Int)=((k+1:Nat):Int):=by simpa using e
  omega
 refine Join.plain ⟨by omega,by omega,B,?_,?_⟩
 ·by_cases j:xs.length=k+1
  ·exact⟨m,.inl (aw.1 (by rw[m,j,dP,vV]))⟩
  rw[mp (by omega)];refine oh hc m ?_;have:(A++X).length=0+(k+1)*2:=by rw[ac];omega
  rw[show A++(X++B)++a=(A++X)++(B++a) by simp only[ar],cK this,dq m]
 ·rw[sub_zero]
  refine TX hc (by simp only[ac];omega) (by omega) d fun N i x=>?_
  have t:a.length=(s.cap-xs.length)*2:=by rw[E,f]
  refine⟨by dsimp only;omega,by dsimp only;omega,?_⟩
  simp only[Bd];rw[mp (by omega)];have F:xs.length-(k-0+(xs.length-(k+1)))=1:=by omega
  have y:(A++(X++B)++a).drop ((k-0)*2+B.length)=(X++B).drop B.length++a:=by
   rw[ar,←eo,cK (show A.length=(k-0)*2 by rw[p,fa]),gQ (by rw[ac];omega)]
  have q:(A++(X++B)++a).take ((k-0)*2)=A:=by rw[ar,dq (show A.length=(k-0)*2 by rw[p,fa])]
  rw[y,q]at i;have o:((X++B).drop B.length).length=2:=by rw[aU,ac];omega
  generalize (X++B).drop B.length=D at o i;rw[F];have J:(eO 1 [.string (⟨#[]⟩:ByteArray),.string (⟨#[]⟩:ByteArray)]).length=2:=rfl;have g:(A++B).length=0+(k-0+(xs.length-(k+1)))*2:=by rw[ac,p,m];omega
  refine Oh i (by simp only[ac]at g⊢;omega) fun h2 n w=>?_
  rw[dq g,←eo,cK g]at n;refine I _ _ ⟨by simp;omega,gu,by simp only;omega,.inr ⟨b,eO 1 [.string (⟨#[]⟩:ByteArray),.string (⟨#[]⟩:ByteArray)]++(D++a).drop (eO 1 [.string (⟨#[]⟩:ByteArray),.string (⟨#[]⟩:ByteArray)]).length,rfl,v,?_,?_⟩⟩ ((x.mono fun _ e=>.inl (e▸v)).tr (w.mono fun _ e=>.inl (e▸v)))
  ·rw[n,c];simp only[ar]
  ·simp only[ac,aU,J,o,t]
   omega
theorem Gn{W:Nat→Prop}{h:ad}{s:SliceV}{xs:List (Option Addr)}(c:Sl uJ 1 W h s xs)(n:xs.length*8≤140737488355328){K:SliceV→ad→Prop}
  (g:∀s' h',OwnS uJ 1 ci (fun b=>h.size≤b) h' s' xs→Upd No h h'→K s' h'):HC PG ey [.slice s.a s.len s.cap] [.c .slice] K h:=by
 refine ox s ?_;unfold jp;refine CondP.intro (fun d=>?_) (fun m=>?_)
 ·have d:s.a=none:=by simpa using d
  have hx:xs= []:=by
   by_cases hx:xs= []
   ·exact hx
   ·obtain⟨a,e,_⟩:=c.row hx
    rw[d]at e;cases e
  subst hx;exact g _ _ (OwnS.nil vh) (Upd.refl _ _)
 ·have h2:=c.upd (Upd.hnew No h [] ci) (fun _ h=>h.elim)
  refine⟨_,h2.srow,?_⟩;refine AppP.own (f:=uJ) (M:=fun b=>h.size≤b) (xs:= []) (ys:=xs) ⟨rfl,vh,aj _,.inl rfl⟩ c.len rfl (Ii xs) rfl (by omega) (by simpa using n) (by rw[jw];omega) fun s' h' j i=>?_
  exact g _ _ j ((Upd.hnew No h [] ci).trans i fun b k=>.inr k)
theorem TK{M:Nat→Prop}{h:ad}{s:SliceV}{xs:List (Option Addr)}(z:OwnS uJ 1 ci M h s xs){k:Nat}(u:k<xs.length)(P:xs.length≤4398046511104)
  {K:SliceV→ad→Prop}(I:∀s' h',OwnS uJ 1 ci M h' s' (xs.take k++xs.drop (k+1))→Upd M h h'→K s' h'):
  HC PG fH [.slice s.a s.len s.cap,.int .i64 k,.int .i64 ((k+1:Nat):Int)] [.c .slice] K h:=by
 refine nS s k ((k+1:Nat):Int) ?_;unfold jc;have f:=z.len;have C:=z.cap;rcases z.blk with O|⟨b,a,H,v,hc,E⟩
 ·omega
 have p:((xs.take k).flatMap uJ).length=k*1:=by rw[nr vh,aI,bN (by omega)]
 have m:((xs.drop (k+1)).flatMap uJ).length=(xs.length-(k+1))*1:=by rw[nr vh,aU]
 have G:xs.flatMap uJ=(xs.take k).flatMap uJ++(uJ xs[k]++(xs.drop (k+1)).flatMap uJ):=by
  rw[←aP,←eH u];exact DF xs k
 rw[G]at hc;have d:=Ii (xs.drop (k+1));have c:(xs.take k++xs.drop (k+1)).flatMap uJ=(xs.take k).flatMap uJ++(xs.drop (k+1)).flatMap uJ:=bR;have L:(uJ xs[k]).length=1:=rfl;generalize (xs.take k).flatMap uJ=A at p hc c;generalize (xs.drop (k+1)).flatMap uJ=B at m hc d c;generalize uJ xs[k]=X at L hc;rw[H];simp only[f,aR];refine⟨by omega,by omega,by omega,CondP.intro (fun e=>?_) fun _=>?_⟩
 ·have:(k:Int)=((k+1:Nat):Int):=by simpa using e
  omega
 refine Join.plain ⟨by omega,by omega,B,?_,?_⟩
 ·by_cases j:xs.length=k+1
  ·exact⟨m,.inl (aw.1 (by rw[m,j,dP,vV]))⟩
  rw[mp (by omega)];refine oh hc m ?_;have:(A++X).length=0+(k+1)*1:=by rw[ac];omega
  rw[show A++(X++B)++a=(A++X)++(B++a) by simp only[ar],cK this,dq m]
 ·rw[sub_zero]
  refine TX hc (by simp only[ac];omega) (by omega) d fun N i x=>?_
  have t:a.length=(s.cap-xs.length)*1:=by rw[E,f]
  refine⟨by dsimp only;omega,by dsimp only;omega,?_⟩
  simp only[Bd];rw[mp (by omega)];have F:xs.length-(k-0+(xs.length-(k+1)))=1:=by omega
  have y:(A++(X++B)++a).drop ((k-0)*1+B.length)=(X++B).drop B.length++a:=by
   rw[ar,←eo,cK (show A.length=(k-0)*1 by rw[p,fa]),gQ (by rw[ac];omega)]
  have q:(A++(X++B)++a).take ((k-0)*1)=A:=by rw[ar,dq (show A.length=(k-0)*1 by rw[p,fa])]
  rw[y,q]at i;have o:((X++B).drop B.length).length=1:=by rw[aU,ac];omega
  generalize (X++B).drop B.length=D at o i;rw[F];have J:(eO 1 [.pointer none]).length=1:=rfl;have g:(A++B).length=0+(k-0+(xs.length-(k+1)))*1:=by rw[ac,p,m];omega
  refine Oh i (by simp only[ac]at g⊢;omega) fun h2 n w=>?_
  rw[dq g,←eo,cK g]at n;refine I _ _ ⟨by simp;omega,vh,by simp only;omega,.inr ⟨b,eO 1 [.pointer none]++(D++a).drop (eO 1 [.pointer none]).length,rfl,v,?_,?_⟩⟩ ((x.mono fun _ e=>.inl (e▸v)).tr (w.mono fun _ e=>.inl (e▸v)))
  ·rw[n,c];simp only[ar]
  ·simp only[ac,aU,J,o,t]
   omega
theorem Nz{W:Nat→Prop}{h:ad}{s:SliceV}{xs:List (Option Addr)}(c:Sl qd 1 W h s xs)(n:xs.length*8≤140737488355328){K:SliceV→ad→Prop}
  (g:∀s' h',OwnS qd 1 bj (fun b=>h.size≤b) h' s' xs→Upd No h h'→K s' h'):HC PG dN [.slice s.a s.len s.cap] [.c .slice] K h:=by
 refine nC s ?_;unfold iI;refine CondP.intro (fun d=>?_) (fun m=>?_)
 ·have d:s.a=none:=by simpa using d
  have hx:xs= []:=by
   by_cases hx:xs= []
   ·exact hx
   ·obtain⟨a,e,_⟩:=c.row hx
    rw[d]at e;cases e
  subst hx;exact g _ _ (OwnS.nil oe) (Upd.refl _ _)
 ·have h2:=c.upd (Upd.hnew No h [] bj) (fun _ h=>h.elim)
  refine⟨_,h2.srow,?_⟩;refine AppP.own (f:=qd) (M:=fun b=>h.size≤b) (xs:= []) (ys:=xs) ⟨rfl,oe,aj _,.inl rfl⟩ c.len rfl (Ih xs) rfl (by omega) (by simpa using n) (by rw[jw];omega) fun s' h' j i=>?_
  exact g _ _ j ((Upd.hnew No h [] bj).trans i fun b k=>.inr k)
theorem TI{M:Nat→Prop}{h:ad}{s:SliceV}{xs:List (Option Addr)}(z:OwnS qd 1 bj M h s xs){k:Nat}(u:k<xs.length)(P:xs.length≤4398046511104)
  {K:SliceV→ad→Prop}(I:∀s' h',OwnS qd 1 bj M h' s' (xs.take k++xs.drop (k+1))→Upd M h h'→K s' h'):
  HC PG fu [.slice s.a s.len s.cap,.int .i64 k,.int .i64 ((k+1:Nat):Int)] [.c .slice] K h:=by
 refine mV s k ((k+1:Nat):Int) ?_;unfold ir;have f:=z.len;have C:=z.cap;rcases z.blk with O|⟨b,a,H,v,hc,E⟩
 ·omega
 have p:((xs.take k).flatMap qd).length=k*1:=by rw[nr oe,aI,bN (by omega)]
 have m:((xs.drop (k+1)).flatMap qd).length=(xs.length-(k+1))*1:=by rw[nr oe,aU]
 have G:xs.flatMap qd=(xs.take k).flatMap qd++(qd xs[k]++(xs.drop (k+1)).flatMap qd):=by
  rw[←aP,←eH u];exact DF xs k
 rw[G]at hc;have d:=Ih (xs.drop (k+1));have c:(xs.take k++xs.drop (k+1)).flatMap qd=(xs.take k).flatMap qd++(xs.drop (k+1)).flatMap qd:=bR;have L:(qd xs[k]).length=1:=rfl;generalize (xs.take k).flatMap qd=A at p hc c;generalize (xs.drop (k+1)).flatMap qd=B at m hc d c;generalize qd xs[k]=X at L hc;rw[H];simp only[f,aR];refine⟨by omega,by omega,by omega,CondP.intro (fun e=>?_) fun _=>?_⟩
 ·have:(k:Int)=((k+1:Nat):Int):=by simpa using e
  omega
 refine Join.plain ⟨by omega,by omega,B,?_,?_⟩
 ·by_cases j:xs.length=k+1
  ·exact⟨m,.inl (aw.1 (by rw[m,j,dP,vV]))⟩
  rw[mp (by omega)];refine oh hc m ?_;have:(A++X).length=0+(k+1)*1:=by rw[ac];omega
  rw[show A++(X++B)++a=(A++X)++(B++a) by simp only[ar],cK this,dq m]
 ·rw[sub_zero]
  refine TX hc (by simp only[ac];omega) (by omega) d fun N i x=>?_
  have t:a.length=(s.cap-xs.length)*1:=by rw[E,f]
  refine⟨by dsimp only;omega,by dsimp only;omega,?_⟩
  simp only[Bd];rw[mp (by omega)];have F:xs.length-(k-0+(xs.length-(k+1)))=1:=by omega
  have y:(A++(X++B)++a).drop ((k-0)*1+B.length)=(X++B).drop B.length++a:=by
   rw[ar,←eo,cK (show A.length=(k-0)*1 by rw[p,fa]),gQ (by rw[ac];omega)]
  have q:(A++(X++B)++a).take ((k-0)*1)=A:=by rw[ar,dq (show A.length=(k-0)*1 by rw[p,fa])]
  rw[y,q]at i;have o:((X++B).drop B.length).length=1:=by rw[aU,ac];omega
  generalize (X++B).drop B.length=D at o i;rw[F];have J:(eO 1 [.pointer none]).length=1:=rfl;have g:(A++B).length=0+(k-0+(xs.length-(k+1)))*1:=by rw[ac,p,m];omega
  refine Oh i (by simp only[ac]at g⊢;omega) fun h2 n w=>?_
  rw[dq g,←eo,cK g]at n;refine I _ _ ⟨by simp;omega,oe,by simp only;omega,.inr ⟨b,eO 1 [.pointer none]++(D++a).drop (eO 1 [.pointer none]).length,rfl,v,?_,?_⟩⟩ ((x.mono fun _ e=>.inl (e▸v)).tr (w.mono fun _ e=>.inl (e▸v)))
  ·rw[n,c];simp only[ar]
  ·simp only[ac,aU,J,o,t]
   omega
end Go.Proofs
namespace Go.Proofs
open Go.Lift
abbrev Pr:=ByteArray×ByteArray
theorem Gq{a b:ByteArray}:a.toList=b.toList↔a=b:=by
 constructor
 ·intro h
  rw[ByteArray.toList_eq,ByteArray.toList_eq]at h;cases a;cases b;simp at h;subst h;rfl
 ·rintro rfl;rfl
def kl(a b:ByteArray):Prop:=Op.bytesLess a.toList b.toList=true
instance (a b:ByteArray):Decidable (kl a b):=inferInstanceAs (Decidable (_=true))
theorem Ow{a b:ByteArray}:kl a b↔a.toList<b.toList:=by unfold kl;rw[bytesLess_eq,decide_eq_true_iff]
theorem co(a:ByteArray):¬kl a a:=by rw[Ow];exact List.lt_irrefl _
theorem fR{a b c:ByteArray}(h:kl a b)(k:kl b c):kl a c:=by rw[Ow]at*;exact List.lt_trans h k
theorem tri:∀x y:List UInt8,Op.bytesLess x y=false→x≠y→Op.bytesLess y x=true
 | [],[],_,h=>absurd rfl h
 | [],_::_,h,_=>by simp[Op.bytesLess]at h
 |_::_,[],_,_=>rfl
 |a::x,b::y,h,hn=>by
  simp only[Op.bytesLess,Bool.or_eq_false_iff,decide_eq_false_iff_not,Bool.and_eq_false_iff]at h;simp only[Op.bytesLess,Bool.or_eq_true,decide_eq_true_iff,Bool.and_eq_true];by_cases e:a=b
  ·subst e
   right;refine⟨by simp,tri x y ?_ fun e=>hn (by rw[e])⟩
   rcases h.2 with h|h
   ·simp at h
   ·exact h
  ·left
   have c:=h.1;rw[UInt8.lt_iff_toNat_lt]at c⊢;have:a.toNat≠b.toNat:=fun h=>e (UInt8.toNat_inj.1 h)
   omega
theorem qh{a b:ByteArray}(h:¬kl a b)(k:a≠b):kl b a:=tri _ _ (by unfold kl at h;simpa using h) fun e=>k (Gq.1 e)
def LH(a b:ByteArray):Int:=if kl a b then-1 else if a=b then 0 else 1
theorem QM{x:ByteArray}{h:ad}{K:Bool→ad→Prop}(a:K false h):HC PG qV [.string x] [.c .bool] K h:=by
 refine H5 x ?_;unfold Ar;simpa using a
theorem Ke{a b:ByteArray}{h:ad}{K:Int→ad→Prop}(c:K (LH a b) h):HC PG oK [.string a,.string b] [.c (.int .i64)] K h:=by
 refine Fe a b ?_;unfold xQ;refine QM (QM (ag.2 (ag.2 ?_)));unfold LH at c;refine CondP.intro (fun e=>?_) fun e=>?_
 ·rw[if_pos (show kl a b from e)]at c;exact c
 ·have f:¬kl a b:=fun h=>by rw[show Op.bytesLess a.toList b.toList=true from h]at e;cases e
  rw[if_neg f]at c;rw[e];refine CondP.intro (fun d=>?_) fun d=>?_
  ·rw[if_neg (fun h=>by subst h;simp at d)]at c;exact c
  ·have:a.toList=b.toList:=by simpa using d
   rw[if_pos (Gq.1 this)]at c;exact c
theorem QB{p:Pr}{k:ByteArray}{h:ad}{K:Int→ad→Prop}(a:∀h',Upd No h h'→K (LH p.1 k) h'):HC PG sB [.agg #[.string p.1,.string p.2],.string k] [.c (.int .i64)] K h:=by
 refine Pg p k ?_;unfold Fw az is w9;have b1:=cq h [.string p.1,.string p.2] ao;refine⟨p.1,by rw[cR,cp,bF b1];rfl,Ke (a _ (Upd.hnew No h _ _))⟩
abbrev bS(l:List Pr):Prop:=l.Pairwise fun p q=>kl p.1 q.1
def rl(l:List Pr)(k:ByteArray):Nat:=(l.takeWhile fun p=>decide (kl p.1 k)).length
def cG(l:List Pr)(k:ByteArray):Bool:=l.any fun p=>decide (p.1=k)
theorem Yx{l:List Pr}{k:ByteArray}{i:Nat}(hi:i≤l.length)(a:∀j (h:j<l.length),j<i→kl l[j].1 k)(h2:∀(h:i<l.length),¬kl l[i].1 k):rl l k=i:=by
 unfold rl;induction l generalizing i with
 |nil=>simp at hi;simp[hi]
 |cons p l ih=>
  rw[List.takeWhile_cons];cases i with
  |zero=>
   have:=h2 (by simp);simp only[gB]at this;rw[if_neg (by simpa using this)];rfl
  |succ i=>
   have:=a 0 (by simp) (by omega);simp only[gB]at this;rw[if_pos (by simpa using this),al];congr 1
   refine ih (by simpa using hi) (fun j b c=>?_) fun h=>?_
   ·have:=a (j+1) (by simpa using b) (by omega)
    simpa using this
   ·have:=h2 (by simpa using h)
    simpa using this
theorem Yy(l:List Pr)(k:ByteArray):rl l k≤l.length:=by
 unfold rl;exact(List.takeWhile_prefix _).length_le
theorem OF{W:Nat→Prop}{h:ad}{s:SliceV}{l:List Pr}(V:Sl eu 2 W h s l)(Z:bS l)(hn:l.length≤1000000000)(k:ByteArray){K:Int×Bool→ad→Prop}
  (E:∀h',Upd No h h'→K ((rl l k:Int),cG l k) h'):HC PG uQ [.slice s.a s.len s.cap,.string k] [.c (.int .i64),.c .bool] K h:=by
 refine RD s k ?_;unfold HF;refine lr s k _ ?_;unfold fX bX ji ay rV;have X:=V.len;have H:∀{p:Pr} {h:ad} {K:Int→ad→Prop},(∀h',Upd No h h'→K (LH p.1 k) h')→HV PG (.func (.func sB) #[] #[]) [.agg #[.string p.1,.string p.2],.string k] [.c (.int .i64)] K h:=fun E=>HV.mk' (QB E)
 refine LoopP.ghost (fun(g:Nat×Nat) (t:Int×Int) h'=>t.1=(g.1:Int)∧t.2=(g.2:Int)∧g.1≤g.2∧g.2≤l.length∧Upd No h h'∧(∀j (Q:j<l.length),j<g.1→kl l[j].1 k)∧(∀j (Q:j<l.length),g.2≤j→¬kl l[j].1 k)) (fun g=>g.2-g.1) (0,l.length)
  ⟨rfl,by simp only;omega,by simp,by simp,Upd.refl _ _,fun j Q h=>by omega,fun j Q h=>by simp only at h;omega⟩ ?_
 rintro I ⟨i,j⟩ ⟨ti,tj⟩ h' ⟨U,Y,C,A,F,f,w⟩ T;simp only at U Y C A f w;subst U Y;have J:=V.upd F fun _ h=>h.elim
 have mono:∀a b (D:a<l.length) (S:b<l.length),a<b→kl l[a].1 l[b].1:=fun a b D S R=>ce.1 Z a b D S R
 refine ax (fun v=>?_) fun P=>?_
 ·have v:i<j:=by have:(i:Int)<(j:Int):=v;omega
  have em:IntKind.wrap .i64 (dD (IntKind.wrap .u64 (IntKind.wrap .i64 ((i:Int)+(j:Int)))) (2^(min (1:Int).toNat (IntKind.bits .u64))))=(((i+j)/2:Nat):Int):=by
   have e3:(2^(min (1:Int).toNat (IntKind.bits .u64)):Int)=2:=rfl;rw[e3,dI (x:=(i:Int)+(j:Int)) (by omega),Go.IntWalk.u64_in _ (by omega),iS _ (by omega),dI (by omega)];omega
  refine⟨by decide,?_⟩;simp only[Bd];rw[em];generalize hm:(i+j)/2=m;have B:m<l.length:=by omega
  obtain⟨a,D,_,hv⟩:=J.at (ae B);refine⟨by omega,a,D,l[m].1,hv 0 _ rfl,l[m].2,hv 1 _ rfl,H fun h2 u=>?_⟩
  refine ax (fun n=>?_) fun L=>?_
  ·have c:kl l[m].1 k:=by
    unfold LH at n;by_cases c:kl l[m].1 k
    ·exact c
    ·rw[if_neg c]at n;split at n<;>omega
   refine T (m+1,j) _ _ ⟨by simp only;rw[dI (by omega)];omega,rfl,by simp only;omega,A,F.tr u,fun q y z=>?_,w⟩ (by simp only;omega)
   simp only at z;rcases bZ q m with h|h
   ·exact fR (mono q m y B h) c
   ·have:q=m:=by omega
    subst this;exact c
  ·have d:¬kl l[m].1 k:=fun c=>L (by unfold LH;rw[if_pos c];decide)
   refine T (i,m) _ _ ⟨rfl,rfl,by simp only;omega,by simp only;omega,F.tr u,f,fun q y z G=>?_⟩ (by simp only;omega)
   simp only at z;rcases bZ m q with h|h
   ·exact d (fR (mono m q B y h) G)
   ·have:q=m:=by omega
    subst this;exact d G
 ·have C:i=j:=by have:¬(i:Int)<(j:Int):=P;omega
  subst C;have M:rl l k=i:=Yx A f fun hi=>w i hi (aj _)
  rw[M]at E;refine ax (fun v=>?_) fun O=>?_
  ·have o:i<l.length:=by have:(i:Int)<(s.len:Int):=v;omega
   obtain⟨a,D,_,hv⟩:=J.at (ae o);refine⟨by simp only;omega,a,D,l[i].1,hv 0 _ rfl,l[i].2,hv 1 _ rfl,H fun h2 u=>?_⟩
   have d:=w i o (aj _);have N:(LH l[i].1 k==(0:Int))=cG l k:=by
    unfold LH cG;rw[if_neg d,jf,cA];constructor
    ·intro h
     split at h
     ·rename_i e;exact⟨l[i],List.getElem_mem o,decide_eq_true e⟩
     ·simp at h
    ·rintro⟨p,M,e⟩
     have e:=of_decide_eq_true e;obtain⟨q,y,rfl⟩:=List.mem_iff_getElem.1 M;have:q=i:=by
      rcases Nat.lt_trichotomy q i with h|h|h
      ·exact absurd (e▸f q y h) (co _)
      ·exact h
      ·exact absurd (e▸mono i q o y h) d
     subst this;rw[if_pos e];rfl
   rw[N];exact E _ (F.tr u)
  ·have o:i=l.length:=by have:¬(i:Int)<(s.len:Int):=O;omega
   have N:cG l k=false:=by
    unfold cG;rw[List.any_eq_false];intro p M e;have e:=of_decide_eq_true e;obtain⟨q,y,rfl⟩:=List.mem_iff_getElem.1 M;exact absurd (e▸f q y (by omega)) (co _)
   rw[N]at E;exact E _ F
end Go.Proofs
namespace Go.Proofs
open Go.Lift
theorem OwnS.zero{α:Type}{f:α→List Value}{c:Nat}{t:TypeId}{M:Nat→Prop}{h:ad}{s:SliceV}{xs:List α}(d:OwnS f c t M h s xs):OwnS f c t M h ⟨aY s.a 0 s.cap c,0-0,s.cap-0⟩ []:=by
 have i:∀x,(f x).length=c∧0<c:=d.ne;have g:=d.len;have e:=d.cap;refine⟨rfl,i,by simp only;omega,?_⟩
 rcases d.blk with n|⟨b,a,k,m,hc,j⟩
 ·exact .inl (by simp only;omega)
 ·refine .inr ⟨b,xs.flatMap f++a,by rw[k,sub_zero],m,hc,?_⟩
  rw[ac,nr i,j,←Nat.add_mul];simp only;congr 1;omega
def Sb:Pr:=(⟨#[]⟩,⟨#[]⟩)
theorem UI(n:Nat):eO n [.string (⟨#[]⟩:ByteArray),.string (⟨#[]⟩:ByteArray)]=(iP n Sb).flatMap eu:=by
 unfold eO;induction n with
 |zero=>rfl
 |succ n ih=>rw[qs,qs,aP,←ih];rfl
theorem aaM{n:Nat}(i:n*32≤140737488355328){h:ad}{K:SliceV→ad→Prop}(a:∀s' h',OwnS eu 2 ao (fun b=>h.size≤b) h' s' []→Upd No h h'→K s' h'):
  HC PG gX [.slice none 0 0,.int .i64 n] [.c .slice] K h:=by
 refine qK ⟨none,0,0⟩ n ?_;unfold lg lN;have e:IntKind.wrap .i64 ((n:Int)-IntKind.wrap .i64 (((0:Nat):Int)-((0:Nat):Int)))=(n:Int):=by rw[dI (x:=((0:Nat):Int)-((0:Nat):Int)) (by omega),dI (by omega)];omega
 refine Join.plain (ax (fun h=>by omega) fun _=>?_)
 simp only[Bd];rw[e];refine ax (fun j=>?_) fun k=>a _ _ (OwnS.nil gu) (Upd.refl _ _)
 refine⟨by omega,⟨by omega,by omega,by omega,by omega⟩,?_⟩
 refine AppP.own (f:=eu) (M:=fun b=>h.size≤b) (xs:= []) (ys:=iP n Sb) (OwnS.nil gu) (by simp) (UI _) (by rw[UI];exact xj _) rfl (by omega) (by simpa using i) (aj _) fun s' h' d c=>?_
 exact⟨by omega,a _ _ (OwnS.zero d) (c.mono fun b g=>.inr g)⟩
abbrev adj(s:SliceV):List Value:= [.slice s.a s.len s.cap]
def ParS(h:ad):List SliceV→List (List Pr)→Prop
 | [],[]=>True
 |v::vs,l::ls=>Sl eu 2 No h v l∧ParS h vs ls
 |_,_=>False
theorem ParS.upd{h h':ad}(k:Upd No h h'):∀{vs:List SliceV} {ls:List (List Pr)},ParS h vs ls→ParS h' vs ls
 | [],[],_=>trivial
 |_::_,_::_,q=>⟨q.1.upd k fun _ h=>h.elim,ParS.upd k q.2⟩
 | [],_::_,q=>q.elim
 |_::_,[],q=>q.elim
theorem ParS.len{h:ad}:∀{vs:List SliceV} {ls:List (List Pr)},ParS h vs ls→vs.length=ls.length
 | [],[],_=>rfl
 |_::_,_::_,q=>by rw[al,al,ParS.len q.2]
 | [],_::_,q=>q.elim
 |_::_,[],q=>q.elim
theorem ParS.at{h:ad}:∀{vs:List SliceV} {ls:List (List Pr)},ParS h vs ls→∀{i:Nat} (h1:i<vs.length) (h2:i<ls.length),Sl eu 2 No h vs[i] ls[i]
 |_::_,_::_,q,0,_,_=>q.1
 |_::_,_::_,q,i+1,h1,h2=>ParS.at q.2 (by simpa using h1) (by simpa using h2)
theorem Nn(ls:List (List Pr)){i:Nat}(hi:i<ls.length):(ls.take (i+1)).flatten=(ls.take i).flatten++ls[i]:=by
 rw[List.take_succ_eq_append_getElem hi,iU,iQ,un,List.append_nil]
theorem Vu(ls:List (List Pr))(i:Nat):(ls.take i).flatten.length≤ls.flatten.length:=by
 have:ls.flatten=(ls.take i).flatten++(ls.drop i).flatten:=by rw[←iU,List.take_append_drop]
 rw[this,ac];omega
theorem Nv{h:ad}{s:SliceV}{vs:List SliceV}{ls:List (List Pr)}(z:Sl adj 1 No h s vs)(B:ParS h vs ls)(M:ls.flatten.length*32≤140737488355328)(hv:vs.length≤1000)
  {K:SliceV→ad→Prop}(P:∀s' h',OwnS eu 2 ao (fun b=>h.size≤b) h' s' ls.flatten→Upd No h h'→K s' h'):HC PG eS [.slice s.a s.len s.cap] [.c .slice] K h:=by
 refine pZ s ?_;unfold km bE bX lN;have E:=z.len;have e:=B.len;refine LoopP.ghost (fun(i:Nat) (t:Int×Int) h'=>t.2=(i:Int)∧i≤vs.length∧t.1=((ls.take i).flatten.length:Int)∧h'=h) (fun i=>vs.length-i) 0 ⟨rfl,aS _,by simp,rfl⟩ ?_
 rintro I i ⟨Y,U⟩ h' ⟨m,hi,F,rfl⟩ H;simp only at m F;subst m F;refine ax (fun c=>?_) fun A=>?_
 ·have c:i<vs.length:=by have:(i:Int)<(s.len:Int):=c;omega
  obtain⟨a,y,_,f⟩:=z.at (ae c);have N:=(B.at c (e▸c)).len;have d:=congrArg fy (Nn ls (e▸c));rw[ac]at d;have C:=Vu ls (i+1);refine Join.plain ⟨by simp only;omega,a,y,_,f 0 _ rfl,?_⟩;simp only;have J:IntKind.wrap .i64 (((ls.take i).flatten.length:Int)+((vs[i]).len:Int))=((ls.take (i+1)).flatten.length:Int):=by rw[dI (by omega)];omega
  rw[J];refine ax (fun h=>by omega) fun _=>?_
  rw[db c (by omega)];exact H (i+1) _ _ ⟨rfl,c,rfl,rfl⟩ (by omega)
 ·have O:i=vs.length:=by have:¬(i:Int)<(s.len:Int):=A;omega
  rw[bo (by omega)];refine aaM M fun S X w D=>?_
  refine LoopP.ghost (fun(i:Nat) (t:SliceV×Int) x=>t.2=(i:Int)∧i≤vs.length∧OwnS eu 2 ao (fun b=>h'.size≤b) x t.1 (ls.take i).flatten∧Upd No h' x) (fun i=>vs.length-i) 0 ⟨rfl,aS _,by simpa using w,D⟩ ?_
  rintro V j ⟨Q,R⟩ x ⟨m,W,p,k⟩ q;simp only at m p;subst m;refine ax (fun c=>?_) fun n=>?_
  ·have c:j<vs.length:=by have:(j:Int)<(s.len:Int):=c;omega
   obtain⟨a,y,_,f⟩:=(z.upd k fun _ h=>h.elim).at (ae c)
   have g:=((B.upd k).at c (e▸c));have d:=Nn ls (e▸c);have o:=congrArg fy d;rw[ac]at o;have C:=Vu ls (j+1);refine Join.plain ⟨by simp only;omega,a,y,_,f 0 _ rfl,_,g.srow,?_⟩;refine AppP.own (ys:=ls[j]) p g.len rfl (xj _) rfl (by omega) (by omega) k.size fun T h2 u v=>?_
   simp only;rw[db c (by omega)];exact q (j+1) _ _ ⟨rfl,c,d▸u,k.trans v fun b G=>.inr G⟩ (by omega)
  ·have L:j=vs.length:=by have:¬(j:Int)<(s.len:Int):=n;omega
   rw[bo (by omega)]at p;exact P _ _ p k
def LB(l:List Pr)(p:Pr):List Pr:=l.take (rl l p.1)++p::l.drop (if cG l p.1 then rl l p.1+1 else rl l p.1)
def W2(l:List Pr)(k:ByteArray):List Pr:=if cG l k then l.take (rl l k)++l.drop (rl l k+1)else l
theorem Oj{l:List Pr}(d:bS l){k:ByteArray}(b:cG l k=true):∃h:rl l k<l.length,l[rl l k].1=k:=by
 unfold cG at b;obtain⟨p,f,e⟩:=cA.1 b;have e:=of_decide_eq_true e;obtain⟨q,c,rfl⟩:=List.mem_iff_getElem.1 f;have:rl l k=q:=Yx (by omega) (fun j g a=>by rw[←e];exact ce.1 d j q g c a) fun h=>by rw[←e];exact co _
 subst this;exact⟨c,e⟩
theorem N5{h:ad}{s:SliceV}{l:List Pr}(b:Sl eu 2 No h s l){i j m:Nat}(a:i≤j)(h2:j≤l.length)(d:j≤m)(c:Nat):Sl eu 2 No h ⟨aY s.a i m 2,j-i,c⟩ ((l.drop i).take (j-i)):=Sl.sub b a h2 d
theorem S5{h:ad}{s:SliceV}{l:List Pr}(y:Sl eu 2 No h s l)(hc:s.len≤s.cap)(u:bS l)(M:l.length≤1000000000)(p:Pr)
  {K:SliceV→ad→Prop}(L:∀s' h',OwnS eu 2 ao (fun b=>h.size≤b) h' s' (LB l p)→Upd No h h'→K s' h'):HC PG DD [.slice s.a s.len s.cap,.agg #[.string p.1,.string p.2]] [.c .slice] K h:=by
 refine Ur s p ?_;unfold K8 az is w9 D2;have g:=y.len;have k1:=Upd.hnew No h [.string p.1,.string p.2] ao;have b1:=cq h [.string p.1,.string p.2] ao;refine bM ?_;simp only[cR h];generalize hnew h [.string p.1,.string p.2] ao=h1 at k1 b1;refine⟨p.1,by rw[cp,bF b1];rfl,OF (y.upd k1 fun _ h=>h.elim) u M p.1 fun h2 f=>?_⟩
 have C:=Yy l p.1;have a:=k1.tr f;refine⟨by simp only;omega,?_⟩;let q:=if cG l p.1 then rl l p.1+1 else rl l p.1
 have D:q≤l.length:=by
  show(if cG l p.1 then rl l p.1+1 else rl l p.1)≤l.length
  split
  ·rename_i ht;obtain⟨h,_⟩:=Oj u ht;omega
  ·exact C
 refine Join.intro (fun t h'=>h'=h2∧t=⟨aY s.a q s.cap 2,s.len-q,s.cap-q⟩) (fun R B=>?_) ?_
 ·refine CondP.intro (fun e=>?_) fun e=>B _ _ ⟨rfl,?_⟩
  ·have e:cG l p.1=true:=e
   obtain⟨I,_⟩:=Oj u e;have F:IntKind.wrap .i64 ((rl l p.1:Int)+1)=((rl l p.1+1:Nat):Int):=by rw[dI (by omega)];omega
   simp only;rw[F];refine⟨by omega,B _ _ ⟨rfl,?_⟩⟩;have:q=rl l p.1+1:=by show(if cG l p.1 then _ else _)=_;rw[if_pos e]
   rw[this];rfl
  ·have e:cG l p.1=false:=e
   have:q=rl l p.1:=by show(if cG l p.1 then _ else _)=_;rw[if_neg (by rw[e];decide)]
   rw[this];rfl
 ·rintro t h' ⟨rfl,rfl⟩
  have b2:=f.get0 b1;refine⟨by simp only;omega,p.1,by rw[cp,bF b2];rfl,p.2,by rw[cp,bF b2];rfl,?_⟩
  have n:=Upd.hnew No h' [.string p.1,.string p.2] ao;have b3:=cq h' [.string p.1,.string p.2] ao;refine bM ?_;simp only[cR h'];generalize hnew h' [.string p.1,.string p.2] ao=h3 at n b3;refine bM ?_;have d:=(y.upd a fun _ h=>h.elim).upd n fun _ h=>h.elim
  have k:=Upd.hnew No h3 [.slice (aY s.a 0 s.cap 2) ((rl l p.1:Int).toNat-0) (s.cap-0),.slice (some ⟨h'.size,0,none⟩) 1 1,.slice (aY s.a q s.cap 2) (s.len-q) (s.cap-q)] cD;have G:=cq h3 [.slice (aY s.a 0 s.cap 2) ((rl l p.1:Int).toNat-0) (s.cap-0),.slice (some ⟨h'.size,0,none⟩) 1 1,.slice (aY s.a q s.cap 2) (s.len-q) (s.cap-q)] cD;have A:=N5 d (i:=0) (j:=rl l p.1) (m:=s.cap) (aS _) C (by omega) (s.cap-0)
  have H:Sl eu 2 No h3 ⟨some ⟨h'.size,0,none⟩,1,1⟩ [p]:=⟨rfl,gu,fun _=>⟨_,rfl,fun h=>h.elim,pI b3 fun i v hv=>by simpa using hv⟩⟩
  have w:=N5 d (i:=q) (j:=l.length) (m:=s.cap) D (aj _) (by omega) (s.cap-q);rw[←g]at w;rw[List.drop_zero]at A;rw[bo (by rw[aU];omega)]at w;have J:LB l p= [l.take (rl l p.1-0),[p],l.drop q].flatten:=by simp[LB,q]
  refine Nv (s:=⟨some (aG h3),3,3⟩) (vs:= [⟨aY s.a 0 s.cap 2,(rl l p.1:Int).toNat-0,s.cap-0⟩,⟨some ⟨h'.size,0,none⟩,1,1⟩,⟨aY s.a q s.cap 2,s.len-q,s.cap-q⟩]) (ls:= [l.take (rl l p.1-0),[p],l.drop q])
   ⟨rfl,fun x=>⟨rfl,Nat.one_pos⟩,fun _=>⟨_,rfl,fun h=>h.elim,pI G fun i v hv=>by simpa[adj]using hv⟩⟩ ⟨A.upd k fun _ h=>h.elim,H.upd k fun _ h=>h.elim,w.upd k fun _ h=>h.elim,trivial⟩ ?_ (by simp) fun O N c o=>?_
  ·simp only[iQ,un,ac,aI,aU,List.length_singleton,List.length_nil];omega
  ·rw[←J]at c
   have z:=((a.tr n).tr k);exact L _ _ (c.more fun b E=>bh z.size E) (z.tr o)
end Go.Proofs
namespace Go.Proofs
open Go.Lift
def zg(n d:Nat):Nat:=(gg n).countP (d.testBit ·)
theorem Is(m n d:Nat):zg (m+n) d=zg m d+zg n (d>>>m):=by
 unfold zg;rw[w7,List.countP_append,List.countP_map];congr 1
 refine List.countP_congr fun i _=>?_
 simp[te]
theorem VC(d:Nat)(i:Nat):∀n,i≤n→zg n (d&&&(2^i-1))=zg i d:=by
 intro n b;obtain⟨m,rfl⟩:=Nat.exists_eq_add_of_le b;rw[Is];have e:zg i (d&&&(2^i-1))=zg i d:=by
  unfold zg;refine List.countP_congr fun j a=>?_
  have:=g7.1 a;simp[kG,oO,this]
 have c:zg m ((d&&&(2^i-1))>>>i)=0:=by
  unfold zg;rw[List.countP_eq_zero];intro j _;simp[te,kG,oO];intro h;omega
 omega
theorem ab6(d:Nat):zg 8 (d&&&255)=zg 8 d:=VC d 8 8 (aj _)
theorem DH(n d:Nat):zg n d≤n:=by
 have:=List.countP_le_length (p:=(d.testBit ·)) (l:=gg n)
 simpa[zg]using this
theorem pq(d n:Nat):dD (d:Int) (2^n)=((d>>>n:Nat):Int):=by
 rw[iS _ (by exact Int.le_of_lt (Int.pow_pos (by decide))),cL];simp
theorem Zt(a b:Nat):(aq (IntKind.bits .u32) (a:Int)&&&aq (IntKind.bits .u32) (b:Int)).toNat=(a%4294967296)&&&(b%4294967296):=by
 simp[IntKind.bits,BitVec.toNat_and,BitVec.toNat_ofInt];rfl
theorem D4{n:Nat}(h:n<4294967296):IntKind.wrap .u32 (n:Int)=(n:Int):=Go.IntWalk.u32_in _ (by omega)
theorem Jm{i:Nat}(hi:i<32){h:ad}{K:Bool→ad→Prop}(a:K true h):HC PG qC [.int .i64 i] [.c .bool] K h:=by
 refine L5 i ?_;unfold CQ;refine ax (fun _=>?_) fun h=>absurd (Int.natCast_nonneg i) h
 rw[decide_eq_true (by omega)];exact a
theorem O7{a b:Nat}(h:b<4294967296):a&&&b<4294967296:=hE Nat.and_le_right h
theorem Gc{d i:Nat}(hd:d<4294967296)(hi:i<32){h:ad}{K:Bool→ad→Prop}(c:K (d.testBit i) h):HC PG ie [.int .u32 d,.int .i64 i] [.c .bool] K h:=by
 refine GH d i ?_;unfold y9;refine Jm hi (au.2 ⟨by omega,?_⟩);have e:min (i:Int).toNat (IntKind.bits .u32)=i:=by rw[aR];exact bN (by show i≤32;omega)
 rw[e,pq];have a:=Zt (d>>>i) 1;have b:d>>>i<4294967296:=hE (ko d i) hd;rw[dX b,show(1:Nat)%4294967296=1 from rfl]at a
 simp only[Bd];rw[show((1:Nat):Int)=(1:Int)from rfl]at a
 rw[a,D4 (O7 (by omega))];have f:(((d>>>i&&&1:Nat):Int)==(1:Int))=d.testBit i:=by
  rw[jf,beq_iff_eq,Nat.testBit,Nat.and_comm];simp only[bne_iff_ne,ne_eq,Nat.one_and_eq_mod_two];have:(d>>>i)%2<2:=Nat.mod_lt _ (by omega);omega
 rw[f];exact c
theorem Xd{d i:Nat}(hd:d<4294967296)(hi:i<32):∃w:Nat,IntKind.wrap .u32 (aq (IntKind.bits .u32) (d:Int)|||aq (IntKind.bits .u32) (IntKind.wrap .u32 (1*2^(min (i:Int).toNat (IntKind.bits .u32))))).toNat=(w:Int)∧w<4294967296∧∀j,w.testBit j=(d.testBit j||decide (j=i)):=by
 have e:min (i:Int).toNat (IntKind.bits .u32)=i:=by rw[aR];exact bN (by show i≤32;omega)
 have f:2^i<4294967296:=Nat.pow_lt_pow_right (by omega) (show i<32 from hi)
 have b:(1*2^i:Int)=((2^i:Nat):Int):=by simp
 rw[e,b,D4 f];refine⟨_,D4 (BitVec.isLt _),BitVec.isLt _,fun j=>?_⟩
 rw[BitVec.testBit_toNat,BitVec.getLsbD_or,gm,gm,pG,pG,qq];by_cases a:j<32
 ·have:decide (j<IntKind.bits .u32)=true:=decide_eq_true a
  rw[this];simp[eq_comm]
 ·have c:decide (j<IntKind.bits .u32)=false:=decide_eq_false a
  have h2:d.testBit j=false:=iJ (aD hd (gf (n:=2) (by omega) (show 32≤j by omega)))
  rw[c,h2];simp;omega
theorem UN{d i:Nat}(hd:d<4294967296)(hi:i<32){h:ad}{K:Int→ad→Prop}(a:∀w:Nat,w<4294967296→(∀j,w.testBit j=(d.testBit j||decide (j=i)))→K (w:Int) h):HC PG gN [.int .u32 d,.int .i64 i] [.c (.int .u32)] K h:=by
 refine Fg d i ?_;unfold xS;refine Jm hi (ag.2 ⟨by omega,?_⟩);obtain⟨w,e,b,h2⟩:=Xd hd hi;simp only[Bd];rw[e];exact a w b h2
theorem O4{d i:Nat}(hd:d<4294967296)(hi:i<32):∃w:Nat,IntKind.wrap .u32 (aq (IntKind.bits .u32) (d:Int)&&& ~~~aq (IntKind.bits .u32) (IntKind.wrap .u32 (1*2^(min (i:Int).toNat (IntKind.bits .u32))))).toNat=(w:Int)∧w<4294967296∧∀j,w.testBit j=(d.testBit j&&decide (j≠i)):=by
 have e:min (i:Int).toNat (IntKind.bits .u32)=i:=by rw[aR];exact bN (by show i≤32;omega)
 have f:2^i<4294967296:=Nat.pow_lt_pow_right (by omega) (show i<32 from hi)
 have b:(1*2^i:Int)=((2^i:Nat):Int):=by simp
 rw[e,b,D4 f];refine⟨_,D4 (BitVec.isLt _),BitVec.isLt _,fun j=>?_⟩
 rw[BitVec.testBit_toNat,BitVec.getLsbD_and,BitVec.getLsbD_not,gm,gm,pG,pG,qq];by_cases a:j<32
 ·have:decide (j<IntKind.bits .u32)=true:=decide_eq_true a
  rw[this];simp[eq_comm]
 ·have c:decide (j<IntKind.bits .u32)=false:=decide_eq_false a
  have h2:d.testBit j=false:=iJ (aD hd (gf (n:=2) (by omega) (show 32≤j by omega)))
  rw[c,h2];simp
theorem IB{d i:Nat}(hd:d<4294967296)(hi:i<32){h:ad}{K:Int→ad→Prop}(a:∀w:Nat,w<4294967296→(∀j,w.testBit j=(d.testBit j&&decide (j≠i)))→K (w:Int) h):HC PG mc [.int .u32 d,.int .i64 i] [.c (.int .u32)] K h:=by
 refine Bk d i ?_;unfold u6;refine Jm hi (ag.2 ⟨by omega,?_⟩);obtain⟨w,e,b,h2⟩:=O4 hd hi;simp only[Bd];rw[e];exact a w b h2
abbrev acy:ByteArray:=⟨#[0,1,1,2,1,2,2,3,1,2,2,3,2,3,3,4,1,2,2,3,2,3,3,4,2,3,3,4,3,4,4,5,1,2,2,3,2,3,3,4,2,3,3,4,3,4,4,5,2,3,3,4,3,4,4,5,3,4,4,5,4,5,5,6,1,2,2,3,2,3,3,4,2,3,3,4,3,4,4,5,2,3,3,4,3,4,4,5,3,4,4,5,4,5,5,6,2,3,3,4,3,4,4,5,3,4,4,5,4,5,5,6,3,4,4,5,4,5,5,6,4,5,5,6,5,6,6,7,1,2,2,3,2,3,3,4,2,3,3,4,3,4,4,5,2,3,3,4,3,4,4,5,3,4,4,5,4,5,5,6,2,3,3,4,3,4,4,5,3,4,4,5,4,5,5,6,3,4,4,5,4,5,5,6,4,5,5,6,5,6,6,7,2,3,3,4,3,4,4,5,3,4,4,5,4,5,5,6,3,4,4,5,4,5,5,6,4,5,5,6,5,6,6,7,3,4,4,5,4,5,5,6,4,5,5,6,5,6,6,7,4,5,5,6,5,6,6,7,5,6,6,7,6,7,7,8]⟩
theorem Z0:(gg 256).all (fun b=>decide (acy[b]? =some (ii (zg 8 b))))=true:=by decide+kernel
theorem N1{b:Nat}(h:b<256):acy[b]? =some (ii (zg 8 b)):=of_decide_eq_true (List.all_eq_true.1 Z0 b (g7.2 h))
theorem OT(b:Nat):(ii (zg 8 b)).toNat=zg 8 b:=by
 have:=DH 8 b;simp;omega
theorem adF(d:Nat):zg 32 d=zg 8 (d>>>24)+zg 8 ((d>>>16)&&&255)+zg 8 ((d>>>8)&&&255)+zg 8 (d&&&255):=by
 rw[ab6,ab6,ab6,show(32:Nat)=8+(8+(8+8))from rfl,Is,Is,Is]
 simp only[←Nat.shiftRight_add,Nat.reduceAdd];omega
set_option maxRecDepth 100000 in
theorem aaw{d:Nat}(hd:d<4294967296){h:ad}{K:Int→ad→Prop}(j:K (zg 32 d:Int) h):HC PG mP [.int .u32 d] [.c (.int .i64)] K h:=by
 refine yR d ?_;unfold rQ;have c:dD (d:Int) (2^(min (24:Int).toNat (IntKind.bits .u32)))=((d>>>24:Nat):Int):=pq d 24;have a:dD (d:Int) (2^(min (16:Int).toNat (IntKind.bits .u32)))=((d>>>16:Nat):Int):=pq d 16;have k:dD (d:Int) (2^(min (8:Int).toNat (IntKind.bits .u32)))=((d>>>8:Nat):Int):=pq d 8;have b:∀x:Nat,x<4294967296→IntKind.wrap .u32 (aq (IntKind.bits .u32) (x:Int)&&&aq (IntKind.bits .u32) 255).toNat=((x&&&255:Nat):Int):=fun x hx=>by
  have:=Zt x 255;rw[dX hx]at this;rw[show((255:Nat):Int)=(255:Int)from rfl]at this
  rw[this,D4 (O7 (by omega))]
 have g:d>>>24<256:=by rw[cL];omega
 have i:∀x:Nat,x&&&255<256:=fun x=>hE Nat.and_le_right (by omega)
 have e:d>>>16<4294967296:=hE (ko d 16) hd;have m:d>>>8<4294967296:=hE (ko d 8) hd;simp only[Bd];rw[c,a,k,b _ e,b _ m,b _ hd];refine⟨by decide,_,by omega,N1 (b:=d>>>24) g,by decide,_,by omega,N1 (i _),by decide,_,by omega,N1 (i _),_,by omega,N1 (i _),?_⟩
 rw[OT,OT,OT,OT];simp only[aR];have p:=DH 8 (d>>>24);have o:=DH 8 (d>>>16&&&255);have q:=DH 8 (d>>>8&&&255);have q4:=DH 8 (d&&&255);rw[adF]at j;have f:∀n:Nat,n≤255→IntKind.wrap .u8 (n:Int)=(n:Int):=fun n s=>Go.IntWalk.u8_in _ (by omega)
 rw[←Int.natCast_add,f _ (by omega),←Int.natCast_add,f _ (by omega),←Int.natCast_add,f _ (by omega),dI (by omega)];exact j
theorem ux{d i:Nat}(hd:d<4294967296)(hi:i<32){h:ad}{K:Int→ad→Prop}(a:K (zg i d:Int) h):HC PG d9 [.int .u32 d,.int .i64 i] [.c (.int .i64)] K h:=by
 refine Fh d i ?_;unfold xT;refine ax (fun j=>?_) fun j=>?_
 ·have:i=0:=by omega
  subst this;exact a
 ·refine ax (fun h=>by omega) fun _=>⟨by omega,?_⟩
  have e:min (i:Int).toNat (IntKind.bits .u32)=i:=by rw[aR];exact bN (by show i≤32;omega)
  have c:2^i<4294967296:=Nat.pow_lt_pow_right (by omega) (show i<32 from hi)
  have b:0<2^i:=Nat.pow_pos (by omega);have f:(1*2^i:Int)=((2^i:Nat):Int):=by simp
  have g:(((2^i:Nat):Int)-1)=((2^i-1:Nat):Int):=by omega
  simp only[Bd];rw[e,f,D4 c,g,D4 (show 2^i-1<4294967296 by omega),Zt,dX hd,dX (show 2^i-1<4294967296 by omega),D4 (O7 (by omega))]
  refine DX _ ?_;unfold wZ;refine aaw (O7 (by omega)) ?_;rw[VC d i 32 (by omega)];exact a
end Go.Proofs
namespace Go.Proofs
open Go.Lift
def fm{β:Type}(g:Nat→Option β)(n:Nat):List β:=(gg n).filterMap g
def upd{β:Type}(g:Nat→Option β)(i:Nat)(x:Option β)(j:Nat):Option β:=if j=i then x else g j
theorem acS{β:Type}{f g:Nat→Option β}:∀l:List Nat,(∀j∈l,f j=g j)→l.filterMap f=l.filterMap g
 | [],_=>rfl
 |j::l,h=>by
  rw[List.filterMap_cons,List.filterMap_cons,h j (List.mem_cons_self ..),acS l fun k a=>h k (List.mem_cons_of_mem _ a)]
section
variable {β:Type} {g:Nat→Option β} {d:Nat}
theorem JT(hd:∀c,c<32→d.testBit c=(g c).isSome){i:Nat}(hi:i≤32):(fm g i).length=zg i d:=by
 unfold fm zg;rw[List.length_filterMap_eq_countP];exact List.countP_congr fun j a=>by rw[hd j (by have:=g7.1 a;omega)]
theorem uN{i n:Nat}(hi:i<n):fm g n=fm g i++((g i).toList++(gg (n-(i+1))).filterMap fun j=>g (i+1+j)):=by
 unfold fm;have e:n=i+(1+(n-(i+1))):=by omega
 rw[e,w7,oE,w7];have a:i+(1+(n-(i+1)))-(i+1)=n-(i+1):=by omega
 rw[a];congr 1
 rw[List.map_append,oE,List.map_map];congr 1
 rw[List.filterMap_map];refine acS _ fun j _=>?_
 show g (i+(1+j))=_
 rw[Nat.add_assoc]
theorem Dr{i:Nat}{x:Option β}:fm (upd g i x) i=fm g i:=by
 unfold fm;refine acS _ fun j a=>?_
 have:=g7.1 a;unfold upd;rw[if_neg (by omega)]
theorem AR{i m:Nat}{x:Option β}:((gg m).filterMap fun j=>upd g i x (i+1+j))=(gg m).filterMap fun j=>g (i+1+j):=by
 refine acS _ fun j _=>?_
 unfold upd;rw[if_neg (by omega)]
theorem YU{i:Nat}(hi:i<32)(hd:∀c,c<32→d.testBit c=(g c).isSome)(b:g i=none)(x:β):fm (upd g i (some x)) 32=(fm g 32).take (zg i d)++x::(fm g 32).drop (zg i d):=by
 have a:=JT hd (i:=i) (by omega);rw[uN (g:=upd g i (some x)) hi,uN (g:=g) hi,Dr,AR,b,dq a,cK a];simp[upd]
theorem YT{i:Nat}(hi:i<32)(hd:∀c,c<32→d.testBit c=(g c).isSome){y:β}(b:g i=some y)(x:β):fm (upd g i (some x)) 32=(fm g 32).take (zg i d)++x::(fm g 32).drop (zg i d+1):=by
 have a:=JT hd (i:=i) (by omega);rw[uN (g:=upd g i (some x)) hi,uN (g:=g) hi,Dr,AR,b,dq a,←eo,cK a];simp[upd]
theorem YV{i:Nat}(hi:i<32)(hd:∀c,c<32→d.testBit c=(g c).isSome){y:β}(b:g i=some y):fm (upd g i none) 32=(fm g 32).take (zg i d)++(fm g 32).drop (zg i d+1):=by
 have a:=JT hd (i:=i) (by omega);rw[uN (g:=upd g i none) hi,uN (g:=g) hi,Dr,AR,b,dq a,←eo,cK a];simp[upd]
theorem YW{i:Nat}(hi:i<32)(hd:∀c,c<32→d.testBit c=(g c).isSome){y:β}(b:g i=some y):(fm g 32)[zg i d]? =some y:=by
 have a:=JT hd (i:=i) (by omega);rw[uN (g:=g) hi,b,List.getElem?_append_right (by omega),a,dP];rfl
theorem Nm{i:Nat}(hi:i<32)(hd:∀c,c<32→d.testBit c=(g c).isSome){y:β}(a:g i=some y):zg i d<(fm g 32).length:=(List.getElem?_eq_some_iff.1 (YW hi hd a)).1
theorem abl{i:Nat}(hi:i<32)(hd:∀c,c<32→d.testBit c=(g c).isSome):zg i d≤(fm g 32).length:=by
 have a:=JT hd (i:=i) (by omega);rw[uN (g:=g) hi,ac];omega
theorem AS:(fm g 32).length≤32:=by
 have:=List.length_filterMap_le g (gg 32);simpa[fm]using this
end
end Go.Proofs
namespace Go.Proofs
open Go.Lift
abbrev sv(s:SliceV):Value:=.slice s.a s.len s.cap
structure Slots where
 p:Nat→Option Pr
 k:Nat→Option (Option Addr)
def gc(d n:Nat)(sp sk:SliceV)(a:Bool)(ow:Option Addr):Array Value:= #[.int .u32 (d:Int),.int .u32 (n:Int),sv sp,sv sk,.bool a,.pointer ow]
structure BitsOf(d n:Nat)(s:Slots):Prop where
 d32:d<4294967296
 n32:n<4294967296
 dp:∀c,c<32→d.testBit c=(s.p c).isSome
 nk:∀c,c<32→n.testBit c=(s.k c).isSome
structure NodeAt(W:Nat→Prop)(h:ad)(b:Nat)(s:Slots):Prop where
 ex:∃d n sp sk ow,h[b]? =some (.cells (gc d n sp sk false ow) bU (0,0))∧BitsOf d n s∧Sl eu 2 W h sp (fm s.p 32)∧Sl uJ 1 W h sk (fm s.k 32)∧sp.len≤sp.cap∧sk.len≤sk.cap
 nw:¬W b
theorem NodeAt.upd{W M:Nat→Prop}{h h':ad}{b:Nat}{s:Slots}(n:NodeAt W h b s)(k:Upd M h h')(hm:∀b,M b→W b∨h.size≤b):NodeAt W h' b s:=by
 obtain⟨d,m,sp,sk,ow,a,h2,e,c,f,i⟩:=n.ex;exact⟨⟨d,m,sp,sk,ow,k.get a (fun g=>(hm _ g).elim n.nw fun h=>by have:=bC a;omega),h2,e.upd k hm,c.upd k hm,f,i⟩,n.nw⟩
structure OwnN(M:Nat→Prop)(h:ad)(b d n:Nat)(sp sk:SliceV)(s:Slots)(ow:Option Addr):Prop where
 blk:h[b]? =some (.cells (gc d n sp sk false ow) bU (0,0))
 bits:BitsOf d n s
 ex:∃A B:Nat→Prop,OwnS eu 2 ao A h sp (fm s.p 32)∧OwnS uJ 1 ci B h sk (fm s.k 32)∧(∀x,A x→M x∧¬B x∧x≠b∧x<h.size)∧(∀x,B x→M x∧x≠b∧x<h.size)
 mb:M b
theorem AO{h:ad}{K:Bool→ad→Prop}(a:K false h):HC PG jx [.pointer none] [.c .bool] K h:=by
 refine DL none ?_;unfold wQ bK;exact ag.2 a
theorem MS{b:Nat}{h:ad}{K:Bool→ad→Prop}(a:K false h):HC PG sC [.pointer (some ⟨b,0,none⟩),.pointer none] [.c .bool] K h:=by
 refine E9 _ none ?_;unfold xM Ab;exact au.2 (AO (ag.2 a))
theorem OwnN.upd{M M':Nat→Prop}{h h':ad}{b d n:Nat}{sp sk:SliceV}{s:Slots}{ow:Option Addr}(o:OwnN M h b d n sp sk s ow)(k:Upd M' h h')(hm:∀x,M' x→¬M x):OwnN M h' b d n sp sk s ow:=by
 obtain⟨A,B,f,h2,a,c⟩:=o.ex;have z:=k.size;exact⟨k.get o.blk fun g=>hm _ g o.mb,o.bits,⟨A,B,f.upd k fun x hx e=>hm _ e (a x hx).1,h2.upd k fun x hx e=>hm _ e (c x hx).1,fun x hx=>⟨(a x hx).1,(a x hx).2.1,(a x hx).2.2.1,by have:=(a x hx).2.2.2;omega⟩,fun x hx=>⟨(c x hx).1,(c x hx).2.1,by have:=(c x hx).2.2;omega⟩⟩,o.mb⟩
set_option maxRecDepth 4000 in
theorem S6{W:Nat→Prop}{h:ad}{b:Nat}{s:Slots}(X:NodeAt W h b s){K:Option Addr→ad→Prop}
  (L:∀h' d n sp sk,OwnN (fun x=>h.size≤x) h' h.size d n sp sk s none→Upd No h h'→K (some ⟨h.size,0,none⟩) h'):
  HC PG iW [.pointer (some ⟨b,0,none⟩),.pointer none] [.c .ptr] K h:=by
 obtain⟨d,n,sp,sk,ow,a,bits,A,I,S,U⟩:=X.ex;refine Ai _ none ?_;unfold vn nv dG bK bV Ab XE o9 j4 abv;refine MS (ag.2 ?_);have c:∀{h:ad} {b:Nat} {c:Array Value} {i:Nat},h[b]? =some (.cells c bU (0,0))→aO h ⟨b,0+i,none⟩=c[i]?:=fun a=>by rw[aQ];exact bF a
 refine⟨_,rfl,_,c (i:=0) a,_,c (i:=1) a,sp,c (i:=2) a,sk,c (i:=3) a,_,c (i:=4) a,_,c (i:=5) a,?_⟩;have k1:=Upd.hnew No h [.int .u32 0,.int .u32 0,.slice none 0 0,.slice none 0 0,.bool false,.pointer none] bU;have b1:=cq h [.int .u32 0,.int .u32 0,.slice none 0 0,.slice none 0 0,.bool false,.pointer none] bU;refine bM ?_;simp only[cR h];generalize hnew h [.int .u32 0,.int .u32 0,.slice none 0 0,.slice none 0 0,.bool false,.pointer none] bU=h1 at k1 b1
 have G:jj h1 ⟨h.size,0,none⟩ 0 [.int .u32 (d:Int),.int .u32 (n:Int),.slice sp.a sp.len sp.cap,.slice sk.a sk.len sk.cap,.bool false,.pointer ow]=_:=lS _ h1 0 0 _ b1 (by simp);refine⟨.inr ⟨_,rfl,fun j V=>by rw[cp];exact iw b1 (by simp at V⊢;omega)⟩,bM ?_⟩
 rw[G];have b2:=jZ (o:=.cells (gc d n sp sk false ow) bU (0,0)) b1;have t:Upd No h _:=k1.trans (M':=(· =h.size)) (Upd.set h1 (.cells (gc d n sp sk false ow) bU (0,0)) rfl) fun x hx=>.inr (fS hx.symm)
 have D:h.size<(h1.setIfInBounds h.size (.cells (gc d n sp sk false ow) bU (0,0))).size:=bC b2;have hbb:h.size≠b:=fun e=>by have:=bC a;omega
 have Z:(Obj.cells (List.take (0+0) [Value.int .u32 0,.int .u32 0,.slice none 0 0,.slice none 0 0,.bool false,.pointer none]++ [Value.int .u32 (d:Int),.int .u32 (n:Int),.slice sp.a sp.len sp.cap,.slice sk.a sk.len sk.cap,.bool false,.pointer ow]++List.drop (0+0+ [Value.int .u32 (d:Int),.int .u32 (n:Int),.slice sp.a sp.len sp.cap,.slice sk.a sk.len sk.cap,.bool false,.pointer ow].length) [Value.int .u32 0,.int .u32 0,.slice none 0 0,.slice none 0 0,.bool false,.pointer none]).toArray bU (0,0))=.cells (gc d n sp sk false ow) bU (0,0):=rfl
 rw[Z];generalize h1.setIfInBounds h.size (.cells (gc d n sp sk false ow) bU (0,0))=h2 at b2 t D;have q:=t.get0 a;refine⟨_,rfl,sp,c (i:=2) q,_,rfl,sk,c (i:=3) q,?_⟩;refine yL (A.upd t fun _ h=>h.elim) (by have:=AS (g:=s.p);omega) fun z P E m=>?_
 refine⟨c (i:=3) (m.get0 q),?_⟩;refine Gn ((I.upd t fun _ h=>h.elim).upd m fun _ h=>h.elim) (by have:=AS (g:=s.k);omega) fun F Y M p=>?_
 have N:=p.get0 (m.get0 b2);have u:=E.within.upd p fun _ _ h=>h
 have y:=M.within;have z3:=m.size;have z4:=p.size;have w:∀{h:ad} {c:Array Value} {x i:Nat},h[x]? =some (.cells c bU (0,0))→i<c.size→Wr h ⟨x,0+i,none⟩:=fun a hi=>by rw[aQ];exact iw a hi
 have st:∀{h:ad} {c c':Array Value} {x i:Nat} {v:Value} {k:ad→Prop},h[x]? =some (.cells c bU (0,0))→c.setIfInBounds i v=c'→(∀h',h'[x]? =some (.cells c' bU (0,0))→Upd (· =x) h h'→k h')→At (hset h ⟨x,i,none⟩ v) k:=fun a e L=>wK a fun h' B R=>L h' (e▸B) R
 refine⟨w (i:=2) N (show 2<6 by decide),st (i:=2) (c':=gc d n z sk false ow) N rfl fun h5 O C=>?_⟩
 refine⟨w (i:=3) O (show 3<6 by decide),st (i:=3) (c':=gc d n z F false ow) O rfl fun h6 Q H=>?_⟩
 refine⟨w (i:=5) Q (show 5<6 by decide),st (i:=5) (c':=gc d n z F false none) Q rfl fun h7 T J=>?_⟩
 refine AO (ag.2 ?_);have f:=C.tr (H.tr J);have z7:=f.size;refine L _ d n z F ⟨T,bits,⟨fun x=>h2.size≤x∧x<P.size,fun x=>P.size≤x∧x<Y.size,u.upd f fun x hx e=>by have e:x=h.size:=e;omega,y.upd f fun x hx e=>by have e:x=h.size:=e;omega,fun x hx=>⟨by omega,by omega,by omega,by omega⟩,fun x hx=>⟨by omega,by omega,by omega⟩⟩,aj _⟩ ?_
 exact((t.tr m).tr p).trans f fun x hx=>.inr (fS hx.symm)
end Go.Proofs
namespace Go.Proofs
open Go.Lift
theorem yq{β:Type}{g:Nat→Option β}{i:Nat}(h:g i=none):upd g i none=g:=by
 funext j;unfold upd;split
 ·rename_i e;rw[e,h]
 ·rfl
theorem fF{h:ad}{b:Nat}{c:Array Value}{t:TypeId}{i:Nat}(a:h[b]? =some (.cells c t (0,0))):aO h ⟨b,0+i,none⟩=c[i]?:=by rw[aQ];exact bF a
theorem ZR{h:ad}{b:Nat}{c:Array Value}{t:TypeId}{i:Nat}(a:h[b]? =some (.cells c t (0,0))) (hi:i<c.size):Wr h ⟨b,0+i,none⟩:=by rw[aQ];exact iw a hi
theorem Ly{h:ad}{b:Nat}{c c':Array Value}{t:TypeId}{i:Nat}{v:Value}{k:ad→Prop}(f:h[b]? =some (.cells c t (0,0))) (e:c.setIfInBounds i v=c')
 (d:∀h',h'[b]? =some (.cells c' t (0,0))→Upd (· =b) h h'→k h'):At (hset h ⟨b,i,none⟩ v) k:=wK f fun h' a g=>d h' (e▸a) g
theorem OL{M:Nat→Prop}{h:ad}{b d n:Nat}{sp sk:SliceV}{s:Slots}{ow:Option Addr}(o:OwnN M h b d n sp sk s ow){i:Nat}(hi:i<32){K:Unit→ad→Prop}
  (X:∀h' v n' sp' sk',OwnN M h' b v n' sp' sk' ⟨upd s.p i none,upd s.k i none⟩ ow→Upd M h h'→K () h'):HC PG l8 [.pointer (some ⟨b,0,none⟩),.int .i64 i] [] K h:=by
 obtain⟨A,B,T,V,a,m⟩:=o.ex;have bits:=o.bits;refine E7 _ i ?_;unfold xK dG bV PT j4 rc;have U:∀k:Nat,k≤100→IntKind.wrap .i64 ((k:Int)+1)=((k+1:Nat):Int):=fun k X=>by rw[dI (by omega)];omega
 have hc1:=DH i d;have hc2:=DH i n;have N:∀x,A x→M x∨h.size≤x:=fun x hx=>.inl (a x hx).1
 refine Join.intro (fun _ h'=>∃sp',h'[b]? =some (.cells (gc d n sp' sk false ow) bU (0,0))∧OwnS eu 2 ao A h' sp' (fm (upd s.p i none) 32)∧OwnS uJ 1 ci B h' sk (fm s.k 32)∧Upd M h h') (fun R D=>?_) ?_
 ·refine⟨_,rfl,_,fF (i:=0) o.blk,Gc bits.d32 hi ?_⟩
  rw[bits.dp i hi];cases hp:s.p i with
  |none=>exact ag.2 (D _ _ ⟨sp,o.blk,by rw[yq hp];exact T,V,Upd.refl _ _⟩)
  |some y=>
   refine au.2 ⟨_,rfl,_,fF (i:=0) o.blk,ux bits.d32 hi ⟨_,rfl,sp,fF (i:=2) o.blk,?_⟩⟩;rw[U _ (by omega)];refine TJ T (Nm hi bits.dp hp) (by have:=AS (g:=s.p);omega) fun C h2 t f=>?_
   rw[←YV hi bits.dp hp]at t;have b2:=f.get o.blk fun I=>(a b I).2.2.1 rfl
   refine⟨_,rfl,ZR (i:=2) b2 (show 2<6 by decide),Ly (i:=2) (c':=gc d n C sk false ow) b2 rfl fun W b3 j=>?_⟩
   refine D _ _ ⟨C,b3,t.upd j fun x hx e=>(a x hx).2.2.1 e,(V.upd f fun x hx P=>(a x P).2.1 hx).upd j fun x hx e=>(m x hx).2.1 e,(f.mono N).tr (j.mono fun x e=>.inl (e▸o.mb))⟩
 rintro _ Z ⟨q,b1,w,F,E⟩;refine Join.intro (fun _ h'=>∃sk',h'[b]? =some (.cells (gc d n q sk' false ow) bU (0,0))∧OwnS eu 2 ao A h' q (fm (upd s.p i none) 32)∧OwnS uJ 1 ci B h' sk' (fm (upd s.k i none) 32)∧Upd M Z h') (fun R D=>?_) ?_
 ·refine⟨_,rfl,_,fF (i:=1) b1,Gc bits.n32 hi ?_⟩
  rw[bits.nk i hi];cases hp:s.k i with
  |none=>exact ag.2 (D _ _ ⟨sk,b1,w,by rw[yq hp];exact F,Upd.refl _ _⟩)
  |some y=>
   refine au.2 ⟨_,rfl,_,fF (i:=1) b1,ux bits.n32 hi ⟨_,rfl,sk,fF (i:=3) b1,?_⟩⟩;rw[U _ (by omega)];refine TK F (Nm hi bits.nk hp) (by have:=AS (g:=s.k);omega) fun C h2 t f=>?_
   rw[←YV hi bits.nk hp]at t;have b2:=f.get b1 fun I=>(m b I).2.1 rfl
   refine⟨_,rfl,ZR (i:=3) b2 (show 3<6 by decide),Ly (i:=3) (c':=gc d n q C false ow) b2 rfl fun W b3 j=>?_⟩
   refine D _ _ ⟨C,b3,(w.upd f fun x hx P=>(a x hx).2.1 P).upd j fun x hx e=>(a x hx).2.2.1 e,t.upd j fun x hx e=>(m x hx).2.1 e,(f.mono fun x hx=>.inl (m x hx).1).tr (j.mono fun x e=>.inl (e▸o.mb))⟩
 rintro _ h2 ⟨u,b2,H,Q,f⟩;refine⟨_,rfl,_,fF (i:=0) b2,_,rfl,_,fF (i:=1) b2,?_⟩;refine IB bits.d32 hi fun v J O=>⟨fF (i:=1) b2,?_⟩
 refine IB bits.n32 hi fun n' G L=>?_
 refine⟨_,rfl,ZR (i:=0) b2 (show 0<6 by decide),Ly (i:=0) (c':=gc v n q u false ow) b2 rfl fun W b3 j=>?_⟩
 refine⟨_,rfl,ZR (i:=1) b3 (show 1<6 by decide),Ly (i:=1) (c':=gc v n' q u false ow) b3 rfl fun h4 Y S=>?_⟩
 have p:=j.tr S;have z:=(E.tr (f.tr (p.mono (M':=M) fun x e=>.inl (e▸o.mb)))).size
 refine X h4 v n' q u ⟨Y,⟨J,G,fun c hc=>?_,fun c hc=>?_⟩,⟨A,B,H.upd p fun x hx e=>(a x hx).2.2.1 e,Q.upd p fun x hx e=>(m x hx).2.1 e,fun x hx=>⟨(a x hx).1,(a x hx).2.1,(a x hx).2.2.1,by have:=(a x hx).2.2.2;omega⟩,fun x hx=>⟨(m x hx).1,(m x hx).2.1,by have:=(m x hx).2.2;omega⟩⟩,o.mb⟩ (E.tr (f.tr (p.mono fun x e=>.inl (e▸o.mb))))
 ·rw[O,bits.dp c hc];simp only[upd];split<;>simp[*]
 ·rw[L,bits.nk c hc];simp only[upd];split<;>simp[*]
end Go.Proofs
namespace Go.Proofs
open Go.Lift
theorem OwnS.setAt{α:Type}{f:α→List Value}{c:Nat}{t:TypeId}{M:Nat→Prop}{h:ad}{s:SliceV}{xs:List α}(m:OwnS f c t M h s xs){k:Nat}(n:k<xs.length)(x:α):
  ∃a,s.a=some a∧M a.block∧wn h (some (adr a (k*c))) 0 (f x)∧OwnS f c t M (jj h (adr a (k*c)) 0 (f x)) s (xs.take k++x::xs.drop (k+1))∧Upd (· =a.block) h (jj h (adr a (k*c)) 0 (f x)):=by
 have i:∀x,(f x).length=c∧0<c:=m.ne;have w:=m.len;have g:=m.cap;rcases m.blk with F|⟨b,e,v,q,hc,y⟩
 ·omega
 have o:((xs.take k).flatMap f).length=k*c:=by rw[nr i,aI,bN (by omega)]
 have z:xs.flatMap f=(xs.take k).flatMap f++(f xs[k]++(xs.drop (k+1)).flatMap f):=by
  rw[←aP,←eH n];exact DF xs k
 rw[z]at hc;have C:=(i xs[k]).1;have D:=(i x).1;have d:(xs.take k++x::xs.drop (k+1)).flatMap f=(xs.take k).flatMap f++(f x++(xs.drop (k+1)).flatMap f):=by rw[bR,aP]
 generalize (xs.take k).flatMap f=A at o hc d;generalize (xs.drop (k+1)).flatMap f=B at hc d;generalize f xs[k]=X at C hc;have u:k*c+0+(f x).length≤(A++(X++B)++e).length:=by simp only[ac];omega
 have p:adr ⟨b,0,none⟩ (k*c)=⟨b,k*c,none⟩:=by rw[cp,aQ]
 refine⟨⟨b,0,none⟩,v,q,?_,?_,?_⟩
 ·rw[p]
  refine .inr ⟨_,rfl,fun j E=>?_⟩
  rw[cp];exact iw hc (by rw[List.size_toArray];omega)
 ·rw[p,lS (f x) h 0 (k*c) _ hc u]
  refine⟨by simp;omega,i,g,.inr ⟨b,e,v,q,?_,?_⟩⟩
  ·rw[jZ hc,d]
   congr 3
   rw[Nat.add_zero,ar A,dq o,←eo,cK o,ar X,cK (by omega)];simp only[ar]
  ·exact y
 ·rw[p,lS (f x) h 0 (k*c) _ hc u]
  exact Upd.set h _ rfl
theorem OwnN.node{M W:Nat→Prop}{h:ad}{b d n:Nat}{sp sk:SliceV}{s:Slots}{ow:Option Addr}(o:OwnN M h b d n sp sk s ow)(a:∀x,M x→¬W x):NodeAt W h b s:=by
 obtain⟨A,B,c,h2,f,e⟩:=o.ex;exact⟨⟨d,n,sp,sk,ow,o.blk,o.bits,c.sl fun x hx _=>a _ (f x hx).1,h2.sl fun x hx _=>a _ (e x hx).1,c.cap,h2.cap⟩,a _ o.mb⟩
theorem JO{W:Nat→Prop}{h:ad}{b:Nat}{s:Slots}(a:NodeAt W h b s){i:Nat}(hi:i<32){K:Bool→ad→Prop}(c:K true h):HC PG l9 [.pointer (some ⟨b,0,none⟩),.int .i64 i] [.c .bool] K h:=by
 obtain⟨d,n,sp,sk,ow,e,_⟩:=a.ex;refine E8 _ i ?_;unfold xL bK;refine au.2 ⟨_,rfl,_,fF (i:=4) e,au.2 ?_⟩;refine ax (fun _=>?_) fun h=>absurd (Int.natCast_nonneg i) h
 rw[decide_eq_true (by omega)];exact c
theorem UO{β:Type}{g:Nat→Option β}{i:Nat}{x y:Option β}:upd (upd g i x) i y=upd g i y:=by
 funext j;unfold upd;split<;>rfl
theorem gS{β:Type}{g:Nat→Option β}{i:Nat}{x:Option β}:upd g i x i=x:=by simp[upd]
theorem tP{W:Nat→Prop}{h:ad}{b:Nat}{s:Slots}(nd:NodeAt W h b s)(hW:∀x,W x→x<h.size){i:Nat}(hi:i<32)(hx:∀y,s.p i=some y→s.k i=none)(p:Pr){K:Option Addr→ad→Prop}
  (hk:∀h' b',NodeAt W h' b' ⟨upd s.p i (some p),upd s.k i none⟩→Upd No h h'→K (some ⟨b',0,none⟩) h'):
  HC PG eZ [.pointer (some ⟨b,0,none⟩),.pointer none,.int .i64 i,.agg #[.string p.1,.string p.2]] [.c .ptr] K h:=by
 refine Cf _ none i p ?_;unfold vG bX az is vu dG w9 bV gD o9 j4 rc;have k1:=Upd.hnew No h [.string p.1,.string p.2] ao;have b1:=cq h [.string p.1,.string p.2] ao;refine bM ?_;simp only[cR h];generalize hnew h [.string p.1,.string p.2] ao=h1 at k1 b1;have z1:=bC b1;have V:=nd.upd k1 fun _ h=>h.elim
 refine JO V hi (ag.2 ?_);refine S6 V fun h2 d n sp sk o I=>?_
 have bits:=o.bits;obtain⟨A,B,hA,hB,q,J⟩:=o.ex;have F:=k1.tr I;have u:=I.get0 b1;have U:∀x,h1.size≤x→¬W x:=fun x hx Q=>by have:=hW x Q;omega
 refine⟨_,rfl,_,fF (i:=0) o.blk,Gc bits.d32 hi ?_⟩;rw[bits.dp i hi];cases hp:s.p i with
 |some y=>
  refine au.2 ⟨_,rfl,sp,fF (i:=2) o.blk,_,rfl,_,fF (i:=0) o.blk,p.1,by rw[cp,bF u];rfl,p.2,by rw[cp,bF u];rfl,?_⟩
  refine ux bits.d32 hi ⟨⟨by rw[cp,bF u];rfl,by rw[cp,bF u];rfl⟩,fF (i:=2) o.blk,?_⟩
  have hlt:=Nm hi bits.dp hp;obtain⟨a,ha,L,Q,R,m⟩:=OwnS.setAt hA hlt p;have hlen:=hA.len;refine⟨by omega,a,ha,?_⟩;rw[aR];refine⟨Q,bM ?_⟩;rw[←YT hi bits.dp hp]at R;have ob:=m.get o.blk fun e=>(q _ L).2.2.1 e.symm
  have z3:=m.size;have D:OwnN (fun x=>h1.size≤x) _ h1.size d n sp sk ⟨upd s.p i (some p),upd s.k i none⟩ none:=⟨ob,⟨bits.d32,bits.n32,fun c hc=>by
    rw[bits.dp c hc];simp only[upd];split
    ·rename_i e;rw[e,hp];rfl
    ·rfl,fun c hc=>by rw[bits.nk c hc,yq (hx y hp)]⟩,
   ⟨A,B,R,by rw[yq (hx y hp)];exact hB.upd m fun x hx e=>(q _ L).2.1 (e▸hx),fun x hx=>⟨(q x hx).1,(q x hx).2.1,(q x hx).2.2.1,by have:=(q x hx).2.2.2;omega⟩,fun x hx=>⟨(J x hx).1,(J x hx).2.1,by have:=(J x hx).2.2;omega⟩⟩,o.mb⟩
  refine hk _ _ (D.node U) (F.trans m fun x hx=>.inr ?_)
  have:=(q _ L).1;have hx:x=a.block:=hx;omega
 |none=>
  refine ag.2 ⟨_,rfl,OL o hi fun C d3 n3 E H D m=>?_⟩
  have f:=D.bits;obtain⟨A3,B3,hA3,hB3,j,k⟩:=D.ex;have z2:=I.size;have z3:=m.size;have z:=m.get u (show ¬h1.size≤h.size by omega)
  have Z:Upd No h C:=F.trans m fun x hx=>.inr (bh (Nat.le_of_lt z1) hx)
  refine⟨_,rfl,E,fF (i:=2) D.blk,_,rfl,_,fF (i:=0) D.blk,p.1,by rw[cp,bF z];rfl,p.2,by rw[cp,bF z];rfl,?_⟩
  have P:=Upd.hnew No C [.string p.1,.string p.2] ao;have b4:=cq C [.string p.1,.string p.2] ao;have z4:=jw C [.string p.1,.string p.2] ao;have M:=D.upd P fun _ h=>h.elim
  have S:HC PG dK [.slice E.a E.len E.cap,.int .i64 (zg i d3),.slice (some (aG C)) 1 1] [.c .slice] (fun(G:SliceV) Y=>
       ∃a34:Addr,some (⟨h1.size,0,none⟩:Addr)=some a34∧
       (Wr Y (adr (adr a34 0) 2)∧
        At (hset Y (adr (adr a34 0) 2) (.slice G.a G.len G.cap)) (fun O=>
         ∃a36:Addr,some (⟨h1.size,0,none⟩:Addr)=some a36∧
         ∃v37:Int,aO O (adr (adr a36 0) 0)=some (.int .u32 v37)∧
         HC PG gN [.int .u32 v37,.int .i64 i] [.c (.int .u32)] (fun(e38:Int) T=>
          ∃a40:Addr,some (⟨h1.size,0,none⟩:Addr)=some a40∧
          (Wr T (adr (adr a40 0) 0)∧
           At (hset T (adr (adr a40 0) 0) (.int .u32 e38)) (fun h41=>
            K (some ⟨h1.size,0,none⟩) h41))) O))) (hnew C [.string p.1,.string p.2] ao):=by
   generalize hnew C [.string p.1,.string p.2] ao=h4 at P b4 z4 M;rw[cR C];have hA4:=(hA3.upd P fun _ _ h=>h).more (M':=fun x=>A3 x∨h4.size≤x) fun x hx=>.inl hx
   have hpn:(⟨upd s.p i none,upd s.k i none⟩:Slots).p i=none:=gS;refine Ts hA4 (abl hi f.dp) (by have:=AS (g:=(⟨upd s.p i none,upd s.k i none⟩:Slots).p);omega) (x:=p) b4 (fun e=>e.elim (fun e=>by have:=(j _ e).2.2.2;omega) fun e=>by omega) (fun x hx=>.inr hx) fun s5 h5 N v=>?_
   rw[←YU hi f.dp hpn p]at N;have hbl:h1.size<C.size:=bC D.blk;have b5:=v.get M.blk fun e=>e.elim (fun e=>(j _ e).2.2.1 rfl) fun e=>by omega
   refine⟨_,rfl,ZR (i:=2) b5 (show 2<6 by decide),Ly (i:=2) (c':=gc d3 n3 s5 H false none) b5 rfl fun h6 b6 hu6=>?_⟩
   refine⟨_,rfl,_,fF (i:=0) b6,UN f.d32 hi fun w Q hwt=>?_⟩
   refine⟨_,rfl,ZR (i:=0) b6 (show 0<6 by decide),Ly (i:=0) (c':=gc w n3 s5 H false none) b6 rfl fun h7 b7 hu7=>?_⟩
   have t:=hu6.tr hu7;have z5:=v.size;have z7:=t.size;have X:=N.within;have e1:(⟨upd (⟨upd s.p i none,upd s.k i none⟩:Slots).p i (some p),upd s.k i none⟩:Slots)=⟨upd s.p i (some p),upd s.k i none⟩:=by rw[UO]
   have o7:OwnN (fun x=>h1.size≤x) h7 h1.size w n3 s5 H ⟨upd s.p i (some p),upd s.k i none⟩ none:=by
    rw[←e1];refine⟨b7,⟨Q,f.n32,fun c hc=>?_,f.nk⟩,⟨fun x=>(A3 x∨h4.size≤x)∧x<h5.size,B3,X.upd t fun x hx e=>?_,((hB3.upd P fun _ _ h=>h).upd v fun x hx e=>?_).upd t fun x hx e=>(k x hx).2.1 e,fun x hx=>⟨?_,?_,?_,by omega⟩,fun x hx=>⟨(k x hx).1,(k x hx).2.1,by have:=(k x hx).2.2;omega⟩⟩,o.mb⟩
    ·rw[hwt,f.dp c hc];simp only[upd];split<;>simp[*]
    ·have e:x=h1.size:=e
     rcases hx.1 with h|h
     ·exact(j x h).2.2.1 e
     ·omega
    ·rcases e with e|e
     ·exact(j x e).2.1 hx
     ·have:=(k x hx).2.2;omega
    ·rcases hx.1 with h|h
     ·exact(j x h).1
     ·omega
    ·rcases hx.1 with h|h
     ·exact(j x h).2.1
     ·exact fun hb=>by have:=(k x hb).2.2;omega
    ·rcases hx.1 with h|h
     ·exact(j x h).2.2.1
     ·omega
   refine hk _ _ (o7.node U) (((Z.tr P).trans v fun x hx=>.inr ?_).trans t fun x hx=>.inr ?_)
   ·rcases hx with h|h
    ·have:=(j x h).1;omega
    ·omega
   ·have hx:x=h1.size:=hx
    omega
  refine⟨ux f.d32 hi ⟨⟨by rw[cp,bF z];rfl,by rw[cp,bF z];rfl⟩,fF (i:=2) D.blk,bM ⟨fF (i:=2) M.blk,S⟩⟩,bM ⟨fF (i:=0) M.blk,fF (i:=2) M.blk,ux f.d32 hi ⟨fF (i:=2) M.blk,S⟩⟩⟩
end Go.Proofs
namespace Go.Proofs
open Go.Lift
theorem Za{W:Nat→Prop}{h:ad}{b:Nat}{s:Slots}(e:NodeAt W h b s)(p:∀x,W x→x<h.size){i:Nat}(hi:i<32){K:Option Addr→ad→Prop}
  (m:∀h' b',NodeAt W h' b' ⟨upd s.p i none,upd s.k i none⟩→Upd No h h'→K (some ⟨b',0,none⟩) h'):
  HC PG oJ [.pointer (some ⟨b,0,none⟩),.pointer none,.int .i64 i] [.c .ptr] K h:=by
 refine Fb _ none i ?_;unfold xO vu o9;refine JO e hi (ag.2 ?_);refine S6 e fun h2 d n sp sk o a=>⟨_,rfl,OL o hi fun t q u f j k c=>?_⟩
 exact m _ _ (k.node fun x hx g=>by have:=p x g;omega) (a.trans c fun x hx=>.inr hx)
theorem yu{W:Nat→Prop}{h:ad}{b:Nat}{s:Slots}(nd:NodeAt W h b s)(hW:∀x,W x→x<h.size){i:Nat}(hi:i<32)(hx:∀y,s.k i=some y→s.p i=none)(kid:Addr){K:Option Addr→ad→Prop}
  (hk:∀h' b',NodeAt W h' b' ⟨upd s.p i none,upd s.k i (some (some kid))⟩→Upd No h h'→K (some ⟨b',0,none⟩) h'):
  HC PG gd [.pointer (some ⟨b,0,none⟩),.pointer none,.int .i64 i,.pointer (some kid)] [.c .ptr] K h:=by
 refine DU _ none i (some kid) ?_;unfold wX bX vu dG bV o9 NW j4 rc;refine ag.2 ?_;refine JO nd hi (ag.2 ?_);refine S6 nd fun h2 d n sp sk o F=>?_
 have bits:=o.bits;obtain⟨A,B,hA,hB,q,t⟩:=o.ex;have Q:∀x,h.size≤x→¬W x:=fun x hx z=>by have:=hW x z;omega
 refine⟨_,rfl,_,fF (i:=1) o.blk,Gc bits.n32 hi ?_⟩;rw[bits.nk i hi];cases hp:s.k i with
 |some y=>
  refine au.2 ⟨_,rfl,sk,fF (i:=3) o.blk,_,rfl,_,fF (i:=1) o.blk,?_⟩;refine ux bits.n32 hi ⟨fF (i:=3) o.blk,?_⟩;have hlt:=Nm hi bits.nk hp;obtain⟨a,ha,H,z,N,m⟩:=OwnS.setAt hB hlt (some kid);have hlen:=hB.len;refine⟨by omega,a,ha,?_⟩;rw[aR];have hw1:Wr h2 (adr a (zg i n*1)):=by
   rcases z with z|⟨b',X,z⟩
   ·cases z
   ·cases X;exact z 0 (by simp)
  refine⟨hw1,bM ?_⟩;rw[←YT hi bits.nk hp]at N;have ob:=m.get o.blk fun e=>(t _ H).2.1 e.symm
  have z3:=m.size;have D:OwnN (fun x=>h.size≤x) _ h.size d n sp sk ⟨upd s.p i none,upd s.k i (some (some kid))⟩ none:=⟨ob,⟨bits.d32,bits.n32,fun c hc=>by rw[bits.dp c hc,yq (hx y hp)],fun c hc=>by
    rw[bits.nk c hc];simp only[upd];split
    ·rename_i e;rw[e,hp];rfl
    ·rfl⟩,
   ⟨A,B,by rw[yq (hx y hp)];exact hA.upd m fun x hx e=>(q _ hx).2.1 (e▸H),N,fun x hx=>⟨(q x hx).1,(q x hx).2.1,(q x hx).2.2.1,by have:=(q x hx).2.2.2;omega⟩,fun x hx=>⟨(t x hx).1,(t x hx).2.1,by have:=(t x hx).2.2;omega⟩⟩,o.mb⟩
  refine hk _ _ (D.node Q) (F.trans m fun x hx=>.inr ?_)
  have:=(t _ H).1;have hx:x=a.block:=hx;omega
 |none=>
  refine ag.2 ⟨_,rfl,OL o hi fun C U n3 G v D m=>?_⟩
  have f:=D.bits;obtain⟨A3,B3,hA3,Y,j,k⟩:=D.ex;have z2:=F.size;have z3:=m.size;have T:Upd No h C:=F.trans m fun x hx=>.inr hx
  refine⟨_,rfl,v,fF (i:=3) D.blk,_,rfl,_,fF (i:=1) D.blk,?_⟩;have M:=Upd.hnew No C [.pointer (some kid)] ci;have b4:=cq C [.pointer (some kid)] ci;have z4:=jw C [.pointer (some kid)] ci;have I:=D.upd M fun _ h=>h.elim
  have P:HC PG c7 [.slice v.a v.len v.cap,.int .i64 (zg i n3),.slice (some (aG C)) 1 1] [.c .slice] (fun(E:SliceV) S=>
       ∃a34:Addr,some (⟨h.size,0,none⟩:Addr)=some a34∧
       (Wr S (adr (adr a34 0) 3)∧
        At (hset S (adr (adr a34 0) 3) (.slice E.a E.len E.cap)) (fun L=>
         ∃a36:Addr,some (⟨h.size,0,none⟩:Addr)=some a36∧
         ∃v37:Int,aO L (adr (adr a36 0) 1)=some (.int .u32 v37)∧
         HC PG gN [.int .u32 v37,.int .i64 i] [.c (.int .u32)] (fun(e38:Int) O=>
          ∃a40:Addr,some (⟨h.size,0,none⟩:Addr)=some a40∧
          (Wr O (adr (adr a40 0) 1)∧
           At (hset O (adr (adr a40 0) 1) (.int .u32 e38)) (fun h41=>
            K (some ⟨h.size,0,none⟩) h41))) L))) (hnew C [.pointer (some kid)] ci):=by
   generalize hnew C [.pointer (some kid)] ci=h4 at M b4 z4 I;rw[cR C];have V:=(Y.upd M fun _ _ h=>h).more (M':=fun x=>B3 x∨h4.size≤x) fun x hx=>.inl hx
   have hpn:(⟨upd s.p i none,upd s.k i none⟩:Slots).k i=none:=gS;refine Tt V (abl hi f.nk) (by have:=AS (g:=(⟨upd s.p i none,upd s.k i none⟩:Slots).k);omega) (x:=some kid) b4 (fun e=>e.elim (fun e=>by have:=(k _ e).2.2;omega) fun e=>by omega) (fun x hx=>.inr hx) fun s5 h5 J u=>?_
   rw[←YU hi f.nk hpn (some kid)]at J;have hbl:h.size<C.size:=bC D.blk;have b5:=u.get I.blk fun e=>e.elim (fun e=>(k _ e).2.1 rfl) fun e=>by omega
   refine⟨_,rfl,ZR (i:=3) b5 (show 3<6 by decide),Ly (i:=3) (c':=gc U n3 G s5 false none) b5 rfl fun h6 b6 hu6=>?_⟩
   refine⟨_,rfl,_,fF (i:=1) b6,UN f.n32 hi fun w z Z=>?_⟩
   refine⟨_,rfl,ZR (i:=1) b6 (show 1<6 by decide),Ly (i:=1) (c':=gc U w G s5 false none) b6 rfl fun h7 b7 hu7=>?_⟩
   have p:=hu6.tr hu7;have z5:=u.size;have z7:=p.size;have R:=J.within;have e1:(⟨upd s.p i none,upd (⟨upd s.p i none,upd s.k i none⟩:Slots).k i (some (some kid))⟩:Slots)=⟨upd s.p i none,upd s.k i (some (some kid))⟩:=by rw[UO]
   have o7:OwnN (fun x=>h.size≤x) h7 h.size U w G s5 ⟨upd s.p i none,upd s.k i (some (some kid))⟩ none:=by
    rw[←e1];refine⟨b7,⟨f.d32,z,f.dp,fun c hc=>?_⟩,⟨A3,fun x=>(B3 x∨h4.size≤x)∧x<h5.size,((hA3.upd M fun _ _ h=>h).upd u fun x hx e=>?_).upd p fun x hx e=>(j x hx).2.2.1 e,R.upd p fun x hx e=>?_,fun x hx=>⟨(j x hx).1,?_,(j x hx).2.2.1,by have:=(j x hx).2.2.2;omega⟩,fun x hx=>⟨?_,?_,by omega⟩⟩,o.mb⟩
    ·rw[Z,f.nk c hc];simp only[upd];split<;>simp[*]
    ·rcases e with e|e
     ·exact(j x hx).2.1 e
     ·have:=(j x hx).2.2.2;omega
    ·have e:x=h.size:=e
     rcases hx.1 with h|h
     ·exact(k x h).2.1 e
     ·omega
    ·rintro⟨h|h,_⟩
     ·exact(j x hx).2.1 h
     ·have:=(j x hx).2.2.2;omega
    ·rcases hx.1 with h|h
     ·exact(k x h).1
     ·omega
    ·rcases hx.1 with h|h
     ·exact(k x h).2.1
     ·omega
   refine hk _ _ (o7.node Q) (((T.tr M).trans u fun x hx=>.inr ?_).trans p fun x hx=>.inr ?_)
   ·rcases hx with h|h
    ·exact(k x h).1
    ·omega
   ·have hx:x=h.size:=hx
    omega
  refine⟨ux f.n32 hi ⟨fF (i:=3) D.blk,bM ⟨fF (i:=3) I.blk,P⟩⟩,bM ⟨fF (i:=1) I.blk,fF (i:=3) I.blk,ux f.n32 hi ⟨fF (i:=3) I.blk,P⟩⟩⟩
end Go.Proofs
