/- A part of the proof that the named laws of this program answer true, whatever the input. -/
import Derived.Test.YtncppacbfagpgaaGreatDoorPart0
import Derived.Sort.Walk0
open BitVec renaming ofInt→ao,ofInt_natCast→gm,getLsbD_ofNat→pt
open Bool renaming eq_iff_iff→lU
open Int renaming toNat_natCast→aU,fdiv→ed,fdiv_eq_ediv_of_nonneg→iQ
open List renaming length_take→aQ,length_drop→aV,flatMap_cons→aN,drop_eq_getElem_cons→fq,flatMap_append→bI,length_eq_zero_iff→aA,length_append→ac,append_assoc→aq,drop_left'→cP,take_left'→dE,drop_drop→dZ,drop_append_of_le_length→gQ,getElem_cons_zero→gB,length_cons→ar,pairwise_iff_getElem→cn,getElem?_eq_getElem→af,any_eq_true→cE,replicate→iJ,replicate_succ→qd,flatten_append→iS,flatten_cons→iM,flatten_nil→ua,length→fP,take_of_length_le→bD,range→gh,range_add→wL,mem_range→g9,filterMap_cons→mD,filterMap_append→oq
open Nat renaming le_refl→aj,min_eq_left→bH,sub_self→gA,zero_mul→vJ,sub_zero→fz,lt_or_ge→bR,zero_le→aS,le_trans→aX,testBit_shiftRight→sM,testBit_and→kw,testBit_two_pow_sub_one→oG,shiftRight_eq_div_pow→cK,lt_of_le_of_lt→hH,shiftRight_le→j6,mod_eq_of_lt→dS,testBit_two_pow→qb,testBit_lt_two_pow→iH,lt_of_lt_of_le→aG,pow_le_pow_right→gg,zero_add→aR,le_of_eq→eY
open UInt8 renaming ofNat→ii
namespace Go.Proofs
open Go Go.Lift
theorem yA{W:Nat→Prop}{h:ad}{s:SliceV}{xs:List (ByteArray×ByteArray)}(d:Sl ey 2 W h s xs)(k:xs.length*32≤140737488355328){K:SliceV→ad→Prop}
  (e:∀s' h',OwnS ey 2 al (fun b=>h.size≤b) h' s' xs→Upd No h h'→K s' h'):HC PG cY [.slice s.a s.len s.cap] [.c .slice] K h:=by
 refine p8 s ?_;unfold kH lO;refine CondP.intro (fun c=>?_) (fun i=>?_)
 ·have c:s.a=none:=by simpa using c
  have hx:xs= []:=by
   by_cases hx:xs= []
   ·exact hx
   ·obtain⟨a,g,_⟩:=d.row hx
    rw[c]at g;cases g
  subst hx;exact e _ _ (OwnS.nil fU) (Upd.refl _ _)
 ·have h2:=d.upd (Upd.hnew No h [] al) (fun _ h=>h.elim)
  refine⟨_,h2.srow,?_⟩;refine AppP.own (f:=ey) (M:=fun b=>h.size≤b) (xs:= []) (ys:=xs) ⟨rfl,fU,aj _,.inl rfl⟩ d.len rfl (za xs) rfl (by omega) (by simpa using k) (by rw[jV];omega) fun s' h' n j=>?_
  exact e _ _ n ((Upd.hnew No h [] al).trans j fun b m=>.inr m)
theorem Ta{M:Nat→Prop}{h:ad}{s:SliceV}{xs:List (ByteArray×ByteArray)}(x:OwnS ey 2 al M h s xs){k:Nat}(t:k<xs.length)(N:xs.length≤4398046511104)
  {K:SliceV→ad→Prop}(H:∀s' h',OwnS ey 2 al M h' s' (xs.take k++xs.drop (k+1))→Upd M h h'→K s' h'):
  HC PG gz [.slice s.a s.len s.cap,.int .i64 k,.int .i64 ((k+1:Nat):Int)] [.c .slice] K h:=by
 refine pO s k ((k+1:Nat):Int) ?_;unfold j4 lO;have d:=x.len;have C:=x.cap;rcases x.blk with O|⟨b,a,L,y,hc,F⟩
 ·omega
 have p:((xs.take k).flatMap ey).length=k*2:=by rw[ni fU,aQ,bH (by omega)]
 have m:((xs.drop (k+1)).flatMap ey).length=(xs.length-(k+1))*2:=by rw[ni fU,aV]
 have I:xs.flatMap ey=(xs.take k).flatMap ey++(ey xs[k]++(xs.drop (k+1)).flatMap ey):=by
  rw[←aN,←fq t];exact Dm xs k
 rw[I]at hc;have f:=za (xs.drop (k+1));have c:(xs.take k++xs.drop (k+1)).flatMap ey=(xs.take k).flatMap ey++(xs.drop (k+1)).flatMap ey:=bI;have E:(ey xs[k]).length=2:=rfl;generalize (xs.take k).flatMap ey=A at p hc c;generalize (xs.drop (k+1)).flatMap ey=B at m hc f c;generalize ey xs[k]=X at E hc;rw[L];simp only[d,aU];refine⟨by omega,by omega,by omega,CondP.intro (fun e=>?_) fun _=>?_⟩
 ·have:(k:Int)=((k+1:Nat):Int):=by simpa using e
  omega
 refine Join.plain ⟨by omega,by omega,B,?_,?_⟩
 ·by_cases i:xs.length=k+1
  ·exact⟨m,.inl (aA.1 (by rw[m,i,gA,vJ]))⟩
  rw[mh (by omega)];refine nZ hc m ?_;have:(A++X).length=0+(k+1)*2:=by rw[ac];omega
  rw[show A++(X++B)++a=(A++X)++(B++a) by simp only[aq],cP this,dE m]
 ·rw[sub_zero]
  refine Tl hc (by simp only[ac];omega) (by omega) f fun P g q=>?_
  have w:a.length=(s.cap-xs.length)*2:=by rw[F,d]
  refine⟨by dsimp only;omega,by dsimp only;omega,?_⟩
  simp only[Bd];rw[mh (by omega)];have G:xs.length-(k-0+(xs.length-(k+1)))=1:=by omega
  have v:(A++(X++B)++a).drop ((k-0)*2+B.length)=(X++B).drop B.length++a:=by
   rw[aq,←dZ,cP (show A.length=(k-0)*2 by rw[p,fz]),gQ (by rw[ac];omega)]
  have z:(A++(X++B)++a).take ((k-0)*2)=A:=by rw[aq,dE (show A.length=(k-0)*2 by rw[p,fz])]
  rw[v,z]at g;have o:((X++B).drop B.length).length=2:=by rw[aV,ac];omega
  generalize (X++B).drop B.length=D at o g;rw[G];have J:(eK 1 [.string (⟨#[]⟩:ByteArray),.string (⟨#[]⟩:ByteArray)]).length=2:=rfl;have j:(A++B).length=0+(k-0+(xs.length-(k+1)))*2:=by rw[ac,p,m];omega
  refine NM g (by simp only[ac]at j⊢;omega) fun h2 n u=>?_
  rw[dE j,←dZ,cP j]at n;refine H _ _ ⟨by simp;omega,fU,by simp only;omega,.inr ⟨b,eK 1 [.string (⟨#[]⟩:ByteArray),.string (⟨#[]⟩:ByteArray)]++(D++a).drop (eK 1 [.string (⟨#[]⟩:ByteArray),.string (⟨#[]⟩:ByteArray)]).length,rfl,y,?_,?_⟩⟩ ((q.mono fun _ e=>.inl (e▸y)).tr (u.mono fun _ e=>.inl (e▸y)))
  ·rw[n,c];simp only[aq]
  ·simp only[ac,aV,J,o,w]
   omega
theorem Gd{W:Nat→Prop}{h:ad}{s:SliceV}{xs:List (Option Addr)}(d:Sl uy 1 W h s xs)(k:xs.length*8≤140737488355328){K:SliceV→ad→Prop}
  (e:∀s' h',OwnS uy 1 cf (fun b=>h.size≤b) h' s' xs→Upd No h h'→K s' h'):HC PG ee [.slice s.a s.len s.cap] [.c .slice] K h:=by
 refine oe s ?_;unfold ji;refine CondP.intro (fun c=>?_) (fun i=>?_)
 ·have c:s.a=none:=by simpa using c
  have hx:xs= []:=by
   by_cases hx:xs= []
   ·exact hx
   ·obtain⟨a,g,_⟩:=d.row hx
    rw[c]at g;cases g
  subst hx;exact e _ _ (OwnS.nil uX) (Upd.refl _ _)
 ·have h2:=d.upd (Upd.hnew No h [] cf) (fun _ h=>h.elim)
  refine⟨_,h2.srow,?_⟩;refine AppP.own (f:=uy) (M:=fun b=>h.size≤b) (xs:= []) (ys:=xs) ⟨rfl,uX,aj _,.inl rfl⟩ d.len rfl (H3 xs) rfl (by omega) (by simpa using k) (by rw[jV];omega) fun s' h' n j=>?_
  exact e _ _ n ((Upd.hnew No h [] cf).trans j fun b m=>.inr m)
theorem Tb{M:Nat→Prop}{h:ad}{s:SliceV}{xs:List (Option Addr)}(x:OwnS uy 1 cf M h s xs){k:Nat}(t:k<xs.length)(N:xs.length≤4398046511104)
  {K:SliceV→ad→Prop}(H:∀s' h',OwnS uy 1 cf M h' s' (xs.take k++xs.drop (k+1))→Upd M h h'→K s' h'):
  HC PG fH [.slice s.a s.len s.cap,.int .i64 k,.int .i64 ((k+1:Nat):Int)] [.c .slice] K h:=by
 refine nL s k ((k+1:Nat):Int) ?_;unfold iZ;have d:=x.len;have C:=x.cap;rcases x.blk with O|⟨b,a,L,y,hc,F⟩
 ·omega
 have p:((xs.take k).flatMap uy).length=k*1:=by rw[ni uX,aQ,bH (by omega)]
 have m:((xs.drop (k+1)).flatMap uy).length=(xs.length-(k+1))*1:=by rw[ni uX,aV]
 have I:xs.flatMap uy=(xs.take k).flatMap uy++(uy xs[k]++(xs.drop (k+1)).flatMap uy):=by
  rw[←aN,←fq t];exact Dm xs k
 rw[I]at hc;have f:=H3 (xs.drop (k+1));have c:(xs.take k++xs.drop (k+1)).flatMap uy=(xs.take k).flatMap uy++(xs.drop (k+1)).flatMap uy:=bI;have E:(uy xs[k]).length=1:=rfl;generalize (xs.take k).flatMap uy=A at p hc c;generalize (xs.drop (k+1)).flatMap uy=B at m hc f c;generalize uy xs[k]=X at E hc;rw[L];simp only[d,aU];refine⟨by omega,by omega,by omega,CondP.intro (fun e=>?_) fun _=>?_⟩
 ·have:(k:Int)=((k+1:Nat):Int):=by simpa using e
  omega
 refine Join.plain ⟨by omega,by omega,B,?_,?_⟩
 ·by_cases i:xs.length=k+1
  ·exact⟨m,.inl (aA.1 (by rw[m,i,gA,vJ]))⟩
  rw[mh (by omega)];refine nZ hc m ?_;have:(A++X).length=0+(k+1)*1:=by rw[ac];omega
  rw[show A++(X++B)++a=(A++X)++(B++a) by simp only[aq],cP this,dE m]
 ·rw[sub_zero]
  refine Tl hc (by simp only[ac];omega) (by omega) f fun P g q=>?_
  have w:a.length=(s.cap-xs.length)*1:=by rw[F,d]
  refine⟨by dsimp only;omega,by dsimp only;omega,?_⟩
  simp only[Bd];rw[mh (by omega)];have G:xs.length-(k-0+(xs.length-(k+1)))=1:=by omega
  have v:(A++(X++B)++a).drop ((k-0)*1+B.length)=(X++B).drop B.length++a:=by
   rw[aq,←dZ,cP (show A.length=(k-0)*1 by rw[p,fz]),gQ (by rw[ac];omega)]
  have z:(A++(X++B)++a).take ((k-0)*1)=A:=by rw[aq,dE (show A.length=(k-0)*1 by rw[p,fz])]
  rw[v,z]at g;have o:((X++B).drop B.length).length=1:=by rw[aV,ac];omega
  generalize (X++B).drop B.length=D at o g;rw[G];have J:(eK 1 [.pointer none]).length=1:=rfl;have j:(A++B).length=0+(k-0+(xs.length-(k+1)))*1:=by rw[ac,p,m];omega
  refine NM g (by simp only[ac]at j⊢;omega) fun h2 n u=>?_
  rw[dE j,←dZ,cP j]at n;refine H _ _ ⟨by simp;omega,uX,by simp only;omega,.inr ⟨b,eK 1 [.pointer none]++(D++a).drop (eK 1 [.pointer none]).length,rfl,y,?_,?_⟩⟩ ((q.mono fun _ e=>.inl (e▸y)).tr (u.mono fun _ e=>.inl (e▸y)))
  ·rw[n,c];simp only[aq]
  ·simp only[ac,aV,J,o,w]
   omega
theorem M2{W:Nat→Prop}{h:ad}{s:SliceV}{xs:List (Option Addr)}(d:Sl rJ 1 W h s xs)(k:xs.length*8≤140737488355328){K:SliceV→ad→Prop}
  (e:∀s' h',OwnS rJ 1 bW (fun b=>h.size≤b) h' s' xs→Upd No h h'→K s' h'):HC PG dH [.slice s.a s.len s.cap] [.c .slice] K h:=by
 refine nr s ?_;unfold iG;refine CondP.intro (fun c=>?_) (fun i=>?_)
 ·have c:s.a=none:=by simpa using c
  have hx:xs= []:=by
   by_cases hx:xs= []
   ·exact hx
   ·obtain⟨a,g,_⟩:=d.row hx
    rw[c]at g;cases g
  subst hx;exact e _ _ (OwnS.nil qO) (Upd.refl _ _)
 ·have h2:=d.upd (Upd.hnew No h [] bW) (fun _ h=>h.elim)
  refine⟨_,h2.srow,?_⟩;refine AppP.own (f:=rJ) (M:=fun b=>h.size≤b) (xs:= []) (ys:=xs) ⟨rfl,qO,aj _,.inl rfl⟩ d.len rfl (H2 xs) rfl (by omega) (by simpa using k) (by rw[jV];omega) fun s' h' n j=>?_
  exact e _ _ n ((Upd.hnew No h [] bW).trans j fun b m=>.inr m)
theorem S9{M:Nat→Prop}{h:ad}{s:SliceV}{xs:List (Option Addr)}(x:OwnS rJ 1 bW M h s xs){k:Nat}(t:k<xs.length)(N:xs.length≤4398046511104)
  {K:SliceV→ad→Prop}(H:∀s' h',OwnS rJ 1 bW M h' s' (xs.take k++xs.drop (k+1))→Upd M h h'→K s' h'):
  HC PG fk [.slice s.a s.len s.cap,.int .i64 k,.int .i64 ((k+1:Nat):Int)] [.c .slice] K h:=by
 refine mO s k ((k+1:Nat):Int) ?_;unfold iu;have d:=x.len;have C:=x.cap;rcases x.blk with O|⟨b,a,L,y,hc,F⟩
 ·omega
 have p:((xs.take k).flatMap rJ).length=k*1:=by rw[ni qO,aQ,bH (by omega)]
 have m:((xs.drop (k+1)).flatMap rJ).length=(xs.length-(k+1))*1:=by rw[ni qO,aV]
 have I:xs.flatMap rJ=(xs.take k).flatMap rJ++(rJ xs[k]++(xs.drop (k+1)).flatMap rJ):=by
  rw[←aN,←fq t];exact Dm xs k
 rw[I]at hc;have f:=H2 (xs.drop (k+1));have c:(xs.take k++xs.drop (k+1)).flatMap rJ=(xs.take k).flatMap rJ++(xs.drop (k+1)).flatMap rJ:=bI;have E:(rJ xs[k]).length=1:=rfl;generalize (xs.take k).flatMap rJ=A at p hc c;generalize (xs.drop (k+1)).flatMap rJ=B at m hc f c;generalize rJ xs[k]=X at E hc;rw[L];simp only[d,aU];refine⟨by omega,by omega,by omega,CondP.intro (fun e=>?_) fun _=>?_⟩
 ·have:(k:Int)=((k+1:Nat):Int):=by simpa using e
  omega
 refine Join.plain ⟨by omega,by omega,B,?_,?_⟩
 ·by_cases i:xs.length=k+1
  ·exact⟨m,.inl (aA.1 (by rw[m,i,gA,vJ]))⟩
  rw[mh (by omega)];refine nZ hc m ?_;have:(A++X).length=0+(k+1)*1:=by rw[ac];omega
  rw[show A++(X++B)++a=(A++X)++(B++a) by simp only[aq],cP this,dE m]
 ·rw[sub_zero]
  refine Tl hc (by simp only[ac];omega) (by omega) f fun P g q=>?_
  have w:a.length=(s.cap-xs.length)*1:=by rw[F,d]
  refine⟨by dsimp only;omega,by dsimp only;omega,?_⟩
  simp only[Bd];rw[mh (by omega)];have G:xs.length-(k-0+(xs.length-(k+1)))=1:=by omega
  have v:(A++(X++B)++a).drop ((k-0)*1+B.length)=(X++B).drop B.length++a:=by
   rw[aq,←dZ,cP (show A.length=(k-0)*1 by rw[p,fz]),gQ (by rw[ac];omega)]
  have z:(A++(X++B)++a).take ((k-0)*1)=A:=by rw[aq,dE (show A.length=(k-0)*1 by rw[p,fz])]
  rw[v,z]at g;have o:((X++B).drop B.length).length=1:=by rw[aV,ac];omega
  generalize (X++B).drop B.length=D at o g;rw[G];have J:(eK 1 [.pointer none]).length=1:=rfl;have j:(A++B).length=0+(k-0+(xs.length-(k+1)))*1:=by rw[ac,p,m];omega
  refine NM g (by simp only[ac]at j⊢;omega) fun h2 n u=>?_
  rw[dE j,←dZ,cP j]at n;refine H _ _ ⟨by simp;omega,qO,by simp only;omega,.inr ⟨b,eK 1 [.pointer none]++(D++a).drop (eK 1 [.pointer none]).length,rfl,y,?_,?_⟩⟩ ((q.mono fun _ e=>.inl (e▸y)).tr (u.mono fun _ e=>.inl (e▸y)))
  ·rw[n,c];simp only[aq]
  ·simp only[ac,aV,J,o,w]
   omega
end Go.Proofs
namespace Go.Proofs
open Go.Lift
abbrev Pr:=ByteArray×ByteArray
theorem Ge{a b:ByteArray}:a.toList=b.toList↔a=b:=by
 constructor
 ·intro h
  rw[ByteArray.toList_eq,ByteArray.toList_eq]at h;cases a;cases b;simp at h;subst h;rfl
 ·rintro rfl;rfl
def kl(a b:ByteArray):Prop:=Op.bytesLess a.toList b.toList=true
instance (a b:ByteArray):Decidable (kl a b):=inferInstanceAs (Decidable (_=true))
theorem NZ{a b:ByteArray}:kl a b↔a.toList<b.toList:=by unfold kl;rw[bytesLess_eq,decide_eq_true_iff]
theorem bZ(a:ByteArray):¬kl a a:=by rw[NZ];exact List.lt_irrefl _
theorem gD{a b c:ByteArray}(h:kl a b)(k:kl b c):kl a c:=by rw[NZ]at*;exact List.lt_trans h k
theorem tri:∀x y:List UInt8,Op.bytesLess x y=false→x≠y→Op.bytesLess y x=true
 | [],[],_,h=>absurd rfl h
 | [],_::_,h,_=>by simp[Op.bytesLess]at h
 |_::_,[],_,_=>rfl
 |a::x,b::y,h,hn=>by
  simp only[Op.bytesLess,Bool.or_eq_false_iff,decide_eq_false_iff_not,Bool.and_eq_false_iff]at h;simp only[Op.bytesLess,Bool.or_eq_true,decide_eq_true_iff,Bool.and_eq_true];by_cases e:a=b
  ·subst e
   right;refine⟨by simp,tri x y ?_ fun e=>hn (by rw[e])⟩
   rcases h.2 with h|h
   ·simp at h
   ·exact h
  ·left
   have c:=h.1;rw[UInt8.lt_iff_toNat_lt]at c⊢;have:a.toNat≠b.toNat:=fun h=>e (UInt8.toNat_inj.1 h)
   omega
theorem qQ{a b:ByteArray}(h:¬kl a b)(k:a≠b):kl b a:=tri _ _ (by unfold kl at h;simpa using h) fun e=>k (Ge.1 e)
def Lp(a b:ByteArray):Int:=if kl a b then-1 else if a=b then 0 else 1
theorem P9{x:ByteArray}{h:ad}{K:Bool→ad→Prop}(a:K false h):HC PG qD [.string x] [.c .bool] K h:=by
 refine HS x ?_;unfold Ae;simpa using a
theorem JN{a b:ByteArray}{h:ad}{K:Int→ad→Prop}(c:K (Lp a b) h):HC PG oC [.string a,.string b] [.c (.int .i64)] K h:=by
 refine EY a b ?_;unfold xD;refine P9 (P9 (ag.2 (ag.2 ?_)));unfold Lp at c;refine CondP.intro (fun e=>?_) fun e=>?_
 ·rw[if_pos (show kl a b from e)]at c;exact c
 ·have f:¬kl a b:=fun h=>by rw[show Op.bytesLess a.toList b.toList=true from h]at e;cases e
  rw[if_neg f]at c;rw[e];refine CondP.intro (fun d=>?_) fun d=>?_
  ·rw[if_neg (fun h=>by subst h;simp at d)]at c;exact c
  ·have:a.toList=b.toList:=by simpa using d
   rw[if_pos (Ge.1 this)]at c;exact c
theorem PT{p:Pr}{k:ByteArray}{h:ad}{K:Int→ad→Prop}(a:∀h',Upd No h h'→K (Lp p.1 k) h'):HC PG rY [.agg #[.string p.1,.string p.2],.string k] [.c (.int .i64)] K h:=by
 refine OB p k ?_;unfold E9 av iU wT;have b1:=co h [.string p.1,.string p.2] al;refine⟨p.1,by rw[cT,cd,bm b1];rfl,JN (a _ (Upd.hnew No h _ _))⟩
abbrev bM(l:List Pr):Prop:=l.Pairwise fun p q=>kl p.1 q.1
def qP(l:List Pr)(k:ByteArray):Nat:=(l.takeWhile fun p=>decide (kl p.1 k)).length
def cG(l:List Pr)(k:ByteArray):Bool:=l.any fun p=>decide (p.1=k)
theorem XZ{l:List Pr}{k:ByteArray}{i:Nat}(hi:i≤l.length)(a:∀j (h:j<l.length),j<i→kl l[j].1 k)(h2:∀(h:i<l.length),¬kl l[i].1 k):qP l k=i:=by
 unfold qP;induction l generalizing i with
 |nil=>simp at hi;simp[hi]
 |cons p l ih=>
  rw[List.takeWhile_cons];cases i with
  |zero=>
   have:=h2 (by simp);simp only[gB]at this;rw[if_neg (by simpa using this)];rfl
  |succ i=>
   have:=a 0 (by simp) (by omega);simp only[gB]at this;rw[if_pos (by simpa using this),ar];congr 1
   refine ih (by simpa using hi) (fun j b c=>?_) fun h=>?_
   ·have:=a (j+1) (by simpa using b) (by omega)
    simpa using this
   ·have:=h2 (by simpa using h)
    simpa using this
theorem X0(l:List Pr)(k:ByteArray):qP l k≤l.length:=by
 unfold qP;exact(List.takeWhile_prefix _).length_le
theorem N6{W:Nat→Prop}{h:ad}{s:SliceV}{l:List Pr}(X:Sl ey 2 W h s l)(Z:bM l)(hn:l.length≤1000000000)(k:ByteArray){K:Int×Bool→ad→Prop}
  (D:∀h',Upd No h h'→K ((qP l k:Int),cG l k) h'):HC PG uG [.slice s.a s.len s.cap,.string k] [.c (.int .i64),.c .bool] K h:=by
 refine QV s k ?_;unfold Ht;refine lf s k _ ?_;unfold fY bT az jR rC;have U:=X.len;have L:∀{p:Pr} {h:ad} {K:Int→ad→Prop},(∀h',Upd No h h'→K (Lp p.1 k) h')→HV PG (.func (.func rY) #[] #[]) [.agg #[.string p.1,.string p.2],.string k] [.c (.int .i64)] K h:=fun D=>HV.mk' (PT D)
 refine LoopP.ghost (fun(g:Nat×Nat) (t:Int×Int) h'=>t.1=(g.1:Int)∧t.2=(g.2:Int)∧g.1≤g.2∧g.2≤l.length∧Upd No h h'∧(∀j (O:j<l.length),j<g.1→kl l[j].1 k)∧(∀j (O:j<l.length),g.2≤j→¬kl l[j].1 k)) (fun g=>g.2-g.1) (0,l.length)
  ⟨rfl,by simp only;omega,by simp,by simp,Upd.refl _ _,fun j O h=>by omega,fun j O h=>by simp only at h;omega⟩ ?_
 rintro I ⟨i,j⟩ ⟨ti,tj⟩ h' ⟨T,V,A,B,F,d,w⟩ S;simp only at T V A B d w;subst T V;have H:=X.upd F fun _ h=>h.elim
 have mono:∀a b (E:a<l.length) (Y:b<l.length),a<b→kl l[a].1 l[b].1:=fun a b E Y R=>cn.1 Z a b E Y R
 refine ax (fun v=>?_) fun N=>?_
 ·have v:i<j:=by have:(i:Int)<(j:Int):=v;omega
  have em:IntKind.wrap .i64 (ed (IntKind.wrap .u64 (IntKind.wrap .i64 ((i:Int)+(j:Int)))) (2^(min (1:Int).toNat (IntKind.bits .u64))))=(((i+j)/2:Nat):Int):=by
   have e3:(2^(min (1:Int).toNat (IntKind.bits .u64)):Int)=2:=rfl;rw[e3,eJ (x:=(i:Int)+(j:Int)) (by omega),Go.IntWalk.u64_in _ (by omega),iQ _ (by omega),eJ (by omega)];omega
  refine⟨by decide,?_⟩;simp only[Bd];rw[em];generalize hm:(i+j)/2=m;have z:m<l.length:=by omega
  obtain⟨a,E,_,hv⟩:=H.at (af z);refine⟨by omega,a,E,l[m].1,hv 0 _ rfl,l[m].2,hv 1 _ rfl,L fun h2 u=>?_⟩
  refine ax (fun o=>?_) fun M=>?_
  ·have c:kl l[m].1 k:=by
    unfold Lp at o;by_cases c:kl l[m].1 k
    ·exact c
    ·rw[if_neg c]at o;split at o<;>omega
   refine S (m+1,j) _ _ ⟨by simp only;rw[eJ (by omega)];omega,rfl,by simp only;omega,B,F.tr u,fun q y C=>?_,w⟩ (by simp only;omega)
   simp only at C;rcases bR q m with h|h
   ·exact gD (mono q m y z h) c
   ·have:q=m:=by omega
    subst this;exact c
  ·have n:¬kl l[m].1 k:=fun c=>M (by unfold Lp;rw[if_pos c];decide)
   refine S (i,m) _ _ ⟨rfl,rfl,by simp only;omega,by simp only;omega,F.tr u,d,fun q y C G=>?_⟩ (by simp only;omega)
   simp only at C;rcases bR m q with h|h
   ·exact n (gD (mono m q z y h) G)
   ·have:q=m:=by omega
    subst this;exact n G
 ·have A:i=j:=by have:¬(i:Int)<(j:Int):=N;omega
  subst A;have J:qP l k=i:=XZ B d fun hi=>w i hi (aj _)
  rw[J]at D;refine ax (fun v=>?_) fun Q=>?_
  ·have f:i<l.length:=by have:(i:Int)<(s.len:Int):=v;omega
   obtain⟨a,E,_,hv⟩:=H.at (af f);refine⟨by simp only;omega,a,E,l[i].1,hv 0 _ rfl,l[i].2,hv 1 _ rfl,L fun h2 u=>?_⟩
   have n:=w i f (aj _);have P:(Lp l[i].1 k==(0:Int))=cG l k:=by
    unfold Lp cG;rw[if_neg n,lU,cE];constructor
    ·intro h
     split at h
     ·rename_i e;exact⟨l[i],List.getElem_mem f,decide_eq_true e⟩
     ·simp at h
    ·rintro⟨p,J,e⟩
     have e:=of_decide_eq_true e;obtain⟨q,y,rfl⟩:=List.mem_iff_getElem.1 J;have:q=i:=by
      rcases Nat.lt_trichotomy q i with h|h|h
      ·exact absurd (e▸d q y h) (bZ _)
      ·exact h
      ·exact absurd (e▸mono i q f y h) n
     subst this;rw[if_pos e];rfl
   rw[P];exact D _ (F.tr u)
  ·have f:i=l.length:=by have:¬(i:Int)<(s.len:Int):=Q;omega
   have P:cG l k=false:=by
    unfold cG;rw[List.any_eq_false];intro p J e;have e:=of_decide_eq_true e;obtain⟨q,y,rfl⟩:=List.mem_iff_getElem.1 J;exact absurd (e▸d q y (by omega)) (bZ _)
   rw[P]at D;exact D _ F
end Go.Proofs
namespace Go.Proofs
open Go.Lift
theorem OwnS.zero{α:Type}{f:α→List Value}{c:Nat}{t:TypeId}{M:Nat→Prop}{h:ad}{s:SliceV}{xs:List α}(d:OwnS f c t M h s xs):OwnS f c t M h ⟨aW s.a 0 s.cap c,0-0,s.cap-0⟩ []:=by
 have e:∀x,(f x).length=c∧0<c:=d.ne;have g:=d.len;have i:=d.cap;refine⟨rfl,e,by simp only;omega,?_⟩
 rcases d.blk with n|⟨b,a,m,k,hc,j⟩
 ·exact .inl (by simp only;omega)
 ·refine .inr ⟨b,xs.flatMap f++a,by rw[m,sub_zero],k,hc,?_⟩
  rw[ac,ni e,j,←Nat.add_mul];simp only;congr 1;omega
def Rn:Pr:=(⟨#[]⟩,⟨#[]⟩)
theorem T8(n:Nat):eK n [.string (⟨#[]⟩:ByteArray),.string (⟨#[]⟩:ByteArray)]=(iJ n Rn).flatMap ey:=by
 unfold eK;induction n with
 |zero=>rfl
 |succ n ih=>rw[qd,qd,aN,←ih];rfl
theorem aap{n:Nat}(d:n*32≤140737488355328){h:ad}{K:SliceV→ad→Prop}(a:∀s' h',OwnS ey 2 al (fun b=>h.size≤b) h' s' []→Upd No h h'→K s' h'):
  HC PG gY [.slice none 0 0,.int .i64 n] [.c .slice] K h:=by
 refine qu ⟨none,0,0⟩ n ?_;unfold kU lO;have e:IntKind.wrap .i64 ((n:Int)-IntKind.wrap .i64 (((0:Nat):Int)-((0:Nat):Int)))=(n:Int):=by rw[eJ (x:=((0:Nat):Int)-((0:Nat):Int)) (by omega),eJ (by omega)];omega
 refine Join.plain (ax (fun h=>by omega) fun _=>?_)
 simp only[Bd];rw[e];refine ax (fun k=>?_) fun j=>a _ _ (OwnS.nil fU) (Upd.refl _ _)
 refine⟨by omega,⟨by omega,by omega,by omega,by omega⟩,?_⟩
 refine AppP.own (f:=ey) (M:=fun b=>h.size≤b) (xs:= []) (ys:=iJ n Rn) (OwnS.nil fU) (by simp) (T8 _) (by rw[T8];exact za _) rfl (by omega) (by simpa using d) (aj _) fun s' h' i c=>?_
 exact⟨by omega,a _ _ (OwnS.zero i) (c.mono fun b g=>.inr g)⟩
abbrev ads(s:SliceV):List Value:= [.slice s.a s.len s.cap]
def ParS(h:ad):List SliceV→List (List Pr)→Prop
 | [],[]=>True
 |v::vs,l::ls=>Sl ey 2 No h v l∧ParS h vs ls
 |_,_=>False
theorem ParS.upd{h h':ad}(k:Upd No h h'):∀{vs:List SliceV} {ls:List (List Pr)},ParS h vs ls→ParS h' vs ls
 | [],[],_=>trivial
 |_::_,_::_,q=>⟨q.1.upd k fun _ h=>h.elim,ParS.upd k q.2⟩
 | [],_::_,q=>q.elim
 |_::_,[],q=>q.elim
theorem ParS.len{h:ad}:∀{vs:List SliceV} {ls:List (List Pr)},ParS h vs ls→vs.length=ls.length
 | [],[],_=>rfl
 |_::_,_::_,q=>by rw[ar,ar,ParS.len q.2]
 | [],_::_,q=>q.elim
 |_::_,[],q=>q.elim
theorem ParS.at{h:ad}:∀{vs:List SliceV} {ls:List (List Pr)},ParS h vs ls→∀{i:Nat} (h1:i<vs.length) (h2:i<ls.length),Sl ey 2 No h vs[i] ls[i]
 |_::_,_::_,q,0,_,_=>q.1
 |_::_,_::_,q,i+1,h1,h2=>ParS.at q.2 (by simpa using h1) (by simpa using h2)
theorem MU(ls:List (List Pr)){i:Nat}(hi:i<ls.length):(ls.take (i+1)).flatten=(ls.take i).flatten++ls[i]:=by
 rw[List.take_succ_eq_append_getElem hi,iS,iM,ua,List.append_nil]
theorem UY(ls:List (List Pr))(i:Nat):(ls.take i).flatten.length≤ls.flatten.length:=by
 have:ls.flatten=(ls.take i).flatten++(ls.drop i).flatten:=by rw[←iS,List.take_append_drop]
 rw[this,ac];omega
theorem MZ{h:ad}{s:SliceV}{vs:List SliceV}{ls:List (List Pr)}(B:Sl ads 1 No h s vs)(y:ParS h vs ls)(L:ls.flatten.length*32≤140737488355328)(hv:vs.length≤1000)
  {K:SliceV→ad→Prop}(H:∀s' h',OwnS ey 2 al (fun b=>h.size≤b) h' s' ls.flatten→Upd No h h'→K s' h'):HC PG eO [.slice s.a s.len s.cap] [.c .slice] K h:=by
 refine pP s ?_;unfold j5 bE bT lO;have E:=B.len;have d:=y.len;refine LoopP.ghost (fun(i:Nat) (t:Int×Int) h'=>t.2=(i:Int)∧i≤vs.length∧t.1=((ls.take i).flatten.length:Int)∧h'=h) (fun i=>vs.length-i) 0 ⟨rfl,aS _,by simp,rfl⟩ ?_
 rintro I i ⟨Y,U⟩ h' ⟨m,hi,F,rfl⟩ G;simp only at m F;subst m F;refine ax (fun c=>?_) fun u=>?_
 ·have c:i<vs.length:=by have:(i:Int)<(s.len:Int):=c;omega
  obtain⟨a,D,_,f⟩:=B.at (af c);have M:=(y.at c (d▸c)).len;have e:=congrArg fP (MU ls (d▸c));rw[ac]at e;have z:=UY ls (i+1);refine Join.plain ⟨by simp only;omega,a,D,_,f 0 _ rfl,?_⟩;simp only;have N:IntKind.wrap .i64 (((ls.take i).flatten.length:Int)+((vs[i]).len:Int))=((ls.take (i+1)).flatten.length:Int):=by rw[eJ (by omega)];omega
  rw[N];refine ax (fun h=>by omega) fun _=>?_
  rw[cS c (by omega)];exact G (i+1) _ _ ⟨rfl,c,rfl,rfl⟩ (by omega)
 ·have J:i=vs.length:=by have:¬(i:Int)<(s.len:Int):=u;omega
  rw[bD (by omega)];refine aap L fun S V C x=>?_
  refine LoopP.ghost (fun(i:Nat) (t:SliceV×Int) A=>t.2=(i:Int)∧i≤vs.length∧OwnS ey 2 al (fun b=>h'.size≤b) A t.1 (ls.take i).flatten∧Upd No h' A) (fun i=>vs.length-i) 0 ⟨rfl,aS _,by simpa using C,x⟩ ?_
  rintro Q j ⟨W,X⟩ A ⟨m,T,p,g⟩ q;simp only at m p;subst m;refine ax (fun c=>?_) fun o=>?_
  ·have c:j<vs.length:=by have:(j:Int)<(s.len:Int):=c;omega
   obtain⟨a,D,_,f⟩:=(B.upd g fun _ h=>h.elim).at (af c)
   have k:=((y.upd g).at c (d▸c));have e:=MU ls (d▸c);have n:=congrArg fP e;rw[ac]at n;have z:=UY ls (j+1);refine Join.plain ⟨by simp only;omega,a,D,_,f 0 _ rfl,_,k.srow,?_⟩;refine AppP.own (ys:=ls[j]) p k.len rfl (za _) rfl (by omega) (by omega) g.size fun R h2 v w=>?_
   simp only;rw[cS c (by omega)];exact q (j+1) _ _ ⟨rfl,c,e▸v,g.trans w fun b P=>.inr P⟩ (by omega)
  ·have O:j=vs.length:=by have:¬(j:Int)<(s.len:Int):=o;omega
   rw[bD (by omega)]at p;exact H _ _ p g
def Lk(l:List Pr)(p:Pr):List Pr:=l.take (qP l p.1)++p::l.drop (if cG l p.1 then qP l p.1+1 else qP l p.1)
def Wt(l:List Pr)(k:ByteArray):List Pr:=if cG l k then l.take (qP l k)++l.drop (qP l k+1)else l
theorem NO{l:List Pr}(d:bM l){k:ByteArray}(c:cG l k=true):∃h:qP l k<l.length,l[qP l k].1=k:=by
 unfold cG at c;obtain⟨p,g,e⟩:=cE.1 c;have e:=of_decide_eq_true e;obtain⟨q,b,rfl⟩:=List.mem_iff_getElem.1 g;have:qP l k=q:=XZ (by omega) (fun j f a=>by rw[←e];exact cn.1 d j q f b a) fun h=>by rw[←e];exact bZ _
 subst this;exact⟨b,e⟩
theorem NA{h:ad}{s:SliceV}{l:List Pr}(b:Sl ey 2 No h s l){i j m:Nat}(d:i≤j)(h2:j≤l.length)(a:j≤m)(c:Nat):Sl ey 2 No h ⟨aW s.a i m 2,j-i,c⟩ ((l.drop i).take (j-i)):=Sl.sub b d h2 a
theorem Sm{h:ad}{s:SliceV}{l:List Pr}(y:Sl ey 2 No h s l)(hc:s.len≤s.cap)(u:bM l)(F:l.length≤1000000000)(p:Pr)
  {K:SliceV→ad→Prop}(D:∀s' h',OwnS ey 2 al (fun b=>h.size≤b) h' s' (Lk l p)→Upd No h h'→K s' h'):HC PG Di [.slice s.a s.len s.cap,.agg #[.string p.1,.string p.2]] [.c .slice] K h:=by
 refine TL s p ?_;unfold KJ av iU wT DQ;have g:=y.len;have k1:=Upd.hnew No h [.string p.1,.string p.2] al;have b1:=co h [.string p.1,.string p.2] al;refine bG ?_;simp only[cT h];generalize hnew h [.string p.1,.string p.2] al=h1 at k1 b1;refine⟨p.1,by rw[cd,bm b1];rfl,N6 (y.upd k1 fun _ h=>h.elim) u F p.1 fun h2 d=>?_⟩
 have C:=X0 l p.1;have a:=k1.tr d;refine⟨by simp only;omega,?_⟩;let q:=if cG l p.1 then qP l p.1+1 else qP l p.1
 have G:q≤l.length:=by
  show(if cG l p.1 then qP l p.1+1 else qP l p.1)≤l.length
  split
  ·rename_i ht;obtain⟨h,_⟩:=NO u ht;omega
  ·exact C
 refine Join.intro (fun t h'=>h'=h2∧t=⟨aW s.a q s.cap 2,s.len-q,s.cap-q⟩) (fun R B=>?_) ?_
 ·refine CondP.intro (fun e=>?_) fun e=>B _ _ ⟨rfl,?_⟩
  ·have e:cG l p.1=true:=e
   obtain⟨J,_⟩:=NO u e;have H:IntKind.wrap .i64 ((qP l p.1:Int)+1)=((qP l p.1+1:Nat):Int):=by rw[eJ (by omega)];omega
   simp only;rw[H];refine⟨by omega,B _ _ ⟨rfl,?_⟩⟩;have:q=qP l p.1+1:=by show(if cG l p.1 then _ else _)=_;rw[if_pos e]
   rw[this];rfl
  ·have e:cG l p.1=false:=e
   have:q=qP l p.1:=by show(if cG l p.1 then _ else _)=_;rw[if_neg (by rw[e];decide)]
   rw[this];rfl
 ·rintro t h' ⟨rfl,rfl⟩
  have b2:=d.get0 b1;refine⟨by simp only;omega,p.1,by rw[cd,bm b2];rfl,p.2,by rw[cd,bm b2];rfl,?_⟩
  have o:=Upd.hnew No h' [.string p.1,.string p.2] al;have b3:=co h' [.string p.1,.string p.2] al;refine bG ?_;simp only[cT h'];generalize hnew h' [.string p.1,.string p.2] al=h3 at o b3;refine bG ?_;have c:=(y.upd a fun _ h=>h.elim).upd o fun _ h=>h.elim
  have k:=Upd.hnew No h3 [.slice (aW s.a 0 s.cap 2) ((qP l p.1:Int).toNat-0) (s.cap-0),.slice (some ⟨h'.size,0,none⟩) 1 1,.slice (aW s.a q s.cap 2) (s.len-q) (s.cap-q)] cr;have E:=co h3 [.slice (aW s.a 0 s.cap 2) ((qP l p.1:Int).toNat-0) (s.cap-0),.slice (some ⟨h'.size,0,none⟩) 1 1,.slice (aW s.a q s.cap 2) (s.len-q) (s.cap-q)] cr;have A:=NA c (i:=0) (j:=qP l p.1) (m:=s.cap) (aS _) C (by omega) (s.cap-0)
  have M:Sl ey 2 No h3 ⟨some ⟨h'.size,0,none⟩,1,1⟩ [p]:=⟨rfl,fU,fun _=>⟨_,rfl,fun h=>h.elim,ox b3 fun i v hv=>by simpa using hv⟩⟩
  have w:=NA c (i:=q) (j:=l.length) (m:=s.cap) G (aj _) (by omega) (s.cap-q);rw[←g]at w;rw[List.drop_zero]at A;rw[bD (by rw[aV];omega)]at w;have I:Lk l p= [l.take (qP l p.1-0),[p],l.drop q].flatten:=by simp[Lk,q]
  refine MZ (s:=⟨some (ay h3),3,3⟩) (vs:= [⟨aW s.a 0 s.cap 2,(qP l p.1:Int).toNat-0,s.cap-0⟩,⟨some ⟨h'.size,0,none⟩,1,1⟩,⟨aW s.a q s.cap 2,s.len-q,s.cap-q⟩]) (ls:= [l.take (qP l p.1-0),[p],l.drop q])
   ⟨rfl,fun x=>⟨rfl,Nat.one_pos⟩,fun _=>⟨_,rfl,fun h=>h.elim,ox E fun i v hv=>by simpa[ads]using hv⟩⟩ ⟨A.upd k fun _ h=>h.elim,M.upd k fun _ h=>h.elim,w.upd k fun _ h=>h.elim,trivial⟩ ?_ (by simp) fun N O f n=>?_
  ·simp only[iM,ua,ac,aQ,aV,List.length_singleton,List.length_nil];omega
  ·rw[←I]at f
   have z:=((a.tr o).tr k);exact D _ _ (f.more fun b L=>aX z.size L) (z.tr n)
end Go.Proofs
namespace Go.Proofs
open Go.Lift
def yZ(n d:Nat):Nat:=(gh n).countP (d.testBit ·)
theorem Ia(m n d:Nat):yZ (m+n) d=yZ m d+yZ n (d>>>m):=by
 unfold yZ;rw[wL,List.countP_append,List.countP_map];congr 1
 refine List.countP_congr fun i _=>?_
 simp[sM]
theorem U8(d:Nat)(i:Nat):∀n,i≤n→yZ n (d&&&(2^i-1))=yZ i d:=by
 intro n b;obtain⟨m,rfl⟩:=Nat.exists_eq_add_of_le b;rw[Ia];have e:yZ i (d&&&(2^i-1))=yZ i d:=by
  unfold yZ;refine List.countP_congr fun j a=>?_
  have:=g9.1 a;simp[kw,oG,this]
 have c:yZ m ((d&&&(2^i-1))>>>i)=0:=by
  unfold yZ;rw[List.countP_eq_zero];intro j _;simp[sM,kw,oG];intro h;omega
 omega
theorem abX(d:Nat):yZ 8 (d&&&255)=yZ 8 d:=U8 d 8 8 (aj _)
theorem Dp(n d:Nat):yZ n d≤n:=by
 have:=List.countP_le_length (p:=(d.testBit ·)) (l:=gh n)
 simpa[yZ]using this
theorem ph(d n:Nat):ed (d:Int) (2^n)=((d>>>n:Nat):Int):=by
 rw[iQ _ (by exact Int.le_of_lt (Int.pow_pos (by decide))),cK];simp
theorem Y1(a b:Nat):(ao (IntKind.bits .u32) (a:Int)&&&ao (IntKind.bits .u32) (b:Int)).toNat=(a%4294967296)&&&(b%4294967296):=by
 simp[IntKind.bits,BitVec.toNat_and,BitVec.toNat_ofInt];rfl
theorem DN{n:Nat}(h:n<4294967296):IntKind.wrap .u32 (n:Int)=(n:Int):=Go.IntWalk.u32_in _ (by omega)
theorem IZ{i:Nat}(hi:i<32){h:ad}{K:Bool→ad→Prop}(a:K true h):HC PG qo [.int .i64 i] [.c .bool] K h:=by
 refine LO i ?_;unfold Cy;refine ax (fun _=>?_) fun h=>absurd (Int.natCast_nonneg i) h
 rw[decide_eq_true (by omega)];exact a
theorem Ot{a b:Nat}(h:b<4294967296):a&&&b<4294967296:=hH Nat.and_le_right h
theorem F1{d i:Nat}(hd:d<4294967296)(hi:i<32){h:ad}{K:Bool→ad→Prop}(c:K (d.testBit i) h):HC PG ie [.int .u32 d,.int .i64 i] [.c .bool] K h:=by
 refine Gy d i ?_;unfold yV;refine IZ hi (aw.2 ⟨by omega,?_⟩);have e:min (i:Int).toNat (IntKind.bits .u32)=i:=by rw[aU];exact bH (by show i≤32;omega)
 rw[e,ph];have b:=Y1 (d>>>i) 1;have a:d>>>i<4294967296:=hH (j6 d i) hd;rw[dS a,show(1:Nat)%4294967296=1 from rfl]at b
 simp only[Bd];rw[show((1:Nat):Int)=(1:Int)from rfl]at b
 rw[b,DN (Ot (by omega))];have f:(((d>>>i&&&1:Nat):Int)==(1:Int))=d.testBit i:=by
  rw[lU,beq_iff_eq,Nat.testBit,Nat.and_comm];simp only[bne_iff_ne,ne_eq,Nat.one_and_eq_mod_two];have:(d>>>i)%2<2:=Nat.mod_lt _ (by omega);omega
 rw[f];exact c
theorem WJ{d i:Nat}(hd:d<4294967296)(hi:i<32):∃w:Nat,IntKind.wrap .u32 (ao (IntKind.bits .u32) (d:Int)|||ao (IntKind.bits .u32) (IntKind.wrap .u32 (1*2^(min (i:Int).toNat (IntKind.bits .u32))))).toNat=(w:Int)∧w<4294967296∧∀j,w.testBit j=(d.testBit j||decide (j=i)):=by
 have e:min (i:Int).toNat (IntKind.bits .u32)=i:=by rw[aU];exact bH (by show i≤32;omega)
 have b:2^i<4294967296:=Nat.pow_lt_pow_right (by omega) (show i<32 from hi)
 have c:(1*2^i:Int)=((2^i:Nat):Int):=by simp
 rw[e,c,DN b];refine⟨_,DN (BitVec.isLt _),BitVec.isLt _,fun j=>?_⟩
 rw[BitVec.testBit_toNat,BitVec.getLsbD_or,gm,gm,pt,pt,qb];by_cases a:j<32
 ·have:decide (j<IntKind.bits .u32)=true:=decide_eq_true a
  rw[this];simp[eq_comm]
 ·have f:decide (j<IntKind.bits .u32)=false:=decide_eq_false a
  have h2:d.testBit j=false:=iH (aG hd (gg (n:=2) (by omega) (show 32≤j by omega)))
  rw[f,h2];simp;omega
theorem Ud{d i:Nat}(hd:d<4294967296)(hi:i<32){h:ad}{K:Int→ad→Prop}(b:∀w:Nat,w<4294967296→(∀j,w.testBit j=(d.testBit j||decide (j=i)))→K (w:Int) h):HC PG gO [.int .u32 d,.int .i64 i] [.c (.int .u32)] K h:=by
 refine E0 d i ?_;unfold xF;refine IZ hi (ag.2 ⟨by omega,?_⟩);obtain⟨w,e,a,h2⟩:=WJ hd hi;simp only[Bd];rw[e];exact b w a h2
theorem Om{d i:Nat}(hd:d<4294967296)(hi:i<32):∃w:Nat,IntKind.wrap .u32 (ao (IntKind.bits .u32) (d:Int)&&& ~~~ao (IntKind.bits .u32) (IntKind.wrap .u32 (1*2^(min (i:Int).toNat (IntKind.bits .u32))))).toNat=(w:Int)∧w<4294967296∧∀j,w.testBit j=(d.testBit j&&decide (j≠i)):=by
 have e:min (i:Int).toNat (IntKind.bits .u32)=i:=by rw[aU];exact bH (by show i≤32;omega)
 have b:2^i<4294967296:=Nat.pow_lt_pow_right (by omega) (show i<32 from hi)
 have c:(1*2^i:Int)=((2^i:Nat):Int):=by simp
 rw[e,c,DN b];refine⟨_,DN (BitVec.isLt _),BitVec.isLt _,fun j=>?_⟩
 rw[BitVec.testBit_toNat,BitVec.getLsbD_and,BitVec.getLsbD_not,gm,gm,pt,pt,qb];by_cases a:j<32
 ·have:decide (j<IntKind.bits .u32)=true:=decide_eq_true a
  rw[this];simp[eq_comm]
 ·have f:decide (j<IntKind.bits .u32)=false:=decide_eq_false a
  have h2:d.testBit j=false:=iH (aG hd (gg (n:=2) (by omega) (show 32≤j by omega)))
  rw[f,h2];simp
theorem Ii{d i:Nat}(hd:d<4294967296)(hi:i<32){h:ad}{K:Int→ad→Prop}(b:∀w:Nat,w<4294967296→(∀j,w.testBit j=(d.testBit j&&decide (j≠i)))→K (w:Int) h):HC PG l8 [.int .u32 d,.int .i64 i] [.c (.int .u32)] K h:=by
 refine Be d i ?_;unfold uO;refine IZ hi (ag.2 ⟨by omega,?_⟩);obtain⟨w,e,a,h2⟩:=Om hd hi;simp only[Bd];rw[e];exact b w a h2
abbrev aco:ByteArray:=⟨#[0,1,1,2,1,2,2,3,1,2,2,3,2,3,3,4,1,2,2,3,2,3,3,4,2,3,3,4,3,4,4,5,1,2,2,3,2,3,3,4,2,3,3,4,3,4,4,5,2,3,3,4,3,4,4,5,3,4,4,5,4,5,5,6,1,2,2,3,2,3,3,4,2,3,3,4,3,4,4,5,2,3,3,4,3,4,4,5,3,4,4,5,4,5,5,6,2,3,3,4,3,4,4,5,3,4,4,5,4,5,5,6,3,4,4,5,4,5,5,6,4,5,5,6,5,6,6,7,1,2,2,3,2,3,3,4,2,3,3,4,3,4,4,5,2,3,3,4,3,4,4,5,3,4,4,5,4,5,5,6,2,3,3,4,3,4,4,5,3,4,4,5,4,5,5,6,3,4,4,5,4,5,5,6,4,5,5,6,5,6,6,7,2,3,3,4,3,4,4,5,3,4,4,5,4,5,5,6,3,4,4,5,4,5,5,6,4,5,5,6,5,6,6,7,3,4,4,5,4,5,5,6,4,5,5,6,5,6,6,7,4,5,5,6,5,6,6,7,5,6,6,7,6,7,7,8]⟩
theorem ZB:(gh 256).all (fun b=>decide (aco[b]? =some (ii (yZ 8 b))))=true:=by decide+kernel
theorem Nw{b:Nat}(h:b<256):aco[b]? =some (ii (yZ 8 b)):=of_decide_eq_true (List.all_eq_true.1 ZB b (g9.2 h))
theorem Od(b:Nat):(ii (yZ 8 b)).toNat=yZ 8 b:=by
 have:=Dp 8 b;simp;omega
theorem adQ(d:Nat):yZ 32 d=yZ 8 (d>>>24)+yZ 8 ((d>>>16)&&&255)+yZ 8 ((d>>>8)&&&255)+yZ 8 (d&&&255):=by
 rw[abX,abX,abX,show(32:Nat)=8+(8+(8+8))from rfl,Ia,Ia,Ia]
 simp only[←Nat.shiftRight_add,Nat.reduceAdd];omega
set_option maxRecDepth 100000 in
theorem Z6{d:Nat}(hd:d<4294967296){h:ad}{K:Int→ad→Prop}(j:K (yZ 32 d:Int) h):HC PG mL [.int .u32 d] [.c (.int .i64)] K h:=by
 refine yF d ?_;unfold rx;have f:ed (d:Int) (2^(min (24:Int).toNat (IntKind.bits .u32)))=((d>>>24:Nat):Int):=ph d 24;have a:ed (d:Int) (2^(min (16:Int).toNat (IntKind.bits .u32)))=((d>>>16:Nat):Int):=ph d 16;have m:ed (d:Int) (2^(min (8:Int).toNat (IntKind.bits .u32)))=((d>>>8:Nat):Int):=ph d 8;have b:∀x:Nat,x<4294967296→IntKind.wrap .u32 (ao (IntKind.bits .u32) (x:Int)&&&ao (IntKind.bits .u32) 255).toNat=((x&&&255:Nat):Int):=fun x hx=>by
  have:=Y1 x 255;rw[dS hx]at this;rw[show((255:Nat):Int)=(255:Int)from rfl]at this
  rw[this,DN (Ot (by omega))]
 have e:d>>>24<256:=by rw[cK];omega
 have i:∀x:Nat,x&&&255<256:=fun x=>hH Nat.and_le_right (by omega)
 have c:d>>>16<4294967296:=hH (j6 d 16) hd;have k:d>>>8<4294967296:=hH (j6 d 8) hd;simp only[Bd];rw[f,a,m,b _ c,b _ k,b _ hd];refine⟨by decide,_,by omega,Nw (b:=d>>>24) e,by decide,_,by omega,Nw (i _),by decide,_,by omega,Nw (i _),_,by omega,Nw (i _),?_⟩
 rw[Od,Od,Od,Od];simp only[aU];have s:=Dp 8 (d>>>24);have q:=Dp 8 (d>>>16&&&255);have o:=Dp 8 (d>>>8&&&255);have q4:=Dp 8 (d&&&255);rw[adQ]at j;have g:∀n:Nat,n≤255→IntKind.wrap .u8 (n:Int)=(n:Int):=fun n p=>Go.IntWalk.u8_in _ (by omega)
 rw[←Int.natCast_add,g _ (by omega),←Int.natCast_add,g _ (by omega),←Int.natCast_add,g _ (by omega),eJ (by omega)];exact j
theorem uj{d i:Nat}(hd:d<4294967296)(hi:i<32){h:ad}{K:Int→ad→Prop}(a:K (yZ i d:Int) h):HC PG dW [.int .u32 d,.int .i64 i] [.c (.int .i64)] K h:=by
 refine E1 d i ?_;unfold xG;refine ax (fun c=>?_) fun c=>?_
 ·have:i=0:=by omega
  subst this;exact a
 ·refine ax (fun h=>by omega) fun _=>⟨by omega,?_⟩
  have e:min (i:Int).toNat (IntKind.bits .u32)=i:=by rw[aU];exact bH (by show i≤32;omega)
  have f:2^i<4294967296:=Nat.pow_lt_pow_right (by omega) (show i<32 from hi)
  have g:0<2^i:=Nat.pow_pos (by omega);have j:(1*2^i:Int)=((2^i:Nat):Int):=by simp
  have b:(((2^i:Nat):Int)-1)=((2^i-1:Nat):Int):=by omega
  simp only[Bd];rw[e,j,DN f,b,DN (show 2^i-1<4294967296 by omega),Y1,dS hd,dS (show 2^i-1<4294967296 by omega),DN (Ot (by omega))]
  refine DC _ ?_;unfold wI;refine Z6 (Ot (by omega)) ?_;rw[U8 d i 32 (by omega)];exact a
end Go.Proofs
namespace Go.Proofs
open Go.Lift
def fm{β:Type}(g:Nat→Option β)(n:Nat):List β:=(gh n).filterMap g
def upd{β:Type}(g:Nat→Option β)(i:Nat)(x:Option β)(j:Nat):Option β:=if j=i then x else g j
theorem acX{β:Type}{f g:Nat→Option β}:∀l:List Nat,(∀j∈l,f j=g j)→l.filterMap f=l.filterMap g
 | [],_=>rfl
 |j::l,h=>by
  rw[mD,mD,h j (List.mem_cons_self ..),acX l fun k a=>h k (List.mem_cons_of_mem _ a)]
section
variable {β:Type} {g:Nat→Option β} {d:Nat}
theorem JB(hd:∀c,c<32→d.testBit c=(g c).isSome){i:Nat}(hi:i≤32):(fm g i).length=yZ i d:=by
 unfold fm yZ;rw[List.length_filterMap_eq_countP];exact List.countP_congr fun j a=>by rw[hd j (by have:=g9.1 a;omega)]
theorem uD{i n:Nat}(hi:i<n):fm g n=fm g i++((g i).toList++(gh (n-(i+1))).filterMap fun j=>g (i+1+j)):=by
 unfold fm;have e:n=i+(1+(n-(i+1))):=by omega
 rw[e,wL,oq,wL];have a:i+(1+(n-(i+1)))-(i+1)=n-(i+1):=by omega
 rw[a];congr 1
 rw[List.map_append,oq,List.map_map];congr 1
 rw[List.filterMap_map];refine acX _ fun j _=>?_
 show g (i+(1+j))=_
 rw[Nat.add_assoc]
theorem CY{i:Nat}{x:Option β}:fm (upd g i x) i=fm g i:=by
 unfold fm;refine acX _ fun j a=>?_
 have:=g9.1 a;unfold upd;rw[if_neg (by omega)]
theorem AM{i m:Nat}{x:Option β}:((gh m).filterMap fun j=>upd g i x (i+1+j))=(gh m).filterMap fun j=>g (i+1+j):=by
 refine acX _ fun j _=>?_
 unfold upd;rw[if_neg (by omega)]
theorem Yp{i:Nat}(hi:i<32)(hd:∀c,c<32→d.testBit c=(g c).isSome)(b:g i=none)(x:β):fm (upd g i (some x)) 32=(fm g 32).take (yZ i d)++x::(fm g 32).drop (yZ i d):=by
 have a:=JB hd (i:=i) (by omega);rw[uD (g:=upd g i (some x)) hi,uD (g:=g) hi,CY,AM,b,dE a,cP a];simp[upd]
theorem Yo{i:Nat}(hi:i<32)(hd:∀c,c<32→d.testBit c=(g c).isSome){y:β}(b:g i=some y)(x:β):fm (upd g i (some x)) 32=(fm g 32).take (yZ i d)++x::(fm g 32).drop (yZ i d+1):=by
 have a:=JB hd (i:=i) (by omega);rw[uD (g:=upd g i (some x)) hi,uD (g:=g) hi,CY,AM,b,dE a,←dZ,cP a];simp[upd]
theorem Yq{i:Nat}(hi:i<32)(hd:∀c,c<32→d.testBit c=(g c).isSome){y:β}(b:g i=some y):fm (upd g i none) 32=(fm g 32).take (yZ i d)++(fm g 32).drop (yZ i d+1):=by
 have a:=JB hd (i:=i) (by omega);rw[uD (g:=upd g i none) hi,uD (g:=g) hi,CY,AM,b,dE a,←dZ,cP a];simp[upd]
theorem Yr{i:Nat}(hi:i<32)(hd:∀c,c<32→d.testBit c=(g c).isSome){y:β}(b:g i=some y):(fm g 32)[yZ i d]? =some y:=by
 have a:=JB hd (i:=i) (by omega);rw[uD (g:=g) hi,b,List.getElem?_append_right (by omega),a,gA];rfl
theorem MS{i:Nat}(hi:i<32)(hd:∀c,c<32→d.testBit c=(g c).isSome){y:β}(a:g i=some y):yZ i d<(fm g 32).length:=(List.getElem?_eq_some_iff.1 (Yr hi hd a)).1
theorem aa5{i:Nat}(hi:i<32)(hd:∀c,c<32→d.testBit c=(g c).isSome):yZ i d≤(fm g 32).length:=by
 have a:=JB hd (i:=i) (by omega);rw[uD (g:=g) hi,ac];omega
theorem AN:(fm g 32).length≤32:=by
 have:=List.length_filterMap_le g (gh 32);simpa[fm]using this
end
end Go.Proofs
namespace Go.Proofs
open Go.Lift
abbrev sv(s:SliceV):Value:=.slice s.a s.len s.cap
structure Slots where
 p:Nat→Option Pr
 k:Nat→Option (Option Addr)
def gc(d n:Nat)(sp sk:SliceV)(a:Bool)(ow:Option Addr):Array Value:= #[.int .u32 (d:Int),.int .u32 (n:Int),sv sp,sv sk,.bool a,.pointer ow]
structure BitsOf(d n:Nat)(s:Slots):Prop where
 d32:d<4294967296
 n32:n<4294967296
 dp:∀c,c<32→d.testBit c=(s.p c).isSome
 nk:∀c,c<32→n.testBit c=(s.k c).isSome
structure NodeAt(W:Nat→Prop)(h:ad)(b:Nat)(s:Slots):Prop where
 ex:∃d n sp sk ow,h[b]? =some (.cells (gc d n sp sk false ow) bP (0,0))∧BitsOf d n s∧Sl ey 2 W h sp (fm s.p 32)∧Sl uy 1 W h sk (fm s.k 32)∧sp.len≤sp.cap∧sk.len≤sk.cap
 nw:¬W b
theorem NodeAt.upd{W M:Nat→Prop}{h h':ad}{b:Nat}{s:Slots}(n:NodeAt W h b s)(k:Upd M h h')(hm:∀b,M b→W b∨h.size≤b):NodeAt W h' b s:=by
 obtain⟨d,m,sp,sk,ow,a,h2,g,c,e,i⟩:=n.ex;exact⟨⟨d,m,sp,sk,ow,k.get a (fun f=>(hm _ f).elim n.nw fun h=>by have:=aY a;omega),h2,g.upd k hm,c.upd k hm,e,i⟩,n.nw⟩
structure OwnN(M:Nat→Prop)(h:ad)(b d n:Nat)(sp sk:SliceV)(s:Slots)(ow:Option Addr):Prop where
 blk:h[b]? =some (.cells (gc d n sp sk false ow) bP (0,0))
 bits:BitsOf d n s
 ex:∃A B:Nat→Prop,OwnS ey 2 al A h sp (fm s.p 32)∧OwnS uy 1 cf B h sk (fm s.k 32)∧(∀x,A x→M x∧¬B x∧x≠b∧x<h.size)∧(∀x,B x→M x∧x≠b∧x<h.size)
 mb:M b
theorem AI{h:ad}{K:Bool→ad→Prop}(a:K false h):HC PG jm [.pointer none] [.c .bool] K h:=by
 refine Dt none ?_;unfold wA bF;exact ag.2 a
theorem Mp{b:Nat}{h:ad}{K:Bool→ad→Prop}(a:K false h):HC PG r9 [.pointer (some ⟨b,0,none⟩),.pointer none] [.c .bool] K h:=by
 refine EU _ none ?_;unfold xz lX;exact aw.2 (AI (ag.2 a))
theorem OwnN.upd{M M':Nat→Prop}{h h':ad}{b d n:Nat}{sp sk:SliceV}{s:Slots}{ow:Option Addr}(o:OwnN M h b d n sp sk s ow)(k:Upd M' h h')(hm:∀x,M' x→¬M x):OwnN M h' b d n sp sk s ow:=by
 obtain⟨A,B,f,h2,a,c⟩:=o.ex;have z:=k.size;exact⟨k.get o.blk fun g=>hm _ g o.mb,o.bits,⟨A,B,f.upd k fun x hx e=>hm _ e (a x hx).1,h2.upd k fun x hx e=>hm _ e (c x hx).1,fun x hx=>⟨(a x hx).1,(a x hx).2.1,(a x hx).2.2.1,by have:=(a x hx).2.2.2;omega⟩,fun x hx=>⟨(c x hx).1,(c x hx).2.1,by have:=(c x hx).2.2;omega⟩⟩,o.mb⟩
set_option maxRecDepth 4000 in
theorem Sn{W:Nat→Prop}{h:ad}{b:Nat}{s:Slots}(U:NodeAt W h b s){K:Option Addr→ad→Prop}
  (B:∀h' d n sp sk,OwnN (fun x=>h.size≤x) h' h.size d n sp sk s none→Upd No h h'→K (some ⟨h.size,0,none⟩) h'):
  HC PG iV [.pointer (some ⟨b,0,none⟩),.pointer none] [.c .ptr] K h:=by
 obtain⟨d,n,sp,sk,ow,f,bits,I,G,Z,V⟩:=U.ex;refine zW _ none ?_;unfold ve lX bK nv dy bF Xc oU jU abf;refine Mp (ag.2 ?_);have c:∀{h:ad} {b:Nat} {c:Array Value} {i:Nat},h[b]? =some (.cells c bP (0,0))→aJ h ⟨b,0+i,none⟩=c[i]?:=fun f=>by rw[aR];exact bm f
 refine⟨_,rfl,_,c (i:=0) f,_,c (i:=1) f,sp,c (i:=2) f,sk,c (i:=3) f,_,c (i:=4) f,_,c (i:=5) f,?_⟩;have k1:=Upd.hnew No h [.int .u32 0,.int .u32 0,.slice none 0 0,.slice none 0 0,.bool false,.pointer none] bP;have b1:=co h [.int .u32 0,.int .u32 0,.slice none 0 0,.slice none 0 0,.bool false,.pointer none] bP;refine bG ?_;simp only[cT h];generalize hnew h [.int .u32 0,.int .u32 0,.slice none 0 0,.slice none 0 0,.bool false,.pointer none] bP=h1 at k1 b1
 have D:fS h1 ⟨h.size,0,none⟩ 0 [.int .u32 (d:Int),.int .u32 (n:Int),.slice sp.a sp.len sp.cap,.slice sk.a sk.len sk.cap,.bool false,.pointer ow]=_:=kX _ h1 0 0 _ b1 (by simp);refine⟨.inr ⟨_,rfl,fun j X=>by rw[cd];exact ip b1 (by simp at X⊢;omega)⟩,bG ?_⟩
 rw[D];have b2:=jE (o:=.cells (gc d n sp sk false ow) bP (0,0)) b1;have u:Upd No h _:=k1.trans (M':=(· =h.size)) (Upd.set h1 (.cells (gc d n sp sk false ow) bP (0,0)) rfl) fun x hx=>.inr (eY hx.symm)
 have H:h.size<(h1.setIfInBounds h.size (.cells (gc d n sp sk false ow) bP (0,0))).size:=aY b2;have R:h.size≠b:=fun e=>by have:=aY f;omega
 have e2:(Obj.cells (List.take (0+0) [Value.int .u32 0,.int .u32 0,.slice none 0 0,.slice none 0 0,.bool false,.pointer none]++ [Value.int .u32 (d:Int),.int .u32 (n:Int),.slice sp.a sp.len sp.cap,.slice sk.a sk.len sk.cap,.bool false,.pointer ow]++List.drop (0+0+ [Value.int .u32 (d:Int),.int .u32 (n:Int),.slice sp.a sp.len sp.cap,.slice sk.a sk.len sk.cap,.bool false,.pointer ow].length) [Value.int .u32 0,.int .u32 0,.slice none 0 0,.slice none 0 0,.bool false,.pointer none]).toArray bP (0,0))=.cells (gc d n sp sk false ow) bP (0,0):=rfl
 rw[e2];generalize h1.setIfInBounds h.size (.cells (gc d n sp sk false ow) bP (0,0))=h2 at b2 u H;have q:=u.get0 f;refine⟨_,rfl,sp,c (i:=2) q,_,rfl,sk,c (i:=3) q,?_⟩;refine yA (I.upd u fun _ h=>h.elim) (by have:=AN (g:=s.p);omega) fun z Q L m=>?_
 refine⟨c (i:=3) (m.get0 q),?_⟩;refine Gd ((G.upd u fun _ h=>h.elim).upd m fun _ h=>h.elim) (by have:=AN (g:=s.k);omega) fun F T M p=>?_
 have N:=p.get0 (m.get0 b2);have y:=L.within.upd p fun _ _ h=>h
 have t:=M.within;have z3:=m.size;have z4:=p.size;have w:∀{h:ad} {c:Array Value} {x i:Nat},h[x]? =some (.cells c bP (0,0))→i<c.size→Wr h ⟨x,0+i,none⟩:=fun f hi=>by rw[aR];exact ip f hi
 have st:∀{h:ad} {c c':Array Value} {x i:Nat} {v:Value} {k:ad→Prop},h[x]? =some (.cells c bP (0,0))→c.setIfInBounds i v=c'→(∀h',h'[x]? =some (.cells c' bP (0,0))→Upd (· =x) h h'→k h')→At (hset h ⟨x,i,none⟩ v) k:=fun f e B=>wr f fun h' A S=>B h' (e▸A) S
 refine⟨w (i:=2) N (show 2<6 by decide),st (i:=2) (c':=gc d n z sk false ow) N rfl fun h5 P C=>?_⟩
 refine⟨w (i:=3) P (show 3<6 by decide),st (i:=3) (c':=gc d n z F false ow) P rfl fun h6 O J=>?_⟩
 refine⟨w (i:=5) O (show 5<6 by decide),st (i:=5) (c':=gc d n z F false none) O rfl fun h7 Y E=>?_⟩
 refine AI (ag.2 ?_);have a:=C.tr (J.tr E);have z7:=a.size;refine B _ d n z F ⟨Y,bits,⟨fun x=>h2.size≤x∧x<Q.size,fun x=>Q.size≤x∧x<T.size,y.upd a fun x hx e=>by have e:x=h.size:=e;omega,t.upd a fun x hx e=>by have e:x=h.size:=e;omega,fun x hx=>⟨by omega,by omega,by omega,by omega⟩,fun x hx=>⟨by omega,by omega,by omega⟩⟩,aj _⟩ ?_
 exact((u.tr m).tr p).trans a fun x hx=>.inr (eY hx.symm)
end Go.Proofs
namespace Go.Proofs
open Go.Lift
theorem yf{β:Type}{g:Nat→Option β}{i:Nat}(h:g i=none):upd g i none=g:=by
 funext j;unfold upd;split
 ·rename_i e;rw[e,h]
 ·rfl
theorem fE{h:ad}{b:Nat}{c:Array Value}{t:TypeId}{i:Nat}(a:h[b]? =some (.cells c t (0,0))):aJ h ⟨b,0+i,none⟩=c[i]?:=by rw[aR];exact bm a
theorem Zp{h:ad}{b:Nat}{c:Array Value}{t:TypeId}{i:Nat}(a:h[b]? =some (.cells c t (0,0))) (hi:i<c.size):Wr h ⟨b,0+i,none⟩:=by rw[aR];exact ip a hi
theorem Ld{h:ad}{b:Nat}{c c':Array Value}{t:TypeId}{i:Nat}{v:Value}{k:ad→Prop}(g:h[b]? =some (.cells c t (0,0))) (e:c.setIfInBounds i v=c')
 (d:∀h',h'[b]? =some (.cells c' t (0,0))→Upd (· =b) h h'→k h'):At (hset h ⟨b,i,none⟩ v) k:=wr g fun h' a f=>d h' (e▸a) f
theorem Oa{M:Nat→Prop}{h:ad}{b d n:Nat}{sp sk:SliceV}{s:Slots}{ow:Option Addr}(o:OwnN M h b d n sp sk s ow){i:Nat}(hi:i<32){K:Unit→ad→Prop}
  (U:∀h' F n' sp' sk',OwnN M h' b F n' sp' sk' ⟨upd s.p i none,upd s.k i none⟩ ow→Upd M h h'→K () h'):HC PG l4 [.pointer (some ⟨b,0,none⟩),.int .i64 i] [] K h:=by
 obtain⟨A,B,T,X,a,m⟩:=o.ex;have bits:=o.bits;refine ES _ i ?_;unfold xx bK dy O6 jU qK;have W:∀k:Nat,k≤100→IntKind.wrap .i64 ((k:Int)+1)=((k+1:Nat):Int):=fun k U=>by rw[eJ (by omega)];omega
 have hc1:=Dp i d;have hc2:=Dp i n;have I:∀x,A x→M x∨h.size≤x:=fun x hx=>.inl (a x hx).1
 refine Join.intro (fun _ h'=>∃sp',h'[b]? =some (.cells (gc d n sp' sk false ow) bP (0,0))∧OwnS ey 2 al A h' sp' (fm (upd s.p i none) 32)∧OwnS uy 1 cf B h' sk (fm s.k 32)∧Upd M h h') (fun R D=>?_) ?_
 ·refine⟨_,rfl,_,fE (i:=0) o.blk,F1 bits.d32 hi ?_⟩
  rw[bits.dp i hi];cases hp:s.p i with
  |none=>exact ag.2 (D _ _ ⟨sp,o.blk,by rw[yf hp];exact T,X,Upd.refl _ _⟩)
  |some y=>
   refine aw.2 ⟨_,rfl,_,fE (i:=0) o.blk,uj bits.d32 hi ⟨_,rfl,sp,fE (i:=2) o.blk,?_⟩⟩;rw[W _ (by omega)];refine Ta T (MS hi bits.dp hp) (by have:=AN (g:=s.p);omega) fun w h2 t f=>?_
   rw[←Yq hi bits.dp hp]at t;have b2:=f.get o.blk fun P=>(a b P).2.2.1 rfl
   refine⟨_,rfl,Zp (i:=2) b2 (show 2<6 by decide),Ld (i:=2) (c':=gc d n w sk false ow) b2 rfl fun V b3 j=>?_⟩
   refine D _ _ ⟨w,b3,t.upd j fun x hx e=>(a x hx).2.2.1 e,(X.upd f fun x hx S=>(a x S).2.1 hx).upd j fun x hx e=>(m x hx).2.1 e,(f.mono I).tr (j.mono fun x e=>.inl (e▸o.mb))⟩
 rintro _ h1 ⟨q,b1,E,C,v⟩;refine Join.intro (fun _ h'=>∃sk',h'[b]? =some (.cells (gc d n q sk' false ow) bP (0,0))∧OwnS ey 2 al A h' q (fm (upd s.p i none) 32)∧OwnS uy 1 cf B h' sk' (fm (upd s.k i none) 32)∧Upd M h1 h') (fun R D=>?_) ?_
 ·refine⟨_,rfl,_,fE (i:=1) b1,F1 bits.n32 hi ?_⟩
  rw[bits.nk i hi];cases hp:s.k i with
  |none=>exact ag.2 (D _ _ ⟨sk,b1,E,by rw[yf hp];exact C,Upd.refl _ _⟩)
  |some y=>
   refine aw.2 ⟨_,rfl,_,fE (i:=1) b1,uj bits.n32 hi ⟨_,rfl,sk,fE (i:=3) b1,?_⟩⟩;rw[W _ (by omega)];refine Tb C (MS hi bits.nk hp) (by have:=AN (g:=s.k);omega) fun w h2 t f=>?_
   rw[←Yq hi bits.nk hp]at t;have b2:=f.get b1 fun P=>(m b P).2.1 rfl
   refine⟨_,rfl,Zp (i:=3) b2 (show 3<6 by decide),Ld (i:=3) (c':=gc d n q w false ow) b2 rfl fun V b3 j=>?_⟩
   refine D _ _ ⟨w,b3,(E.upd f fun x hx S=>(a x hx).2.1 S).upd j fun x hx e=>(a x hx).2.2.1 e,t.upd j fun x hx e=>(m x hx).2.1 e,(f.mono fun x hx=>.inl (m x hx).1).tr (j.mono fun x e=>.inl (e▸o.mb))⟩
 rintro _ h2 ⟨u,b2,N,Q,f⟩;refine⟨_,rfl,_,fE (i:=0) b2,_,rfl,_,fE (i:=1) b2,?_⟩;refine Ii bits.d32 hi fun F O H=>⟨fE (i:=1) b2,?_⟩
 refine Ii bits.n32 hi fun n' G L=>?_
 refine⟨_,rfl,Zp (i:=0) b2 (show 0<6 by decide),Ld (i:=0) (c':=gc F n q u false ow) b2 rfl fun V b3 j=>?_⟩
 refine⟨_,rfl,Zp (i:=1) b3 (show 1<6 by decide),Ld (i:=1) (c':=gc F n' q u false ow) b3 rfl fun Y Z J=>?_⟩
 have p:=j.tr J;have z:=(v.tr (f.tr (p.mono (M':=M) fun x e=>.inl (e▸o.mb)))).size
 refine U Y F n' q u ⟨Z,⟨O,G,fun c hc=>?_,fun c hc=>?_⟩,⟨A,B,N.upd p fun x hx e=>(a x hx).2.2.1 e,Q.upd p fun x hx e=>(m x hx).2.1 e,fun x hx=>⟨(a x hx).1,(a x hx).2.1,(a x hx).2.2.1,by have:=(a x hx).2.2.2;omega⟩,fun x hx=>⟨(m x hx).1,(m x hx).2.1,by have:=(m x hx).2.2;omega⟩⟩,o.mb⟩ (v.tr (f.tr (p.mono fun x e=>.inl (e▸o.mb))))
 ·rw[H,bits.dp c hc];simp only[upd];split<;>simp[*]
 ·rw[L,bits.nk c hc];simp only[upd];split<;>simp[*]
end Go.Proofs
namespace Go.Proofs
open Go.Lift
theorem OwnS.setAt{α:Type}{f:α→List Value}{c:Nat}{t:TypeId}{M:Nat→Prop}{h:ad}{s:SliceV}{xs:List α}(m:OwnS f c t M h s xs){k:Nat}(o:k<xs.length)(x:α):
  ∃a,s.a=some a∧M a.block∧rE h (some (adr a (k*c))) 0 (f x)∧OwnS f c t M (fS h (adr a (k*c)) 0 (f x)) s (xs.take k++x::xs.drop (k+1))∧Upd (· =a.block) h (fS h (adr a (k*c)) 0 (f x)):=by
 have i:∀x,(f x).length=c∧0<c:=m.ne;have u:=m.len;have g:=m.cap;rcases m.blk with E|⟨b,e,w,v,hc,z⟩
 ·omega
 have n:((xs.take k).flatMap f).length=k*c:=by rw[ni i,aQ,bH (by omega)]
 have C:xs.flatMap f=(xs.take k).flatMap f++(f xs[k]++(xs.drop (k+1)).flatMap f):=by
  rw[←aN,←fq o];exact Dm xs k
 rw[C]at hc;have y:=(i xs[k]).1;have F:=(i x).1;have d:(xs.take k++x::xs.drop (k+1)).flatMap f=(xs.take k).flatMap f++(f x++(xs.drop (k+1)).flatMap f):=by rw[bI,aN]
 generalize (xs.take k).flatMap f=A at n hc d;generalize (xs.drop (k+1)).flatMap f=B at hc d;generalize f xs[k]=X at y hc;have q:k*c+0+(f x).length≤(A++(X++B)++e).length:=by simp only[ac];omega
 have p:adr ⟨b,0,none⟩ (k*c)=⟨b,k*c,none⟩:=by rw[cd,aR]
 refine⟨⟨b,0,none⟩,w,v,?_,?_,?_⟩
 ·rw[p]
  refine .inr ⟨_,rfl,fun j D=>?_⟩
  rw[cd];exact ip hc (by rw[List.size_toArray];omega)
 ·rw[p,kX (f x) h 0 (k*c) _ hc q]
  refine⟨by simp;omega,i,g,.inr ⟨b,e,w,v,?_,?_⟩⟩
  ·rw[jE hc,d]
   congr 3
   rw[Nat.add_zero,aq A,dE n,←dZ,cP n,aq X,cP (by omega)];simp only[aq]
  ·exact z
 ·rw[p,kX (f x) h 0 (k*c) _ hc q]
  exact Upd.set h _ rfl
theorem OwnN.node{M W:Nat→Prop}{h:ad}{b d n:Nat}{sp sk:SliceV}{s:Slots}{ow:Option Addr}(o:OwnN M h b d n sp sk s ow)(a:∀x,M x→¬W x):NodeAt W h b s:=by
 obtain⟨A,B,c,h2,e,f⟩:=o.ex;exact⟨⟨d,n,sp,sk,ow,o.blk,o.bits,c.sl fun x hx _=>a _ (e x hx).1,h2.sl fun x hx _=>a _ (f x hx).1,c.cap,h2.cap⟩,a _ o.mb⟩
theorem Jw{W:Nat→Prop}{h:ad}{b:Nat}{s:Slots}(c:NodeAt W h b s){i:Nat}(hi:i<32){K:Bool→ad→Prop}(a:K true h):HC PG l6 [.pointer (some ⟨b,0,none⟩),.int .i64 i] [.c .bool] K h:=by
 obtain⟨d,n,sp,sk,ow,e,_⟩:=c.ex;refine ET _ i ?_;unfold xy bF;refine aw.2 ⟨_,rfl,_,fE (i:=4) e,aw.2 ?_⟩;refine ax (fun _=>?_) fun h=>absurd (Int.natCast_nonneg i) h
 rw[decide_eq_true (by omega)];exact a
theorem Uf{β:Type}{g:Nat→Option β}{i:Nat}{x y:Option β}:upd (upd g i x) i y=upd g i y:=by
 funext j;unfold upd;split<;>rfl
theorem gT{β:Type}{g:Nat→Option β}{i:Nat}{x:Option β}:upd g i x i=x:=by simp[upd]
theorem tE{W:Nat→Prop}{h:ad}{b:Nat}{s:Slots}(nd:NodeAt W h b s)(hW:∀x,W x→x<h.size){i:Nat}(hi:i<32)(hx:∀y,s.p i=some y→s.k i=none)(p:Pr){K:Option Addr→ad→Prop}
  (hk:∀h' b',NodeAt W h' b' ⟨upd s.p i (some p),upd s.k i none⟩→Upd No h h'→K (some ⟨b',0,none⟩) h'):
  HC PG eW [.pointer (some ⟨b,0,none⟩),.pointer none,.int .i64 i,.agg #[.string p.1,.string p.2]] [.c .ptr] K h:=by
 refine BW _ none i p ?_;unfold vy bT bK av iU vl dy wT ga oU jU qK;have k1:=Upd.hnew No h [.string p.1,.string p.2] al;have b1:=co h [.string p.1,.string p.2] al;refine bG ?_;simp only[cT h];generalize hnew h [.string p.1,.string p.2] al=h1 at k1 b1;have z1:=aY b1;have P:=nd.upd k1 fun _ h=>h.elim
 refine Jw P hi (ag.2 ?_);refine Sn P fun h2 d n sp sk o H=>?_
 have bits:=o.bits;obtain⟨A,B,hA,hB,q,J⟩:=o.ex;have F:=k1.tr H;have u:=H.get0 b1;have N:∀x,h1.size≤x→¬W x:=fun x hx X=>by have:=hW x X;omega
 refine⟨_,rfl,_,fE (i:=0) o.blk,F1 bits.d32 hi ?_⟩;rw[bits.dp i hi];cases hp:s.p i with
 |some y=>
  refine aw.2 ⟨_,rfl,sp,fE (i:=2) o.blk,_,rfl,_,fE (i:=0) o.blk,p.1,by rw[cd,bm u];rfl,p.2,by rw[cd,bm u];rfl,?_⟩
  refine uj bits.d32 hi ⟨⟨by rw[cd,bm u];rfl,by rw[cd,bm u];rfl⟩,fE (i:=2) o.blk,?_⟩
  have hlt:=MS hi bits.dp hp;obtain⟨a,ha,I,X,Y,m⟩:=OwnS.setAt hA hlt p;have hlen:=hA.len;refine⟨by omega,a,ha,?_⟩;rw[aU];refine⟨X,bG ?_⟩;rw[←Yo hi bits.dp hp]at Y;have ob:=m.get o.blk fun e=>(q _ I).2.2.1 e.symm
  have z3:=m.size;have E:OwnN (fun x=>h1.size≤x) _ h1.size d n sp sk ⟨upd s.p i (some p),upd s.k i none⟩ none:=⟨ob,⟨bits.d32,bits.n32,fun c hc=>by
    rw[bits.dp c hc];simp only[upd];split
    ·rename_i e;rw[e,hp];rfl
    ·rfl,fun c hc=>by rw[bits.nk c hc,yf (hx y hp)]⟩,
   ⟨A,B,Y,by rw[yf (hx y hp)];exact hB.upd m fun x hx e=>(q _ I).2.1 (e▸hx),fun x hx=>⟨(q x hx).1,(q x hx).2.1,(q x hx).2.2.1,by have:=(q x hx).2.2.2;omega⟩,fun x hx=>⟨(J x hx).1,(J x hx).2.1,by have:=(J x hx).2.2;omega⟩⟩,o.mb⟩
  refine hk _ _ (E.node N) (F.trans m fun x hx=>.inr ?_)
  have:=(q _ I).1;have hx:x=a.block:=hx;omega
 |none=>
  refine ag.2 ⟨_,rfl,Oa o hi fun z d3 n3 D L E m=>?_⟩
  have f:=E.bits;obtain⟨A3,B3,hA3,hB3,j,k⟩:=E.ex;have z2:=H.size;have z3:=m.size;have C:=m.get u (show ¬h1.size≤h.size by omega)
  have O:Upd No h z:=F.trans m fun x hx=>.inr (aX (Nat.le_of_lt z1) hx)
  refine⟨_,rfl,D,fE (i:=2) E.blk,_,rfl,_,fE (i:=0) E.blk,p.1,by rw[cd,bm C];rfl,p.2,by rw[cd,bm C];rfl,?_⟩
  have U:=Upd.hnew No z [.string p.1,.string p.2] al;have b4:=co z [.string p.1,.string p.2] al;have z4:=jV z [.string p.1,.string p.2] al;have M:=E.upd U fun _ h=>h.elim
  have Z:HC PG dA [.slice D.a D.len D.cap,.int .i64 (yZ i d3),.slice (some (ay z)) 1 1] [.c .slice] (fun(G:SliceV) S=>
       ∃a34:Addr,some (⟨h1.size,0,none⟩:Addr)=some a34∧
       (Wr S (adr (adr a34 0) 2)∧
        At (hset S (adr (adr a34 0) 2) (.slice G.a G.len G.cap)) (fun R=>
         ∃a36:Addr,some (⟨h1.size,0,none⟩:Addr)=some a36∧
         ∃v37:Int,aJ R (adr (adr a36 0) 0)=some (.int .u32 v37)∧
         HC PG gO [.int .u32 v37,.int .i64 i] [.c (.int .u32)] (fun(e38:Int) Q=>
          ∃a40:Addr,some (⟨h1.size,0,none⟩:Addr)=some a40∧
          (Wr Q (adr (adr a40 0) 0)∧
           At (hset Q (adr (adr a40 0) 0) (.int .u32 e38)) (fun h41=>
            K (some ⟨h1.size,0,none⟩) h41))) R))) (hnew z [.string p.1,.string p.2] al):=by
   generalize hnew z [.string p.1,.string p.2] al=h4 at U b4 z4 M;rw[cT z];have hA4:=(hA3.upd U fun _ _ h=>h).more (M':=fun x=>A3 x∨h4.size≤x) fun x hx=>.inl hx
   have hpn:(⟨upd s.p i none,upd s.k i none⟩:Slots).p i=none:=gT;refine SN hA4 (aa5 hi f.dp) (by have:=AN (g:=(⟨upd s.p i none,upd s.k i none⟩:Slots).p);omega) (x:=p) b4 (fun e=>e.elim (fun e=>by have:=(j _ e).2.2.2;omega) fun e=>by omega) (fun x hx=>.inr hx) fun s5 h5 T v=>?_
   rw[←Yp hi f.dp hpn p]at T;have hbl:h1.size<z.size:=aY E.blk;have b5:=v.get M.blk fun e=>e.elim (fun e=>(j _ e).2.2.1 rfl) fun e=>by omega
   refine⟨_,rfl,Zp (i:=2) b5 (show 2<6 by decide),Ld (i:=2) (c':=gc d3 n3 s5 L false none) b5 rfl fun h6 b6 hu6=>?_⟩
   refine⟨_,rfl,_,fE (i:=0) b6,Ud f.d32 hi fun w X hwt=>?_⟩
   refine⟨_,rfl,Zp (i:=0) b6 (show 0<6 by decide),Ld (i:=0) (c':=gc w n3 s5 L false none) b6 rfl fun h7 b7 hu7=>?_⟩
   have t:=hu6.tr hu7;have z5:=v.size;have z7:=t.size;have V:=T.within;have e1:(⟨upd (⟨upd s.p i none,upd s.k i none⟩:Slots).p i (some p),upd s.k i none⟩:Slots)=⟨upd s.p i (some p),upd s.k i none⟩:=by rw[Uf]
   have o7:OwnN (fun x=>h1.size≤x) h7 h1.size w n3 s5 L ⟨upd s.p i (some p),upd s.k i none⟩ none:=by
    rw[←e1];refine⟨b7,⟨X,f.n32,fun c hc=>?_,f.nk⟩,⟨fun x=>(A3 x∨h4.size≤x)∧x<h5.size,B3,V.upd t fun x hx e=>?_,((hB3.upd U fun _ _ h=>h).upd v fun x hx e=>?_).upd t fun x hx e=>(k x hx).2.1 e,fun x hx=>⟨?_,?_,?_,by omega⟩,fun x hx=>⟨(k x hx).1,(k x hx).2.1,by have:=(k x hx).2.2;omega⟩⟩,o.mb⟩
    ·rw[hwt,f.dp c hc];simp only[upd];split<;>simp[*]
    ·have e:x=h1.size:=e
     rcases hx.1 with h|h
     ·exact(j x h).2.2.1 e
     ·omega
    ·rcases e with e|e
     ·exact(j x e).2.1 hx
     ·have:=(k x hx).2.2;omega
    ·rcases hx.1 with h|h
     ·exact(j x h).1
     ·omega
    ·rcases hx.1 with h|h
     ·exact(j x h).2.1
     ·exact fun hb=>by have:=(k x hb).2.2;omega
    ·rcases hx.1 with h|h
     ·exact(j x h).2.2.1
     ·omega
   refine hk _ _ (o7.node N) (((O.tr U).trans v fun x hx=>.inr ?_).trans t fun x hx=>.inr ?_)
   ·rcases hx with h|h
    ·have:=(j x h).1;omega
    ·omega
   ·have hx:x=h1.size:=hx
    omega
  refine⟨uj f.d32 hi ⟨⟨by rw[cd,bm C];rfl,by rw[cd,bm C];rfl⟩,fE (i:=2) E.blk,bG ⟨fE (i:=2) M.blk,Z⟩⟩,bG ⟨fE (i:=0) M.blk,fE (i:=2) M.blk,uj f.d32 hi ⟨fE (i:=2) M.blk,Z⟩⟩⟩
end Go.Proofs
namespace Go.Proofs
open Go.Lift
theorem YI{W:Nat→Prop}{h:ad}{b:Nat}{s:Slots}(e:NodeAt W h b s)(p:∀x,W x→x<h.size){i:Nat}(hi:i<32){K:Option Addr→ad→Prop}
  (g:∀h' b',NodeAt W h' b' ⟨upd s.p i none,upd s.k i none⟩→Upd No h h'→K (some ⟨b',0,none⟩) h'):
  HC PG oB [.pointer (some ⟨b,0,none⟩),.pointer none,.int .i64 i] [.c .ptr] K h:=by
 refine EW _ none i ?_;unfold xB vl oU;refine Jw e hi (ag.2 ?_);refine Sn e fun h2 d n sp sk o c=>⟨_,rfl,Oa o hi fun u t q f m k a=>?_⟩
 exact g _ _ (k.node fun x hx j=>by have:=p x j;omega) (c.trans a fun x hx=>.inr hx)
theorem yh{W:Nat→Prop}{h:ad}{b:Nat}{s:Slots}(nd:NodeAt W h b s)(hW:∀x,W x→x<h.size){i:Nat}(hi:i<32)(hx:∀y,s.k i=some y→s.p i=none)(kid:Addr){K:Option Addr→ad→Prop}
  (hk:∀h' b',NodeAt W h' b' ⟨upd s.p i none,upd s.k i (some (some kid))⟩→Upd No h h'→K (some ⟨b',0,none⟩) h'):
  HC PG gd [.pointer (some ⟨b,0,none⟩),.pointer none,.int .i64 i,.pointer (some kid)] [.c .ptr] K h:=by
 refine DB _ none i (some kid) ?_;unfold wH bT bK vl dy oU Nq jU qK;refine ag.2 ?_;refine Jw nd hi (ag.2 ?_);refine Sn nd fun h2 d n sp sk o F=>?_
 have bits:=o.bits;obtain⟨A,B,hA,hB,q,t⟩:=o.ex;have J:∀x,h.size≤x→¬W x:=fun x hx z=>by have:=hW x z;omega
 refine⟨_,rfl,_,fE (i:=1) o.blk,F1 bits.n32 hi ?_⟩;rw[bits.nk i hi];cases hp:s.k i with
 |some y=>
  refine aw.2 ⟨_,rfl,sk,fE (i:=3) o.blk,_,rfl,_,fE (i:=1) o.blk,?_⟩;refine uj bits.n32 hi ⟨fE (i:=3) o.blk,?_⟩;have hlt:=MS hi bits.nk hp;obtain⟨a,ha,H,z,S,m⟩:=OwnS.setAt hB hlt (some kid);have hlen:=hB.len;refine⟨by omega,a,ha,?_⟩;rw[aU];have hw1:Wr h2 (adr a (yZ i n*1)):=by
   rcases z with z|⟨b',V,z⟩
   ·cases z
   ·cases V;exact z 0 (by simp)
  refine⟨hw1,bG ?_⟩;rw[←Yo hi bits.nk hp]at S;have ob:=m.get o.blk fun e=>(t _ H).2.1 e.symm
  have z3:=m.size;have C:OwnN (fun x=>h.size≤x) _ h.size d n sp sk ⟨upd s.p i none,upd s.k i (some (some kid))⟩ none:=⟨ob,⟨bits.d32,bits.n32,fun c hc=>by rw[bits.dp c hc,yf (hx y hp)],fun c hc=>by
    rw[bits.nk c hc];simp only[upd];split
    ·rename_i e;rw[e,hp];rfl
    ·rfl⟩,
   ⟨A,B,by rw[yf (hx y hp)];exact hA.upd m fun x hx e=>(q _ hx).2.1 (e▸H),S,fun x hx=>⟨(q x hx).1,(q x hx).2.1,(q x hx).2.2.1,by have:=(q x hx).2.2.2;omega⟩,fun x hx=>⟨(t x hx).1,(t x hx).2.1,by have:=(t x hx).2.2;omega⟩⟩,o.mb⟩
  refine hk _ _ (C.node J) (F.trans m fun x hx=>.inr ?_)
  have:=(t _ H).1;have hx:x=a.block:=hx;omega
 |none=>
  refine ag.2 ⟨_,rfl,Oa o hi fun v d3 n3 G D C m=>?_⟩
  have f:=C.bits;obtain⟨A3,B3,U,hB3,j,k⟩:=C.ex;have z2:=F.size;have z3:=m.size;have L:Upd No h v:=F.trans m fun x hx=>.inr hx
  refine⟨_,rfl,D,fE (i:=3) C.blk,_,rfl,_,fE (i:=1) C.blk,?_⟩;have Q:=Upd.hnew No v [.pointer (some kid)] cf;have b4:=co v [.pointer (some kid)] cf;have z4:=jV v [.pointer (some kid)] cf;have I:=C.upd Q fun _ h=>h.elim
  have T:HC PG db [.slice D.a D.len D.cap,.int .i64 (yZ i n3),.slice (some (ay v)) 1 1] [.c .slice] (fun(E:SliceV) O=>
       ∃a34:Addr,some (⟨h.size,0,none⟩:Addr)=some a34∧
       (Wr O (adr (adr a34 0) 3)∧
        At (hset O (adr (adr a34 0) 3) (.slice E.a E.len E.cap)) (fun N=>
         ∃a36:Addr,some (⟨h.size,0,none⟩:Addr)=some a36∧
         ∃v37:Int,aJ N (adr (adr a36 0) 1)=some (.int .u32 v37)∧
         HC PG gO [.int .u32 v37,.int .i64 i] [.c (.int .u32)] (fun(e38:Int) M=>
          ∃a40:Addr,some (⟨h.size,0,none⟩:Addr)=some a40∧
          (Wr M (adr (adr a40 0) 1)∧
           At (hset M (adr (adr a40 0) 1) (.int .u32 e38)) (fun h41=>
            K (some ⟨h.size,0,none⟩) h41))) N))) (hnew v [.pointer (some kid)] cf):=by
   generalize hnew v [.pointer (some kid)] cf=h4 at Q b4 z4 I;rw[cT v];have hB4:=(hB3.upd Q fun _ _ h=>h).more (M':=fun x=>B3 x∨h4.size≤x) fun x hx=>.inl hx
   have X:(⟨upd s.p i none,upd s.k i none⟩:Slots).k i=none:=gT;refine SO hB4 (aa5 hi f.nk) (by have:=AN (g:=(⟨upd s.p i none,upd s.k i none⟩:Slots).k);omega) (x:=some kid) b4 (fun e=>e.elim (fun e=>by have:=(k _ e).2.2;omega) fun e=>by omega) (fun x hx=>.inr hx) fun s5 h5 P u=>?_
   rw[←Yp hi f.nk X (some kid)]at P;have hbl:h.size<v.size:=aY C.blk;have b5:=u.get I.blk fun e=>e.elim (fun e=>(k _ e).2.1 rfl) fun e=>by omega
   refine⟨_,rfl,Zp (i:=3) b5 (show 3<6 by decide),Ld (i:=3) (c':=gc d3 n3 G s5 false none) b5 rfl fun h6 Z hu6=>?_⟩
   refine⟨_,rfl,_,fE (i:=1) Z,Ud f.n32 hi fun w z hwt=>?_⟩
   refine⟨_,rfl,Zp (i:=1) Z (show 1<6 by decide),Ld (i:=1) (c':=gc d3 w G s5 false none) Z rfl fun h7 b7 Y=>?_⟩
   have p:=hu6.tr Y;have z5:=u.size;have z7:=p.size;have R:=P.within;have e1:(⟨upd s.p i none,upd (⟨upd s.p i none,upd s.k i none⟩:Slots).k i (some (some kid))⟩:Slots)=⟨upd s.p i none,upd s.k i (some (some kid))⟩:=by rw[Uf]
   have o7:OwnN (fun x=>h.size≤x) h7 h.size d3 w G s5 ⟨upd s.p i none,upd s.k i (some (some kid))⟩ none:=by
    rw[←e1];refine⟨b7,⟨f.d32,z,f.dp,fun c hc=>?_⟩,⟨A3,fun x=>(B3 x∨h4.size≤x)∧x<h5.size,((U.upd Q fun _ _ h=>h).upd u fun x hx e=>?_).upd p fun x hx e=>(j x hx).2.2.1 e,R.upd p fun x hx e=>?_,fun x hx=>⟨(j x hx).1,?_,(j x hx).2.2.1,by have:=(j x hx).2.2.2;omega⟩,fun x hx=>⟨?_,?_,by omega⟩⟩,o.mb⟩
    ·rw[hwt,f.nk c hc];simp only[upd];split<;>simp[*]
    ·rcases e with e|e
     ·exact(j x hx).2.1 e
     ·have:=(j x hx).2.2.2;omega
    ·have e:x=h.size:=e
     rcases hx.1 with h|h
     ·exact(k x h).2.1 e
     ·omega
    ·rintro⟨h|h,_⟩
     ·exact(j x hx).2.1 h
     ·have:=(j x hx).2.2.2;omega
    ·rcases hx.1 with h|h
     ·exact(k x h).1
     ·omega
    ·rcases hx.1 with h|h
     ·exact(k x h).2.1
     ·omega
   refine hk _ _ (o7.node J) (((L.tr Q).trans u fun x hx=>.inr ?_).trans p fun x hx=>.inr ?_)
   ·rcases hx with h|h
    ·exact(k x h).1
    ·omega
   ·have hx:x=h.size:=hx
    omega
  refine⟨uj f.n32 hi ⟨fE (i:=3) C.blk,bG ⟨fE (i:=3) I.blk,T⟩⟩,bG ⟨fE (i:=1) I.blk,fE (i:=3) I.blk,uj f.n32 hi ⟨fE (i:=3) I.blk,T⟩⟩⟩
end Go.Proofs
