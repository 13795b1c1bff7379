/- A part of the proof that the named laws of this program answer true, whatever the input. -/
import Derived.Test.YtncppacbfagpgaaGreatDoorPart0
import Derived.Sort.Walk0
open BitVec renaming ofInt→ao,ofInt_natCast→fD,getLsbD_ofNat→m9
open Bool renaming eq_iff_iff→mf
open Int renaming fdiv→dY,fdiv_eq_ediv_of_nonneg→gU,toNat_natCast→aV
open List renaming getElem_cons_zero→fK,length_cons→ar,pairwise_iff_getElem→cA,getElem?_eq_getElem→ag,any_eq_true→cL,getElem_mem→bw,length_append→ac,replicate→gQ,replicate_succ→oh,flatMap_cons→aN,flatten_append→gY,flatten_cons→iY,length→fg,take_of_length_le→bD,length_drop→aY,length_take→aR,range→gR,range_add→tW,mem_range→iD,filterMap_cons→kY,filterMap_append→mu,take_left'→eC,drop_left'→dz,drop_drop→eK,append_assoc→au
open Nat renaming lt_or_ge→bT,le_refl→aq,zero_le→aW,le_trans→bh,testBit_shiftRight→qa,testBit_and→jg,testBit_two_pow_sub_one→mF,shiftRight_eq_div_pow→cI,lt_of_le_of_lt→gn,min_eq_left→bN,shiftRight_le→iW,mod_eq_of_lt→dN,testBit_two_pow→od,testBit_lt_two_pow→jy,lt_of_lt_of_le→aQ,pow_le_pow_right→gz,zero_add→aM,le_of_eq→fj,lt_irrefl→qZ
open UInt8 renaming ofNat→gu
namespace Go.Proofs
open Go.Lift
abbrev Pr:=ByteArray×ByteArray
theorem Dx{a b:ByteArray}:a.toList=b.toList↔a=b:=by
 constructor
 ·intro h
  rw[ByteArray.toList_eq,ByteArray.toList_eq]at h;cases a;cases b;simp at h;subst h;rfl
 ·rintro rfl;rfl
def kl(a b:ByteArray):Prop:=Op.bytesLess a.toList b.toList=true
instance (a b:ByteArray):Decidable (kl a b):=inferInstanceAs (Decidable (_=true))
theorem KS{a b:ByteArray}:kl a b↔a.toList<b.toList:=by unfold kl;rw[bytesLess_eq,decide_eq_true_iff]
theorem cg(a:ByteArray):¬kl a a:=by rw[KS];exact List.lt_irrefl _
theorem gq{a b c:ByteArray}(h:kl a b)(k:kl b c):kl a c:=by rw[KS]at*;exact List.lt_trans h k
theorem tri:∀x y:List UInt8,Op.bytesLess x y=false→x≠y→Op.bytesLess y x=true
 | [],[],_,h=>absurd rfl h
 | [],_::_,h,_=>by simp[Op.bytesLess]at h
 |_::_,[],_,_=>rfl
 |a::x,b::y,h,hn=>by
  simp only[Op.bytesLess,Bool.or_eq_false_iff,decide_eq_false_iff_not,Bool.and_eq_false_iff]at h;simp only[Op.bytesLess,Bool.or_eq_true,decide_eq_true_iff,Bool.and_eq_true];by_cases e:a=b
  ·subst e
   right;refine⟨by simp,tri x y ?_ fun e=>hn (by rw[e])⟩
   rcases h.2 with h|h
   ·simp at h
   ·exact h
  ·left
   have h1:=h.1;rw[UInt8.lt_iff_toNat_lt]at h1⊢;have:a.toNat≠b.toNat:=fun h=>e (UInt8.toNat_inj.1 h)
   omega
theorem pG{a b:ByteArray}(h:¬kl a b)(k:a≠b):kl b a:=tri _ _ (by unfold kl at h;simpa using h) fun e=>k (Dx.1 e)
def H6(a b:ByteArray):Int:=if kl a b then-1 else if a=b then 0 else 1
theorem ML{x:ByteArray}{h:ae}{K:Bool→ae→Prop}(hk:K false h):HC PG oO [.string x] [.c .bool] K h:=by
 refine E4 x ?_;unfold xq;simpa using hk
theorem GF{a b:ByteArray}{h:ae}{K:Int→ae→Prop}(hk:K (H6 a b) h):HC PG mC [.string a,.string b] [.c (.int .i64)] K h:=by
 refine Co a b ?_;unfold uO;refine ML (ML (aj.2 (aj.2 ?_)));unfold H6 at hk;refine CondP.intro (fun e=>?_) fun e=>?_
 ·rw[if_pos (show kl a b from e)]at hk;exact hk
 ·have hn:¬kl a b:=fun h=>by rw[show Op.bytesLess a.toList b.toList=true from h]at e;cases e
  rw[if_neg hn]at hk;rw[e];refine CondP.intro (fun e2=>?_) fun e2=>?_
  ·rw[if_neg (fun h=>by subst h;simp at e2)]at hk;exact hk
  ·have:a.toList=b.toList:=by simpa using e2
   rw[if_pos (Dx.1 this)]at hk;exact hk
theorem Mx{p:Pr}{k:ByteArray}{h:ae}{K:Int→ae→Prop}(hk:∀h',Upd No h h'→K (H6 p.1 k) h'):HC PG pP [.agg #[.string p.1,.string p.2],.string k] [.c (.int .i64)] K h:=by
 refine Lu p k ?_;unfold Cy aw ij cr wq;have b1:=cq h [.string p.1,.string p.2] al;refine⟨p.1,by rw[cV,bX,bq b1];rfl,GF (hk _ (Upd.hnew No h _ _))⟩
abbrev bO(l:List Pr):Prop:=l.Pairwise fun p q=>kl p.1 q.1
def xx(l:List Pr)(k:ByteArray):Nat:=(l.takeWhile fun p=>decide (kl p.1 k)).length
def dX(l:List Pr)(k:ByteArray):Bool:=l.any fun p=>decide (p.1=k)
theorem T8{l:List Pr}{k:ByteArray}{i:Nat}(hi:i≤l.length)(h1:∀j (h:j<l.length),j<i→kl l[j].1 k)(h2:∀(h:i<l.length),¬kl l[i].1 k):xx l k=i:=by
 unfold xx;induction l generalizing i with
 |nil=>simp at hi;simp[hi]
 |cons p l ih=>
  rw[List.takeWhile_cons];cases i with
  |zero=>
   have:=h2 (by simp);simp only[fK]at this;rw[if_neg (by simpa using this)];rfl
  |succ i=>
   have:=h1 0 (by simp) (by omega);simp only[fK]at this;rw[if_pos (by simpa using this),ar];congr 1
   refine ih (by simpa using hi) (fun j hj hji=>?_) fun h=>?_
   ·have:=h1 (j+1) (by simpa using hj) (by omega)
    simpa using this
   ·have:=h2 (by simpa using h)
    simpa using this
theorem XN(l:List Pr)(k:ByteArray):xx l k≤l.length:=by
 unfold xx;exact(List.takeWhile_prefix _).length_le
theorem Q1{W:Nat→Prop}{h:ae}{s:SliceV}{l:List Pr}(hs:Sl eg 2 W h s l)(hr:bO l)(hn:l.length≤1000000000)(k:ByteArray){K:Int×Bool→ae→Prop}
  (hk:∀h',Upd No h h'→K ((xx l k:Int),dX l k) h'):HC PG un [.slice s.a s.len s.cap,.string k] [.c (.int .i64),.c .bool] K h:=by
 refine Nt s k ?_;unfold ED nm;refine jO s k _ ?_;unfold fu cB aO cr qn;have hlen:=hs.len;have cmp:∀{p:Pr} {h:ae} {K:Int→ae→Prop},(∀h',Upd No h h'→K (H6 p.1 k) h')→HV PG (.func (.func pP) #[] #[]) [.agg #[.string p.1,.string p.2],.string k] [.c (.int .i64)] K h:=fun hk=>HV.mk' (Mx hk)
 refine LoopP.ghost (fun(g:Nat×Nat) (t:Int×Int) h'=>t.1=(g.1:Int)∧t.2=(g.2:Int)∧g.1≤g.2∧g.2≤l.length∧Upd No h h'∧(∀j (hj:j<l.length),j<g.1→kl l[j].1 k)∧(∀j (hj:j<l.length),g.2≤j→¬kl l[j].1 k)) (fun g=>g.2-g.1) (0,l.length)
  ⟨rfl,by simp only;omega,by simp,by simp,Upd.refl _ _,fun j hj h=>by omega,fun j hj h=>by simp only at h;omega⟩ ?_
 rintro I ⟨i,j⟩ ⟨ti,tj⟩ h' ⟨e1,e2,hij,hjl,hu,hlo,hhi⟩ hI;simp only at e1 e2 hij hjl hlo hhi;subst e1 e2;have hs':=hs.upd hu fun _ h=>h.elim
 have mono:∀a b (ha:a<l.length) (hb:b<l.length),a<b→kl l[a].1 l[b].1:=fun a b ha hb hab=>cA.1 hr a b ha hb hab
 refine az (fun hlt=>?_) fun hge=>?_
 ·have hlt:i<j:=by have:(i:Int)<(j:Int):=hlt;omega
  have em:IntKind.wrap .i64 (dY (IntKind.wrap .u64 (IntKind.wrap .i64 ((i:Int)+(j:Int)))) (2^(min (1:Int).toNat (IntKind.bits .u64))))=(((i+j)/2:Nat):Int):=by
   have e3:(2^(min (1:Int).toNat (IntKind.bits .u64)):Int)=2:=rfl;rw[e3,gD (x:=(i:Int)+(j:Int)) (by omega),Go.IntWalk.u64_in _ (by omega),gU _ (by omega),gD (by omega)];omega
  refine⟨by decide,?_⟩;simp only[Bd];rw[em];generalize hm:(i+j)/2=m;have hml:m<l.length:=by omega
  obtain⟨a,ha,_,hv⟩:=hs'.at (ag hml);refine⟨by omega,a,ha,l[m].1,hv 0 _ rfl,l[m].2,hv 1 _ rfl,cmp fun h2 hu2=>?_⟩
  refine az (fun hneg=>?_) fun hpos=>?_
  ·have hkl:kl l[m].1 k:=by
    unfold H6 at hneg;by_cases hkl:kl l[m].1 k
    ·exact hkl
    ·rw[if_neg hkl]at hneg;split at hneg<;>omega
   refine hI (m+1,j) _ _ ⟨by simp only;rw[gD (by omega)];omega,rfl,by simp only;omega,hjl,hu.tr hu2,fun q hq hqm=>?_,hhi⟩ (by simp only;omega)
   simp only at hqm;rcases bT q m with h|h
   ·exact gq (mono q m hq hml h) hkl
   ·have:q=m:=by omega
    subst this;exact hkl
  ·have hnk:¬kl l[m].1 k:=fun hkl=>hpos (by unfold H6;rw[if_pos hkl];decide)
   refine hI (i,m) _ _ ⟨rfl,rfl,by simp only;omega,by simp only;omega,hu.tr hu2,hlo,fun q hq hqm hqk=>?_⟩ (by simp only;omega)
   simp only at hqm;rcases bT m q with h|h
   ·exact hnk (gq (mono m q hml hq h) hqk)
   ·have:q=m:=by omega
    subst this;exact hnk hqk
 ·have hij:i=j:=by have:¬(i:Int)<(j:Int):=hge;omega
  subst hij;have hp:xx l k=i:=T8 hjl hlo fun hi=>hhi i hi (aq _)
  rw[hp]at hk;refine az (fun hlt=>?_) fun hnl=>?_
  ·have hil:i<l.length:=by have:(i:Int)<(s.len:Int):=hlt;omega
   obtain⟨a,ha,_,hv⟩:=hs'.at (ag hil);refine⟨by simp only;omega,a,ha,l[i].1,hv 0 _ rfl,l[i].2,hv 1 _ rfl,cmp fun h2 hu2=>?_⟩
   have hnk:=hhi i hil (aq _);have et:(H6 l[i].1 k==(0:Int))=dX l k:=by
    unfold H6 dX;rw[if_neg hnk,mf,cL];constructor
    ·intro h
     split at h
     ·rename_i e;exact⟨l[i],bw hil,decide_eq_true e⟩
     ·simp at h
    ·rintro⟨p,hp,e⟩
     have e:=of_decide_eq_true e;obtain⟨q,hq,rfl⟩:=List.mem_iff_getElem.1 hp;have:q=i:=by
      rcases Nat.lt_trichotomy q i with h|h|h
      ·exact absurd (e▸hlo q hq h) (cg _)
      ·exact h
      ·exact absurd (e▸mono i q hil hq h) hnk
     subst this;rw[if_pos e];rfl
   rw[et];exact hk _ (hu.tr hu2)
  ·have hil:i=l.length:=by have:¬(i:Int)<(s.len:Int):=hnl;omega
   have et:dX l k=false:=by
    unfold dX;rw[List.any_eq_false];intro p hp e;have e:=of_decide_eq_true e;obtain⟨q,hq,rfl⟩:=List.mem_iff_getElem.1 hp;exact absurd (e▸hlo q hq (by omega)) (cg _)
   rw[et]at hk;exact hk _ hu
end Go.Proofs
namespace Go.Proofs
open Go.Lift
theorem OwnS.zero{α:Type}{f:α→List Value}{sz:Nat}{t:TypeId}{M:Nat→Prop}{h:ae}{s:SliceV}{xs:List α}(hs:OwnS f sz t M h s xs):OwnS f sz t M h ⟨bj s.a 0 s.cap sz,0-0,s.cap-0⟩ []:=by
 have hf:∀x,(f x).length=sz∧0<sz:=hs.ne;have hlen:=hs.len;have hcap:=hs.cap;refine⟨rfl,hf,by simp only;omega,?_⟩
 rcases hs.blk with h0|⟨b,rest,ha,hb,hc,hr⟩
 ·exact .inl (by simp only;omega)
 ·refine .inr ⟨b,xs.flatMap f++rest,by rw[ha,sub_zero],hb,hc,?_⟩
  rw[ac,nE hf,hr,←Nat.add_mul];simp only;congr 1;omega
def Vy:Pr:=(⟨#[]⟩,⟨#[]⟩)
theorem Qc(n:Nat):eD n [.string (⟨#[]⟩:ByteArray),.string (⟨#[]⟩:ByteArray)]=(gQ n Vy).flatMap eg:=by
 unfold eD;induction n with
 |zero=>rfl
 |succ n ih=>rw[oh,oh,aN,←ih];rfl
theorem Ww{n:Nat}(hn:n*32≤140737488355328){h:ae}{K:SliceV→ae→Prop}(hk:∀s' h',OwnS eg 2 al (fun b=>h.size≤b) h' s' []→Upd No h h'→K s' h'):
  HC PG gb [.slice none 0 0,.int .i64 n] [.c .slice] K h:=by
 refine oF ⟨none,0,0⟩ n ?_;unfold jF kZ;have e:IntKind.wrap .i64 ((n:Int)-IntKind.wrap .i64 (((0:Nat):Int)-((0:Nat):Int)))=(n:Int):=by rw[gD (x:=((0:Nat):Int)-((0:Nat):Int)) (by omega),gD (by omega)];omega
 refine Join.plain (az (fun h=>by omega) fun _=>?_)
 simp only[Bd];rw[e];refine az (fun hp=>?_) fun hz=>hk _ _ (OwnS.nil fk) (Upd.refl _ _)
 refine⟨by omega,⟨by omega,by omega,by omega,by omega⟩,?_⟩
 refine AppP.own (f:=eg) (M:=fun b=>h.size≤b) (xs:= []) (ys:=gQ n Vy) (OwnS.nil fk) (by simp) (Qc _) (by rw[Qc];exact wB _) rfl (by omega) (by simpa using hn) (aq _) fun s' h' ho hu=>?_
 exact⟨by omega,hk _ _ (OwnS.zero ho) (hu.mono fun b hb=>.inr hb)⟩
abbrev slF(s:SliceV):List Value:= [.slice s.a s.len s.cap]
def ParS(h:ae):List SliceV→List (List Pr)→Prop
 | [],[]=>True
 |v::vs,l::ls=>Sl eg 2 No h v l∧ParS h vs ls
 |_,_=>False
theorem ParS.upd{h h':ae}(k:Upd No h h'):∀{vs:List SliceV} {ls:List (List Pr)},ParS h vs ls→ParS h' vs ls
 | [],[],_=>trivial
 |_::_,_::_,q=>⟨q.1.upd k fun _ h=>h.elim,ParS.upd k q.2⟩
 | [],_::_,q=>q.elim
 |_::_,[],q=>q.elim
theorem ParS.len{h:ae}:∀{vs:List SliceV} {ls:List (List Pr)},ParS h vs ls→vs.length=ls.length
 | [],[],_=>rfl
 |_::_,_::_,q=>by rw[ar,ar,ParS.len q.2]
 | [],_::_,q=>q.elim
 |_::_,[],q=>q.elim
theorem ParS.at{h:ae}:∀{vs:List SliceV} {ls:List (List Pr)},ParS h vs ls→∀{i:Nat} (h1:i<vs.length) (h2:i<ls.length),Sl eg 2 No h vs[i] ls[i]
 |_::_,_::_,q,0,_,_=>q.1
 |_::_,_::_,q,i+1,h1,h2=>ParS.at q.2 (by simpa using h1) (by simpa using h2)
theorem JI(ls:List (List Pr)){i:Nat}(hi:i<ls.length):(ls.take (i+1)).flatten=(ls.take i).flatten++ls[i]:=by
 rw[List.take_succ_eq_append_getElem hi,gY,iY,List.flatten_nil,List.append_nil]
theorem Q0(ls:List (List Pr))(i:Nat):(ls.take i).flatten.length≤ls.flatten.length:=by
 have:ls.flatten=(ls.take i).flatten++(ls.drop i).flatten:=by rw[←gY,List.take_append_drop]
 rw[this,ac];omega
theorem Sz{h:ae}{s:SliceV}{vs:List SliceV}{ls:List (List Pr)}(hs:Sl slF 1 No h s vs)(hp:ParS h vs ls)(hn:ls.flatten.length*32≤140737488355328)(hv:vs.length≤1000)
  {K:SliceV→ae→Prop}(hk:∀s' h',OwnS eg 2 al (fun b=>h.size≤b) h' s' ls.flatten→Upd No h h'→K s' h'):HC PG fI [.slice s.a s.len s.cap] [.c .slice] K h:=by
 refine nJ s ?_;unfold iV bM cB kZ;have hlen:=hs.len;have hpl:=hp.len;refine LoopP.ghost (fun(i:Nat) (t:Int×Int) h'=>t.2=(i:Int)∧i≤vs.length∧t.1=((ls.take i).flatten.length:Int)∧h'=h) (fun i=>vs.length-i) 0 ⟨rfl,aW _,by simp,rfl⟩ ?_
 rintro I i ⟨tz,ti⟩ h' ⟨e1,hi,e2,rfl⟩ hI;simp only at e1 e2;subst e1 e2;refine az (fun hlt=>?_) fun hge=>?_
 ·have hlt:i<vs.length:=by have:(i:Int)<(s.len:Int):=hlt;omega
  obtain⟨a,ha,_,hv'⟩:=hs.at (ag hlt);have hvl:=(hp.at hlt (hpl▸hlt)).len;have hft:=congrArg fg (JI ls (hpl▸hlt));rw[ac]at hft;have hfl:=Q0 ls (i+1);refine Join.plain ⟨by simp only;omega,a,ha,_,hv' 0 _ rfl,?_⟩;simp only;have ew:IntKind.wrap .i64 (((ls.take i).flatten.length:Int)+((vs[i]).len:Int))=((ls.take (i+1)).flatten.length:Int):=by rw[gD (by omega)];omega
  rw[ew];refine az (fun h=>by omega) fun _=>?_
  rw[cS hlt (by omega)];exact hI (i+1) _ _ ⟨rfl,hlt,rfl,rfl⟩ (by omega)
 ·have hil:i=vs.length:=by have:¬(i:Int)<(s.len:Int):=hge;omega
  rw[bD (by omega)];refine Ww hn fun s0 h0 ho0 hu0=>?_
  refine LoopP.ghost (fun(i:Nat) (t:SliceV×Int) h1=>t.2=(i:Int)∧i≤vs.length∧OwnS eg 2 al (fun b=>h'.size≤b) h1 t.1 (ls.take i).flatten∧Upd No h' h1) (fun i=>vs.length-i) 0 ⟨rfl,aW _,by simpa using ho0,hu0⟩ ?_
  rintro I2 j ⟨sj,tj⟩ h1 ⟨e1,hj,ho,hu⟩ hI2;simp only at e1 ho;subst e1;refine az (fun hlt=>?_) fun hge2=>?_
  ·have hlt:j<vs.length:=by have:(j:Int)<(s.len:Int):=hlt;omega
   obtain⟨a,ha,_,hv'⟩:=(hs.upd hu fun _ h=>h.elim).at (ag hlt)
   have hvj:=((hp.upd hu).at hlt (hpl▸hlt));have hft:=JI ls (hpl▸hlt);have hft2:=congrArg fg hft;rw[ac]at hft2;have hfl:=Q0 ls (j+1);refine Join.plain ⟨by simp only;omega,a,ha,_,hv' 0 _ rfl,_,hvj.srow,?_⟩;refine AppP.own (ys:=ls[j]) ho hvj.len rfl (wB _) rfl (by omega) (by omega) hu.size fun s2 h2 ho2 hu2=>?_
   simp only;rw[cS hlt (by omega)];exact hI2 (j+1) _ _ ⟨rfl,hlt,hft▸ho2,hu.trans hu2 fun b hb=>.inr hb⟩ (by omega)
  ·have hjl:j=vs.length:=by have:¬(j:Int)<(s.len:Int):=hge2;omega
   rw[bD (by omega)]at ho;exact hk _ _ ho hu
def H1(l:List Pr)(p:Pr):List Pr:=l.take (xx l p.1)++p::l.drop (if dX l p.1 then xx l p.1+1 else xx l p.1)
theorem OB{l:List Pr}(hr:bO l){k:ByteArray}(ht:dX l k=true):∃h:xx l k<l.length,l[xx l k].1=k:=by
 unfold dX at ht;obtain⟨p,hp,e⟩:=cL.1 ht;have e:=of_decide_eq_true e;obtain⟨q,hq,rfl⟩:=List.mem_iff_getElem.1 hp;have:xx l k=q:=T8 (by omega) (fun j hj hjq=>by rw[←e];exact cA.1 hr j q hj hq hjq) fun h=>by rw[←e];exact cg _
 subst this;exact⟨hq,e⟩
theorem TK{h:ae}{s:SliceV}{l:List Pr}(hs:Sl eg 2 No h s l){i j m:Nat}(h1:i≤j)(h2:j≤l.length)(h3:j≤m)(c:Nat):Sl eg 2 No h ⟨bj s.a i m 2,j-i,c⟩ ((l.drop i).take (j-i)):=Sl.sub hs h1 h2 h3
theorem OH{h:ae}{s:SliceV}{l:List Pr}(hs:Sl eg 2 No h s l)(hc:s.len≤s.cap)(hr:bO l)(hn:l.length≤1000000000)(p:Pr)
  {K:SliceV→ae→Prop}(hk:∀s' h',OwnS eg 2 al (fun b=>h.size≤b) h' s' (H1 l p)→Upd No h h'→K s' h'):HC PG AB [.slice s.a s.len s.cap,.agg #[.string p.1,.string p.2]] [.c .slice] K h:=by
 refine PR s p ?_;unfold Hw aw ij wq HJ nm;have hlen:=hs.len;have k1:=Upd.hnew No h [.string p.1,.string p.2] al;have b1:=cq h [.string p.1,.string p.2] al;refine bE ?_;simp only[cV h];generalize hnew h [.string p.1,.string p.2] al=h1 at k1 b1;refine⟨p.1,by rw[bX,bq b1];rfl,Q1 (hs.upd k1 fun _ h=>h.elim) hr hn p.1 fun h2 hu2=>?_⟩
 have hp:=XN l p.1;have hu02:=k1.tr hu2;refine⟨by simp only;omega,?_⟩;let q:=if dX l p.1 then xx l p.1+1 else xx l p.1
 have hq:q≤l.length:=by
  show(if dX l p.1 then xx l p.1+1 else xx l p.1)≤l.length
  split
  ·rename_i ht;obtain⟨h,_⟩:=OB hr ht;omega
  ·exact hp
 refine Join.intro (fun t h'=>h'=h2∧t=⟨bj s.a q s.cap 2,s.len-q,s.cap-q⟩) (fun R hR=>?_) ?_
 ·refine CondP.intro (fun e=>?_) fun e=>hR _ _ ⟨rfl,?_⟩
  ·have e:dX l p.1=true:=e
   obtain⟨hlt,_⟩:=OB hr e;have ew:IntKind.wrap .i64 ((xx l p.1:Int)+1)=((xx l p.1+1:Nat):Int):=by rw[gD (by omega)];omega
   simp only;rw[ew];refine⟨by omega,hR _ _ ⟨rfl,?_⟩⟩;have:q=xx l p.1+1:=by show(if dX l p.1 then _ else _)=_;rw[if_pos e]
   rw[this];rfl
  ·have e:dX l p.1=false:=e
   have:q=xx l p.1:=by show(if dX l p.1 then _ else _)=_;rw[if_neg (by rw[e];decide)]
   rw[this];rfl
 ·rintro t h' ⟨rfl,rfl⟩
  have b2:=hu2.get0 b1;refine⟨by simp only;omega,p.1,by rw[bX,bq b2];rfl,p.2,by rw[bX,bq b2];rfl,?_⟩
  have k3:=Upd.hnew No h' [.string p.1,.string p.2] al;have b3:=cq h' [.string p.1,.string p.2] al;refine bE ?_;simp only[cV h'];generalize hnew h' [.string p.1,.string p.2] al=h3 at k3 b3;refine bE ?_;have hs2:=(hs.upd hu02 fun _ h=>h.elim).upd k3 fun _ h=>h.elim
  have k4:=Upd.hnew No h3 [.slice (bj s.a 0 s.cap 2) ((xx l p.1:Int).toNat-0) (s.cap-0),.slice (some ⟨h'.size,0,none⟩) 1 1,.slice (bj s.a q s.cap 2) (s.len-q) (s.cap-q)] cZ;have b4:=cq h3 [.slice (bj s.a 0 s.cap 2) ((xx l p.1:Int).toNat-0) (s.cap-0),.slice (some ⟨h'.size,0,none⟩) 1 1,.slice (bj s.a q s.cap 2) (s.len-q) (s.cap-q)] cZ;have hA:=TK hs2 (i:=0) (j:=xx l p.1) (m:=s.cap) (aW _) hp (by omega) (s.cap-0)
  have hB:Sl eg 2 No h3 ⟨some ⟨h'.size,0,none⟩,1,1⟩ [p]:=⟨rfl,fk,fun _=>⟨_,rfl,fun h=>h.elim,ng b3 fun i v hv=>by simpa using hv⟩⟩
  have hC:=TK hs2 (i:=q) (j:=l.length) (m:=s.cap) hq (aq _) (by omega) (s.cap-q);rw[←hlen]at hC;rw[List.drop_zero]at hA;rw[bD (by rw[aY];omega)]at hC;have e0:H1 l p= [l.take (xx l p.1-0),[p],l.drop q].flatten:=by simp[H1,q]
  refine Sz (s:=⟨some (aE h3),3,3⟩) (vs:= [⟨bj s.a 0 s.cap 2,(xx l p.1:Int).toNat-0,s.cap-0⟩,⟨some ⟨h'.size,0,none⟩,1,1⟩,⟨bj s.a q s.cap 2,s.len-q,s.cap-q⟩]) (ls:= [l.take (xx l p.1-0),[p],l.drop q])
   ⟨rfl,fun x=>⟨rfl,Nat.one_pos⟩,fun _=>⟨_,rfl,fun h=>h.elim,ng b4 fun i v hv=>by simpa[slF]using hv⟩⟩ ⟨hA.upd k4 fun _ h=>h.elim,hB.upd k4 fun _ h=>h.elim,hC.upd k4 fun _ h=>h.elim,trivial⟩ ?_ (by simp) fun s5 h5 ho5 hu5=>?_
  ·simp only[iY,List.flatten_nil,ac,aR,aY,List.length_singleton,List.length_nil];omega
  ·rw[←e0]at ho5
   have hu:=((hu02.tr k3).tr k4);exact hk _ _ (ho5.more fun b hb=>bh hu.size hb) (hu.tr hu5)
end Go.Proofs
namespace Go.Proofs
open Go.Lift
def wr(n d:Nat):Nat:=(gR n).countP (d.testBit ·)
theorem Fi(m n d:Nat):wr (m+n) d=wr m d+wr n (d>>>m):=by
 unfold wr;rw[tW,List.countP_append,List.countP_map];congr 1
 refine List.countP_congr fun i _=>?_
 simp[qa]
theorem Q9(d:Nat)(i:Nat):∀n,i≤n→wr n (d&&&(2^i-1))=wr i d:=by
 intro n hn;obtain⟨m,rfl⟩:=Nat.exists_eq_add_of_le hn;rw[Fi];have e1:wr i (d&&&(2^i-1))=wr i d:=by
  unfold wr;refine List.countP_congr fun j hj=>?_
  have:=iD.1 hj;simp[this]
 have e2:wr m ((d&&&(2^i-1))>>>i)=0:=by
  unfold wr;rw[List.countP_eq_zero];intro j _;simp[qa];intro h;omega
 omega
theorem X5(d:Nat):wr 8 (d&&&255)=wr 8 d:=Q9 d 8 8 (aq _)
theorem AG(n d:Nat):wr n d≤n:=by
 have:=List.countP_le_length (p:=(d.testBit ·)) (l:=gR n)
 simpa[wr]using this
theorem mZ(d n:Nat):dY (d:Int) (2^n)=((d>>>n:Nat):Int):=by
 rw[gU _ (by exact Int.le_of_lt (Int.pow_pos (by decide))),cI];simp
theorem U7(a b:Nat):(ao (IntKind.bits .u32) (a:Int)&&&ao (IntKind.bits .u32) (b:Int)).toNat=(a%4294967296)&&&(b%4294967296):=by
 simp[IntKind.bits];rfl
theorem A8{n:Nat}(h:n<4294967296):IntKind.wrap .u32 (n:Int)=(n:Int):=Go.IntWalk.u32_in _ (by omega)
theorem FZ{i:Nat}(hi:i<32){h:ae}{K:Bool→ae→Prop}(hk:K true h):HC PG oy [.int .i64 i] [.c .bool] K h:=by
 refine Ix i ?_;unfold zP;refine az (fun _=>?_) fun h=>absurd (Int.natCast_nonneg i) h
 rw[decide_eq_true (by omega)];exact hk
theorem Ln{a b:Nat}(h:b<4294967296):a&&&b<4294967296:=gn Nat.and_le_right h
theorem Dj{d i:Nat}(hd:d<4294967296)(hi:i<32){h:ae}{K:Bool→ae→Prop}(hk:K (d.testBit i) h):HC PG gt [.int .u32 d,.int .i64 i] [.c .bool] K h:=by
 refine DP d i ?_;unfold wm;refine FZ hi (ay.2 ⟨by omega,?_⟩);have e:min (i:Int).toNat (IntKind.bits .u32)=i:=by rw[aV];exact bN (by show i≤32;omega)
 rw[e,mZ];have e2:=U7 (d>>>i) 1;have hlt:d>>>i<4294967296:=gn (iW d i) hd;rw[dN hlt,show(1:Nat)%4294967296=1 from rfl]at e2
 simp only[Bd];rw[show((1:Nat):Int)=(1:Int)from rfl]at e2
 rw[e2,A8 (Ln (by omega))];have e3:(((d>>>i&&&1:Nat):Int)==(1:Int))=d.testBit i:=by
  rw[mf,beq_iff_eq,Nat.testBit,Nat.and_comm];simp only[bne_iff_ne,ne_eq,Nat.one_and_eq_mod_two];have:(d>>>i)%2<2:=Nat.mod_lt _ (by omega);omega
 rw[e3];exact hk
theorem SO{d i:Nat}(hd:d<4294967296)(hi:i<32):∃w:Nat,IntKind.wrap .u32 (ao (IntKind.bits .u32) (d:Int)|||ao (IntKind.bits .u32) (IntKind.wrap .u32 (1*2^(min (i:Int).toNat (IntKind.bits .u32))))).toNat=(w:Int)∧w<4294967296∧∀j,w.testBit j=(d.testBit j||decide (j=i)):=by
 have e:min (i:Int).toNat (IntKind.bits .u32)=i:=by rw[aV];exact bN (by show i≤32;omega)
 have hp:2^i<4294967296:=Nat.pow_lt_pow_right (by omega) (show i<32 from hi)
 have e2:(1*2^i:Int)=((2^i:Nat):Int):=by simp
 rw[e,e2,A8 hp];refine⟨_,A8 (BitVec.isLt _),BitVec.isLt _,fun j=>?_⟩
 rw[BitVec.testBit_toNat,BitVec.getLsbD_or,fD,fD,m9,m9,od];by_cases hj:j<32
 ·have:decide (j<IntKind.bits .u32)=true:=decide_eq_true hj
  rw[this];simp[eq_comm]
 ·have h1:decide (j<IntKind.bits .u32)=false:=decide_eq_false hj
  have h2:d.testBit j=false:=jy (aQ hd (gz (n:=2) (by omega) (show 32≤j by omega)))
  rw[h1,h2];simp;omega
theorem Qh{d i:Nat}(hd:d<4294967296)(hi:i<32){h:ae}{K:Int→ae→Prop}(hk:∀w:Nat,w<4294967296→(∀j,w.testBit j=(d.testBit j||decide (j=i)))→K (w:Int) h):HC PG fV [.int .u32 d,.int .i64 i] [.c (.int .u32)] K h:=by
 refine Cq d i ?_;unfold uQ;refine FZ hi (aj.2 ⟨by omega,?_⟩);obtain⟨w,e,h1,h2⟩:=SO hd hi;simp only[Bd];rw[e];exact hk w h1 h2
theorem Lj{d i:Nat}(hd:d<4294967296)(hi:i<32):∃w:Nat,IntKind.wrap .u32 (ao (IntKind.bits .u32) (d:Int)&&& ~~~ao (IntKind.bits .u32) (IntKind.wrap .u32 (1*2^(min (i:Int).toNat (IntKind.bits .u32))))).toNat=(w:Int)∧w<4294967296∧∀j,w.testBit j=(d.testBit j&&decide (j≠i)):=by
 have e:min (i:Int).toNat (IntKind.bits .u32)=i:=by rw[aV];exact bN (by show i≤32;omega)
 have hp:2^i<4294967296:=Nat.pow_lt_pow_right (by omega) (show i<32 from hi)
 have e2:(1*2^i:Int)=((2^i:Nat):Int):=by simp
 rw[e,e2,A8 hp];refine⟨_,A8 (BitVec.isLt _),BitVec.isLt _,fun j=>?_⟩
 rw[BitVec.testBit_toNat,BitVec.getLsbD_and,BitVec.getLsbD_not,fD,fD,m9,m9,od];by_cases hj:j<32
 ·have:decide (j<IntKind.bits .u32)=true:=decide_eq_true hj
  rw[this];simp[eq_comm]
 ·have h1:decide (j<IntKind.bits .u32)=false:=decide_eq_false hj
  have h2:d.testBit j=false:=jy (aQ hd (gz (n:=2) (by omega) (show 32≤j by omega)))
  rw[h1,h2];simp
theorem Fs{d i:Nat}(hd:d<4294967296)(hi:i<32){h:ae}{K:Int→ae→Prop}(hk:∀w:Nat,w<4294967296→(∀j,w.testBit j=(d.testBit j&&decide (j≠i)))→K (w:Int) h):HC PG kC [.int .u32 d,.int .i64 i] [.c (.int .u32)] K h:=by
 refine yr d i ?_;unfold rB;refine FZ hi (aj.2 ⟨by omega,?_⟩);obtain⟨w,e,h1,h2⟩:=Lj hd hi;simp only[Bd];rw[e];exact hk w h1 h2
abbrev Yu:ByteArray:=⟨#[0,1,1,2,1,2,2,3,1,2,2,3,2,3,3,4,1,2,2,3,2,3,3,4,2,3,3,4,3,4,4,5,1,2,2,3,2,3,3,4,2,3,3,4,3,4,4,5,2,3,3,4,3,4,4,5,3,4,4,5,4,5,5,6,1,2,2,3,2,3,3,4,2,3,3,4,3,4,4,5,2,3,3,4,3,4,4,5,3,4,4,5,4,5,5,6,2,3,3,4,3,4,4,5,3,4,4,5,4,5,5,6,3,4,4,5,4,5,5,6,4,5,5,6,5,6,6,7,1,2,2,3,2,3,3,4,2,3,3,4,3,4,4,5,2,3,3,4,3,4,4,5,3,4,4,5,4,5,5,6,2,3,3,4,3,4,4,5,3,4,4,5,4,5,5,6,3,4,4,5,4,5,5,6,4,5,5,6,5,6,6,7,2,3,3,4,3,4,4,5,3,4,4,5,4,5,5,6,3,4,4,5,4,5,5,6,4,5,5,6,5,6,6,7,3,4,4,5,4,5,5,6,4,5,5,6,5,6,6,7,4,5,5,6,5,6,6,7,5,6,6,7,6,7,7,8]⟩
theorem VH:(gR 256).all (fun b=>decide (Yu[b]? =some (gu (wr 8 b))))=true:=by decide+kernel
theorem Kp{b:Nat}(h:b<256):Yu[b]? =some (gu (wr 8 b)):=of_decide_eq_true (List.all_eq_true.1 VH b (iD.2 h))
theorem Lc(b:Nat):(gu (wr 8 b)).toNat=wr 8 b:=by
 have:=AG 8 b;simp;omega
theorem Zw(d:Nat):wr 32 d=wr 8 (d>>>24)+wr 8 ((d>>>16)&&&255)+wr 8 ((d>>>8)&&&255)+wr 8 (d&&&255):=by
 rw[X5,X5,X5,show(32:Nat)=8+(8+(8+8))from rfl,Fi,Fi,Fi]
 simp only[←Nat.shiftRight_add,Nat.reduceAdd];omega
set_option maxRecDepth 100000 in
theorem Wb{d:Nat}(hd:d<4294967296){h:ae}{K:Int→ae→Prop}(hk:K (wr 32 d:Int) h):HC PG lh [.int .u32 d] [.c (.int .i64)] K h:=by
 refine vQ d ?_;unfold po;have e24:dY (d:Int) (2^(min (24:Int).toNat (IntKind.bits .u32)))=((d>>>24:Nat):Int):=mZ d 24;have e16:dY (d:Int) (2^(min (16:Int).toNat (IntKind.bits .u32)))=((d>>>16:Nat):Int):=mZ d 16;have e8:dY (d:Int) (2^(min (8:Int).toNat (IntKind.bits .u32)))=((d>>>8:Nat):Int):=mZ d 8;have b:∀x:Nat,x<4294967296→IntKind.wrap .u32 (ao (IntKind.bits .u32) (x:Int)&&&ao (IntKind.bits .u32) 255).toNat=((x&&&255:Nat):Int):=fun x hx=>by
  have:=U7 x 255;rw[dN hx]at this;rw[show((255:Nat):Int)=(255:Int)from rfl]at this
  rw[this,A8 (Ln (by omega))]
 have l24:d>>>24<256:=by rw[cI];omega
 have lb:∀x:Nat,x&&&255<256:=fun x=>gn Nat.and_le_right (by omega)
 have s16:d>>>16<4294967296:=gn (iW d 16) hd;have s8:d>>>8<4294967296:=gn (iW d 8) hd;simp only[Bd];rw[e24,e16,e8,b _ s16,b _ s8,b _ hd];refine⟨by decide,_,by omega,Kp (b:=d>>>24) l24,by decide,_,by omega,Kp (lb _),by decide,_,by omega,Kp (lb _),_,by omega,Kp (lb _),?_⟩
 rw[Lc,Lc,Lc,Lc];simp only[aV];have q1:=AG 8 (d>>>24);have q2:=AG 8 (d>>>16&&&255);have q3:=AG 8 (d>>>8&&&255);have q4:=AG 8 (d&&&255);rw[Zw]at hk;have u8:∀n:Nat,n≤255→IntKind.wrap .u8 (n:Int)=(n:Int):=fun n hn=>Go.IntWalk.u8_in _ (by omega)
 rw[←Int.natCast_add,u8 _ (by omega),←Int.natCast_add,u8 _ (by omega),←Int.natCast_add,u8 _ (by omega),gD (by omega)];exact hk
theorem qS{d i:Nat}(hd:d<4294967296)(hi:i<32){h:ae}{K:Int→ae→Prop}(hk:K (wr i d:Int) h):HC PG dQ [.int .u32 d,.int .i64 i] [.c (.int .i64)] K h:=by
 refine Cr d i ?_;unfold uR cr;refine az (fun h0=>?_) fun h0=>?_
 ·have:i=0:=by omega
  subst this;exact hk
 ·refine az (fun h=>by omega) fun _=>⟨by omega,?_⟩
  have e:min (i:Int).toNat (IntKind.bits .u32)=i:=by rw[aV];exact bN (by show i≤32;omega)
  have hp:2^i<4294967296:=Nat.pow_lt_pow_right (by omega) (show i<32 from hi)
  have hp0:0<2^i:=Nat.pow_pos (by omega);have e2:(1*2^i:Int)=((2^i:Nat):Int):=by simp
  have e3:(((2^i:Nat):Int)-1)=((2^i-1:Nat):Int):=by omega
  simp only[Bd];rw[e,e2,A8 hp,e3,A8 (show 2^i-1<4294967296 by omega),U7,dN hd,dN (show 2^i-1<4294967296 by omega),A8 (Ln (by omega))]
  refine AU _ ?_;unfold tS cr;refine Wb (Ln (by omega)) ?_;rw[Q9 d i 32 (by omega)];exact hk
end Go.Proofs
namespace Go.Proofs
open Go.Lift
def fm{β:Type}(g:Nat→Option β)(n:Nat):List β:=(gR n).filterMap g
def upd{β:Type}(g:Nat→Option β)(i:Nat)(x:Option β)(j:Nat):Option β:=if j=i then x else g j
theorem YT{β:Type}{f g:Nat→Option β}:∀l:List Nat,(∀j∈l,f j=g j)→l.filterMap f=l.filterMap g
 | [],_=>rfl
 |j::l,h=>by
  rw[kY,kY,h j (List.mem_cons_self ..),YT l fun k hk=>h k (List.mem_cons_of_mem _ hk)]
section
variable {β:Type} {g:Nat→Option β} {d:Nat}
theorem Gt(hd:∀c,c<32→d.testBit c=(g c).isSome){i:Nat}(hi:i≤32):(fm g i).length=wr i d:=by
 unfold fm wr;rw[List.length_filterMap_eq_countP];exact List.countP_congr fun j hj=>by rw[hd j (by have:=iD.1 hj;omega)]
theorem rl{i n:Nat}(hi:i<n):fm g n=fm g i++((g i).toList++(gR (n-(i+1))).filterMap fun j=>g (i+1+j)):=by
 unfold fm;have e:n=i+(1+(n-(i+1))):=by omega
 rw[e,tW,mu,tW];have e2:i+(1+(n-(i+1)))-(i+1)=n-(i+1):=by omega
 rw[e2];congr 1
 rw[List.map_append,mu,List.map_map];congr 1
 rw[List.filterMap_map];refine YT _ fun j _=>?_
 show g (i+(1+j))=_
 rw[Nat.add_assoc]
theorem Ao{i:Nat}{x:Option β}:fm (upd g i x) i=fm g i:=by
 unfold fm;refine YT _ fun j hj=>?_
 have:=iD.1 hj;unfold upd;rw[if_neg (by omega)]
theorem xX{i m:Nat}{x:Option β}:((gR m).filterMap fun j=>upd g i x (i+1+j))=(gR m).filterMap fun j=>g (i+1+j):=by
 refine YT _ fun j _=>?_
 unfold upd;rw[if_neg (by omega)]
theorem Ux{i:Nat}(hi:i<32)(hd:∀c,c<32→d.testBit c=(g c).isSome)(hn:g i=none)(x:β):fm (upd g i (some x)) 32=(fm g 32).take (wr i d)++x::(fm g 32).drop (wr i d):=by
 have hl:=Gt hd (i:=i) (by omega);rw[rl (g:=upd g i (some x)) hi,rl (g:=g) hi,Ao,xX,hn,eC hl,dz hl];simp[upd]
theorem Uw{i:Nat}(hi:i<32)(hd:∀c,c<32→d.testBit c=(g c).isSome){y:β}(hn:g i=some y)(x:β):fm (upd g i (some x)) 32=(fm g 32).take (wr i d)++x::(fm g 32).drop (wr i d+1):=by
 have hl:=Gt hd (i:=i) (by omega);rw[rl (g:=upd g i (some x)) hi,rl (g:=g) hi,Ao,xX,hn,eC hl,←eK,dz hl];simp[upd]
theorem Uy{i:Nat}(hi:i<32)(hd:∀c,c<32→d.testBit c=(g c).isSome){y:β}(hn:g i=some y):fm (upd g i none) 32=(fm g 32).take (wr i d)++(fm g 32).drop (wr i d+1):=by
 have hl:=Gt hd (i:=i) (by omega);rw[rl (g:=upd g i none) hi,rl (g:=g) hi,Ao,xX,hn,eC hl,←eK,dz hl];simp[upd]
theorem Uz{i:Nat}(hi:i<32)(hd:∀c,c<32→d.testBit c=(g c).isSome){y:β}(hn:g i=some y):(fm g 32)[wr i d]? =some y:=by
 have hl:=Gt hd (i:=i) (by omega);rw[rl (g:=g) hi,hn,List.getElem?_append_right (by omega),hl,Nat.sub_self];rfl
theorem JH{i:Nat}(hi:i<32)(hd:∀c,c<32→d.testBit c=(g c).isSome){y:β}(hn:g i=some y):wr i d<(fm g 32).length:=(List.getElem?_eq_some_iff.1 (Uz hi hd hn)).1
theorem Xd{i:Nat}(hi:i<32)(hd:∀c,c<32→d.testBit c=(g c).isSome):wr i d≤(fm g 32).length:=by
 have hl:=Gt hd (i:=i) (by omega);rw[rl (g:=g) hi,ac];omega
theorem BJ:(fm g 32).length≤32:=by
 have:=List.length_filterMap_le g (gR 32);simpa[fm]using this
end
end Go.Proofs
namespace Go.Proofs
open Go.Lift
abbrev sv(s:SliceV):Value:=.slice s.a s.len s.cap
structure Slots where
 p:Nat→Option Pr
 k:Nat→Option (Option Addr)
def fS(d n:Nat)(sp sk:SliceV)(bu:Bool)(ow:Option Addr):Array Value:= #[.int .u32 (d:Int),.int .u32 (n:Int),sv sp,sv sk,.bool bu,.pointer ow]
structure BitsOf(d n:Nat)(s:Slots):Prop where
 d32:d<4294967296
 n32:n<4294967296
 dp:∀c,c<32→d.testBit c=(s.p c).isSome
 nk:∀c,c<32→n.testBit c=(s.k c).isSome
structure NodeAt(W:Nat→Prop)(h:ae)(b:Nat)(s:Slots):Prop where
 ex:∃d n sp sk ow,h[b]? =some (.cells (fS d n sp sk false ow) bQ (0,0))∧BitsOf d n s∧Sl eg 2 W h sp (fm s.p 32)∧Sl rD 1 W h sk (fm s.k 32)∧sp.len≤sp.cap∧sk.len≤sk.cap
 nw:¬W b
theorem NodeAt.upd{W M:Nat→Prop}{h h':ae}{b:Nat}{s:Slots}(n:NodeAt W h b s)(k:Upd M h h')(hm:∀b,M b→W b∨h.size≤b):NodeAt W h' b s:=by
 obtain⟨d,m,sp,sk,ow,h1,h2,h3,h4,h5,h6⟩:=n.ex;exact⟨⟨d,m,sp,sk,ow,k.get h1 (fun hb=>(hm _ hb).elim n.nw fun h=>by have:=aZ h1;omega),h2,h3.upd k hm,h4.upd k hm,h5,h6⟩,n.nw⟩
structure OwnN(M:Nat→Prop)(h:ae)(b d n:Nat)(sp sk:SliceV)(s:Slots)(ow:Option Addr):Prop where
 blk:h[b]? =some (.cells (fS d n sp sk false ow) bQ (0,0))
 bits:BitsOf d n s
 ex:∃A B:Nat→Prop,OwnS eg 2 al A h sp (fm s.p 32)∧OwnS rD 1 bV B h sk (fm s.k 32)∧(∀x,A x→M x∧¬B x∧x≠b∧x<h.size)∧(∀x,B x→M x∧x≠b∧x<h.size)
 mb:M b
theorem xT{h:ae}{K:Bool→ae→Prop}(hk:K false h):HC PG ik [.pointer none] [.c .bool] K h:=by
 refine AL none ?_;unfold tJ cP;exact aj.2 hk
theorem Jh{b:Nat}{h:ae}{K:Bool→ae→Prop}(hk:K false h):HC PG pQ [.pointer (some ⟨b,0,none⟩),.pointer none] [.c .bool] K h:=by
 refine Cl _ none ?_;unfold uL rX;exact ay.2 (xT (aj.2 hk))
theorem OwnN.upd{M M':Nat→Prop}{h h':ae}{b d n:Nat}{sp sk:SliceV}{s:Slots}{ow:Option Addr}(o:OwnN M h b d n sp sk s ow)(k:Upd M' h h')(hm:∀x,M' x→¬M x):OwnN M h' b d n sp sk s ow:=by
 obtain⟨A,B,h1,h2,h3,h4⟩:=o.ex;have z:=k.size;exact⟨k.get o.blk fun hb=>hm _ hb o.mb,o.bits,⟨A,B,h1.upd k fun x hx hy=>hm _ hy (h3 x hx).1,h2.upd k fun x hx hy=>hm _ hy (h4 x hx).1,fun x hx=>⟨(h3 x hx).1,(h3 x hx).2.1,(h3 x hx).2.2.1,by have:=(h3 x hx).2.2.2;omega⟩,fun x hx=>⟨(h4 x hx).1,(h4 x hx).2.1,by have:=(h4 x hx).2.2;omega⟩⟩,o.mb⟩
set_option maxRecDepth 4000 in
theorem Ua{W:Nat→Prop}{h:ae}{b:Nat}{s:Slots}(nd:NodeAt W h b s){K:Option Addr→ae→Prop}
  (hk:∀h' d n sp sk,OwnN (fun x=>h.size≤x) h' h.size d n sp sk s none→Upd No h h'→K (some ⟨h.size,0,none⟩) h'):
  HC PG km [.pointer (some ⟨b,0,none⟩),.pointer none] [.c .ptr] K h:=by
 obtain⟨d,n,sp,sk,ow,hb,bits,hsp,hsk,hcp,hck⟩:=nd.ex;refine xg _ none ?_;unfold rQ rX bR nv dS cP Th sr iK Xo;refine Jh (aj.2 ?_);have c:∀{h:ae} {b:Nat} {c:Array Value} {i:Nat},h[b]? =some (.cells c bQ (0,0))→aP h ⟨b,0+i,none⟩=c[i]?:=fun hb=>by rw[aM];exact bq hb
 refine⟨_,rfl,_,c (i:=0) hb,_,c (i:=1) hb,sp,c (i:=2) hb,sk,c (i:=3) hb,_,c (i:=4) hb,_,c (i:=5) hb,?_⟩;have k1:=Upd.hnew No h [.int .u32 0,.int .u32 0,.slice none 0 0,.slice none 0 0,.bool false,.pointer none] bQ;have b1:=cq h [.int .u32 0,.int .u32 0,.slice none 0 0,.slice none 0 0,.bool false,.pointer none] bQ;refine bE ?_;simp only[cV h];generalize hnew h [.int .u32 0,.int .u32 0,.slice none 0 0,.slice none 0 0,.bool false,.pointer none] bQ=h1 at k1 b1
 have hs1:gG h1 ⟨h.size,0,none⟩ 0 [.int .u32 (d:Int),.int .u32 (n:Int),.slice sp.a sp.len sp.cap,.slice sk.a sk.len sk.cap,.bool false,.pointer ow]=_:=jJ _ h1 0 0 _ b1 (by simp);refine⟨.inr ⟨_,rfl,fun j hj=>by rw[bX];exact ii b1 (by simp at hj⊢;omega)⟩,bE ?_⟩
 rw[hs1];have b2:=j4 (o:=.cells (fS d n sp sk false ow) bQ (0,0)) b1;have k2:Upd No h _:=k1.trans (M':=(· =h.size)) (Upd.set h1 (.cells (fS d n sp sk false ow) bQ (0,0)) rfl) fun x hx=>.inr (fj hx.symm)
 have hz2:h.size<(h1.setIfInBounds h.size (.cells (fS d n sp sk false ow) bQ (0,0))).size:=aZ b2;have hbb:h.size≠b:=fun e=>by have:=aZ hb;omega
 have e2:(Obj.cells (List.take (0+0) [Value.int .u32 0,.int .u32 0,.slice none 0 0,.slice none 0 0,.bool false,.pointer none]++ [Value.int .u32 (d:Int),.int .u32 (n:Int),.slice sp.a sp.len sp.cap,.slice sk.a sk.len sk.cap,.bool false,.pointer ow]++List.drop (0+0+ [Value.int .u32 (d:Int),.int .u32 (n:Int),.slice sp.a sp.len sp.cap,.slice sk.a sk.len sk.cap,.bool false,.pointer ow].length) [Value.int .u32 0,.int .u32 0,.slice none 0 0,.slice none 0 0,.bool false,.pointer none]).toArray bQ (0,0))=.cells (fS d n sp sk false ow) bQ (0,0):=rfl
 rw[e2];generalize h1.setIfInBounds h.size (.cells (fS d n sp sk false ow) bQ (0,0))=h2 at b2 k2 hz2;have hb2:=k2.get0 hb;refine⟨_,rfl,sp,c (i:=2) hb2,_,rfl,sk,c (i:=3) hb2,?_⟩;refine yS (hsp.upd k2 fun _ h=>h.elim) (by have:=BJ (g:=s.p);omega) fun s3 h3 ho3 hu3=>?_
 refine⟨c (i:=3) (hu3.get0 hb2),?_⟩;refine Dw ((hsk.upd k2 fun _ h=>h.elim).upd hu3 fun _ h=>h.elim) (by have:=BJ (g:=s.k);omega) fun s4 h4 ho4 hu4=>?_
 have b4:=hu4.get0 (hu3.get0 b2);have ho3':=ho3.within.upd hu4 fun _ _ h=>h
 have ho4':=ho4.within;have z3:=hu3.size;have z4:=hu4.size;have w:∀{h:ae} {c:Array Value} {x i:Nat},h[x]? =some (.cells c bQ (0,0))→i<c.size→Wr h ⟨x,0+i,none⟩:=fun hb hi=>by rw[aM];exact ii hb hi
 have st:∀{h:ae} {c c':Array Value} {x i:Nat} {v:Value} {k:ae→Prop},h[x]? =some (.cells c bQ (0,0))→c.setIfInBounds i v=c'→(∀h',h'[x]? =some (.cells c' bQ (0,0))→Upd (· =x) h h'→k h')→At (hset h ⟨x,i,none⟩ v) k:=fun hb e hk=>tD hb fun h' hb' hu=>hk h' (e▸hb') hu
 refine⟨w (i:=2) b4 (show 2<6 by decide),st (i:=2) (c':=fS d n s3 sk false ow) b4 rfl fun h5 b5 hu5=>?_⟩
 refine⟨w (i:=3) b5 (show 3<6 by decide),st (i:=3) (c':=fS d n s3 s4 false ow) b5 rfl fun h6 b6 hu6=>?_⟩
 refine⟨w (i:=5) b6 (show 5<6 by decide),st (i:=5) (c':=fS d n s3 s4 false none) b6 rfl fun h7 b7 hu7=>?_⟩
 refine xT (aj.2 ?_);have hu47:=hu5.tr (hu6.tr hu7);have z7:=hu47.size;refine hk _ d n s3 s4 ⟨b7,bits,⟨fun x=>h2.size≤x∧x<h3.size,fun x=>h3.size≤x∧x<h4.size,ho3'.upd hu47 fun x hx e=>by have e:x=h.size:=e;omega,ho4'.upd hu47 fun x hx e=>by have e:x=h.size:=e;omega,fun x hx=>⟨by omega,by omega,by omega,by omega⟩,fun x hx=>⟨by omega,by omega,by omega⟩⟩,aq _⟩ ?_
 exact((k2.tr hu3).tr hu4).trans hu47 fun x hx=>.inr (fj hx.symm)
end Go.Proofs
namespace Go.Proofs
open Go.Lift
theorem vt{β:Type}{g:Nat→Option β}{i:Nat}(h:g i=none):upd g i none=g:=by
 funext j;unfold upd;split
 ·rename_i e;rw[e,h]
 ·rfl
theorem fp{h:ae}{b:Nat}{c:Array Value}{t:TypeId}{i:Nat}(hb:h[b]? =some (.cells c t (0,0))):aP h ⟨b,0+i,none⟩=c[i]?:=by rw[aM];exact bq hb
theorem Wc{h:ae}{b:Nat}{c:Array Value}{t:TypeId}{i:Nat}(hb:h[b]? =some (.cells c t (0,0))) (hi:i<c.size):Wr h ⟨b,0+i,none⟩:=by rw[aM];exact ii hb hi
theorem KL{h:ae}{b:Nat}{c c':Array Value}{t:TypeId}{i:Nat}{v:Value}{k:ae→Prop}(hb:h[b]? =some (.cells c t (0,0))) (e:c.setIfInBounds i v=c')
 (hk:∀h',h'[b]? =some (.cells c' t (0,0))→Upd (· =b) h h'→k h'):At (hset h ⟨b,i,none⟩ v) k:=tD hb fun h' hb' hu=>hk h' (e▸hb') hu
theorem Q3{M:Nat→Prop}{h:ae}{b d n:Nat}{sp sk:SliceV}{s:Slots}{ow:Option Addr}(o:OwnN M h b d n sp sk s ow){i:Nat}(hi:i<32){K:Unit→ae→Prop}
  (hk:∀h' d' n' sp' sk',OwnN M h' b d' n' sp' sk' ⟨upd s.p i none,upd s.k i none⟩ ow→Upd M h h'→K () h'):HC PG mA [.pointer (some ⟨b,0,none⟩),.int .i64 i] [] K h:=by
 obtain⟨A,B,hA,hB,hAm,hBm⟩:=o.ex;have bits:=o.bits;refine Cj _ i ?_;unfold uJ bR cr dS j7 iK oS To;have ew:∀k:Nat,k≤100→IntKind.wrap .i64 ((k:Int)+1)=((k+1:Nat):Int):=fun k hk=>by rw[gD (by omega)];omega
 have hc1:=AG i d;have hc2:=AG i n;have hAM:∀x,A x→M x∨h.size≤x:=fun x hx=>.inl (hAm x hx).1
 refine Join.intro (fun _ h'=>∃sp',h'[b]? =some (.cells (fS d n sp' sk false ow) bQ (0,0))∧OwnS eg 2 al A h' sp' (fm (upd s.p i none) 32)∧OwnS rD 1 bV B h' sk (fm s.k 32)∧Upd M h h') (fun R hR=>?_) ?_
 ·refine⟨_,rfl,_,fp (i:=0) o.blk,Dj bits.d32 hi ?_⟩
  rw[bits.dp i hi];cases hp:s.p i with
  |none=>exact aj.2 (hR _ _ ⟨sp,o.blk,by rw[vt hp];exact hA,hB,Upd.refl _ _⟩)
  |some y=>
   refine ay.2 ⟨_,rfl,_,fp (i:=0) o.blk,qS bits.d32 hi ⟨_,rfl,sp,fp (i:=2) o.blk,?_⟩⟩;rw[ew _ (by omega)];refine Pg hA (JH hi bits.dp hp) (by have:=BJ (g:=s.p);omega) fun s2 h2 ho2 hu2=>?_
   rw[←Uy hi bits.dp hp]at ho2;have b2:=hu2.get o.blk fun hb=>(hAm b hb).2.2.1 rfl
   refine⟨_,rfl,Wc (i:=2) b2 (show 2<6 by decide),KL (i:=2) (c':=fS d n s2 sk false ow) b2 rfl fun h3 b3 hu3=>?_⟩
   refine hR _ _ ⟨s2,b3,ho2.upd hu3 fun x hx e=>(hAm x hx).2.2.1 e,(hB.upd hu2 fun x hx hy=>(hAm x hy).2.1 hx).upd hu3 fun x hx e=>(hBm x hx).2.1 e,(hu2.mono hAM).tr (hu3.mono fun x e=>.inl (e▸o.mb))⟩
 rintro _ h1 ⟨sp1,b1,hA1,hB1,hu1⟩;refine Join.intro (fun _ h'=>∃sk',h'[b]? =some (.cells (fS d n sp1 sk' false ow) bQ (0,0))∧OwnS eg 2 al A h' sp1 (fm (upd s.p i none) 32)∧OwnS rD 1 bV B h' sk' (fm (upd s.k i none) 32)∧Upd M h1 h') (fun R hR=>?_) ?_
 ·refine⟨_,rfl,_,fp (i:=1) b1,Dj bits.n32 hi ?_⟩
  rw[bits.nk i hi];cases hp:s.k i with
  |none=>exact aj.2 (hR _ _ ⟨sk,b1,hA1,by rw[vt hp];exact hB1,Upd.refl _ _⟩)
  |some y=>
   refine ay.2 ⟨_,rfl,_,fp (i:=1) b1,qS bits.n32 hi ⟨_,rfl,sk,fp (i:=3) b1,?_⟩⟩;rw[ew _ (by omega)];refine Ph hB1 (JH hi bits.nk hp) (by have:=BJ (g:=s.k);omega) fun s2 h2 ho2 hu2=>?_
   rw[←Uy hi bits.nk hp]at ho2;have b2:=hu2.get b1 fun hb=>(hBm b hb).2.1 rfl
   refine⟨_,rfl,Wc (i:=3) b2 (show 3<6 by decide),KL (i:=3) (c':=fS d n sp1 s2 false ow) b2 rfl fun h3 b3 hu3=>?_⟩
   refine hR _ _ ⟨s2,b3,(hA1.upd hu2 fun x hx hy=>(hAm x hx).2.1 hy).upd hu3 fun x hx e=>(hAm x hx).2.2.1 e,ho2.upd hu3 fun x hx e=>(hBm x hx).2.1 e,(hu2.mono fun x hx=>.inl (hBm x hx).1).tr (hu3.mono fun x e=>.inl (e▸o.mb))⟩
 rintro _ h2 ⟨sk2,b2,hA2,hB2,hu2⟩;refine⟨_,rfl,_,fp (i:=0) b2,_,rfl,_,fp (i:=1) b2,?_⟩;refine Fs bits.d32 hi fun d' hd' hdt=>⟨fp (i:=1) b2,?_⟩
 refine Fs bits.n32 hi fun n' hn' hnt=>?_
 refine⟨_,rfl,Wc (i:=0) b2 (show 0<6 by decide),KL (i:=0) (c':=fS d' n sp1 sk2 false ow) b2 rfl fun h3 b3 hu3=>?_⟩
 refine⟨_,rfl,Wc (i:=1) b3 (show 1<6 by decide),KL (i:=1) (c':=fS d' n' sp1 sk2 false ow) b3 rfl fun h4 b4 hu4=>?_⟩
 have hu34:=hu3.tr hu4;have z:=(hu1.tr (hu2.tr (hu34.mono (M':=M) fun x e=>.inl (e▸o.mb)))).size
 refine hk h4 d' n' sp1 sk2 ⟨b4,⟨hd',hn',fun c hc=>?_,fun c hc=>?_⟩,⟨A,B,hA2.upd hu34 fun x hx e=>(hAm x hx).2.2.1 e,hB2.upd hu34 fun x hx e=>(hBm x hx).2.1 e,fun x hx=>⟨(hAm x hx).1,(hAm x hx).2.1,(hAm x hx).2.2.1,by have:=(hAm x hx).2.2.2;omega⟩,fun x hx=>⟨(hBm x hx).1,(hBm x hx).2.1,by have:=(hBm x hx).2.2;omega⟩⟩,o.mb⟩ (hu1.tr (hu2.tr (hu34.mono fun x e=>.inl (e▸o.mb))))
 ·rw[hdt,bits.dp c hc];simp only[upd];split<;>simp[*]
 ·rw[hnt,bits.nk c hc];simp only[upd];split<;>simp[*]
end Go.Proofs
namespace Go.Proofs
open Go.Lift
theorem OwnS.setAt{α:Type}{f:α→List Value}{sz:Nat}{t:TypeId}{M:Nat→Prop}{h:ae}{s:SliceV}{xs:List α}(hs:OwnS f sz t M h s xs){k:Nat}(hkl:k<xs.length)(x:α):
  ∃a,s.a=some a∧M a.block∧r9 h (some (adr a (k*sz))) 0 (f x)∧OwnS f sz t M (gG h (adr a (k*sz)) 0 (f x)) s (xs.take k++x::xs.drop (k+1))∧Upd (· =a.block) h (gG h (adr a (k*sz)) 0 (f x)):=by
 have hf:∀x,(f x).length=sz∧0<sz:=hs.ne;have hlen:=hs.len;have hcap:=hs.cap;rcases hs.blk with h0|⟨b,rest,ha,hb,hc,hr⟩
 ·omega
 have hA:((xs.take k).flatMap f).length=k*sz:=by rw[nE hf,aR,bN (by omega)]
 have e1:xs.flatMap f=(xs.take k).flatMap f++(f xs[k]++(xs.drop (k+1)).flatMap f):=by
  rw[←aN,←List.drop_eq_getElem_cons hkl];exact Du xs k
 rw[e1]at hc;have hX:=(hf xs[k]).1;have hY:=(hf x).1;have hins:(xs.take k++x::xs.drop (k+1)).flatMap f=(xs.take k).flatMap f++(f x++(xs.drop (k+1)).flatMap f):=by rw[List.flatMap_append,aN]
 generalize (xs.take k).flatMap f=A at hA hc hins;generalize (xs.drop (k+1)).flatMap f=B at hc hins;generalize f xs[k]=X at hX hc;have hl:k*sz+0+(f x).length≤(A++(X++B)++rest).length:=by simp only[ac];omega
 have ea:adr ⟨b,0,none⟩ (k*sz)=⟨b,k*sz,none⟩:=by rw[bX,aM]
 refine⟨⟨b,0,none⟩,ha,hb,?_,?_,?_⟩
 ·rw[ea]
  refine .inr ⟨_,rfl,fun j hj=>?_⟩
  rw[bX];exact ii hc (by rw[List.size_toArray];omega)
 ·rw[ea,jJ (f x) h 0 (k*sz) _ hc hl]
  refine⟨by simp;omega,hf,hcap,.inr ⟨b,rest,ha,hb,?_,?_⟩⟩
  ·rw[j4 hc,hins]
   congr 3
   rw[Nat.add_zero,au A,eC hA,←eK,dz hA,au X,dz (by omega)];simp only[au]
  ·exact hr
 ·rw[ea,jJ (f x) h 0 (k*sz) _ hc hl]
  exact Upd.set h _ rfl
theorem OwnN.node{M W:Nat→Prop}{h:ae}{b d n:Nat}{sp sk:SliceV}{s:Slots}{ow:Option Addr}(o:OwnN M h b d n sp sk s ow)(hW:∀x,M x→¬W x):NodeAt W h b s:=by
 obtain⟨A,B,h1,h2,h3,h4⟩:=o.ex;exact⟨⟨d,n,sp,sk,ow,o.blk,o.bits,h1.sl fun x hx _=>hW _ (h3 x hx).1,h2.sl fun x hx _=>hW _ (h4 x hx).1,h1.cap,h2.cap⟩,hW _ o.mb⟩
theorem MS{W:Nat→Prop}{h:ae}{b:Nat}{s:Slots}(nd:NodeAt W h b s){i:Nat}(hi:i<32){K:Bool→ae→Prop}(hk:K true h):HC PG mB [.pointer (some ⟨b,0,none⟩),.int .i64 i] [.c .bool] K h:=by
 obtain⟨d,n,sp,sk,ow,hb,_⟩:=nd.ex;refine Ck _ i ?_;unfold uK cP;refine ay.2 ⟨_,rfl,_,fp (i:=4) hb,ay.2 ?_⟩;refine az (fun _=>?_) fun h=>absurd (Int.natCast_nonneg i) h
 rw[decide_eq_true (by omega)];exact hk
theorem Qj{β:Type}{g:Nat→Option β}{i:Nat}{x y:Option β}:upd (upd g i x) i y=upd g i y:=by
 funext j;unfold upd;split<;>rfl
theorem jS{β:Type}{g:Nat→Option β}{i:Nat}{x:Option β}:upd g i x i=x:=by simp[upd]
theorem sR{W:Nat→Prop}{h:ae}{b:Nat}{s:Slots}(nd:NodeAt W h b s)(hW:∀x,W x→x<h.size){i:Nat}(hi:i<32)(hx:∀y,s.p i=some y→s.k i=none)(p:Pr){K:Option Addr→ae→Prop}
  (hk:∀h' b',NodeAt W h' b' ⟨upd s.p i (some p),upd s.k i none⟩→Upd No h h'→K (some ⟨b',0,none⟩) h'):
  HC PG ff [.pointer (some ⟨b,0,none⟩),.pointer none,.int .i64 i,.agg #[.string p.1,.string p.2]] [.c .ptr] K h:=by
 refine za _ none i p ?_;unfold sq cB bR ml aw ij cr uV dS wq j7 sr iK oS;have k1:=Upd.hnew No h [.string p.1,.string p.2] al;have b1:=cq h [.string p.1,.string p.2] al;refine bE ?_;simp only[cV h];generalize hnew h [.string p.1,.string p.2] al=h1 at k1 b1;have z1:=aZ b1;have nd1:=nd.upd k1 fun _ h=>h.elim
 refine MS nd1 hi (aj.2 ?_);refine Ua nd1 fun h2 d n sp sk o hu2=>?_
 have bits:=o.bits;obtain⟨A,B,hA,hB,hAm,hBm⟩:=o.ex;have hu02:=k1.tr hu2;have b12:=hu2.get0 b1;have hMW:∀x,h1.size≤x→¬W x:=fun x hx hw=>by have:=hW x hw;omega
 refine⟨_,rfl,_,fp (i:=0) o.blk,Dj bits.d32 hi ?_⟩;rw[bits.dp i hi];cases hp:s.p i with
 |some y=>
  refine ay.2 ⟨_,rfl,sp,fp (i:=2) o.blk,_,rfl,_,fp (i:=0) o.blk,p.1,by rw[bX,bq b12];rfl,p.2,by rw[bX,bq b12];rfl,?_⟩
  refine qS bits.d32 hi ⟨⟨by rw[bX,bq b12];rfl,by rw[bX,bq b12];rfl⟩,fp (i:=2) o.blk,?_⟩
  have hlt:=JH hi bits.dp hp;obtain⟨a,ha,hab,hw,ho3,hu3⟩:=OwnS.setAt hA hlt p;have hlen:=hA.len;refine⟨by omega,a,ha,?_⟩;rw[aV];refine⟨hw,bE ?_⟩;rw[←Uw hi bits.dp hp]at ho3;have ob:=hu3.get o.blk fun e=>(hAm _ hab).2.2.1 e.symm
  have z3:=hu3.size;have o3:OwnN (fun x=>h1.size≤x) _ h1.size d n sp sk ⟨upd s.p i (some p),upd s.k i none⟩ none:=⟨ob,⟨bits.d32,bits.n32,fun c hc=>by
    rw[bits.dp c hc];simp only[upd];split
    ·rename_i e;rw[e,hp];rfl
    ·rfl,fun c hc=>by rw[bits.nk c hc,vt (hx y hp)]⟩,
   ⟨A,B,ho3,by rw[vt (hx y hp)];exact hB.upd hu3 fun x hx e=>(hAm _ hab).2.1 (e▸hx),fun x hx=>⟨(hAm x hx).1,(hAm x hx).2.1,(hAm x hx).2.2.1,by have:=(hAm x hx).2.2.2;omega⟩,fun x hx=>⟨(hBm x hx).1,(hBm x hx).2.1,by have:=(hBm x hx).2.2;omega⟩⟩,o.mb⟩
  refine hk _ _ (o3.node hMW) (hu02.trans hu3 fun x hx=>.inr ?_)
  have:=(hAm _ hab).1;have hx:x=a.block:=hx;omega
 |none=>
  refine aj.2 ⟨_,rfl,Q3 o hi fun h3 d3 n3 sp3 sk3 o3 hu3=>?_⟩
  have bits3:=o3.bits;obtain⟨A3,B3,hA3,hB3,hAm3,hBm3⟩:=o3.ex;have z2:=hu2.size;have z3:=hu3.size;have b13:=hu3.get b12 (show ¬h1.size≤h.size by omega)
  have hu03:Upd No h h3:=hu02.trans hu3 fun x hx=>.inr (bh (Nat.le_of_lt z1) hx)
  refine⟨_,rfl,sp3,fp (i:=2) o3.blk,_,rfl,_,fp (i:=0) o3.blk,p.1,by rw[bX,bq b13];rfl,p.2,by rw[bX,bq b13];rfl,?_⟩
  have k4:=Upd.hnew No h3 [.string p.1,.string p.2] al;have b4:=cq h3 [.string p.1,.string p.2] al;have z4:=iM h3 [.string p.1,.string p.2] al;have o4:=o3.upd k4 fun _ h=>h.elim
  have fin:HC PG du [.slice sp3.a sp3.len sp3.cap,.int .i64 (wr i d3),.slice (some (aE h3)) 1 1] [.c .slice] (fun(e32:SliceV) h33=>
       ∃a34:Addr,some (⟨h1.size,0,none⟩:Addr)=some a34∧
       (Wr h33 (adr (adr a34 0) 2)∧
        At (hset h33 (adr (adr a34 0) 2) (.slice e32.a e32.len e32.cap)) (fun h35=>
         ∃a36:Addr,some (⟨h1.size,0,none⟩:Addr)=some a36∧
         ∃v37:Int,aP h35 (adr (adr a36 0) 0)=some (.int .u32 v37)∧
         HC PG fV [.int .u32 v37,.int .i64 i] [.c (.int .u32)] (fun(e38:Int) h39=>
          ∃a40:Addr,some (⟨h1.size,0,none⟩:Addr)=some a40∧
          (Wr h39 (adr (adr a40 0) 0)∧
           At (hset h39 (adr (adr a40 0) 0) (.int .u32 e38)) (fun h41=>
            K (some ⟨h1.size,0,none⟩) h41))) h35))) (hnew h3 [.string p.1,.string p.2] al):=by
   generalize hnew h3 [.string p.1,.string p.2] al=h4 at k4 b4 z4 o4;rw[cV h3];have hA4:=(hA3.upd k4 fun _ _ h=>h).more (M':=fun x=>A3 x∨h4.size≤x) fun x hx=>.inl hx
   have hpn:(⟨upd s.p i none,upd s.k i none⟩:Slots).p i=none:=jS;refine O1 hA4 (Xd hi bits3.dp) (by have:=BJ (g:=(⟨upd s.p i none,upd s.k i none⟩:Slots).p);omega) (x:=p) b4 (fun e=>e.elim (fun e=>by have:=(hAm3 _ e).2.2.2;omega) fun e=>by omega) (fun x hx=>.inr hx) fun s5 h5 ho5 hu5=>?_
   rw[←Ux hi bits3.dp hpn p]at ho5;have hbl:h1.size<h3.size:=aZ o3.blk;have b5:=hu5.get o4.blk fun e=>e.elim (fun e=>(hAm3 _ e).2.2.1 rfl) fun e=>by omega
   refine⟨_,rfl,Wc (i:=2) b5 (show 2<6 by decide),KL (i:=2) (c':=fS d3 n3 s5 sk3 false none) b5 rfl fun h6 b6 hu6=>?_⟩
   refine⟨_,rfl,_,fp (i:=0) b6,Qh bits3.d32 hi fun w hw hwt=>?_⟩
   refine⟨_,rfl,Wc (i:=0) b6 (show 0<6 by decide),KL (i:=0) (c':=fS w n3 s5 sk3 false none) b6 rfl fun h7 b7 hu7=>?_⟩
   have hu57:=hu6.tr hu7;have z5:=hu5.size;have z7:=hu57.size;have ho5':=ho5.within;have e1:(⟨upd (⟨upd s.p i none,upd s.k i none⟩:Slots).p i (some p),upd s.k i none⟩:Slots)=⟨upd s.p i (some p),upd s.k i none⟩:=by rw[Qj]
   have o7:OwnN (fun x=>h1.size≤x) h7 h1.size w n3 s5 sk3 ⟨upd s.p i (some p),upd s.k i none⟩ none:=by
    rw[←e1];refine⟨b7,⟨hw,bits3.n32,fun c hc=>?_,bits3.nk⟩,⟨fun x=>(A3 x∨h4.size≤x)∧x<h5.size,B3,ho5'.upd hu57 fun x hx e=>?_,((hB3.upd k4 fun _ _ h=>h).upd hu5 fun x hx e=>?_).upd hu57 fun x hx e=>(hBm3 x hx).2.1 e,fun x hx=>⟨?_,?_,?_,by omega⟩,fun x hx=>⟨(hBm3 x hx).1,(hBm3 x hx).2.1,by have:=(hBm3 x hx).2.2;omega⟩⟩,o.mb⟩
    ·rw[hwt,bits3.dp c hc];simp only[upd];split<;>simp[*]
    ·have e:x=h1.size:=e
     rcases hx.1 with h|h
     ·exact(hAm3 x h).2.2.1 e
     ·omega
    ·rcases e with e|e
     ·exact(hAm3 x e).2.1 hx
     ·have:=(hBm3 x hx).2.2;omega
    ·rcases hx.1 with h|h
     ·exact(hAm3 x h).1
     ·omega
    ·rcases hx.1 with h|h
     ·exact(hAm3 x h).2.1
     ·exact fun hb=>by have:=(hBm3 x hb).2.2;omega
    ·rcases hx.1 with h|h
     ·exact(hAm3 x h).2.2.1
     ·omega
   refine hk _ _ (o7.node hMW) (((hu03.tr k4).trans hu5 fun x hx=>.inr ?_).trans hu57 fun x hx=>.inr ?_)
   ·rcases hx with h|h
    ·have:=(hAm3 x h).1;omega
    ·omega
   ·have hx:x=h1.size:=hx
    omega
  refine⟨qS bits3.d32 hi ⟨⟨by rw[bX,bq b13];rfl,by rw[bX,bq b13];rfl⟩,fp (i:=2) o3.blk,bE ⟨fp (i:=2) o4.blk,fin⟩⟩,bE ⟨fp (i:=0) o4.blk,fp (i:=2) o4.blk,qS bits3.d32 hi ⟨fp (i:=2) o4.blk,fin⟩⟩⟩
end Go.Proofs
namespace Go.Proofs
open Go.Lift
theorem yG{W:Nat→Prop}{h:ae}{b:Nat}{s:Slots}(nd:NodeAt W h b s)(hW:∀x,W x→x<h.size){i:Nat}(hi:i<32)(hx:∀y,s.k i=some y→s.p i=none)(kid:Addr){K:Option Addr→ae→Prop}
  (hk:∀h' b',NodeAt W h' b' ⟨upd s.p i none,upd s.k i (some (some kid))⟩→Upd No h h'→K (some ⟨b',0,none⟩) h'):
  HC PG gm [.pointer (some ⟨b,0,none⟩),.pointer none,.int .i64 i,.pointer (some kid)] [.c .ptr] K h:=by
 refine AS _ none i (some kid) ?_;unfold tR cB bR cr uV dS j7 sr Tp iK oS;refine aj.2 ?_;refine MS nd hi (aj.2 ?_);refine Ua nd fun h2 d n sp sk o hu2=>?_
 have bits:=o.bits;obtain⟨A,B,hA,hB,hAm,hBm⟩:=o.ex;have hMW:∀x,h.size≤x→¬W x:=fun x hx hw=>by have:=hW x hw;omega
 refine⟨_,rfl,_,fp (i:=1) o.blk,Dj bits.n32 hi ?_⟩;rw[bits.nk i hi];cases hp:s.k i with
 |some y=>
  refine ay.2 ⟨_,rfl,sk,fp (i:=3) o.blk,_,rfl,_,fp (i:=1) o.blk,?_⟩;refine qS bits.n32 hi ⟨fp (i:=3) o.blk,?_⟩;have hlt:=JH hi bits.nk hp;obtain⟨a,ha,hab,hw,ho3,hu3⟩:=OwnS.setAt hB hlt (some kid);have hlen:=hB.len;refine⟨by omega,a,ha,?_⟩;rw[aV];have hw1:Wr h2 (adr a (wr i n*1)):=by
   rcases hw with hw|⟨b',hb',hw⟩
   ·cases hw
   ·cases hb';exact hw 0 (by simp)
  refine⟨hw1,bE ?_⟩;rw[←Uw hi bits.nk hp]at ho3;have ob:=hu3.get o.blk fun e=>(hBm _ hab).2.1 e.symm
  have z3:=hu3.size;have o3:OwnN (fun x=>h.size≤x) _ h.size d n sp sk ⟨upd s.p i none,upd s.k i (some (some kid))⟩ none:=⟨ob,⟨bits.d32,bits.n32,fun c hc=>by rw[bits.dp c hc,vt (hx y hp)],fun c hc=>by
    rw[bits.nk c hc];simp only[upd];split
    ·rename_i e;rw[e,hp];rfl
    ·rfl⟩,
   ⟨A,B,by rw[vt (hx y hp)];exact hA.upd hu3 fun x hx e=>(hAm _ hx).2.1 (e▸hab),ho3,fun x hx=>⟨(hAm x hx).1,(hAm x hx).2.1,(hAm x hx).2.2.1,by have:=(hAm x hx).2.2.2;omega⟩,fun x hx=>⟨(hBm x hx).1,(hBm x hx).2.1,by have:=(hBm x hx).2.2;omega⟩⟩,o.mb⟩
  refine hk _ _ (o3.node hMW) (hu2.trans hu3 fun x hx=>.inr ?_)
  have:=(hBm _ hab).1;have hx:x=a.block:=hx;omega
 |none=>
  refine aj.2 ⟨_,rfl,Q3 o hi fun h3 d3 n3 sp3 sk3 o3 hu3=>?_⟩
  have bits3:=o3.bits;obtain⟨A3,B3,hA3,hB3,hAm3,hBm3⟩:=o3.ex;have z2:=hu2.size;have z3:=hu3.size;have hu03:Upd No h h3:=hu2.trans hu3 fun x hx=>.inr hx
  refine⟨_,rfl,sk3,fp (i:=3) o3.blk,_,rfl,_,fp (i:=1) o3.blk,?_⟩;have k4:=Upd.hnew No h3 [.pointer (some kid)] bV;have b4:=cq h3 [.pointer (some kid)] bV;have z4:=iM h3 [.pointer (some kid)] bV;have o4:=o3.upd k4 fun _ h=>h.elim
  have fin:HC PG cX [.slice sk3.a sk3.len sk3.cap,.int .i64 (wr i n3),.slice (some (aE h3)) 1 1] [.c .slice] (fun(e32:SliceV) h33=>
       ∃a34:Addr,some (⟨h.size,0,none⟩:Addr)=some a34∧
       (Wr h33 (adr (adr a34 0) 3)∧
        At (hset h33 (adr (adr a34 0) 3) (.slice e32.a e32.len e32.cap)) (fun h35=>
         ∃a36:Addr,some (⟨h.size,0,none⟩:Addr)=some a36∧
         ∃v37:Int,aP h35 (adr (adr a36 0) 1)=some (.int .u32 v37)∧
         HC PG fV [.int .u32 v37,.int .i64 i] [.c (.int .u32)] (fun(e38:Int) h39=>
          ∃a40:Addr,some (⟨h.size,0,none⟩:Addr)=some a40∧
          (Wr h39 (adr (adr a40 0) 1)∧
           At (hset h39 (adr (adr a40 0) 1) (.int .u32 e38)) (fun h41=>
            K (some ⟨h.size,0,none⟩) h41))) h35))) (hnew h3 [.pointer (some kid)] bV):=by
   generalize hnew h3 [.pointer (some kid)] bV=h4 at k4 b4 z4 o4;rw[cV h3];have hB4:=(hB3.upd k4 fun _ _ h=>h).more (M':=fun x=>B3 x∨h4.size≤x) fun x hx=>.inl hx
   have hpn:(⟨upd s.p i none,upd s.k i none⟩:Slots).k i=none:=jS;refine O2 hB4 (Xd hi bits3.nk) (by have:=BJ (g:=(⟨upd s.p i none,upd s.k i none⟩:Slots).k);omega) (x:=some kid) b4 (fun e=>e.elim (fun e=>by have:=(hBm3 _ e).2.2;omega) fun e=>by omega) (fun x hx=>.inr hx) fun s5 h5 ho5 hu5=>?_
   rw[←Ux hi bits3.nk hpn (some kid)]at ho5;have hbl:h.size<h3.size:=aZ o3.blk;have b5:=hu5.get o4.blk fun e=>e.elim (fun e=>(hBm3 _ e).2.1 rfl) fun e=>by omega
   refine⟨_,rfl,Wc (i:=3) b5 (show 3<6 by decide),KL (i:=3) (c':=fS d3 n3 sp3 s5 false none) b5 rfl fun h6 b6 hu6=>?_⟩
   refine⟨_,rfl,_,fp (i:=1) b6,Qh bits3.n32 hi fun w hw hwt=>?_⟩
   refine⟨_,rfl,Wc (i:=1) b6 (show 1<6 by decide),KL (i:=1) (c':=fS d3 w sp3 s5 false none) b6 rfl fun h7 b7 hu7=>?_⟩
   have hu57:=hu6.tr hu7;have z5:=hu5.size;have z7:=hu57.size;have ho5':=ho5.within;have e1:(⟨upd s.p i none,upd (⟨upd s.p i none,upd s.k i none⟩:Slots).k i (some (some kid))⟩:Slots)=⟨upd s.p i none,upd s.k i (some (some kid))⟩:=by rw[Qj]
   have o7:OwnN (fun x=>h.size≤x) h7 h.size d3 w sp3 s5 ⟨upd s.p i none,upd s.k i (some (some kid))⟩ none:=by
    rw[←e1];refine⟨b7,⟨bits3.d32,hw,bits3.dp,fun c hc=>?_⟩,⟨A3,fun x=>(B3 x∨h4.size≤x)∧x<h5.size,((hA3.upd k4 fun _ _ h=>h).upd hu5 fun x hx e=>?_).upd hu57 fun x hx e=>(hAm3 x hx).2.2.1 e,ho5'.upd hu57 fun x hx e=>?_,fun x hx=>⟨(hAm3 x hx).1,?_,(hAm3 x hx).2.2.1,by have:=(hAm3 x hx).2.2.2;omega⟩,fun x hx=>⟨?_,?_,by omega⟩⟩,o.mb⟩
    ·rw[hwt,bits3.nk c hc];simp only[upd];split<;>simp[*]
    ·rcases e with e|e
     ·exact(hAm3 x hx).2.1 e
     ·have:=(hAm3 x hx).2.2.2;omega
    ·have e:x=h.size:=e
     rcases hx.1 with h|h
     ·exact(hBm3 x h).2.1 e
     ·omega
    ·rintro⟨h|h,_⟩
     ·exact(hAm3 x hx).2.1 h
     ·have:=(hAm3 x hx).2.2.2;omega
    ·rcases hx.1 with h|h
     ·exact(hBm3 x h).1
     ·omega
    ·rcases hx.1 with h|h
     ·exact(hBm3 x h).2.1
     ·omega
   refine hk _ _ (o7.node hMW) (((hu03.tr k4).trans hu5 fun x hx=>.inr ?_).trans hu57 fun x hx=>.inr ?_)
   ·rcases hx with h|h
    ·exact(hBm3 x h).1
    ·omega
   ·have hx:x=h.size:=hx
    omega
  refine⟨qS bits3.n32 hi ⟨fp (i:=3) o3.blk,bE ⟨fp (i:=3) o4.blk,fin⟩⟩,bE ⟨fp (i:=1) o4.blk,fp (i:=3) o4.blk,qS bits3.n32 hi ⟨fp (i:=3) o4.blk,fin⟩⟩⟩
end Go.Proofs
namespace Go.Proofs
open Go.Lift
theorem K8{h:ae}{b d n:Nat}{sp sk:SliceV}{bu:Bool}{ow:Option Addr}(hb:h[b]? =some (.cells (fS d n sp sk bu ow) bQ (0,0))) {K:Int→ae→Prop} (hk:K (d:Int) h):HC PG lg [.pointer (some ⟨b,0,none⟩)] [.c (.int .u32)] K h:=by
 refine DK _ ?_;unfold wd iK;exact aj.2 ⟨_,rfl,_,fp (i:=0) hb,hk⟩
theorem F8{h:ae}{b d n:Nat}{sp sk:SliceV}{bu:Bool}{ow:Option Addr}(hb:h[b]? =some (.cells (fS d n sp sk bu ow) bQ (0,0))) {K:Int→ae→Prop} (hk:K (n:Int) h):HC PG iS [.pointer (some ⟨b,0,none⟩)] [.c (.int .u32)] K h:=by
 refine Cm _ ?_;unfold uM iK;exact aj.2 ⟨_,rfl,_,fp (i:=1) hb,hk⟩
theorem iB{h:ae}{b d n:Nat}{sp sk:SliceV}{bu:Bool}{ow:Option Addr}(hb:h[b]? =some (.cells (fS d n sp sk bu ow) bQ (0,0))) {K:Bool→ae→Prop} (hk:K bu h):HC PG eQ [.pointer (some ⟨b,0,none⟩)] [.c .bool] K h:=by
 refine yq _ ?_;unfold rA cP;exact ay.2 ⟨_,rfl,_,fp (i:=4) hb,hk⟩
def ES(o:Option Pr):Pr:=o.getD (⟨#[]⟩,⟨#[]⟩)
theorem QH{h:ae}{b:Nat}{q p:Pr}(hb:h[b]? =some (.cells #[.string q.1,.string q.2] al (0,0))) {k:ae→Prop}
  (hk:∀h',h'[b]? =some (.cells #[.string p.1,.string p.2] al (0,0))→Upd (· =b) h h'→k h'):r9 h (some ⟨b,0,none⟩) 0 [.string p.1,.string p.2]∧At (gG h ⟨b,0,none⟩ 0 [.string p.1,.string p.2]) k:=by
 have e:=jJ [.string p.1,.string p.2] h 0 0 [.string q.1,.string q.2] hb (by simp);refine⟨.inr ⟨_,rfl,fun j hj=>by rw[bX];exact ii hb (by simp at hj⊢;omega)⟩,bE ?_⟩
 rw[e];refine hk _ ?_ (Upd.set h _ rfl);rw[j4 hb];rfl
theorem Bu{W:Nat→Prop}{h:ae}{b:Nat}{s:Slots}(nd:NodeAt W h b s){i:Nat}(hi:i<32){K:Pr×Bool→ae→Prop}(hk:∀h',Upd No h h'→K (ES (s.p i),(s.p i).isSome) h'):
  HC PG jK [.pointer (some ⟨b,0,none⟩),.int .i64 i] [.agg [.str,.str],.c .bool] K h:=by
 refine DJ _ i ?_;unfold wb cB bR di aO aw kZ ij cr j7 iK oS;obtain⟨d,n,sp,sk,ow,hb,bits,hsp,hsk,hcp,hck⟩:=nd.ex;have k1:=Upd.hnew No h [.string (⟨#[]⟩:ByteArray),.string (⟨#[]⟩:ByteArray)] al;have b1:=cq h [.string (⟨#[]⟩:ByteArray),.string (⟨#[]⟩:ByteArray)] al;refine bE ?_;simp only[cV h];generalize hnew h [.string (⟨#[]⟩:ByteArray),.string (⟨#[]⟩:ByteArray)] al=h1 at k1 b1
 have hb1:=k1.get0 hb;have b1':h1[h.size]? =some (.cells #[.string Vy.1,.string Vy.2] al (0,0)):=b1;refine K8 hb1 (Dj bits.d32 hi ?_);rw[bits.dp i hi];cases hp:s.p i with
 |none=>
  rw[hp]at hk;refine ay.2 (QH (p:=Vy) b1' fun h2 b2 hu2=>⟨_,by rw[bX,bq b2];rfl,_,by rw[bX,bq b2];rfl,hk _ (k1.trans hu2 fun x hx=>.inr (fj hx.symm))⟩)
 |some y=>
  rw[hp]at hk;refine aj.2 ⟨_,rfl,sp,fp (i:=2) hb1,_,rfl,_,fp (i:=0) hb1,qS bits.d32 hi ⟨fp (i:=2) hb1,?_⟩⟩;have hlt:=JH hi bits.dp hp;have hsp1:=hsp.upd k1 fun _ h=>h.elim
  obtain⟨a,ha,_,hv⟩:=hsp1.at (Uz hi bits.dp hp);have hlen:=hsp.len;refine⟨by omega,a,ha,y.1,hv 0 _ rfl,y.2,hv 1 _ rfl,?_⟩;refine QH (p:=y) b1' fun h2 b2 hu2=>⟨_,by rw[bX,bq b2];rfl,_,by rw[bX,bq b2];rfl,hk _ (k1.trans hu2 fun x hx=>.inr (fj hx.symm))⟩
theorem wD{W:Nat→Prop}{h:ae}{b:Nat}{s:Slots}(nd:NodeAt W h b s){i:Nat}(hi:i<32){K:Option Addr×Bool→ae→Prop}(hk:K ((s.k i).getD none,(s.k i).isSome) h):
  HC PG gi [.pointer (some ⟨b,0,none⟩),.int .i64 i] [.c .ptr,.c .bool] K h:=by
 refine E2 _ i ?_;unfold xn bM cB bR cr j7 iK oS;obtain⟨d,n,sp,sk,ow,hb,bits,hsp,hsk,hcp,hck⟩:=nd.ex;refine F8 hb (Dj bits.n32 hi ?_);rw[bits.nk i hi];cases hp:s.k i with
 |none=>rw[hp]at hk;exact ay.2 hk
 |some y=>
  rw[hp]at hk;refine aj.2 ⟨_,rfl,sk,fp (i:=3) hb,_,rfl,_,fp (i:=1) hb,qS bits.n32 hi ⟨fp (i:=3) hb,?_⟩⟩;have hlt:=JH hi bits.nk hp;obtain⟨a,ha,_,hv⟩:=hsk.at (Uz hi bits.nk hp);have hlen:=hsk.len;exact⟨by omega,a,ha,y,hv 0 _ rfl,hk⟩
theorem re{W:Nat→Prop}{h:ae}{b d n:Nat}{sp sk:SliceV}{bu:Bool}{ow:Option Addr}{l:List Pr}(hb:h[b]? =some (.cells (fS d n sp sk bu ow) bQ (0,0))) (hs:Sl eg 2 W h sp l) (hn:l.length≤1000000000) {K:SliceV→ae→Prop}
  (hk:∀s' h',OwnS eg 2 al (fun x=>h.size≤x) h' s' l→Upd No h h'→K s' h'):HC PG fi [.pointer (some ⟨b,0,none⟩)] [.c .slice] K h:=by
 refine uz _ ?_;unfold pZ bR;exact aj.2 ⟨_,rfl,sp,fp (i:=2) hb,yS hs (by omega) hk⟩
theorem QV{W:Nat→Prop}{h:ae}{b d n:Nat}{sp sk:SliceV}{bu:Bool}{ow:Option Addr}{l:List (Option Addr)}(hb:h[b]? =some (.cells (fS d n sp sk bu ow) bQ (0,0))) (hs:Sl rD 1 W h sk l) (hn:l.length≤1000000000) {K:SliceV→ae→Prop}
  (hk:∀s' h',OwnS rD 1 bV (fun x=>h.size≤x) h' s' l→Upd No h h'→K s' h'):HC PG ny [.pointer (some ⟨b,0,none⟩)] [.c .slice] K h:=by
 refine vP _ ?_;unfold qH bR;exact aj.2 ⟨_,rfl,sk,fp (i:=3) hb,Dw hs (by omega) hk⟩
structure BuckAt(W:Nat→Prop)(h:ae)(b:Nat)(l:List Pr):Prop where
 ex:∃sp sk ow,h[b]? =some (.cells (fS 0 0 sp sk true ow) bQ (0,0))∧Sl eg 2 W h sp l∧Sl rD 1 W h sk []∧sp.len≤sp.cap∧sk.len≤sk.cap
 nw:¬W b
theorem BuckAt.upd{W M:Nat→Prop}{h h':ae}{b:Nat}{l:List Pr}(n:BuckAt W h b l)(k:Upd M h h')(hm:∀b,M b→W b∨h.size≤b):BuckAt W h' b l:=by
 obtain⟨sp,sk,ow,h1,h3,h4,h5,h6⟩:=n.ex;exact⟨⟨sp,sk,ow,k.get h1 (fun hb=>(hm _ hb).elim n.nw fun h=>by have:=aZ h1;omega),h3.upd k hm,h4.upd k hm,h5,h6⟩,n.nw⟩
theorem Ur{W:Nat→Prop}{h:ae}{b:Nat}{l:List Pr}(bk:BuckAt W h b l)(hr:bO l)(hn:l.length≤1000000000)(k:ByteArray){K:ByteArray×Bool→ae→Prop}
  (hk:∀h' v,Upd No h h'→(dX l k=true→(k,v)∈l)→(dX l k=false→v=⟨#[]⟩)→K (v,dX l k) h'):HC PG tf [.pointer (some ⟨b,0,none⟩),.string k] [.c .str,.c .bool] K h:=by
 refine PX _ k ?_;unfold HB cB aO HJ nm;obtain⟨sp,sk,ow,hb,hsp,hsk,hc1,hc2⟩:=bk.ex;refine re hb hsp hn fun s1 h1 ho1 hu1=>?_
 have hs1:Sl eg 2 No h1 s1 l:=ho1.sl fun _ _ _ h=>h
 refine Q1 hs1 hr hn k fun h2 hu2=>?_
 cases ht:dX l k with
 |false=>rw[ht]at hk;exact ay.2 (hk _ _ (hu1.tr hu2) (fun h=>by cases h) fun _=>rfl)
 |true=>
  rw[ht]at hk;obtain⟨hlt,e⟩:=OB hr ht;obtain⟨a,ha,_,hv⟩:=(hs1.upd hu2 fun _ h=>h.elim).at (ag hlt)
  have hlen:=hs1.len;refine aj.2 ⟨by simp only;omega,a,ha,_,hv 1 _ rfl,hk _ _ (hu1.tr hu2) (fun _=>?_) fun h=>by cases h⟩
  have:(k,l[xx l k].2)=l[xx l k]:=Prod.ext e.symm rfl;rw[this];exact bw hlt
theorem YS{W:Nat→Prop}{h:ae}{b:Nat}{l:List Pr}(bk:BuckAt W h b l)(hr:bO l)(hn:l.length≤1000000000)(k:ByteArray){K:ByteArray×Bool→ae→Prop}
 (hk:∀h' v,Upd No h h'→(dX l k=true→(k,v)∈l)→K (v,dX l k) h'):HC PG tf [.pointer (some ⟨b,0,none⟩),.string k] [.c .str,.c .bool] K h:=Ur bk hr hn k fun h' v h1 h2 _=>hk h' v h1 h2
end Go.Proofs
namespace Go.Proofs
open Go.Lift
set_option maxRecDepth 4000 in
theorem V9{W:Nat→Prop}{h:ae}{b:Nat}{l:List Pr}(nd:BuckAt W h b l)(hn:l.length≤1000000000){K:Option Addr→ae→Prop}
  (hk:∀h' sp sk,h'[h.size]? =some (.cells (fS 0 0 sp sk true none) bQ (0,0))→OwnS eg 2 al (fun x=>h.size<x∧x<h'.size) h' sp l→OwnS rD 1 bV (fun x=>h.size<x∧x<h'.size) h' sk []→Upd No h h'→K (some ⟨h.size,0,none⟩) h'):
  HC PG km [.pointer (some ⟨b,0,none⟩),.pointer none] [.c .ptr] K h:=by
 obtain⟨sp,sk,ow,hb,hsp,hsk,hcp,hck⟩:=nd.ex;refine xg _ none ?_;unfold rQ rX bR nv dS cP Th sr iK Xo;refine Jh (aj.2 ?_);have c:∀{h:ae} {b:Nat} {c:Array Value} {i:Nat},h[b]? =some (.cells c bQ (0,0))→aP h ⟨b,0+i,none⟩=c[i]?:=fun hb=>by rw[aM];exact bq hb
 refine⟨_,rfl,_,c (i:=0) hb,_,c (i:=1) hb,sp,c (i:=2) hb,sk,c (i:=3) hb,_,c (i:=4) hb,_,c (i:=5) hb,?_⟩;have k1:=Upd.hnew No h [.int .u32 0,.int .u32 0,.slice none 0 0,.slice none 0 0,.bool false,.pointer none] bQ;have b1:=cq h [.int .u32 0,.int .u32 0,.slice none 0 0,.slice none 0 0,.bool false,.pointer none] bQ;refine bE ?_;simp only[cV h];generalize hnew h [.int .u32 0,.int .u32 0,.slice none 0 0,.slice none 0 0,.bool false,.pointer none] bQ=h1 at k1 b1
 have hs1:gG h1 ⟨h.size,0,none⟩ 0 [.int .u32 ((0:Nat):Int),.int .u32 ((0:Nat):Int),.slice sp.a sp.len sp.cap,.slice sk.a sk.len sk.cap,.bool true,.pointer ow]=_:=jJ _ h1 0 0 _ b1 (by simp);refine⟨.inr ⟨_,rfl,fun j hj=>by rw[bX];exact ii b1 (by simp at hj⊢;omega)⟩,bE ?_⟩
 rw[hs1];have b2:=j4 (o:=.cells (fS 0 0 sp sk true ow) bQ (0,0)) b1;have k2:Upd No h _:=k1.trans (M':=(· =h.size)) (Upd.set h1 (.cells (fS 0 0 sp sk true ow) bQ (0,0)) rfl) fun x hx=>.inr (fj hx.symm)
 have hz2:h.size<(h1.setIfInBounds h.size (.cells (fS 0 0 sp sk true ow) bQ (0,0))).size:=aZ b2;have hbb:h.size≠b:=fun e=>by have:=aZ hb;omega
 have e2:(Obj.cells (List.take (0+0) [Value.int .u32 0,.int .u32 0,.slice none 0 0,.slice none 0 0,.bool false,.pointer none]++ [Value.int .u32 ((0:Nat):Int),.int .u32 ((0:Nat):Int),.slice sp.a sp.len sp.cap,.slice sk.a sk.len sk.cap,.bool true,.pointer ow]++List.drop (0+0+ [Value.int .u32 ((0:Nat):Int),.int .u32 ((0:Nat):Int),.slice sp.a sp.len sp.cap,.slice sk.a sk.len sk.cap,.bool true,.pointer ow].length) [Value.int .u32 0,.int .u32 0,.slice none 0 0,.slice none 0 0,.bool false,.pointer none]).toArray bQ (0,0))=.cells (fS 0 0 sp sk true ow) bQ (0,0):=rfl
 rw[e2];generalize h1.setIfInBounds h.size (.cells (fS 0 0 sp sk true ow) bQ (0,0))=h2 at b2 k2 hz2;have hb2:=k2.get0 hb;refine⟨_,rfl,sp,c (i:=2) hb2,_,rfl,sk,c (i:=3) hb2,?_⟩;refine yS (hsp.upd k2 fun _ h=>h.elim) (by omega) fun s3 h3 ho3 hu3=>?_
 refine⟨c (i:=3) (hu3.get0 hb2),?_⟩;refine Dw ((hsk.upd k2 fun _ h=>h.elim).upd hu3 fun _ h=>h.elim) (by simp) fun s4 h4 ho4 hu4=>?_
 have b4:=hu4.get0 (hu3.get0 b2);have ho3':=ho3.within.upd hu4 fun _ _ h=>h
 have ho4':=ho4.within;have z3:=hu3.size;have z4:=hu4.size;have w:∀{h:ae} {c:Array Value} {x i:Nat},h[x]? =some (.cells c bQ (0,0))→i<c.size→Wr h ⟨x,0+i,none⟩:=fun hb hi=>by rw[aM];exact ii hb hi
 have st:∀{h:ae} {c c':Array Value} {x i:Nat} {v:Value} {k:ae→Prop},h[x]? =some (.cells c bQ (0,0))→c.setIfInBounds i v=c'→(∀h',h'[x]? =some (.cells c' bQ (0,0))→Upd (· =x) h h'→k h')→At (hset h ⟨x,i,none⟩ v) k:=fun hb e hk=>tD hb fun h' hb' hu=>hk h' (e▸hb') hu
 refine⟨w (i:=2) b4 (show 2<6 by decide),st (i:=2) (c':=fS 0 0 s3 sk true ow) b4 rfl fun h5 b5 hu5=>?_⟩
 refine⟨w (i:=3) b5 (show 3<6 by decide),st (i:=3) (c':=fS 0 0 s3 s4 true ow) b5 rfl fun h6 b6 hu6=>?_⟩
 refine⟨w (i:=5) b6 (show 5<6 by decide),st (i:=5) (c':=fS 0 0 s3 s4 true none) b6 rfl fun h7 b7 hu7=>?_⟩
 refine xT (aj.2 ?_);have hu47:=hu5.tr (hu6.tr hu7);have z7:=hu47.size;refine hk _ s3 s4 b7 ((ho3'.upd hu47 fun x hx e=>?_).more fun x hx=>?_) ((ho4'.upd hu47 fun x hx e=>?_).more fun x hx=>?_) ?_
 ·have e:x=h.size:=e;omega
 ·omega
 ·have e:x=h.size:=e;omega
 ·omega
 ·exact((k2.tr hu3).tr hu4).trans hu47 fun x hx=>.inr (fj hx.symm)
theorem Fm{W:Nat→Prop}{h:ae}{b:Nat}{l:List Pr}(bk:BuckAt W h b l)(hW:∀x,W x→x<h.size)(hr:bO l)(hn:l.length≤1000000000)(p:Pr){K:Option Addr→ae→Prop}
  (hk:∀h' b',BuckAt W h' b' (H1 l p)→Upd No h h'→K (some ⟨b',0,none⟩) h'):
  HC PG jf [.pointer (some ⟨b,0,none⟩),.pointer none,.agg #[.string p.1,.string p.2]] [.c .ptr] K h:=by
 refine E0 _ none p ?_;unfold xk bR aw dS wq qn sr;have k1:=Upd.hnew No h [.string p.1,.string p.2] al;have b1:=cq h [.string p.1,.string p.2] al;refine bE ?_;simp only[cV h];generalize hnew h [.string p.1,.string p.2] al=h1 at k1 b1;have z1:=aZ b1;have bk1:=bk.upd k1 fun _ h=>h.elim
 obtain⟨sp,sk,ow,hb,hsp,hsk,hcp,hck⟩:=bk1.ex;refine iB hb (aj.2 ?_);refine V9 bk1 hn fun h2 s2 t2 b2 hA hB hu2=>?_
 have b12:=hu2.get0 b1;refine⟨_,rfl,s2,fp (i:=2) b2,p.1,by rw[bX,bq b12];rfl,p.2,by rw[bX,bq b12];rfl,?_⟩
 refine OH (hA.sl fun _ _ _ h=>h) hA.cap hr hn p fun s3 h3 ho3 hu3=>?_
 have b3:=hu3.get0 b2;refine⟨_,rfl,Wc (i:=2) b3 (show 2<6 by decide),KL (i:=2) (c':=fS 0 0 s3 t2 true none) b3 rfl fun h4 b4 hu4=>?_⟩
 have z2:=aZ b2;have ho4:=ho3.upd hu4 fun x hx e=>by have e:x=h1.size:=e;omega
 have hB4:=(hB.upd hu3 fun _ _ h=>h).upd hu4 fun x hx e=>by have e:x=h1.size:=e;omega
 refine hk h4 h1.size ⟨⟨s3,t2,none,b4,ho4.sl fun x hx _ hw=>?_,hB4.sl fun x hx _ hw=>?_,ho3.cap,hB.cap⟩,fun hw=>?_⟩ (((k1.tr hu2).tr hu3).trans hu4 fun x hx=>.inr ?_)
 ·have:=hW x hw;have:=hu2.size;omega
 ·have:=hW x hw;omega
 ·have:=hW _ hw;omega
 ·have hx:x=h1.size:=hx
  omega
theorem JQ{W:Nat→Prop}{h:ae}(hW:∀x,W x→x<h.size){K:Option Addr→ae→Prop}(hk:∀h' b',BuckAt W h' b' []→Upd No h h'→K (some ⟨b',0,none⟩) h'):HC PG qW [] [.c .ptr] K h:=by
 refine Iw ?_;unfold zO;exact hk _ _ ⟨⟨⟨none,0,0⟩,⟨none,0,0⟩,none,cq h _ _,Sl.nil fk,Sl.nil rJ,aq _,aq _⟩,fun hx=>qZ _ (hW _ hx)⟩ (Upd.hnew No h _ _)
theorem pE{W:Nat→Prop}{h:ae}(hW:∀x,W x→x<h.size){K:Option Addr→ae→Prop}(hk:∀h' b',NodeAt W h' b' ⟨fun _=>none,fun _=>none⟩→Upd No h h'→K (some ⟨b',0,none⟩) h'):HC PG nz [] [.c .ptr] K h:=by
 refine Lx ?_;unfold CB Th;have e1:fm (fun _=>(none:Option Pr)) 32= []:=by simp[fm]
 have e2:fm (fun _=>(none:Option (Option Addr))) 32= []:=by simp[fm]
 refine hk _ _ ⟨⟨0,0,⟨none,0,0⟩,⟨none,0,0⟩,none,cq h _ _,⟨by decide,by decide,fun c _=>by simp,fun c _=>by simp⟩,?_,?_,aq _,aq _⟩,fun hx=>qZ _ (hW _ hx)⟩ (Upd.hnew No h _ _)
 ·show Sl eg 2 W _ _ (fm (fun _=>none) 32)
  rw[e1];exact Sl.nil fk
 ·show Sl rD 1 W _ _ (fm (fun _=>none) 32)
  rw[e2];exact Sl.nil rJ
end Go.Proofs
