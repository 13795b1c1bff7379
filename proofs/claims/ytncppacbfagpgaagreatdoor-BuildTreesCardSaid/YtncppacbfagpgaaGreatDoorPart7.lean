/- A part of the proof that the named laws of this program answer true, whatever the input. -/
import Derived.Test.YtncppacbfagpgaaGreatDoorPart3
import Derived.Test.YtncppacbfagpgaaGreatDoorPart6
import Derived.Test.YtncppacbfagpgaaGreatDoorPart1
import Derived.Test.YtncppacbfagpgaaGreatDoorPart2
import Derived.Test.YtncppacbfagpgaaGreatDoorPart0
open BitVec renaming ofInt_natCast→ey,toNat_ofNat→mu,ofInt→af
open ByteArray renaming size_extract→eH
open Int renaming toNat_natCast→aM,tmod_eq_emod_of_nonneg→kO,eq_ofNat_of_zero_le→mF,tdiv→kP,tdiv_eq_ediv_of_nonneg→eu
open List renaming getElem?_cons_zero→cp,getElem?_cons_succ→fi,getElem?_eq_getElem→ae,length_filter_le→fJ,length_take→aD,take_succ_eq_append_getElem→aX,append_nil→aE,getElem_mem→bN,length_append→ac,length_singleton→aw,mem_singleton→aJ,mem_append→bP,take_length→bQ,replicate→dJ,replicate_succ→gv,flatten_cons→eK,flatten_append→dI
open Nat renaming zero_le→aK,not_lt_zero→gp,le_trans→bh,le_refl→ag,add_zero→cQ,mod_eq_of_lt→de,mul_comm→jC,pow_succ→lp,pow_add→qC,mod_lt→nJ,mul_le_mul_right→bZ,add_assoc→jP,add_mul→gQ,succ_mul→iA,min_eq_left→bL,le_of_lt→pp,pow_le_pow_right→fg
open Option renaming some→bF
namespace Go.Proofs
open Go Go.Lift
theorem Dm:∀{x y:List UInt8} {i:Nat} {a b:UInt8},(∀j,j<i→x[j]? =y[j]?)→x[i]? =some a→y[i]? =some b→a≠b→Op.bytesLess x y=decide (a.toNat<b.toNat)
 | [],_,_,_,_,_,h,_,_=>by simp at h
 |_::_,[],_,_,_,_,_,h,_=>by simp at h
 |c::x,d::y,0,a,b,_,h1,h2,hne=>by
  simp only[cp,bF.injEq]at h1 h2;subst h1 h2;simp only[Op.bytesLess];rw[beq_false_of_ne hne];simp[UInt8.lt_iff_toNat_lt]
 |c::x,d::y,i+1,a,b,he,h1,h2,hne=>by
  have e:=he 0 (by omega);simp only[cp,bF.injEq]at e;subst e;simp only[fi]at h1 h2;simp only[Op.bytesLess];rw[Dm (i:=i) (fun j hj=>by simpa using he (j+1) (by omega)) h1 h2 hne]
  simp[UInt8.lt_irrefl]
theorem Dl:∀{x y:List UInt8} {i:Nat},(∀j,j<i→x[j]? =y[j]?)→i≤x.length→i≤y.length→(i=x.length∨i=y.length)→Op.bytesLess x y=decide (x.length<y.length)
 | [],[],_,_,_,_,_=>by simp[Op.bytesLess]
 | [],_::_,_,_,_,_,_=>by simp[Op.bytesLess]
 |_::_,[],_,_,_,_,_=>by simp[Op.bytesLess]
 |c::x,d::y,0,_,_,_,h=>by simp at h
 |c::x,d::y,i+1,he,h1,h2,h3=>by
  have e:=he 0 (by omega);simp only[cp,bF.injEq]at e;subst e;simp only[Op.bytesLess];rw[Dl (i:=i) (fun j hj=>by simpa using he (j+1) (by omega)) (by simpa using h1) (by simpa using h2) (by simpa using h3)]
  simp[UInt8.lt_irrefl]
theorem L0{a b:ByteArray}(ha:a.size≤1000000){h:ad}{K:Bool→ad→Prop}(hk:K (decide (kl a b)) h):HC PG vI [.string a,.string b] [.c .bool] K h:=by
 refine Iz a b ?_;unfold BO;have la:a.data.toList.length=a.size:=by simp
 have lb:b.data.toList.length=b.size:=by simp
 have hkl:∀{p:Prop} [Decidable p],Op.bytesLess a.data.toList b.data.toList=decide p→K (decide p) h:=fun{p} _ e=>by
  have:decide (kl a b)=decide p:=by
   rw[←e,←ByteArray.toList_eq,←ByteArray.toList_eq];exact Bool.eq_iff_iff.2 (by rw[decide_eq_true_iff];exact Iff.rfl)
  rw[←this];exact hk
 refine LoopP.ghost (fun(i:Nat) (t:Int) h'=>t=(i:Int)∧i≤a.size∧i≤b.size∧h'=h∧∀j,j<i→a.data.toList[j]? =b.data.toList[j]?) (fun i=>a.size-i) 0 ⟨rfl,aK _,aK _,rfl,fun j hj=>absurd hj (gp _)⟩ ?_
 rintro I i t h' ⟨rfl,hia,hib,rfl,he⟩ hI;refine Join.intro (fun t h2=>t=decide (i<a.size∧i<b.size)∧h2=h') (fun R hR=>?_) ?_
 ·refine av (fun hlt=>hR _ _ ⟨?_,rfl⟩) fun hge=>hR _ _ ⟨?_,rfl⟩
  ·rw[decide_eq_decide];omega
  ·rw[eq_comm,decide_eq_false_iff_not];omega
 ·rintro t h2 ⟨rfl,rfl⟩
  refine av (fun hlt=>?_) fun hge=>?_
  ·have e1:a.data.toList[i]? =some a[i]:=by rw[←F3,getElem?_pos a i hlt.1]
   have e2:b.data.toList[i]? =some b[i]:=by rw[←F3,getElem?_pos b i hlt.2]
   refine⟨a[i],by omega,by rw[aM,getElem?_pos a i hlt.1],b[i],by omega,by rw[aM,getElem?_pos b i hlt.2],?_⟩
   refine CondP.intro (fun hne=>?_) fun heq=>?_
   ·refine⟨a[i],by omega,by rw[aM,getElem?_pos a i hlt.1],b[i],by omega,by rw[aM,getElem?_pos b i hlt.2],?_⟩
    refine hkl ?_;rw[Dm he e1 e2 fun e=>by rw[e]at hne;simp at hne]
    rw[decide_eq_decide];omega
   ·have heq:a[i]=b[i]:=by
     have:((a[i].toNat:Int))=(b[i].toNat:Int):=by simpa using heq
     exact UInt8.toNat_inj.1 (by omega)
    rw[cl hlt.1 (by omega)];refine hI (i+1) _ _ ⟨rfl,by omega,by omega,rfl,fun j hj=>?_⟩ (by omega)
    rcases Nat.lt_or_ge j i with hl|hl
    ·exact he j hl
    ·have:j=i:=by omega
     subst this;rw[e1,e2,heq]
  ·refine hkl ?_
   rw[Dl he (by omega) (by omega) (by omega),decide_eq_decide];omega
theorem L2{W:Nat→Prop}{h:ad}{s:SliceV}{l:List Pr}(hs:Sl dD 2 W h s l)(hn:l.length≤1000000)(k:ByteArray){K:SliceV→ad→Prop}
  (hk:∀s' h',OwnS dD 2 bG (fun y=>h.size≤y) h' s' (l.filter fun p=>decide (p.1≠k))→Upd No h h'→K s' h'):HC PG vJ [.slice s.a s.len s.cap,.string k] [.c .slice] K h:=by
 refine IA s k ?_;unfold BP cn nv jm aL aF im;have hlen:=hs.len;refine LoopP.ghost (fun(i:Nat) (t:SliceV×Int) h'=>t.2=(i:Int)∧i≤l.length∧OwnS dD 2 bG (fun y=>h.size≤y) h' t.1 ((l.take i).filter fun p=>decide (p.1≠k))∧Upd No h h') (fun i=>l.length-i) 0 ⟨rfl,aK _,by simpa using OwnS.nil fq,Upd.refl _ _⟩ ?_
 rintro I i ⟨so,ti⟩ h' ⟨e1,hi,ho,hu⟩ hI;simp only at e1 ho;subst e1;refine av (fun hlt=>?_) fun hge=>?_
 ·have hlt:i<l.length:=by have:(i:Int)<(s.len:Int):=hlt;omega
  obtain⟨a,ha,_,hv⟩:=(hs.upd hu fun _ h=>h.elim).at (ae hlt)
  have htl:((l.take i).filter fun p=>decide (p.1≠k)).length≤l.length:=bh (fJ ..) (by rw[aD];omega)
  refine Join.intro (fun t h2=>OwnS dD 2 bG (fun y=>h.size≤y) h2 t ((l.take (i+1)).filter fun p=>decide (p.1≠k))∧Upd No h h2) (fun R hR=>⟨⟨by simp only;omega,by simp only;omega⟩,a,ha,l[i].1,hv 0 _ rfl,l[i].2,hv 1 _ rfl,?_⟩) ?_
  ·refine py (p:=l[i]) fun h2 b2 k2=>⟨_,vc b2 0,?_⟩
   have ho2:=ho.upd k2 fun _ _ h=>h
   rw[aX hlt,List.filter_append,List.filter_cons,List.filter_nil]at hR;rw[w8];by_cases e:l[i].1=k
   ·rw[decide_eq_true e]
    rw[decide_eq_false (not_not_intro e)]at hR;rw[if_neg (by simp),aE]at hR;exact aj.2 (hR _ _ ⟨ho2,hu.tr k2⟩)
   ·rw[decide_eq_false e]
    rw[decide_eq_true e,if_pos rfl]at hR;refine aB.2 ⟨_,vc b2 0,_,vc b2 1,bM ?_⟩;refine pM (p:=l[i]) ho2 (fun y hy=>bh (hu.tr k2).size hy) (bh (Nat.add_le_add_right htl 1) (by omega)) fun s3 h3 ho3 hu3=>hR _ _ ⟨ho3,(hu.tr k2).trans hu3 fun y hy=>.inr hy⟩
  ·rintro t h2 ⟨ho2,hu2⟩
   rw[cl hlt (by omega)];exact hI (i+1) _ _ ⟨rfl,hlt,ho2,hu2⟩ (by omega)
 ·have hil:i=l.length:=by have:¬(i:Int)<(s.len:Int):=hge;omega
  rw[List.take_of_length_le (by omega)]at ho;exact hk _ _ ho hu
theorem NJ{W:Nat→Prop}{h:ad}{s:SliceV}{l:List Pr}(hs:Sl dD 2 W h s l)(hr:d9 l)(hn:l.length≤1000000)(p:Pr)(hp:p.1.size≤1000000){K:SliceV→ad→Prop}
  (hk:∀s' h',OwnS dD 2 bG (fun y=>h.size≤y) h' s' (lI p l)→Upd No h h'→K s' h'):HC PG yg [.slice s.a s.len s.cap,.agg #[.string p.1,.string p.2]] [.c .slice] K h:=by
 refine K3 s p ?_;unfold DR cn nv jm aL aF im xS B7;refine aQ fun h1 b1 k1=>⟨p.1,vc b1 0,?_⟩
 refine L2 (hs.upd k1 fun _ h=>h.elim) hn p.1 fun s4 h4 ho4 k4=>?_
 rw[←Du hr]at hk;have hrf:d9 (l.filter fun q=>decide (q.1≠p.1)):=hr.sublist List.filter_sublist
 have hnl:(l.filter fun q=>decide (q.1≠p.1)).length≤1000000:=bh (fJ ..) hn
 have hne:∀q∈l.filter fun q=>decide (q.1≠p.1),q.1≠p.1:=fun q hq=>of_decide_eq_true (List.mem_filter.1 hq).2
 generalize l.filter (fun q=>decide (q.1≠p.1))=L at hk ho4 hrf hnl hne
 have k04:=k1.tr k4;have hs4:Sl dD 2 No h4 s4 L:=ho4.sl fun _ _ _ h=>h
 have hlen:=hs4.len;have z4:=k04.size;refine LoopP.ghost (fun(g:Nat×Bool) (t:SliceV×Bool×Int) h'=>t.2.2=(g.1:Int)∧t.2.1=g.2∧g.1≤L.length∧(∃out,OwnS dD 2 bG (fun y=>h4.size≤y) h' t.1 out∧out.length≤g.1+1∧(g.2=false→out=L.take g.1∧∀q∈L.take g.1,kl q.1 p.1)∧(g.2=true→out=lI p (L.take g.1)∧∃q∈L.take g.1,kl p.1 q.1))∧Upd No h4 h') (fun g=>L.length-g.1) (0,false) ⟨rfl,rfl,aK _,⟨[],OwnS.nil fq,by simp,fun _=>⟨by simp,by simp⟩,fun h=>by cases h⟩,Upd.refl _ _⟩ ?_
 rintro I ⟨i,pl⟩ ⟨so,tp,ti⟩ h' ⟨e1,e2,hi,⟨out,ho,hol,hf,ht⟩,hu⟩ hI;simp only at e1 e2 hi ho hol hf ht;subst e1 e2;have b':=hu.get0 (k4.get0 b1);refine av (fun hlt=>?_) fun hge=>?_
 ·have hlt:i<L.length:=by have:(i:Int)<(s4.len:Int):=hlt;omega
  obtain⟨a,ha,_,hv⟩:=(hs4.upd hu fun _ h=>h.elim).at (ae hlt)
  have etake:=aX hlt;have hmem:L[i]∈L:=bN hlt;refine Join.intro (fun t h2=>(∃out,OwnS dD 2 bG (fun y=>h4.size≤y) h2 t.1 out∧out.length≤i+1+1∧(t.2=false→out=L.take (i+1)∧∀q∈L.take (i+1),kl q.1 p.1)∧(t.2=true→out=lI p (L.take (i+1))∧∃q∈L.take (i+1),kl p.1 q.1))∧Upd No h4 h2) (fun R hR=>⟨⟨by simp only;omega,by simp only;omega⟩,a,ha,L[i].1,hv 0 _ rfl,L[i].2,hv 1 _ rfl,?_⟩) ?_
  ·refine py (p:=L[i]) fun h2 b2 k2=>?_
   have ho2:=ho.upd k2 fun _ _ h=>h
   have hu2:=hu.tr k2;have zb:=bw b2;have z2:=hu.size;have hoM:=(ho.within.upd k2 fun _ _ h=>h).more (M':=fun y=>(h4.size≤y∧y<h'.size)∨h2.size≤y) fun y hy=>.inl hy
   have c2:=k2.get0 b';refine Join.intro (fun t h3=>(∃out,OwnS dD 2 bG (fun y=>h4.size≤y) h3 t.1 out∧out.length≤i+1∧(t.2=false→out=L.take i∧∀q∈L.take (i+1),kl q.1 p.1)∧(t.2=true→out++ [L[i]]=lI p (L.take (i+1))∧∃q∈L.take (i+1),kl p.1 q.1))∧h3[h'.size]? =some (.cells #[.string L[i].1,.string L[i].2] bG (0,0))∧Upd No h4 h3) (fun R2 hR2=>?_) ?_
   ·refine Join.intro (fun t h3=>t=(!tp&&decide (kl p.1 L[i].1))∧h3=h2) (fun R3 hR3=>?_) ?_
    ·cases tp with
     |false=>exact aB.2 ⟨p.1,vc c2 0,L[i].1,vc b2 0,L0 hp (hR3 _ _ ⟨by simp,rfl⟩)⟩
     |true=>exact aj.2 (hR3 _ _ ⟨by simp,rfl⟩)
    ·rintro t h3 ⟨rfl,rfl⟩
     cases tp with
     |true=>
      obtain⟨e,q,hq,hkq⟩:=ht rfl;refine aj.2 (hR2 _ _ ⟨⟨out,ho2,hol,fun h=>(by cases h),fun _=>?_⟩,b2,hu2⟩)
      rw[etake,e];exact⟨(FY ⟨q,hq,hkq⟩).symm,q,List.mem_append_left _ hq,hkq⟩
     |false=>
      obtain⟨e,hall⟩:=hf rfl;subst e;by_cases hkl:kl p.1 L[i].1
      ·rw[decide_eq_true hkl]
       refine aB.2 ⟨p.1,vc c2 0,p.2,vc c2 1,bM ?_⟩;refine pM (p:=p) hoM (fun y hy=>.inr hy) (by rw[aD];omega) fun s5 h5 ho5 hu5=>hR2 _ _ ⟨⟨_,ho5.more (fun y hy=>by rcases hy with hy|hy<;>omega),by rw[ac,aD,aw];omega,fun h=>(by cases h),fun _=>?_⟩,hu5.get b2 (by rintro(hx|hx)<;>omega),hu2.trans hu5 fun y hy=>.inr (by rcases hy with hy|hy<;>omega)⟩
       ·rw[etake,wM hall]
        refine⟨?_,L[i],List.mem_append_right _ (aJ.2 rfl),hkl⟩;rw[List.append_assoc,FX (l:= [L[i]]) fun q hq=>by rw[aJ.1 hq];exact hkl]
        rfl
      ·rw[decide_eq_false hkl]
       have hq:kl L[i].1 p.1:=rH hkl fun e=>hne _ hmem e.symm
       refine aj.2 (hR2 _ _ ⟨⟨_,ho2,by rw[aD];omega,fun _=>⟨rfl,fun q hq'=>?_⟩,fun h=>(by cases h)⟩,b2,hu2⟩)
       rw[etake]at hq';rcases bP.1 hq' with h|h
       ·exact hall q h
       ·rw[aJ.1 h];exact hq
   ·rintro⟨t1,t2⟩ h3 ⟨⟨out3,ho3,hol3,hf3,ht3⟩,b3,hu3⟩
    simp only at ho3 hf3 ht3;refine⟨_,vc b3 0,_,vc b3 1,bM ?_⟩;refine pM (p:=L[i]) ho3 (fun y hy=>bh hu3.size hy) (by omega) fun s5 h5 ho5 hu5=>hR _ _ ⟨⟨_,ho5,by rw[ac,aw];omega,fun h=>?_,fun h=>ht3 h⟩,hu3.trans hu5 fun y hy=>.inr hy⟩
    obtain⟨e,hall⟩:=hf3 h;exact⟨by rw[e,etake],hall⟩
  ·rintro⟨t1,t2⟩ h2 ⟨ho2,hu2⟩
   rw[cl hlt (by omega)];exact hI (i+1,t2) _ _ ⟨rfl,rfl,hlt,ho2,hu2⟩ (by simp only;omega)
 ·have hil:i=L.length:=by have:¬(i:Int)<(s4.len:Int):=hge;omega
  subst hil;rw[bQ]at hf ht;cases tp with
  |true=>
   obtain⟨e,_⟩:=ht rfl;subst e;exact aj.2 (hk _ _ (ho.more fun y hy=>bh z4 hy) (k04.tr hu))
  |false=>
   obtain⟨e,hall⟩:=hf rfl;subst e;refine aB.2 ⟨p.1,vc b' 0,p.2,vc b' 1,bM ?_⟩;refine pM (p:=p) ho (fun y hy=>bh hu.size hy) (by omega) fun s5 h5 ho5 hu5=>hk _ _ ?_ ((k04.tr hu).trans hu5 fun y hy=>.inr (bh z4 hy))
   have:=wM (p:=p) (A:=out) (B:= []) hall;rw[aE]at this;rw[this];exact ho5.more fun y hy=>bh z4 hy
end Go.Proofs
namespace Go.Proofs
open Go Go.Lift
abbrev Rt:=Int×Int×Int×Int×SliceV
abbrev Ea(r:Rt):List Value:= [.int .i64 r.1,.int .u64 r.2.1,.int .u64 r.2.2.1,.int .u64 r.2.2.2.1,.slice r.2.2.2.2.a r.2.2.2.2.len r.2.2.2.2.cap]
abbrev rtV(r:Rt):Value:=.agg #[.int .i64 r.1,.int .u64 r.2.1,.int .u64 r.2.2.1,.int .u64 r.2.2.2.1,.slice r.2.2.2.2.a r.2.2.2.2.len r.2.2.2.2.cap]
abbrev Fm:Rt:=(0,0,0,0,⟨none,0,0⟩)
def hx(kind v:Int):Int:=if kind=0 then v else 0
def RefIs(W:Nat→Prop)(h:ad)(kind:Int)(x:Hs)(r:Rt)(l:List Pr):Prop:=∃s,r=(kind,hx kind x.k0,hx kind x.k1,hx kind x.mask,s)∧Sl dD 2 W h s l∧s.len≤s.cap
theorem RefIs.upd0{W:Nat→Prop}{h h':ad}{kind:Int}{x:Hs}{r:Rt}{l:List Pr}(k:Upd No h h')(i:RefIs W h kind x r l):RefIs W h' kind x r l:=
 let⟨s,e,hs⟩:=i;⟨s,e,hs.1.upd k fun _ h=>h.elim,hs.2⟩
theorem RefIs.less{W W':Nat→Prop}{h:ad}(hm:∀b,W' b→W b∨h.size≤b){kind:Int}{x:Hs}{r:Rt}{l:List Pr}(i:RefIs W h kind x r l):RefIs W' h kind x r l:=
 let⟨s,e,hs⟩:=i;⟨s,e,hs.1.less hm,hs.2⟩
theorem RefIs.updM{W M:Nat→Prop}{h h':ad}(k:Upd M h h')(hm:∀b,M b→W b∨h.size≤b){kind:Int}{x:Hs}{r:Rt}{l:List Pr}(i:RefIs W h kind x r l):RefIs W h' kind x r l:=
 let⟨s,e,hs⟩:=i;⟨s,e,hs.1.upd k hm,hs.2⟩
theorem NK{W:Nat→Prop}{x:Hs}{h:ad}{kind:Int}(hkd:kind=0∨kind=1){K:Rt×Int→ad→Prop}(hk:∀h' r,RefIs W h' kind x r []→Upd No h h'→K (r,0) h'):HC PG ud [.int .i64 kind,.agg #[.int .u64 x.k0,.int .u64 x.k1,.int .u64 x.mask]] [.agg [.int .i64,.int .u64,.int .u64,.int .u64,.slice],.c (.int .i64)] K h:=by
 refine DN kind (x.k0,x.k1,x.mask) ?_;unfold yC bW ar jq hJ uJ M7;refine aQ fun h1 b1 k1=>aQ fun h2 b2 k2=>?_
 have c1:=k2.get0 b1;have s1:=k1.size;have k02:=k1.tr k2;rcases hkd with rfl|rfl
 ·refine aB.2 ⟨_,vc c1 0,_,vc c1 1,_,vc c1 2,?_⟩
  refine eL (c:=Ea Fm) (vs:=Ea (0,x.k0,x.k1,x.mask,⟨none,0,0⟩)) b2 rfl fun h4 b4 hu4=>?_
  exact⟨_,vc b4 0,_,vc b4 1,_,vc b4 2,_,vc b4 3,⟨none,0,0⟩,vc b4 4,hk h4 (0,x.k0,x.k1,x.mask,⟨none,0,0⟩) ⟨_,rfl,Sl.nil fq,ag _⟩ (k02.own hu4 s1)⟩
 ·refine aj.2 (aB.2 ?_)
  refine eL (c:=Ea Fm) (vs:=Ea (1,0,0,0,⟨none,0,0⟩)) b2 rfl fun h4 b4 hu4=>?_
  exact⟨_,vc b4 0,_,vc b4 1,_,vc b4 2,_,vc b4 3,⟨none,0,0⟩,vc b4 4,hk h4 (1,0,0,0,⟨none,0,0⟩) ⟨_,rfl,Sl.nil fq,ag _⟩ (k02.own hu4 s1)⟩
end Go.Proofs
namespace Go.Proofs
open Go Go.Lift
end Go.Proofs
namespace Go.Proofs
open Go Go.Lift
end Go.Proofs
namespace Go.Proofs
open Go.Lift
end Go.Proofs
namespace Go.Proofs
open Go Go.Lift
end Go.Proofs
namespace Go.Proofs
open Go Go.Lift
theorem Hw{h:ad}{b:Nat}{c:Array Value}{t:TypeId}(hb:h[b]? =some (.cells c t (0,0))) (hc:0<c.size):gX h ⟨b,0,none⟩:=⟨c,t,hb,hc⟩
theorem TrieAt.plain{W:Nat→Prop}{x:Hs}{h:ad}:∀{m b:Nat} {l:List Pr},TrieAt W x h m b l→gX h ⟨b,0,none⟩
 |0,_,_,t=>by obtain⟨_,_,_,hb,_⟩:=BuckAt.ex t;exact Hw hb (by simp[fb])
 |m+1,_,_,⟨s,nd,_⟩=>by obtain⟨_,_,_,_,_,hb,_⟩:=nd.ex;exact Hw hb (by simp[fb])
end Go.Proofs
namespace Go.Proofs
open Go Go.Lift
end Go.Proofs
namespace Go.Proofs
open Go Go.Lift
theorem RxN.plain{W:Nat→Prop}{h:ad}{b:Nat}{sl:ByteArray}{w:Option ByteArray}{F:Fo}(r:RxN W h b sl w F):gX h ⟨b,0,none⟩:=by
 obtain⟨val,s,ow,ks,hb,_⟩:=r;exact Hw hb (by simp[Nf])
end Go.Proofs
namespace Go.Proofs
open Go Go.Lift
end Go.Proofs
namespace Go.Proofs
open Go Go.Lift
theorem GX{t:Tr}{h:ad}{K:Int×Int×Int→ad→Prop}(hk:∀h',Upd No h h'→K (t.2.1,t.2.2.1,t.2.2.2.1) h'):HC PG mg [GV t] [.agg [.int .u64,.int .u64,.int .u64]] K h:=by
 refine vQ t ?_;unfold pO ar hJ qV eB Qd Qf;refine aQ fun h1 b1 k1=>aQ fun h2 b2 k2=>?_
 have c1:=k2.get0 b1;refine⟨_,xO c1 1 0,_,xO c1 1 1,_,xO c1 1 2,?_⟩;refine eL (c:= [.int .u64 0,.int .u64 0,.int .u64 0]) (vs:= [.int .u64 t.2.1,.int .u64 t.2.2.1,.int .u64 t.2.2.2.1]) b2 rfl fun h3 b3 hu3=>?_
 exact⟨_,vc b3 0,_,vc b3 1,_,vc b3 2,hk h3 ((k1.tr k2).own hu3 k1.size)⟩
end Go.Proofs
namespace Go.Proofs
open Go Go.Lift
def GP(p:Pr):Int:=if 256<p.1.size then 2 else if 4096<p.2.size then 3 else 0
def nH:List Pr→Int
 | []=>0
 |p::l=>if GP p=0 then nH l else GP p
theorem Kd{p:Pr}(h:GP p=0):p.1.size≤256∧p.2.size≤4096:=by
 unfold GP at h;split at h
 ·cases h
 ·split at h
  ·cases h
  ·omega
theorem vL:∀{l:List Pr},nH l=0→∀p∈l,p.1.size≤256∧p.2.size≤4096
 | [],_,p,hp=>by cases hp
 |q::l,h,p,hp=>by
  unfold nH at h;split at h
  ·rename_i h0
   rcases List.mem_cons.1 hp with rfl|hp
   ·exact Kd h0
   ·exact vL h p hp
  ·rename_i h0;exact absurd h h0
theorem NQ{p:Pr}{h:ad}{K:Int→ad→Prop}(hk:K (GP p) h):HC PG pg [.string p.1,.string p.2] [.c (.int .i64)] K h:=by
 refine xk p.1 p.2 ?_;unfold rY;unfold GP at hk;refine av (fun e=>?_) fun e=>av (fun e'=>?_) fun e'=>?_
 ·rw[if_pos (by omega)]at hk;exact hk
 ·rw[if_neg (by omega),if_pos (by omega)]at hk;exact hk
 ·rw[if_neg (by omega),if_neg (by omega)]at hk;exact hk
theorem NH{p:Pr}{h:ad}{K:Int→ad→Prop}(hk:K (GP p) h):HC PG tA [.string p.1,.string p.2] [.c (.int .i64)] K h:=by
 refine Gy p.1 p.2 ?_;unfold zl;unfold GP at hk;refine av (fun e=>?_) fun e=>av (fun e'=>?_) fun e'=>?_
 ·rw[if_pos (by omega)]at hk;exact hk
 ·rw[if_neg (by omega),if_pos (by omega)]at hk;exact hk
 ·rw[if_neg (by omega),if_neg (by omega)]at hk;exact hk
theorem DD{l:List Pr}{i:Nat}(hi:i<l.length):nH (l.drop i)=if GP l[i]=0 then nH (l.drop (i+1))else GP l[i]:=by
 rw[List.drop_eq_getElem_cons hi];rfl
theorem Ao{x:Hs}{h:ad}{kind:Int}(h0:kind≠0)(h1:kind≠1){K:Tr×Int→ad→Prop}(hk:∀h',Upd No h h'→K (uo,11) h'):HC PG nA [.int .i64 kind,.agg #[.int .u64 x.k0,.int .u64 x.k1,.int .u64 x.mask]] [.agg [.int .i64,.int .u64,.int .u64,.int .u64,.ptr,.ptr],.c (.int .i64)] K h:=by
 refine Bv kind (x.k0,x.k1,x.mask) ?_;unfold wa bW ar bD hJ uJ un zH qV wJ;refine aQ fun h1' b1 k1=>aQ fun h2 b2 k2=>?_
 rw[beq_eq_false_iff_ne.2 h0,beq_eq_false_iff_ne.2 h1];refine aj.2 (aj.2 ?_);refine eL (c:=wg uo) (vs:=wg uo) b2 rfl fun h4 b4 hu4=>?_
 exact⟨_,vc b4 0,_,vc b4 1,_,vc b4 2,_,vc b4 3,_,vc b4 4,_,vc b4 5,hk h4 ((k1.tr k2).own hu4 k1.size)⟩
theorem Hk{x:Hs}{h:ad}{kind:Int}(h0:kind≠0)(h1:kind≠1){K:Rt×Int→ad→Prop}(hk:∀h',Upd No h h'→K (Fm,11) h'):HC PG ud [.int .i64 kind,.agg #[.int .u64 x.k0,.int .u64 x.k1,.int .u64 x.mask]] [.agg [.int .i64,.int .u64,.int .u64,.int .u64,.slice],.c (.int .i64)] K h:=by
 refine DN kind (x.k0,x.k1,x.mask) ?_;unfold yC bW ar jq hJ uJ M7;refine aQ fun h1' b1 k1=>aQ fun h2 b2 k2=>?_
 rw[beq_eq_false_iff_ne.2 h0,beq_eq_false_iff_ne.2 h1];refine aj.2 (aj.2 ?_);refine eL (c:=Ea Fm) (vs:=Ea Fm) b2 rfl fun h4 b4 hu4=>?_
 exact⟨_,vc b4 0,_,vc b4 1,_,vc b4 2,_,vc b4 3,⟨none,0,0⟩,vc b4 4,hk h4 ((k1.tr k2).own hu4 k1.size)⟩
theorem uN{W W0:Nat→Prop}{x:Hs}{h:ad}{s:SliceV}{l:List Pr}{kind:Int}(hs:Sl dD 2 W0 h s l)(hW:∀y,W y→y<h.size)(hn:l.length≤100000){K:Tr×Int→ad→Prop}
  (h11:kind≠0→kind≠1→∀h',Upd No h h'→K (uo,11) h')(he:(kind=0∨kind=1)→nH l≠0→∀h',Upd No h h'→K (uo,nH l) h')(hk:(kind=0∨kind=1)→nH l=0→∀h' t,TreeIs W h' kind x t (lG l)→Upd No h h'→K (t,0) h'):
  HC PG gG [.int .i64 kind,.agg #[.int .u64 x.k0,.int .u64 x.k1,.int .u64 x.mask],.slice s.a s.len s.cap] [.agg [.int .i64,.int .u64,.int .u64,.int .u64,.ptr,.ptr],.c (.int .i64)] K h:=by
 by_cases hkd:kind=0∨kind=1
 ·by_cases h0:nH l=0
  ·exact w6 hs hW hn (vL h0) hkd (hk hkd h0)
  ·have he:=he hkd h0
   refine pn kind (x.k0,x.k1,x.mask) s ?_;unfold m6 cn bW ar bD hJ nv uJ un zH qV jm rI bV aL aF im wJ;refine aQ fun h1 b1 k1=>aQ fun h2 b2 k2=>?_
   have z1:=bw b1;have z2:=bw b2;have s1:h.size≤h1.size:=k1.size;have c1:=k2.get0 b1;have k02:=k1.tr k2;refine⟨_,vc c1 0,_,vc c1 1,_,vc c1 2,?_⟩;refine zL (W:=No) (x:=x) (fun _ h=>h.elim) hkd fun h3 t3 _ k3=>?_
   refine sS (t:=t3) fun h4 b4 k4=>?_
   refine aj.2 ?_;have k24:=k3.tr k4;have k04:=k02.tr k24;have hlen:=hs.len;refine LoopP.ghost (fun(i:Nat) (t:Int) h'=>t=(i:Int)∧i≤l.length∧nH (l.drop i)=nH l∧Upd No h4 h') (fun i=>l.length-i) 0 ⟨rfl,aK _,rfl,Upd.refl _ _⟩ ?_
   rintro I i t h5 ⟨rfl,hi,hd,k5⟩ hI;have k05:=k04.tr k5;refine av (fun hlt=>?_) fun hge=>?_
   ·have hlt:i<l.length:=by omega
    rw[DD hlt]at hd;obtain⟨a,ha,_,hv⟩:=(hs.upd k05 fun _ h=>h.elim).at (ae hlt)
    refine⟨⟨by omega,by omega⟩,a,ha,l[i].1,hv 0 _ rfl,l[i].2,hv 1 _ rfl,?_⟩
    refine vy (p:=l[i]) fun h6 b6 k6=>⟨_,vc b6 0,_,vc b6 1,NQ (p:=l[i]) ?_⟩
    by_cases e:GP l[i]=0
    ·rw[if_pos e]at hd
     rw[show(GP l[i] !=0)=false by rw[e];rfl]
     refine aj.2 ?_;rw[iG hlt (by omega)];exact hI (i+1) _ _ ⟨rfl,hlt,hd,k5.tr k6⟩ (by omega)
    ·rw[if_neg e]at hd
     rw[show(GP l[i] !=0)=true by simpa using e]
     refine aB.2 ?_;refine eL (c:=wg uo) (vs:=wg uo) (((k24.tr k5).tr k6).get0 b2) rfl fun h8 b8 hu8=>?_
     refine⟨_,vc b8 0,_,vc b8 1,_,vc b8 2,_,vc b8 3,_,vc b8 4,_,vc b8 5,?_⟩;rw[hd];exact he h8 ((k05.tr k6).own hu8 s1)
   ·have hil:i=l.length:=by omega
    subst hil;rw[List.drop_length]at hd;exact absurd hd.symm h0
 ·have n0:kind≠0:=fun e=>hkd (.inl e)
  have n1:kind≠1:=fun e=>hkd (.inr e)
  refine pn kind (x.k0,x.k1,x.mask) s ?_;unfold m6 cn bW ar bD hJ nv uJ un zH qV jm rI bV aL aF im wJ;refine aQ fun h1 b1 k1=>aQ fun h2 b2 k2=>?_
  have c1:=k2.get0 b1;have s1:h.size≤h1.size:=k1.size;refine⟨_,vc c1 0,_,vc c1 1,_,vc c1 2,?_⟩;refine Ao n0 n1 fun h3 k3=>?_
  refine sS (t:=uo) fun h4 b4 k4=>aB.2 ?_
  refine eL (c:=wg uo) (vs:=wg uo) ((k3.tr k4).get0 b2) rfl fun h8 b8 hu8=>?_
  exact⟨_,vc b8 0,_,vc b8 1,_,vc b8 2,_,vc b8 3,_,vc b8 4,_,vc b8 5,h11 n0 n1 h8 (((k1.tr k2).tr (k3.tr k4)).own hu8 s1)⟩
theorem Hi{W:Nat→Prop}{h:ad}{s:SliceV}{l:List Pr}(hs:Sl dD 2 W h s l)(hn:l.length≤100000)(hB:∀p∈l,p.1.size≤1000000){K:SliceV→ad→Prop}(hk:∀s' h',Sl dD 2 (fun y=>y<h.size) h' s' (lG l)→s'.len≤s'.cap→Upd No h h'→K s' h'):HC PG rR [.slice s.a s.len s.cap] [.c .slice] K h:=by
 refine ES s ?_;unfold xD cn nv jm aL aF im xM;have hlen:=hs.len;refine LoopP.ghost (fun(i:Nat) (t:SliceV×Int) h'=>t.2=(i:Int)∧i≤l.length∧Sl dD 2 (fun y=>y<h.size) h' t.1 (lG (l.take i))∧t.1.len≤t.1.cap∧Upd No h h') (fun i=>l.length-i) 0 ⟨rfl,aK _,Sl.nil fq,ag _,Upd.refl _ _⟩ ?_
 rintro I i ⟨sa,ti⟩ h3 ⟨e,hi,ha,hc,hu⟩ hI;simp only at e ha hc;subst e;refine av (fun hlt=>?_) fun hge=>?_
 ·have hlt:i<l.length:=by simp only at hlt;omega
  obtain⟨a,ha',_,hv⟩:=(hs.upd hu fun _ h=>h.elim).at (ae hlt)
  refine⟨⟨by simp only;omega,by simp only;omega⟩,a,ha',l[i].1,hv 0 _ rfl,l[i].2,hv 1 _ rfl,?_⟩
  refine py (p:=l[i]) fun h8 b8 k8=>⟨_,vc b8 0,_,vc b8 1,?_⟩
  have hl:=zN (l.take i);rw[aD]at hl;have z:=(hu.tr k8).size;refine NJ (p:=l[i]) (ha.upd k8 fun _ h=>h.elim) (qZ _) (by omega) (hB _ (bN hlt)) fun s' h12 ho k12=>?_
  simp only;rw[iG hlt (by omega)];refine hI (i+1) _ _ ⟨rfl,hlt,?_,ho.cap,(hu.tr k8).tr k12⟩ (by omega);rw[LM hlt];exact ho.sl fun y hy _ hw=>by omega
 ·have hil:i=l.length:=by simp only at hge;omega
  subst hil;rw[bQ]at ha;exact hk _ _ ha hc hu
end Go.Proofs
namespace Go.Proofs
open Go Go.Lift
theorem Nj(n:Nat):dR n [.int .u8 0]=(dJ n (0:UInt8)).flatMap l8:=by
 unfold dR;induction n with
 |zero=>rfl
 |succ n ih=>rw[gv,eK,gv,List.flatMap_cons,ih];rfl
theorem Fa{h:ad}{n:Nat}{k:ad→Prop}(hk:∀h1,Upd No h h1→∀s:ByteArray,s.size=n→SRow h1 (some (aC h)) n (dd s)→k h1):At (hnew h (dR n [.int .u8 0]) ci) k:=by
 refine aQ fun h1 b1 k1=>?_
 rw[Nj]at b1;have o:OwnS l8 1 ci (fun _=>True) h1 ⟨some (aC h),n,n⟩ (dJ n (0:UInt8)):=⟨by simp,oL,ag _,.inr ⟨h.size,[],rfl,trivial,by rw[aE];exact b1,by simp⟩⟩
 have r:=(o.sl (W:=No) fun _ _ _ h=>h).srow
 refine hk h1 k1 ⟨(dJ n (0:UInt8)).toArray⟩ (by show(dJ n (0:UInt8)).toArray.size=n;simp) ?_;rw[mC];simpa using r
theorem OE{x m:Int}(h0:0≤x)(h1:x≤65535)(hm:0<m):∃n:Nat,(n:Int)<m∧Int.tmod (IntKind.wrap .i64 x) m=(n:Int):=by
 rw[fL (by omega),kO h0];have a:=Int.emod_nonneg x (Int.ne_of_gt hm);have b:=Int.emod_lt_of_pos x hm;exact⟨(x%m).toNat,by omega,by omega⟩
theorem Kw{W:Nat→Prop}{h:ad}{s:SliceV}{l:List Pr}{at' kx vx:Int}(hs:Sl dD 2 W h s l)(hn:l.length≤9223372036854775807)(hx:0≤kx∧kx≤65535)(hv':0≤vx∧vx≤65535){K:SliceV→ad→Prop}
  (hk:∀s' h' (L:List Pr),L.length≤40→(∀p∈L,p.1.size≤400∧p.2.size≤5000)→OwnS dD 2 al (fun y=>h.size≤y) h' s' L→Upd No h h'→K s' h'):HC PG yj [.slice s.a s.len s.cap,.int .u8 at',.int .u16 kx,.int .u16 vx] [.c .slice] K h:=by
 refine K6 s at' kx vx ?_;unfold DU cn nv jm aL aF d6 im;obtain⟨nk,bk,ek⟩:=OE (m:=300) hx.1 hx.2 (by decide);obtain⟨nv,bv,ev⟩:=OE (m:=4200) hv'.1 hv'.2 (by decide);rw[ek,ev];have hlen:=hs.len;refine LoopP.ghost (fun(i:Nat) (t:SliceV×Int) h'=>t.2=(i:Int)∧i≤l.length∧i≤40∧(∃L:List Pr,L.length≤i∧(∀p∈L,p.1.size≤400∧p.2.size≤5000)∧OwnS dD 2 al (fun y=>h.size≤y) h' t.1 L)∧Upd No h h') (fun i=>l.length-i) 0 ⟨rfl,aK _,aK _,⟨[],ag _,fun _ h=>(by cases h),OwnS.nil fq⟩,Upd.refl _ _⟩ ?_
 rintro I i ⟨so,ti⟩ h3 ⟨e1,hi,hi40,⟨L,hL,hsz,ho⟩,hu⟩ hI;simp only at e1 ho;subst e1;refine av (fun hlt=>?_) fun hge=>hk so h3 L (by omega) hsz ho hu
 have hlt:i<l.length:=by simp only at hlt;omega
 refine Join.intro (fun t h'=>i<40∧(∃L:List Pr,L.length≤i+1∧(∀p∈L,p.1.size≤400∧p.2.size≤5000)∧OwnS dD 2 al (fun y=>h.size≤y) h' t L)∧Upd No h h') (fun R hR=>?_) ?_
 ·obtain⟨a,ha,_,hv⟩:=(hs.upd hu fun _ h=>h.elim).at (ae hlt)
  refine⟨⟨by simp only;omega,by simp only;omega⟩,a,ha,l[i].1,hv 0 _ rfl,l[i].2,hv 1 _ rfl,?_⟩
  refine vy (p:=l[i]) fun h9 b9 k9=>?_
  refine av (fun h40=>hk so h9 L (by omega) hsz (ho.upd k9 fun _ _ h=>h) (hu.tr k9)) fun h40=>?_
  have h40:i<40:=by simp only at h40;omega
  refine⟨_,vc b9 0,_,vc b9 0,⟨by split<;>omega,by split<;>omega⟩,?_⟩
  simp only[Bd];refine⟨_,vc b9 1,_,vc b9 1,⟨by split<;>omega,by split<;>omega⟩,?_⟩
  refine rx (i:=0) (c':= #[.string (KM l[i].1),.string l[i].2]) b9 (show 0<2 by decide) rfl fun h16 b16 hu16=>?_
  refine rx (i:=1) (c':= #[.string (KM l[i].1),.string (KM l[i].2)]) b16 (show 1<2 by decide) rfl fun h17 b17 hu17=>?_
  have k17:Upd No h3 h17:=(k9.own hu16 (ag _)).own hu17 (ag _);have z1:=Gh l[i].1;have z2:=Gh l[i].2;refine Join.intro (fun _ h'=>∃p:Pr,p.1.size≤400∧p.2.size≤5000∧h'[h3.size]? =some (.cells #[.string p.1,.string p.2] al (0,0))∧Upd No h3 h') (fun R2 hR2=>?_) ?_
  ·refine CondP.intro (fun _=>?_) fun _=>hR2 _ _ ⟨(KM l[i].1,KM l[i].2),by simp only;omega,by simp only;omega,b17,k17⟩
   refine⟨_,vc b17 0,by decide,⟨by omega,by omega,by omega,by omega⟩,?_⟩
   refine Fa fun h20 k20 s21 e21 r21=>?_
   have b20:=k20.get0 b17;refine⟨vc b20 0,s21,r21,by omega,?_⟩
   refine rx (i:=0) (c':= #[.string (KM l[i].1++s21),.string (KM l[i].2)]) b20 (show 0<2 by decide) rfl fun h22 b22 hu22=>?_
   refine⟨_,vc b22 1,by decide,⟨by omega,by omega,by omega,by omega⟩,?_⟩
   refine Fa fun h24 k24 s25 e25 r25=>?_
   have b24:=k24.get0 b22;refine⟨vc b24 1,s25,r25,by omega,?_⟩
   refine rx (i:=1) (c':= #[.string (KM l[i].1++s21),.string (KM l[i].2++s25)]) b24 (show 1<2 by decide) rfl fun h26 b26 hu26=>?_
   refine hR2 _ _ ⟨(KM l[i].1++s21,KM l[i].2++s25),?_,?_,b26,(((k17.tr k20).own hu22 (ag _)).tr k24).own hu26 (ag _)⟩
   ·simp only;rw[ByteArray.size_append];omega
   ·simp only;rw[ByteArray.size_append];omega
  ·rintro _ h28 ⟨p,p1,p2,b28,k28⟩
   refine⟨_,vc b28 0,_,vc b28 1,bM ?_⟩;have hz:=(hu.tr k28).size;refine pM (p:=p) (ho.upd k28 fun _ _ h=>h) (fun b hb=>by omega) (by omega) fun s' h'' ho' hu'=>hR _ _ ⟨h40,⟨L++ [p],by rw[ac,aw];omega,fun q hq=>?_,ho'⟩,(hu.tr k28).trans hu' fun b hb=>.inr hb⟩
   rcases bP.1 hq with hq|hq
   ·exact hsz q hq
   ·rw[aJ.1 hq];exact⟨p1,p2⟩
 ·rintro s' h' ⟨h40,hex,hu'⟩
  rw[iG hlt hn];exact hI (i+1) _ _ ⟨rfl,hlt,h40,hex,hu'⟩ (by omega)
end Go.Proofs
namespace Go.Proofs
open Go Go.Lift
theorem LN(x:Hs)(lev:Nat)(l:List Pr):(fP x lev l).length+(iL x lev l).flatten.length=l.length:=by
 have h:=ra x lev l 32;have hle:(l.filter fun p=>decide (ck x lev p.1<32))=l:=List.filter_eq_self.2 fun p _=>decide_eq_true (JD ..)
 rw[hle]at h;have:∀n,(fm (fun c=>fM (part x lev c l)) n).length+(fm (fun c=>dU (part x lev c l)) n).flatten.length=((List.range n).map fun c=>(part x lev c l).length).sum:=by
  intro n;induction n with
  |zero=>simp[fm]
  |succ n ih=>
   rw[fE,fE,List.range_succ,List.map_append,List.sum_append];simp only[ac,dI,List.map_cons,List.map_nil,List.sum_cons,List.sum_nil,cQ];generalize part x lev n l=q;have:(fM q).toList.length+(dU q).toList.flatten.length=q.length:=by
    match q with
    | []=>simp[fM,dU]
    | [a]=>simp[fM,dU]
    |a::b::q=>simp[fM,dU]
   omega
 have:=this 32;unfold fP iL;omega
theorem HP{W:Nat→Prop}{x:Hs}{h:ad}{m:Nat}{ks:List (Option Addr)}:∀{ls:List (List Pr)},KidsAt W x h m ks ls→ks.length=ls.length∧∀i (hi:i<ls.length),∃kb,ks[i]? =some (some ⟨kb,0,none⟩)∧TrieAt W x h m kb ls[i]:=by
 induction ks with
 |nil=>intro ls;cases ls with
  |nil=>intro _;exact⟨rfl,fun i hi=>absurd hi (gp _)⟩
  |cons a ls=>intro h;exact h.elim
 |cons k ks ihk=>intro ls;cases ls with
  |nil=>intro h;exact h.elim
  |cons a ls=>
   rintro⟨⟨kb,rfl,tk⟩,h⟩;obtain⟨e,hr⟩:=ihk h;refine⟨by simp[e],fun i hi=>?_⟩
   cases i with
   |zero=>exact⟨kb,rfl,tk⟩
   |succ i=>simp only[fi,List.getElem_cons_succ];exact hr i (by simpa using hi)
theorem N1{x:Hs}{W:Nat→Prop}:∀(m:Nat),m≤13→∀{b:Nat} {l:List Pr} {h:ad},TrieAt W x h m b l→l.length≤60000→∀{K:Int→ad→Prop},(∀h',Upd No h h'→K (l.length:Int) h')→HC PG qi [.pointer (some ⟨b,0,none⟩)] [.c (.int .i64)] K h:=by
 intro m;induction m with
 |zero=>
  intro _ b l h t hn K hk;refine tK _ ?_;unfold qB bR cn bV;have bk:∀{h'},Upd No h h'→BuckAt W h' b l:=fun k=>BuckAt.upd t k fun _ h=>h.elim
  obtain⟨sp,sk,ow,hb,hsp,hsk,_⟩:=(bk (Upd.refl No h)).ex;refine rb hb hsp (by omega) fun s1 h1 ho1 k1=>?_
  obtain⟨sp1,sk1,ow1,hb1,hsp1,hsk1,_⟩:=(bk k1).ex;refine Ek hb1 hsk1 (by simp) fun s2 h2 ho2 k2=>?_
  have e2:=ho2.len;rw[List.length_nil]at e2;refine LoopP.ghost (fun(_:Unit) (t:Int×Int) h'=>t=((s1.len:Int),0)∧h'=h2) (fun _=>0) () ⟨rfl,rfl⟩ ?_
  rintro I _ t h3 ⟨rfl,e⟩ hI;rw[e];refine av (fun hlt=>absurd hlt (by simp only;omega)) fun _=>?_
  simp only;rw[ho1.len];exact hk h2 (k1.tr k2)
 |succ m ih=>
  intro hm b l h t hn K hk;refine tK _ ?_;unfold qB bR cn bV;obtain⟨sl,nd,hs0⟩:=t;have hs:∀c,c<32→SlotIs W x h m sl c (part x (12-m) c l):=hs0;have hd:∀{h'},Upd No h h'→∃d n sp sk ow,h'[b]? =some (.cells (fb d n sp sk false ow) bm (0,0))∧Sl dD 2 W h' sp (fP x (12-m) l)∧Sl oX 1 W h' sk (fm sl.k 32):=fun{h'} k=>by
   obtain⟨d,n,sp,sk,ow,hb,bits,h3,h4,_⟩:=(nd.upd k fun _ h=>h.elim).ex
   refine⟨d,n,sp,sk,ow,hb,?_,h4⟩;rw[←D6 hs];exact h3
  have hka:KidsAt W x h m (fm sl.k 32) (iL x (12-m) l):=HQ 32 hs;have hml:∀L∈iL x (12-m) l,L.length≤60000:=fun L hL=>by
   obtain⟨_,c,rfl⟩:=nx hL;exact bh nZ hn
  have he:=LN x (12-m) l;obtain⟨hkl,hkt⟩:=HP hka;generalize fP x (12-m) l=So at hd he;generalize iL x (12-m) l=Ma at hml he hkl hkt;obtain⟨d,n,sp,sk,ow,hb,hsp,_⟩:=hd (Upd.refl No h);refine rb hb hsp (by omega) fun s1 h1 ho1 k1=>?_
  obtain⟨d1,n1,sp1,sk1,ow1,hb1,_,hsk1⟩:=hd k1;have hk32:=wQ (g:=sl.k);refine Ek hb1 hsk1 (by omega) fun s2 h2 ho2 k2=>?_
  have S2:Sl oX 1 No h2 s2 (fm sl.k 32):=ho2.sl fun _ _ _ h=>h
  have hlk:=S2.len;refine LoopP.ghost (fun(i:Nat) (t:Int×Int) h'=>t.1=((So.length+(Ma.take i).flatten.length:Nat):Int)∧t.2=(i:Int)∧i≤Ma.length∧Upd No h2 h') (fun i=>Ma.length-i) 0 ⟨by rw[ho1.len];simp,rfl,aK _,Upd.refl _ _⟩ ?_
  rintro I i ⟨tn,ti⟩ h3 ⟨e1,e2,hi,hu⟩ hI;simp only at e1 e2;subst e1 e2;refine av (fun hlt=>?_) fun hge=>?_
  ·have hlt:i<Ma.length:=by simp only at hlt;omega
   obtain⟨kb,hk1,tk⟩:=hkt i hlt;obtain⟨a,ha,_,hv⟩:=(S2.upd hu fun _ h=>h.elim).at0 hk1
   refine⟨⟨by simp only;omega,by simp only;omega⟩,a,ha,some ⟨kb,0,none⟩,hv,?_⟩
   have hsp:(Ma.take i).flatten.length+Ma[i].length≤Ma.flatten.length:=by
    have e:Ma=Ma.take i++Ma[i]::Ma.drop (i+1):=by rw[List.getElem_cons_drop,List.take_append_drop]
    have:=congrArg (fun L=>(List.flatten L).length) e
    simp only[dI,eK,ac]at this;omega
   refine ih (by omega) (TrieAt.upd0 ((k1.tr k2).tr hu) tk) (hml _ (bN hlt)) fun h4 k4=>?_
   simp only;rw[cl hlt (by omega),fL (by omega)];refine hI (i+1) _ _ ⟨?_,rfl,hlt,hu.tr k4⟩ (by omega);rw[aX hlt,dI];simp only[eK,List.flatten_nil,aE,ac];omega
  ·have hil:i=Ma.length:=by simp only at hge;omega
   subst hil;simp only;rw[bQ,he];exact hk h3 ((k1.tr k2).tr hu)
theorem Nw{W:Nat→Prop}{x:Hs}{h:ad}{kind:Int}{t:Tr}{l:List Pr}(i:TreeIs W h kind x t l)(hr:d9 l)(hn:l.length≤60000){K:Int→ad→Prop}(hk:∀h',Upd No h h'→K (l.length:Int) h'):HC PG ie [GV t] [.c (.int .i64)] K h:=by
 rcases i with⟨rfl,b,rfl,tt⟩|⟨rfl,b,rfl,tt⟩
 ·refine oN _ ?_
  unfold l9 bW bD qV bV;refine aQ fun h1 b1 k1=>⟨_,vc b1 0,aj.2 ⟨_,vc b1 4,?_⟩⟩
  exact N1 13 (ag _) (TrieAt.upd0 k1 tt) hn fun h2 k2=>hk h2 (k1.tr k2)
 ·exact LJ (x:=x) (.inr ⟨rfl,b,rfl,tt⟩) hr hn hk
end Go.Proofs
namespace Go.Proofs
open Go Go.Lift
theorem IV(n:Nat):IntKind.wrap .u64 (n:Int)=((n%18446744073709551616:Nat):Int):=by rw[IntKind.wrap_u64];omega
theorem wk{n:Nat}(h:n<18446744073709551616):IntKind.wrap .u64 (n:Int)=(n:Int):=by rw[IV,de h]
theorem AJ{a b:Nat}(ha:a<18446744073709551616)(hb:b<18446744073709551616):AL a b=((a|||b:Nat):Int):=by
 unfold AL;rw[show IntKind.bits .u64=64 from rfl,ey,ey,BitVec.toNat_or,mu,mu,de (show a<2^64 from ha),de (show b<2^64 from hb)]
 exact wk (Nat.or_lt_two_pow (n:=64) ha hb)
theorem AK{n a b:Nat}(hb:b<2^n)(ha:a*2^n+b<18446744073709551616):AL ((a*2^n:Nat):Int) (b:Int)=((a*2^n+b:Nat):Int):=by
 rw[AJ (by omega) (by omega),jC a,Nat.two_pow_add_eq_or_of_lt hb]
def Hf(x:Nat):Nat:=x*2%18446744073709551616+x/9223372036854775808
def AD:Nat→Nat→Nat
 |0,x=>x
 |n+1,x=>Hf (AD n x)
theorem ND{n:Nat}(hn:n≤64){x a b:Nat}(hb:b<2^(64-n))(ha:a<2^n)(e:x=a*2^(64-n)+b):AD n x=b*2^n+a:=by
 induction n generalizing a b with
 |zero=>
  have:a=0:=by simpa using ha
  subst this;rw[e];simp[AD]
 |succ n ih=>
  have e1:(2:Nat)^(64-n)=2*2^(64-(n+1)):=by rw[show 64-n=(64-(n+1))+1 by omega,lp,jC]
  have e2:(2:Nat)^(n+1)=2*2^n:=by rw[lp,jC]
  have e3:(2:Nat)^(64-(n+1))*2^n=9223372036854775808:=by rw[←qC,show 64-(n+1)+n=63 by omega]
  have h1:a%2<2:=nJ _ (by omega);have h2:=Nat.div_add_mod a 2;have ha2:a/2<2^n:=by omega
  have hB:a%2*2^(64-(n+1))+b<2^(64-n):=by
   rw[e1];have:a%2*2^(64-(n+1))≤1*2^(64-(n+1)):=bZ _ (by omega);omega
  have e4:x=a/2*2^(64-n)+(a%2*2^(64-(n+1))+b):=by
   rw[e,e1,←jP,←Nat.mul_assoc,←gQ,jC (a/2) 2,h2]
  have:=ih (by omega) hB ha2 e4;show Hf (AD n x)=_
  rw[this,gQ,Nat.mul_assoc,e3,e2];unfold Hf;have hb2:b*2^n+2^n≤2^(64-(n+1))*2^n:=by
   rw[←iA];exact bZ _ hb
  rw[e3]at hb2;have e5:b*(2*2^n)=2*(b*2^n):=by rw[Nat.mul_left_comm]
  rw[e5];generalize b*2^n=B at hb2;generalize 2^n=N at ha2 hb2;have:a%2=0∨a%2=1:=by omega
  rcases this with h|h<;>rw[h]at h2⊢<;>omega
theorem NC(n:Nat){x:Nat}(hx:x<18446744073709551616):AD n x<18446744073709551616:=by
 induction n with
 |zero=>exact hx
 |succ n ih=>show Hf _<_;unfold Hf;omega
theorem Qb{n:Nat}(h:n<64):Gl (IntKind.wrap .u64 (n:Int)) 63=(n:Int):=by
 rw[wk (by omega)];unfold Gl;have:∀n:Fin 64,(af (IntKind.bits .u64) ((n.val:Nat):Int)&&&af (IntKind.bits .u64) 63).toNat=n.val:=by decide
 rw[this ⟨n,h⟩];exact wk (by omega)
theorem NB{n x:Nat}(hn:n<64)(hx:x<18446744073709551616):AC (x:Int) (n:Int)=((AD n x:Nat):Int):=by
 unfold AC;rw[Qb hn];rw[show((64:Int)-(n:Int))=((64-n:Nat):Int) by omega,wk (by omega)]
 simp only[show IntKind.bits .u64=64 from rfl,aM,bL (pp hn),bL (Nat.sub_le 64 n)]
 have e3:(2:Nat)^(64-n)*2^n=18446744073709551616:=by rw[←qC,show 64-n+n=64 by omega]
 have hd:=Nat.div_add_mod x (2^(64-n));have hm:x%2^(64-n)<2^(64-n):=nJ _ (Nat.two_pow_pos _);have ha:x/2^(64-n)<2^n:=by
  rw[Nat.div_lt_iff_lt_mul (Nat.two_pow_pos _),jC,e3];exact hx
 rw[jC]at hd;rw[ND (pp hn) hm ha hd.symm];rw[show((x:Int)*2^n)=((x*2^n:Nat):Int) by rw[Int.natCast_mul,Int.natCast_pow];rfl,IV]
 rw[show Int.fdiv (x:Int) (2^(64-n))=((x/2^(64-n):Nat):Int) by rw[show((2:Int)^(64-n))=((2^(64-n):Nat):Int) by rw[Int.natCast_pow];rfl];exact Int.ofNat_fdiv x _▸rfl]
 have hb2:x%2^(64-n)*2^n+2^n≤2^(64-n)*2^n:=by
  rw[←iA];exact bZ _ hm
 rw[e3]at hb2;have e6:x*2^n%18446744073709551616=x%2^(64-n)*2^n:=by
  rw[←e3,Nat.mul_mod_mul_right]
 rw[e6];exact AK ha (by omega)
end Go.Proofs
namespace Go.Proofs
open Go Go.Lift
def B8(s:ByteArray)(i:Nat):Nat:=if h:i<s.size then(s[i]'h).toNat else 0
def hv(s:ByteArray):Nat→Nat→Nat
 |_,0=>0
 |p,c+1=>hv s (p+1) c*256+B8 s p
theorem ML(s:ByteArray)(i:Nat):B8 s i<256:=by
 unfold B8;split
 ·exact UInt8.toNat_lt _
 ·omega
theorem JF(s:ByteArray)(i:Nat):Gi s i=(B8 s i:Int):=by
 unfold Gi B8;by_cases h:i<s.size
 ·rw[dif_pos h,getElem?_pos s i h]
 ·rw[dif_neg h,getElem?_neg s i h];rfl
theorem Bi{s:ByteArray}{i:Nat}(h:s.size≤i):B8 s i=0:=dif_neg (by omega)
theorem Dv(s:ByteArray):∀(c p:Nat),hv s p c<256^c
 |0,_=>by show(0:Nat)<1;omega
 |c+1,p=>by
  have:=Dv s c (p+1);have:=ML s p;rw[lp];show hv s (p+1) c*256+B8 s p<_
  omega
theorem Jt{s:ByteArray}:∀{c p:Nat},s.size≤p→hv s p c=0
 |0,_,_=>rfl
 |c+1,p,h=>by
  show hv s (p+1) c*256+B8 s p=0
  rw[Jt (by omega),Bi h]
theorem Eo{s:ByteArray}{d:Nat}:∀{c p:Nat},s.size≤p+c→hv s p (c+d)=hv s p c
 |0,p,h=>by rw[Jt (by omega)];rfl
 |c+1,p,h=>by
  rw[show c+1+d=(c+d)+1 by omega]
  show hv s (p+1) (c+d)*256+_=hv s (p+1) c*256+_
  rw[Eo (by omega)]
theorem Oj{s:ByteArray}{a b i:Nat}(hb:b≤s.size):B8 (s.extract a b) i=if a+i<b then B8 s (a+i)else 0:=by
 unfold B8;have e:(s.extract a b).size=b-a:=by rw[eH];omega
 by_cases h:a+i<b
 ·rw[if_pos h,dif_pos (by omega),dif_pos (by omega),ByteArray.getElem_extract]
 ·rw[if_neg h,dif_neg (by omega)]
theorem HX{s:ByteArray}{a:Nat}:∀{c p b:Nat},b≤s.size→(b=s.size∨a+p+c≤b)→hv (s.extract a b) p c=hv s (a+p) c
 |0,_,_,_,_=>rfl
 |c+1,p,b,hb,h=>by
  show hv _ (p+1) c*256+_=hv s (a+p+1) c*256+_
  rw[HX hb (h.imp id fun h=>by omega),Oj hb,jP]
  congr 1
  split
  ·rfl
  ·exact(Bi (by omega)).symm
theorem Oq{s:ByteArray}:∀{k c:Nat},k+c≤8→wj s k ((hv s k c*2^(8*k):Nat):Int)=((hv s 0 (k+c):Nat):Int)
 |0,c,_=>by
  show((hv s 0 c*2^(8*0):Nat):Int)=_
  rw[Nat.zero_add];simp
 |k+1,c,h=>by
  have hb:=ML s k;have hc:=Dv s c (k+1);have e8:(2:Nat)^(8*(k+1))=256*2^(8*k):=by rw[show 8*(k+1)=8+8*k by omega,qC]
  have hle:256^c*2^(8*(k+1))≤18446744073709551616:=by
   rw[show(256:Nat)=2^8 from rfl,←Nat.pow_mul,←qC]
   exact fg (by omega) (show 8*c+8*(k+1)≤64 by omega)
  have hA:hv s (k+1) c*2^(8*(k+1))+2^(8*(k+1))≤18446744073709551616:=by
   rw[←iA];exact bh (bZ _ hc) hle
  have hB:B8 s k*2^(8*k)<2^(8*(k+1)):=by rw[e8];exact Nat.mul_lt_mul_of_pos_right hb (Nat.two_pow_pos _)
  have hsum:hv s (k+1) c*2^(8*(k+1))+B8 s k*2^(8*k)=hv s k (c+1)*2^(8*k):=by
   rw[e8,←Nat.mul_assoc,←gQ];rfl
  have hin:(if k=0 then IntKind.wrap .u64 (Gi s 0)else Oz (Gi s k) ((8*k:Nat):Int))=((B8 s k*2^(8*k):Nat):Int):=by
   split
   ·rename_i e
    subst e;rw[JF,IntKind.wrap_u64];simp;omega
   ·unfold Oz
    rw[JF,aM,show IntKind.bits .u64=64 from rfl,bL (by omega)]
    have e1:IntKind.wrap .u64 ((B8 s k:Nat):Int)=((B8 s k:Nat):Int):=by rw[IntKind.wrap_u64];omega
    rw[e1,show((B8 s k:Int)*2^(8*k))=((B8 s k*2^(8*k):Nat):Int) by rw[Int.natCast_mul,Int.natCast_pow];rfl,IntKind.wrap_u64]
    omega
  show wj s k (AL _ (if k=0 then _ else _))=_
  rw[hin,AK hB (by omega),hsum,Oq (by omega),show k+(c+1)=k+1+c by omega]
theorem Fb{s:ByteArray}(h:s.size≤8):uD s=((hv s 0 8:Nat):Int):=by
 have:=Oq (s:=s) (k:=s.size) (c:=0) (by omega);rw[show hv s s.size 0=0 from rfl,Nat.zero_mul]at this
 unfold uD;rw[show((0:Nat):Int)=0 from rfl]at this
 rw[this,cQ];have e:=Eo (s:=s) (d:=8-s.size) (c:=s.size) (p:=0) (by omega);rw[show s.size+(8-s.size)=8 by omega]at e
 rw[e]
def mZ:Nat→ByteArray→Nat→Q4→Nat×Q4
 |0,_,a,q=>(a,q)
 |n+1,s,a,q=>if a+8≤s.size then mZ n s (a+8) (oV (hv s a 8:Nat) q)else(a,q)
theorem Fh:∀{n:Nat} {s:ByteArray} {a:Nat} {q:Q4},a≤s.size→yM n (s.extract a s.size) q=(s.extract (mZ n s a q).1 s.size,(mZ n s a q).2)
 |0,_,_,_,_=>rfl
 |n+1,s,a,q,h=>by
  have e:(s.extract a s.size).size=s.size-a:=by rw[eH];omega
  show(if 8≤(s.extract a s.size).size then _ else _)=_
  rw[e];by_cases hc:a+8≤s.size
  ·rw[if_pos (show 8≤s.size-a by omega),ByteArray.extract_extract,ByteArray.extract_extract]
   rw[show mZ (n+1) s a q=mZ n s (a+8) (oV (hv s a 8:Nat) q)from if_pos hc]
   rw[show min (a+(s.size-a)) s.size=s.size by omega,show min (a+8) s.size=a+8 by omega,cQ]
   rw[Fb (by rw[eH];omega),HX (by omega) (.inr (by omega)),cQ];exact Fh hc
  ·rw[if_neg (show ¬8≤s.size-a by omega),show mZ (n+1) s a q=(a,q)from if_neg hc]
theorem DG:∀{n:Nat} {s:ByteArray} {a:Nat} {q:Q4},s.size≤a+n→a≤s.size→s.size<(mZ n s a q).1+8∧(mZ n s a q).1≤s.size
 |0,_,_,_,h,h'=>⟨by show _<_+8;simp only[mZ];omega,h'⟩
 |n+1,s,a,q,h,h'=>by
  by_cases hc:a+8≤s.size
  ·rw[show mZ (n+1) s a q=mZ n s (a+8) (oV (hv s a 8:Nat) q)from if_pos hc]
   exact DG (by omega) hc
  ·rw[show mZ (n+1) s a q=(a,q)from if_neg hc]
   exact⟨by simp only;omega,h'⟩
theorem Nx{k0 k1:Int}{s:ByteArray}:GY k0 k1 s=(let g:=mZ s.size s 0 (df k0 8317987319222330741,df k1 7237128888997146477,df k0 7816392313619706465,df k1 8387220255154660723)
  Oa (oV ((hv s g.1 8+s.size%256*72057594037927936:Nat):Int) g.2)):=by
 unfold GY PU;generalize (df k0 8317987319222330741,df k1 7237128888997146477,df k0 7816392313619706465,df k1 8387220255154660723)=q;have e:=Fh (n:=s.size) (s:=s) (a:=0) (q:=q) (aK _);rw[ByteArray.extract_zero_size]at e;rw[e];have⟨h1,h2⟩:=DG (n:=s.size) (s:=s) (a:=0) (q:=q) (by omega) (aK _);generalize mZ s.size s 0 q=g at h1 h2;obtain⟨a,r⟩:=g;simp only at h1 h2⊢
 rw[Fb (by rw[eH];omega),HX (ag _) (.inl rfl),cQ];congr 2
 have hc:hv s a 8<2^56:=by
  have e:=Eo (s:=s) (d:=1) (c:=7) (p:=a) (by omega);rw[show(7+1:Nat)=8 from rfl]at e
  rw[e];exact Dv s 7 a
 have hsh:Oz (s.size:Int) 56=((s.size%256*2^56:Nat):Int):=by
  unfold Oz;rw[show min ((56:Int)).toNat (IntKind.bits .u64)=56 from rfl,IV]
  rw[show(((s.size%18446744073709551616:Nat):Int)*2^56)=((s.size%18446744073709551616*72057594037927936:Nat):Int) by rw[Int.natCast_mul];rfl,IV]
  omega
 have hm:s.size%256*2^56+hv s a 8<18446744073709551616:=by omega
 have hcc:∀{a b:Nat},a<18446744073709551616→b<18446744073709551616→AL a b=AL b a:=fun ha hb=>by rw[AJ ha hb,AJ hb ha,Nat.or_comm]
 rw[hsh,hcc (Nat.lt_trans hc (by decide)) (Nat.lt_of_le_of_lt (Nat.le_add_right _ _) hm),AK hc hm,Nat.add_comm]
end Go.Proofs
namespace Go.Proofs
open Go Go.Lift
abbrev Rg(x:Int):Prop:=0≤x∧x<18446744073709551616
theorem NA(x n:Int):Rg (AC x n):=xT _
theorem qD(x n:Int):Rg (df x n):=xT _
theorem MU(x n:Int):Rg (MV x n):=xT _
theorem tW{x:Int}(hx:Rg x){n:Nat}(hn:n<64){h:ad}{K:Int→ad→Prop}(hk:K (AC x n) h):HC PG kG [.int .u64 x,.int .i64 (n:Int)] [.c (.int .u64)] K h:=by
 obtain⟨X,rfl⟩:=mF hx.1;have hX:X<18446744073709551616:=by have:=hx.2;omega
 rw[NB hn hX]at hk;refine IB X n ?_;unfold BQ;refine LoopP.ghost (fun(i:Nat) (t:Int×Int) h'=>t=(((AD i X:Nat):Int),(i:Int))∧i≤n∧h'=h) (fun i=>n-i) 0 ⟨rfl,aK _,rfl⟩ ?_
 rintro I i t h' ⟨rfl,hi,rfl⟩ hI;refine av (fun hlt=>?_) fun hge=>?_
 ·have hlt:i<n:=by have:(i:Int)<(n:Int):=hlt;omega
  have hr:=NC i hX;refine⟨by decide,?_⟩;have e:IntKind.wrap .u64 (IntKind.wrap .u64 (((AD i X:Nat):Int)*2)+IntKind.wrap .u64 (kP ((AD i X:Nat):Int) 9223372036854775808))=((AD (i+1) X:Nat):Int):=by
   show _=((Hf (AD i X):Nat):Int)
   unfold Hf;rw[eu (by omega),IntKind.wrap_u64,IntKind.wrap_u64,IntKind.wrap_u64];omega
  simp only[Bd];rw[e,cl hlt (by omega)];exact hI (i+1) _ _ ⟨rfl,hlt,rfl⟩ (by omega)
 ·obtain rfl:i=n:=by have:¬(i:Int)<(n:Int):=hge;omega
  exact hk
theorem q9{s:Q4}(h1:Rg s.2.1)(h3:Rg s.2.2.2){h:ad}{K:Q4→ad→Prop}(hk:∀h',Upd No h h'→K (jp s) h'):HC PG jj [.agg #[.int .u64 s.1,.int .u64 s.2.1,.int .u64 s.2.2.1,.int .u64 s.2.2.2]] [.agg [.int .u64,.int .u64,.int .u64,.int .u64]] K h:=by
 refine Gz s ?_;unfold zm bR cn ar hJ is oC JM JP L8;refine aQ fun h1' b1 k1=>aQ fun h2 b2 k2=>?_
 have c1:=k2.get0 b1;have s1:=k1.size;refine⟨by decide,_,vc c1 0,by decide,_,vc c1 1,by decide,_,vc c1 2,by decide,_,vc c1 3,?_⟩
 refine tW (n:=13) h1 (by omega) (tW (n:=32) (MU _ _) (by omega) (tW (n:=16) h3 (by omega) (tW (n:=21) (qD _ _) (by omega) (tW (n:=17) (qD _ _) (by omega) (tW (n:=32) (MU _ _) (by omega) ?_)))));refine eL b2 (by rfl) fun h3' b3 u3=>?_
 refine⟨_,vc b3 0,_,vc b3 1,_,vc b3 2,_,vc b3 3,?_⟩;exact hk h3' ((k1.tr k2).own u3 (by omega))
abbrev Rq(q:Q4):Prop:=Rg q.1∧Rg q.2.1∧Rg q.2.2.1∧Rg q.2.2.2
theorem sP(s:Q4):Rq (jp s):=⟨MU _ _,qD _ _,NA _ _,qD _ _⟩
theorem LA(m:Int)(s:Q4):Rq (oV m s):=⟨qD _ _,(sP _).2⟩
theorem Pp{s:ByteArray}{i:Nat}(h:i<s.size):∃b:UInt8,s[i]? =some b∧B8 s i=b.toNat:=⟨s[i],getElem?_pos s i h,by unfold B8;rw[dif_pos h]⟩
theorem ME{n:Nat}{s:ByteArray}{a:Nat}{q:Q4}(h:s.size≤a+n)(hc:a+8≤s.size):∃m,mZ n s a q=mZ m s (a+8) (oV (hv s a 8:Nat) q)∧s.size≤a+8+m:=by
 cases n with
 |zero=>omega
 |succ n=>exact⟨n,if_pos hc,by omega⟩
theorem H4{n:Nat}{s:ByteArray}{a:Nat}{q:Q4}(hc:s.size<a+8):mZ n s a q=(a,q):=by
 cases n with
 |zero=>rfl
 |succ n=>exact if_neg (by omega)
theorem NG{k0 k1:Int}{s:ByteArray}(hs:s.size≤1000000000){h:ad}{K:Int→ad→Prop}(hk:∀h',Upd No h h'→K (GY k0 k1 s) h'):HC PG yh [.int .u64 k0,.int .u64 k1,.string s] [.c (.int .u64)] K h:=by
 rw[Nx]at hk;refine K4 k0 k1 s ?_;unfold DS bR cn ar hJ nv d6 JM JP OQ Kk L8 wK;simp only[Bd,show((0:Int)).toNat*1=0 from rfl,show((1:Int)).toNat*1=1 from rfl,show((2:Int)).toNat*1=2 from rfl,show((3:Int)).toNat*1=3 from rfl]
 have eq0:∃q0:Q4,q0=(df k0 8317987319222330741,df k1 7237128888997146477,df k0 7816392313619706465,df k1 8387220255154660723):=⟨_,rfl⟩;obtain⟨q0,e0⟩:=eq0;rw[←e0]at hk;have hq0:Rq q0:=by rw[e0];exact⟨qD _ _,qD _ _,qD _ _,qD _ _⟩
 refine aQ fun h1 b1 k1=>?_
 refine eL b1 (by rfl) fun h2 b2 u2=>?_
 have b2':h2[h.size]? =some (.cells (q4 q0) rA (0,0)):=by rw[e0];exact b2
 clear b2 e0;have hex:∃G:Nat×Q4,G=mZ s.size s 0 q0:=⟨_,rfl⟩;obtain⟨G,eG⟩:=hex;rw[←eG]at hk;simp only at hk;refine LoopP.ghost (fun(g:Nat×Q4) (t:Int) h'=>t=(g.1:Int)∧h'[h.size]? =some (.cells (q4 g.2) rA (0,0))∧Upd No h h'∧Rq g.2∧
  ((∃n,mZ n s g.1 g.2=G∧s.size≤g.1+n∧g.1≤s.size)∨(s.size<g.1∧g.2=oV ((hv s G.1 8+s.size%256*72057594037927936:Nat):Int) G.2))) (fun g=>s.size+1-g.1) (0,q0) ⟨rfl,b2',k1.own u2 (ag _),hq0,.inl ⟨s.size,eG.symm,by omega,aK _⟩⟩ ?_
 rintro I ⟨a,q⟩ t h' ⟨rfl,hb,hu,hq,hst⟩ hI;simp only at hb hq hst;refine av (fun hle=>?_) fun hgt=>?_
 ·have hle:a≤s.size:=by omega
  obtain⟨n,hdoc,hn,_⟩:=hst.resolve_right fun h=>by omega
  refine LoopP.ghost (fun(j:Nat) (t:Int×Int) h''=>t=(((hv s (a+(8-j)) j:Nat):Int),(7:Int)-(j:Int))∧j≤8∧h''=h') (fun j=>8-j) 0 ⟨rfl,by omega,rfl⟩ ?_
  rintro I2 j t h'' ⟨rfl,hj,rfl⟩ hI2;refine av (fun hge=>?_) fun hlt=>?_
  ·have hj7:j≤7:=by have:(7:Int)-(j:Int)≥0:=hge;omega
   have ei:IntKind.wrap .i64 ((a:Int)+(7-(j:Int)))=((a+(7-j):Nat):Int):=by rw[fL (by omega)];omega
   have hl1:=Dv s (j+1) (a+(8-(j+1)));have hp:256^(j+1)≤256^8:=fg (by omega) (by omega);have ehv:hv s (a+(8-(j+1))) (j+1)=hv s (a+(8-j)) j*256+B8 s (a+(7-j)):=by
    rw[show a+(8-(j+1))=a+(7-j) by omega]
    show hv s (a+(7-j)+1) j*256+_=_
    rw[show a+(7-j)+1=a+(8-j) by omega]
   rw[ehv]at hl1;refine Join.intro (fun t h3=>t=((hv s (a+(8-(j+1))) (j+1):Nat):Int)∧h3=h'') (fun R hR=>?_) ?_
   ·simp only
    rw[ei];refine av (fun hin=>?_) fun hout=>?_
    ·have hin:a+(7-j)<s.size:=by omega
     obtain⟨b,hb1,hb2⟩:=Pp hin;refine⟨b,by omega,by rw[aM];exact hb1,hR _ _ ⟨?_,rfl⟩⟩
     rw[ehv,hb2,IntKind.wrap_u64,IntKind.wrap_u64,IntKind.wrap_u64];rw[hb2]at hl1;omega
    ·have hz:B8 s (a+(7-j))=0:=Bi (by omega)
     refine hR _ _ ⟨?_,rfl⟩;rw[hz]at hl1;rw[ehv,hz,IntKind.wrap_u64];omega
   ·rintro t h3 ⟨rfl,rfl⟩
    simp only;have e7:IntKind.wrap .i64 ((7:Int)-(j:Int)-1)=(7:Int)-((j+1:Nat):Int):=by rw[fL (by omega)];omega
    rw[e7];exact hI2 (j+1) _ _ ⟨rfl,by omega,rfl⟩ (by omega)
  ·obtain rfl:j=8:=by have:¬(7:Int)-(j:Int)≥0:=hlt;omega
   simp only[Nat.sub_self,cQ];have h8:=Dv s 8 a;have e8:IntKind.wrap .i64 ((a:Int)+8)=((a+8:Nat):Int):=by rw[fL (by omega)];omega
   rw[e8];refine Join.intro (fun(t:Int) h3=>h3=h''∧∃m:Nat,t=(m:Int)∧((a+8≤s.size∧m=hv s a 8)∨(s.size<a+8∧m=hv s a 8+s.size%256*72057594037927936))) (fun R hR=>?_) ?_
   ·refine av (fun hin=>?_) fun hout=>?_
    ·have hin:s.size<a+8:=by omega
     have hc:hv s a 8<2^56:=by
      have e:=Eo (s:=s) (d:=1) (c:=7) (p:=a) (by omega);rw[show(7+1:Nat)=8 from rfl]at e
      rw[e];exact Dv s 7 a
     refine⟨by decide,hR _ _ ⟨rfl,_,?_,.inr ⟨hin,rfl⟩⟩⟩;rw[kO (by omega),IntKind.wrap_u64,IntKind.wrap_u64,IntKind.wrap_u64];omega
    ·exact hR _ _ ⟨rfl,_,rfl,.inl ⟨by omega,rfl⟩⟩
   ·rintro t h3 ⟨rfl,m,rfl,hm⟩
    refine⟨by decide,_,vc hb 3,by decide,?_⟩
    refine rx (i:=3) (c':=q4 (q.1,q.2.1,q.2.2.1,df q.2.2.2 (m:Int))) hb (show 3<4 by decide) rfl fun h4 b4 u4=>?_
    refine⟨_,vc b4 0,_,vc b4 1,_,vc b4 2,_,vc b4 3,?_⟩;refine q9 (s:=(q.1,q.2.1,q.2.2.1,df q.2.2.2 (m:Int))) hq.2.1 (qD _ _) fun h5 k5=>?_
    have hr1:=sP (q.1,q.2.1,q.2.2.1,df q.2.2.2 (m:Int));have et:oV (m:Int) q=(df (jp (jp (q.1,q.2.1,q.2.2.1,df q.2.2.2 (m:Int)))).1 m,(jp (jp (q.1,q.2.1,q.2.2.1,df q.2.2.2 (m:Int)))).2):=rfl;refine q9 hr1.2.1 hr1.2.2.2 fun h6 k6=>?_
    obtain⟨r,er⟩:∃r,r=jp (jp (q.1,q.2.1,q.2.2.1,df q.2.2.2 (m:Int))):=⟨_,rfl⟩;rw[←er]at et⊢;have b6:=k6.get0 (k5.get0 b4);have z6:=bw b6;refine eL (vs:=(q4 r).toList) b6 rfl fun h7 b7 u7=>?_
    have b7':h7[h.size]? =some (.cells (q4 r) rA (0,0)):=b7;refine⟨by decide,_,vc b7' 0,by decide,?_⟩
    refine rx (i:=0) (c':=q4 (df r.1 m,r.2)) b7' (show 0<4 by decide) rfl fun h8' b8 u8=>?_
    have uu:Upd No h h8':=((((hu.own u4 (ag _)).tr k5).tr k6).own u7 (ag _)).own u8 (ag _);rw[←et]at b8;refine hI (a+8,oV m q) _ _ ⟨rfl,b8,uu,LA _ _,?_⟩ (by simp only;omega);rcases hm with⟨hc,rfl⟩|⟨hc,rfl⟩
    ·obtain⟨n',hd,hn'⟩:=ME hn hc
     exact .inl ⟨n',hd.symm.trans hdoc,hn',hc⟩
    ·refine .inr ⟨by simp only;omega,?_⟩
     have:=H4 (n:=n) (q:=q) hc;rw[hdoc]at this;rw[this]
 ·obtain⟨_,eq⟩:=hst.resolve_left fun⟨_,_,_,h⟩=>by omega
  rw[←eq]at hk;clear eq hst;refine⟨by decide,_,vc hb 2,by decide,?_⟩
  refine rx (i:=2) (c':=q4 (q.1,q.2.1,df q.2.2.1 255,q.2.2.2)) hb (show 2<4 by decide) rfl fun h4 b4 u4=>?_
  refine⟨_,vc b4 0,_,vc b4 1,_,vc b4 2,_,vc b4 3,?_⟩;have ef:Oa q=Pj (jp (jp (jp (jp (q.1,q.2.1,df q.2.2.1 255,q.2.2.2))))):=rfl;rw[ef]at hk;refine q9 (s:=(q.1,q.2.1,df q.2.2.1 255,q.2.2.2)) hq.2.1 hq.2.2.2 fun h5 k5=>?_
  have hr1:=sP (q.1,q.2.1,df q.2.2.1 255,q.2.2.2);obtain⟨r1,er1⟩:∃r,r=jp (q.1,q.2.1,df q.2.2.1 255,q.2.2.2):=⟨_,rfl⟩;rw[←er1]at hk hr1⊢;clear er1;refine q9 hr1.2.1 hr1.2.2.2 fun h6 k6=>?_
  have hr2:=sP r1;obtain⟨r2,er2⟩:∃r,r=jp r1:=⟨_,rfl⟩;rw[←er2]at hk hr2⊢;clear er2;refine q9 hr2.2.1 hr2.2.2.2 fun h7 k7=>?_
  have hr3:=sP r2;obtain⟨r3,er3⟩:∃r,r=jp r2:=⟨_,rfl⟩;rw[←er3]at hk hr3⊢;clear er3;refine q9 hr3.2.1 hr3.2.2.2 fun h8 k8=>?_
  obtain⟨r,er⟩:∃r,r=jp r3:=⟨_,rfl⟩;rw[←er]at hk⊢;clear er;have b8:=k8.get0 (k7.get0 (k6.get0 (k5.get0 b4)));refine eL (vs:=(q4 r).toList) b8 rfl fun h9 b9 u9=>?_
  have b9':h9[h.size]? =some (.cells (q4 r) rA (0,0)):=b9;refine⟨by decide,_,vc b9' 0,by decide,_,vc b9' 1,by decide,_,vc b9' 2,by decide,_,vc b9' 3,?_⟩
  exact hk h9 ((((((hu.own u4 (ag _)).tr k5).tr k6).tr k7).tr k8).own u9 (ag _))
theorem L1{x:Hs}{s:ByteArray}(hs:s.size≤1000000000){h:ad}{K:Int→ad→Prop}(hk:∀h',Upd No h h'→K (ga x s) h'):HC PG vH [.agg #[.int .u64 x.k0,.int .u64 x.k1,.int .u64 x.mask],.string s] [.c (.int .u64)] K h:=by
 refine Iy (x.k0,x.k1,x.mask) s ?_;unfold BN ar uJ is ON;refine aQ fun h1 b1 k1=>⟨_,vc b1 0,_,vc b1 1,_,vc b1 2,NG hs fun h2 k2=>⟨vc (k2.get0 b1) 2,?_⟩⟩
 exact hk h2 (k1.tr k2)
theorem O4{hv:Int}(h0:0≤hv∧hv<18446744073709551616){lev:Nat}(hl:lev<13){h:ad}{K:Int→ad→Prop}(hk:K (((hv.toNat>>>(5*lev))%32:Nat):Int) h):HC PG wT [.int .u64 hv,.int .i64 lev] [.c (.int .i64)] K h:=by
 obtain⟨n,rfl⟩:=mF h0.1;rw[aM]at hk;refine M0 n lev ?_;unfold GG;refine Join.plain (av (fun h=>by omega) fun _=>?_)
 rw[decide_eq_false (by omega)];refine aj.2 ?_;refine LoopP.ghost (fun(i:Nat) (t:Int×Int) h'=>t=(((n>>>(5*i):Nat):Int),(i:Int))∧i≤lev∧h'=h) (fun i=>lev-i) 0 ⟨rfl,aK _,rfl⟩ ?_
 rintro I i t h' ⟨rfl,hi,rfl⟩ hI;refine av (fun hlt=>?_) fun hge=>?_
 ·have hlt:i<lev:=by have:(i:Int)<(lev:Int):=hlt;omega
  have hle:n>>>(5*i)≤n:=Nat.shiftRight_le _ _;have e:n>>>(5*(i+1))=n>>>(5*i)/32:=by rw[Nat.mul_add,Nat.shiftRight_add,Nat.shiftRight_eq_div_pow _ (5*1)]
  have e1:n<18446744073709551616:=by have:=h0.2;omega
  have e2:IntKind.wrap .u64 (kP ((n>>>(5*i):Nat):Int) 32)=((n>>>(5*(i+1)):Nat):Int):=by
   rw[e];generalize n>>>(5*i)=y at hle;rw[eu (by omega),IntKind.wrap_u64];omega
  refine⟨by decide,?_⟩;simp only;rw[e2,cl hlt (by omega)];exact hI (i+1) _ _ ⟨rfl,hlt,rfl⟩ (by omega)
 ·obtain rfl:i=lev:=by have:¬(i:Int)<(lev:Int):=hge;omega
  refine⟨by decide,?_⟩;simp only;generalize n>>>(5*i)=y at hk;rw[kO (by omega),fL (by omega)];exact_mod_cast hk
theorem PW{x:Hs}{k:ByteArray}{lev:Nat}(hl:lev<13){h:ad}{K:Int→ad→Prop}(hk:K (ck x lev k:Int) h):HC PG wT [.int .u64 (ga x k),.int .i64 lev] [.c (.int .i64)] K h:=O4 (y3 x k) hl hk
end Go.Proofs
