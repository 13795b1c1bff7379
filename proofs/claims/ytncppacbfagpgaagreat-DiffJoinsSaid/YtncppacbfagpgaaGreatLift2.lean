/- A part of the proof that the named laws of this program answer true, whatever the input. -/
import Derived.Test.YtncppacbfagpgaaGreatLift1
namespace Go.Lift
open Go
open Array renaming getElem?_toList→bv,replicate→rq,getD_eq_getD_getElem?→cU,getElem?_setIfInBounds_ne→eT,getElem?_eq_some_iff→cz,getElem?_eq_getElem→ft,getElem?_eq_none→le,mapM_eq_mapM_toList→nm,getElem?_setIfInBounds→fQ
open Bool renaming or_eq_true→jw,and_eq_true→bd,not_eq_true'→pV,or_eq_false_iff→mH
open List renaming mem_cons→aB,getElem?_cons_zero→cF,mem_of_getElem?→jM,getElem?_eq_getElem→ai,any_eq_true→bT,getElem?_eq_some_iff→bi,mem_cons_of_mem→aF,mem_cons_self→ax,filter_cons→bK,mem_singleton→aC,size_toArray→dE,length_cons→ao,getElem?_cons_succ→kg,flatMap_cons→aX,length_append→ad,getElem?_append_left→bo,getElem?_append_right→aH,length_take→aI,length_drop→aO,take_append_drop→aK,flatMap_append→bZ,length_eq_zero_iff→av,length_nil→aD
open Nat renaming land→jK,lor→cQ,beq→bM,eq_of_beq_eq_true→bc,testBit_and→lz,zero_testBit→nf,succ→fZ,add_zero→iP,zero_add→aQ,beq_refl→rP,lt_or_ge→cg,pred→xr,le_trans→bJ,le_refl→au,sub_zero→dQ,succ_mul→rO
open Option renaming some→bm
open Region renaming binds→rM,ready→gq,wanted→oe
open Result renaming andThen_ok→aG
theorem CI(m i:Nat):tb m i=m.testBit i:=by
 have h:jK (Nat.shiftRight m i) 1=(m>>>i)&&&1:=rfl;unfold tb;rw[h,Nat.testBit_eq_decide_div_mod_eq,Nat.and_one_is_mod,Nat.shiftRight_eq_div_pow];cases hm:decide (m/2^i%2=1)with
 |true=>rw[of_decide_eq_true hm];rfl
 |false=>
  have h2:=of_decide_eq_false hm;have:m/2^i%2=0:=by omega
  rw[this];rfl
theorem oF(a b i:Nat):(cQ a b).testBit i=(a.testBit i||b.testBit i):=Nat.testBit_or a b i
theorem y5(i j:Nat):(g7 i).testBit j=decide (i=j):=Nat.testBit_two_pow
theorem B9{a b:Nat}(h:bM(jK a b) 0=true)(t:Nat)(ha:a.testBit t=true)(hb:b.testBit t=true):False:=by
 have h0:=bc h;have:(jK a b).testBit t=(a.testBit t&&b.testBit t):=lz a b t;rw[h0,ha,hb]at this;simp at this
theorem SG{a b:Nat}(h:bM(jK a b) a=true)(t:Nat)(ha:a.testBit t=true):b.testBit t=true:=by
 have h0:=bc h;have:(jK a b).testBit t=(a.testBit t&&b.testBit t):=lz a b t;rw[h0,ha]at this;simpa using this.symm
theorem yd(i:Nat):∀l:List Edge,(mU l).testBit i=l.any fun e=>bM e.on i&&rM .any e
 | []=>nf i
 |e::l=>by
  have ih:=yd i l;have hc:mU (e::l)=bif rM .any e then cQ (g7 e.on) (mU l)else mU l:=rfl;rw[hc,List.any_cons,←ih];cases hb:rM .any e with
  |true=>
   rw[cond_true,oF,y5,Bool.and_true];congr 1
   cases hd:bM e.on i with
   |true=>simpa using bc hd
   |false=>rw[decide_eq_false_iff_not];intro e';rw[e']at hd;simp at hd
  |false=>simp
theorem Az(o:Oper)(i:Nat):(mU o.after.toList).testBit i=jz o i:=yd i o.after.toList
theorem zB(t:Nat):∀l:List Operand,(md l).testBit t=true↔Operand.tmp t∈l
 | []=>by simp[show md []=0 from rfl]
 |o::l=>by
  have ih:=zB t l;cases o with
  |tmp u=>
   have hc:md (.tmp u::l)=cQ (g7 u) (md l):=rfl;rw[hc,oF,y5,jw,ih,aB];simp[eq_comm]
  |const v=>have hc:md (.const v::l)=md l:=rfl
     rw[hc,ih,aB];simp
  |global v=>have hc:md (.global v::l)=md l:=rfl
      rw[hc,ih,aB];simp
  |func v=>have hc:md (.func v::l)=md l:=rfl
    rw[hc,ih,aB];simp
theorem w8(o:Oper)(t:Nat):(ot o).testBit t=true↔o.dst=some t:=by
 unfold ot;cases o.dst with
 |none=>simp
 |some d=>simp[y5]
theorem Gg(ops:Array Oper)(o:Oper)(t:Nat):(oU ops.toList o).testBit t=true↔t∈o.looksAt ops:=by
 unfold oU Oper.looksAt;rw[oF,jw,zB,List.mem_append,List.mem_filterMap];refine or_congr ⟨fun h=>⟨_,h,rfl⟩,?_⟩ ?_
 ·rintro⟨x,hx,he⟩
  cases x<;>simp at he
  subst he;exact hx
 ·cases hg:o.guard with
  |none=>simp
  |some g=>
   obtain⟨j,want⟩:=g;simp only[bv];cases hj:ops[j]? with
   |none=>simp
   |some oj=>simp[w8]
variable {P:Program} {ro:Option Nat} {n:Nat} {ops:Array Oper} {Q:Exit→Act→World→Prop}
structure MsOk(ops:Array Oper)(ms:List DM):Prop where
 am:∀(i:Nat) (o:Oper) (m:DM),ops[i]?=some o→ms[i]?=some m→∀j,m.am.testBit j=jz o j
 lk:∀(i:Nat) (o:Oper) (m:DM),ops[i]?=some o→ms[i]?=some m→∀t,m.lk.testBit t=true↔t∈o.looksAt ops
 ds:∀(i:Nat) (o:Oper) (m:DM),ops[i]?=some o→ms[i]?=some m→∀t,m.ds.testBit t=true↔o.dst=some t
 len:ms.length=ops.size
 free:∀(i j:Nat) (m k:DM),ms[i]?=some m→ms[j]?=some k→m.fr.testBit j=true→j=i∨k.am.testBit i=true∨Cb m k=true
 nosel:∀(i:Nat) (o:Oper),ops[i]?=some o→(∀cs b,o.op≠ .select cs b)∧(∀c,o.op≠ .defer c)
theorem zW(ops:List Oper):∀(l:List Oper) (ms:List DM),wH ops l ms=true→ms.length=l.length∧∀(i:Nat) (o:Oper) (m:DM),l[i]?=some o→ms[i]?=some m→
  m.am=mU o.after.toList∧m.lk=oU ops o∧m.ds=ot o
 | [],[],_=>⟨rfl,fun i o m h=>by simp at h⟩
 | [],_::_,h=>by cases h
 |o::l,[],h=>by cases h
 |o::l,m::ms,h=>by
  have hc:wH ops (o::l) (m::ms)=(bM (mU o.after.toList) m.am&&bM (oU ops o) m.lk&&bM (ot o) m.ds&&wH ops l ms):=rfl;rw[hc]at h;simp only[bd]at h;obtain⟨⟨⟨h1,h2⟩,h3⟩,h4⟩:=h;obtain⟨hl,hg⟩:=zW ops l ms h4;refine⟨by simp[hl],fun i o' m' ho hm=>?_⟩
  cases i with
  |zero=>
   simp only[cF,bm.injEq]at ho hm;subst ho;subst hm;exact⟨(bc h1).symm,(bc h2).symm,(bc h3).symm⟩
  |succ i=>exact hg i o' m' (by simpa using ho) (by simpa using hm)
theorem HK(i:Nat)(m:DM):∀(l:List DM) (j0:Nat),HL i m l j0=true→∀(j:Nat) (k:DM),l[j]?=some k→m.fr.testBit (j0+j)=true→j0+j=i∨k.am.testBit i=true∨Cb m k=true
 | [],j0,_,j,k,hk,_=>by simp at hk
 |x::l,j0,h,j,k,hk,hb=>by
  have hc:HL i m (x::l) j0=((!(tb m.fr j0)||bM j0 i||tb x.am i||Cb m x)&&HL i m l (fZ j0)):=rfl
  rw[hc]at h;simp only[bd,jw,pV,CI]at h;cases j with
  |zero=>
   simp only[cF,bm.injEq]at hk;subst hk;simp only[iP]at hb⊢;rcases h.1 with((h1|h1)|h1)|h1
   ·rw[h1]at hb;cases hb
   ·exact.inl (bc h1)
   ·exact.inr (.inl h1)
   ·exact.inr (.inr h1)
  |succ j=>
   have:=HK i m l (j0+1) h.2 j k (by simpa using hk) (by rw[show j0+1+j=j0+(j+1)by omega];exact hb)
   rw[show j0+1+j=j0+(j+1)by omega]at this
   exact this
theorem Dc(all:List DM):∀(l:List DM) (i0:Nat),Ak all l i0=true→∀(i:Nat) (m:DM),l[i]?=some m→HL (i0+i) m all 0=true
 | [],i0,_,i,m,hm=>by simp at hm
 |x::l,i0,h,i,m,hm=>by
  have hc:Ak all (x::l) i0=(HL i0 x all 0&&Ak all l (fZ i0)):=rfl;rw[hc,bd]at h;cases i with
  |zero=>simp only[cF,bm.injEq]at hm;subst hm;exact h.1
  |succ i=>
   have:=Dc all l (i0+1) h.2 i m (by simpa using hm);rw[show i0+1+i=i0+(i+1)by omega]at this
   exact this
theorem Hp:∀(l:List Oper),KA l=true→∀o∈l,(∀cs b,o.op≠ .select cs b)∧(∀c,o.op≠ .defer c)
 | [],_,o,ho=>by cases ho
 |x::l,h,o,ho=>by
  simp only[KA,bd]at h;rcases aB.1 ho with rfl|ho
  ·refine⟨fun cs b e=>?_,fun c e=>?_⟩
   ·rw[e]at h;cases h.1
   ·rw[e]at h;cases h.1
  ·exact Hp l h.2 o ho
theorem MB{ms:List DM}(h:D7 ops.toList ms=true):MsOk ops ms:=by
 have hc:D7 ops.toList ms=(wH ops.toList ops.toList ms&&Ak ms ms 0&&KA ops.toList):=rfl;rw[hc]at h;simp only[bd]at h;obtain⟨⟨h1,h2⟩,h3⟩:=h;obtain⟨hl,hg⟩:=zW ops.toList ops.toList ms h1;refine⟨fun i o m ho hm j=>?_,fun i o m ho hm t=>?_,fun i o m ho hm t=>?_,by simpa using hl,fun i j m k hm hk hb=>?_,fun i o ho=>?_⟩
 ·rw[(hg i o m (by simpa using ho) hm).1,Az]
 ·rw[(hg i o m (by simpa using ho) hm).2.1,Gg]
 ·rw[(hg i o m (by simpa using ho) hm).2.2,w8]
 ·have:=Dc ms ms 0 h2 i m hm
  rw[aQ]at this;have:=HK i m ms 0 this j k hk (by rwa [aQ]);rwa [aQ]at this
 ·exact Hp _ h3 o (jM (by rw[bv];exact ho))
theorem Rp{ms:List DM}(hm:MsOk ops ms){i j:Nat}{oi oj:Oper}{mi mj:DM}(hi:ops[i]?=some oi)(hj:ops[j]?=some oj)(hmi:ms[i]?=some mi)(hmj:ms[j]?=some mj)(h:Cb mi mj=true):
  (∀d,oi.dst=some d→d∉oj.looksAt ops)∧(∀d,oi.dst=some d→oj.dst≠some d)∧(∀d,oj.dst=some d→d∉oi.looksAt ops):=by
 unfold Cb at h;rw[bd]at h;refine⟨fun d hd hl=>?_,fun d hd he=>?_,fun d hd hl=>?_⟩
 ·exact B9 h.1 d((hm.ds i oi mi hi hmi d).2 hd)(by rw[oF,(hm.lk j oj mj hj hmj d).2 hl,Bool.true_or])
 ·exact B9 h.1 d((hm.ds i oi mi hi hmi d).2 hd)(by rw[oF,(hm.ds j oj mj hj hmj d).2 he,Bool.or_true])
 ·exact B9 h.2 d((hm.ds j oj mj hj hmj d).2 hd)((hm.lk i oi mi hi hmi d).2 hl)
structure LsRel(ops:Array Oper)(ls:Nat)(listed:Array Bool):Prop where
 size:listed.size=ops.size
 bit:∀j,listed.getD j false=ls.testBit j
theorem LsRel.start:LsRel ops 0 (rq ops.size false):=⟨by simp,fun j=>by
 rw[nf,cU]
 by_cases h:j<ops.size<;>simp[h]⟩
theorem LsRel.put{ls:Nat}{listed:Array Bool}(h:LsRel ops ls listed){i:Nat}(hi:i<ops.size):LsRel ops (cQ ls (g7 i)) (listed.setIfInBounds i true):=by
 refine⟨by simp[h.size],fun j=>?_⟩
 rw[oF,y5,←h.bit];by_cases e:i=j
 ·subst e;simp[h.size,hi]
 ·simp[e,eT e]
theorem LsRel.unlisted{ls:Nat}{listed:Array Bool}(h:LsRel ops ls listed){i:Nat}(hi:i<ops.size):listed.getD i true=ls.testBit i:=by
 rw[←h.bit];have:i<listed.size:=by rw[h.size];exact hi
 simp[this]
theorem Hf{ms:List DM}(hm:MsOk ops ms){ls:Nat}{listed:Array Bool}(h:LsRel ops ls listed){j:Nat}:j∈gq .any ops listed↔∃m,ms[j]?=some m∧ls.testBit j=false∧JL m ls=true:=by
 rw[mem_ready];constructor
 ·rintro⟨h0,o,ho,hall⟩
  have hj:j<ops.size:=(cz.1 ho).1;have hjm:j<ms.length:=by rw[hm.len];exact hj
  refine⟨ms[j],ai hjm,by rw[←h.unlisted hj];exact h0,?_⟩
  unfold JL;have:jK (ms[j]).am ls=(ms[j]).am:=by
   apply Nat.eq_of_testBit_eq;intro t;have hand:(jK (ms[j]).am ls).testBit t=((ms[j]).am.testBit t&&ls.testBit t):=lz _ _ t;rw[hand];cases ht:(ms[j]).am.testBit t with
   |false=>rfl
   |true=>
    rw[hm.am j o _ ho (ai hjm)]at ht;unfold jz at ht;obtain⟨e,he,hb⟩:=bT.1 ht;simp only[bd]at hb;have:=hall e (by simpa using he) hb.2;rw[bc hb.1,h.bit]at this;rw[this];rfl
  rw[this];exact rP _
 ·rintro⟨m,hmj,h0,hr⟩
  have hj:j<ops.size:=by rw[←hm.len];exact(bi.1 hmj).1
  refine⟨by rw[h.unlisted hj];exact h0,ops[j],ft hj,fun e he hb=>?_⟩
  rw[h.bit];refine SG hr e.on ?_;rw[hm.am j _ m (ft hj) hmj];unfold jz;exact bT.2 ⟨e,by simpa using he,by simp[hb]⟩
theorem rT(ls:Nat):∀(l:List DM) (j0 j:Nat),j∈mo ls l j0↔∃k m,l[k]?=some m∧j=j0+k∧ls.testBit j=false∧JL m ls=true
 | [],j0,j=>by simp[show mo ls [] j0= []from rfl]
 |m::l,j0,j=>by
  have hc:mo ls (m::l) j0=bif !(tb ls j0)&&JL m ls then j0::mo ls l (fZ j0)else mo ls l (fZ j0):=rfl;have ih:=rT ls l (j0+1) j;rw[hc,CI];have step:(∃k m',(m::l)[k]?=some m'∧j=j0+k∧ls.testBit j=false∧JL m' ls=true)↔(j=j0∧ls.testBit j0=false∧JL m ls=true)∨j∈mo ls l (j0+1):=by
   rw[ih];constructor
   ·rintro⟨k,m',hk,rfl,h1,h2⟩
    cases k with
    |zero=>simp only[cF,bm.injEq]at hk;subst hk;exact.inl ⟨rfl,h1,h2⟩
    |succ k=>exact.inr ⟨k,m',by simpa using hk,by omega,h1,h2⟩
   ·rintro(⟨rfl,h1,h2⟩|⟨k,m',hk,rfl,h1,h2⟩)
    ·exact⟨0,m,rfl,rfl,h1,h2⟩
    ·exact⟨k+1,m',by simpa using hk,by omega,h1,h2⟩
  rw[step];cases hb:(!(ls.testBit j0)&&JL m ls)with
  |true=>
   simp only[bd,pV]at hb;rw[cond_true,aB];simp[hb.1,hb.2]
  |false=>
   rw[cond_false];constructor
   ·exact.inr
   ·rintro(⟨_,h1,h2⟩|h)
    ·rw[h1,h2]at hb;cases hb
    ·exact h
theorem pg{ms:List DM}(hm:MsOk ops ms){ls:Nat}{listed:Array Bool}(h:LsRel ops ls listed){j:Nat}:j∈gq .any ops listed↔j∈mo ls ms 0:=by
 rw[Hf hm h,rT];constructor
 ·rintro⟨m,h1,h2,h3⟩;exact⟨j,m,h1,by omega,h2,h3⟩
 ·rintro⟨k,m,h1,rfl,h2,h3⟩;exact⟨m,by simpa using h1,h2,h3⟩
theorem xA:∀{a b:List Nat},vp a b=true→a=b
 | [],[],_=>rfl
 | [],_::_,h=>by cases h
 |_::_,[],h=>by cases h
 |a::as,b::bs,h=>by
  simp only[vp,bd]at h;rw[bc h.1,xA h.2]
end Go.Lift
namespace Go.Lift
open Go
variable {P:Program} {ro:Option Nat} {n:Nat} {ops:Array Oper} {Q:Exit→Act→World→Prop}
theorem zA{m:Nat}{p:Nat→Bool}(hm:∀j,m.testBit j=true→p j=true):∀(l:List DM) (j0:Nat),(∀j x,l[j]?=some x→p (j0+j)=true→∀k,x.am.testBit k=true→p k=true)→∀k,(PV m l j0).testBit k=true→p k=true
 | [],_,_,k,h=>hm k h
 |x::l,j0,hl,k,h=>by
  have hc:PV m (x::l) j0=bif tb m j0 then cQ x.am (PV m l (fZ j0))else PV m l (fZ j0):=rfl;have ih:=zA hm l (j0+1) (fun j y hy hp=>hl (j+1) y (by simpa using hy) (by rw[show j0+(j+1)=j0+1+j by omega];exact hp)) k
  rw[hc,CI]at h;cases hb:m.testBit j0 with
  |true=>
   rw[hb,cond_true,oF,jw]at h;rcases h with h|h
   ·exact hl 0 x rfl (hm _ hb) k h
   ·exact ih h
  |false=>
   rw[hb,cond_false]at h;exact ih h
theorem zz{m k:Nat}(h:m.testBit k=true):∀(l:List DM) (j0:Nat),(PV m l j0).testBit k=true
 | [],_=>h
 |x::l,j0=>by
  have hc:PV m (x::l) j0=bif tb m j0 then cQ x.am (PV m l (fZ j0))else PV m l (fZ j0):=rfl;have ih:=zz h l (j0+1);rw[hc];cases tb m j0 with
  |true=>rw[cond_true,oF,jw];exact.inr ih
  |false=>exact ih
def Shut(ms:List DM)(listed:Array Bool):Prop:=∀j x,ms[j]?=some x→listed.getD j false=true→∀k,x.am.testBit k=true→listed.getD k false=true
theorem Pw{ms:List DM}{listed:Array Bool}(hs:Shut ms listed){m:Nat}(hm:∀j,m.testBit j=true→listed.getD j false=true){k:Nat}(h:(Ap ms m).testBit k=true):listed.getD k false=true:=by
 have hl:∀j x,ms[j]?=some x→(fun k=>listed.getD k false) (0+j)=true→∀k,x.am.testBit k=true→(fun k=>listed.getD k false) k=true:=fun j x hx hp=>hs j x hx (by rw[aQ]at hp;exact hp)
 unfold Ap at h;exact zA (p:=fun k=>listed.getD k false) (zA (zA (zA hm ms 0 hl) ms 0 hl) ms 0 hl) ms 0 hl k h
theorem Pv{ms:List DM}{m k:Nat}(h:m.testBit k=true):(Ap ms m).testBit k=true:=by
 unfold Ap;exact zz (zz (zz (zz h ms 0) ms 0) ms 0) ms 0
noncomputable abbrev rel(ms:List DM)(i:Nat)(L:ri):ri:=zO (Ap ms (Jk ms i)) L
theorem mM{m:Nat}{x:Nat×(af→Prop)}:∀{L:ri},x∈zO m L↔x∈L∧tb m x.1=false
 | []=>by simp[zO]
 |(k,S)::L=>by
  have ih:=mM (m:=m) (x:=x) (L:=L);simp only[zO];cases hk:tb m k with
  |true=>
   rw[cond_true,ih,aB];constructor
   ·exact fun h=>⟨.inr h.1,h.2⟩
   ·rintro⟨h|h,h2⟩
    ·subst h;rw[hk]at h2;cases h2
    ·exact⟨h,h2⟩
  |false=>
   rw[cond_false,aB,ih,aB];constructor
   ·rintro(h|h)
    ·subst h;exact⟨.inl rfl,hk⟩
    ·exact⟨.inr h.1,h.2⟩
   ·rintro⟨h|h,h2⟩
    ·exact.inl h
    ·exact.inr ⟨h,h2⟩
def P1(ms:List DM)(ro:Option Nat)(n:Nat)(P:Program)(ops:Array Oper)(Q:Exit→Act→World→Prop):Nat→ri→Array Bool→Act→World→Prop
 |0,_,listed,a,w=>gq .any ops listed= []∧Q .normal a w
 |f+1,L,listed,a,w=>(gq .any ops listed= []→Q .normal a w)∧
  ∀i∈gq .any ops listed,∀o,ops[i]?=some o→
   wpOpIn (FW ro) n P ops Q i (fun a' w'=>(∀x∈rel ms i L,x.2 w'.heap)∧P1 ms ro n P ops Q f (rel ms i L) (listed.setIfInBounds i true) a' w') a w
theorem CT{o:Oper}{x:Nat×(af→Prop)}:∀{L:ri},x∈td o L↔x∈L∧jz o x.1=false
 | []=>by simp[td]
 |(k,S)::L=>by
  have ih:=CT (o:=o) (x:=x) (L:=L);simp only[td];cases hk:jz o k with
  |true=>
   rw[cond_true,ih,aB];constructor
   ·exact fun h=>⟨.inr h.1,h.2⟩
   ·rintro⟨h|h,h2⟩
    ·subst h;rw[hk]at h2;cases h2
    ·exact⟨h,h2⟩
  |false=>
   rw[cond_false,aB,ih,aB];constructor
   ·rintro(h|h)
    ·subst h;exact⟨.inl rfl,hk⟩
    ·exact⟨.inr h.1,h.2⟩
   ·rintro⟨h|h,h2⟩
    ·exact.inl h
    ·exact.inr ⟨h,h2⟩
theorem OX{listed:Array Bool}{i:Nat}(h:i∈gq .any ops listed):∃o,ops[i]?=some o:=by
 obtain⟨_,o,ho,_⟩:=mem_ready.1 h;exact⟨o,ho⟩
theorem NS{ms:List DM}:∀(f:Nat) (L:ri) (listed:Array Bool) (a:Act) (w:World),P1 ms ro n P ops Q f L listed a w→wpAnyIn (FW ro) n P .any ops Q f listed a w
 |0,_,_,_,_,h=>h
 |f+1,L,listed,a,w,h=>⟨h.1,fun i hi=>by
  obtain⟨o,ho⟩:=OX hi
  exact wpOpIn_mono (fun a' w' h'=>NS f _ _ a' w' h'.2) (h.2 i hi o ho)⟩
theorem wy{ms:List DM}:∀(f:Nat) (L L':ri) (listed:Array Bool) (a:Act) (w:World),(∀x∈L',x∈L∨∀h,x.2 h)→P1 ms ro n P ops Q f L listed a w→P1 ms ro n P ops Q f L' listed a w
 |0,_,_,_,_,_,_,h=>h
 |f+1,L,L',listed,a,w,hs,h=>⟨h.1,fun i hi o ho=>by
  have hsub:∀x∈rel ms i L',x∈rel ms i L∨∀h,x.2 h:=fun x hx=>(hs x (mM.1 hx).1).imp (fun h=>mM.2 ⟨h,(mM.1 hx).2⟩) id
  exact wpOpIn_mono (fun a' w' h'=>⟨fun x hx=>(hsub x hx).elim (h'.1 x)fun h=>h _,wy f _ _ _ a' w' hsub h'.2⟩) (h.2 i hi o ho)⟩
def YG(P:Program)(ops:Array Oper)(S:af→Prop)(o:Oper)(v:Value)(a:Act):Prop:=
 (oe o (yielded ops a.tmps)=true∧∀w:World,S w.heap→(execOp a.eval o).run P w=.ok (.value v) w)∨
 (oe o (yielded ops a.tmps)=false∧v=undef)
theorem YG.wpOp{S:af→Prop}{i:Nat}{o:Oper}{v:Value}{a:Act}(hi:ops[i]?=some o)(hd:∀c,o.op≠ .defer c)(hy:YG P ops S o v a){K:Act→World→Prop}{w:World}(hS:S w.heap)
  (h:K(a.put o.dst v) w):wpOpIn(FW ro) n P ops Q i K a w:=by
 unfold wpOpIn;simp only[hi];rcases hy with⟨hw,hv⟩|⟨hw,rfl⟩
 ·simp only[hw,if_true]
  refine⟨fun _ _=>trivial,?_⟩
  rw[Oper.semAt_eq _ _ _ hd,hv w hS];exact h
 ·simp only[hw,Bool.false_eq_true,if_false];exact⟨fun _ _=>trivial,h⟩
theorem YG.of_same{S:af→Prop}{o:Oper}{v:Value}{a a':Act}(hy:YG P ops S o v a)(he:execOp a'.eval o=execOp a.eval o)
  (hw:oe o(yielded ops a'.tmps)=oe o(yielded ops a.tmps)):YG P ops S o v a':=by
 unfold YG at*;rw[he,hw];exact hy
theorem LP{S:af→Prop}{j:Nat}{oi oj:Oper}{v:Value}(hj:ops[j]?=some oj)
  (hap:(∀d,oi.dst=some d→d∉oj.looksAt ops)∧(∀d,oi.dst=some d→oj.dst≠some d)∧(∀d,oj.dst=some d→d∉oi.looksAt ops))
  (hsi:∀cs b,oi.op≠ .select cs b)(hsj:∀cs b,oj.op≠ .select cs b)(hdj:∀c,oj.op≠ .defer c)
  (hQ:∀e a w,(∀c,e=.panic c→False)∨¬Q e a w){K:Act→World→Prop}{a:Act}{w:World}
  (hy:YG P ops S oi v a)(h:wpOpIn(FW ro) n P ops Q j K(a.put oi.dst v) w):
  wpOpIn(FW ro) n P ops Q j(fun a' w'=>YG P ops S oi v a'∧K(a'.put oi.dst v) w') a w:=by
 obtain⟨h1,h2,h3⟩:=hap;have hnp:∀c a w,¬Q(.panic c) a w:=fun c a w hq=>(hQ(.panic c) a w).elim(fun h=>h c rfl)fun h=>h hq
 have keep:∀(a:Act),YG P ops S oi v a→∀u,YG P ops S oi v(a.put oj.dst u):=fun a hy u=>
  hy.of_same(execOp_put oi hsi a oj.dst u h3)(wanted_put oi a oj.dst u h3)
 unfold wpOpIn at*;simp only[hj]at*;rw[wanted_put oj a oi.dst v h1]at h;split
 ·rename_i hw
  simp only[hw,if_true]at h;refine⟨fun _ _=>trivial,?_⟩
  have h:=h.2;rw[Oper.semAt_eq _ _ _ hdj,execOp_put oj hsj a oi.dst v h1]at h;rw[Oper.semAt_eq _ _ _ hdj];generalize(execOp a.eval oj).run P w=r at*;cases r with
  |ok x w'=>
   cases x<;>simp only[Oper.uponIn]at h⊢
   case value u=>exact⟨keep a hy u,by rw[←Act.put_comm a v u h2];exact h⟩
   case skip=>exact⟨keep a hy _,by rw[←Act.put_comm a v undef h2];exact h⟩
   case defer d=>
    refine⟨(hy.of_same(a':={a with defers:=d::a.defers}) rfl rfl).of_same(execOp_put oi hsi _ oj.dst undef h3)(wanted_put oi _ oj.dst undef h3),?_⟩;rw[←Act.put_comm _ v undef h2,←Act.put_defers];exact h
   case enter f args=>
    refine⟨h.1,CallsIn.mono h.2 fun e w'' he=>?_⟩
    cases e with
    |returned u=>exact⟨keep a hy u,by rw[←Act.put_comm a v u h2];exact he⟩
    |panicked c=>exact(hnp _ _ _ he).elim
    |outgrown=>exact he
   case row row args=>exact⟨h.1,RowsIn.mono h.2 fun u w'' he=>⟨keep a hy u,by rw[←Act.put_comm a v u h2];exact he⟩⟩
   case round l f tmps assign body=>
    refine⟨h.1,RoundIn.mono h.2 fun e w'' he=>?_⟩
    cases e with
    |returned u=>exact⟨keep a hy u,by rw[←Act.put_comm a v u h2];exact he⟩
    |panicked c=>exact(hnp _ _ _ he).elim
    |outgrown=>exact he
  |halt x w'=>
   cases x<;>simp only[Oper.uponIn]at h⊢
   case panic u=>exact(hnp _ _ _ h).elim
 ·rename_i hw
  simp only[hw]at h;exact⟨fun _ _=>trivial,keep a hy _,by rw[←Act.put_comm a v undef h2];exact h.2⟩
theorem OG{ms:List DM}(hm:MsOk ops ms){i:Nat}{o:Oper}(ho:ops[i]?=some o)(k:Nat):(Jk ms i).testBit k=jz o k:=by
 have hi:i<ms.length:=by rw[hm.len];exact(cz.1 ho).1
 unfold Jk;rw[ai hi];exact hm.am i o _ ho(ai hi) k
theorem Kf{ms:List DM}(hm:MsOk ops ms){listed:Array Bool}{j:Nat}(hj:j∈gq .any ops listed)(k:Nat)(hk:(Jk ms j).testBit k=true):listed.getD k false=true:=by
 obtain⟨_,o,ho,hall⟩:=mem_ready.1 hj;rw[OG hm ho]at hk;unfold jz at hk;obtain⟨e,he,hb⟩:=bT.1 hk;simp only[bd]at hb;have:=hall e (by simpa using he) hb.2;rw[bc hb.1]at this;exact this
theorem KZ{listed:Array Bool}{j k:Nat}(h:listed.getD k false=true):(listed.setIfInBounds j true).getD k false=true:=by
 by_cases e:j=k
 ·subst e
  rw[cU]at h⊢;rcases cg j listed.size with h'|h'
  ·simp[h']
  ·simp[le h']at h
 ·rw[cU,eT e,←cU]
  exact h
theorem Shut.put{ms:List DM}(hm:MsOk ops ms){listed:Array Bool}(hs:Shut ms listed){j:Nat}(hj:j∈gq .any ops listed):Shut ms (listed.setIfInBounds j true):=by
 intro i x hx hl k hk;by_cases e:j=i
 ·subst e
  refine KZ (Kf hm hj k ?_);unfold Jk;rw[hx];exact hk
 ·rw[cU,eT e,←cU]at hl
  exact KZ (hs i x hx hl k hk)
theorem Eh{ms:List DM}(hm:MsOk ops ms){S:af→Prop}{i:Nat}{oi:Oper}{v:Value}(hi:ops[i]?=some oi)(hsel:∀(j:Nat)(o:Oper),ops[j]?=some o→(∀cs b,o.op≠ .select cs b)∧(∀c,o.op≠ .defer c))
  (hQ:∀e a w,(∀c,e=.panic c→False)∨¬Q e a w):
  ∀(fuel:Nat)(L:ri)(listed:Array Bool)(a:Act)(w:World),
   (∀j oj,ops[j]?=some oj→j≠i→listed.getD j true=false→jz oj i=false→
    (∀d,oi.dst=some d→d∉oj.looksAt ops)∧(∀d,oi.dst=some d→oj.dst≠some d)∧(∀d,oj.dst=some d→d∉oi.looksAt ops))→
   Shut ms listed→i∈gq .any ops listed→YG P ops S oi v a→S w.heap→(∀x∈L,x.2 w.heap)→
   P1 ms ro n P ops Q fuel((i,S)::L)(listed.setIfInBounds i true)(a.put oi.dst v) w→P1 ms ro n P ops Q(fuel+1) L listed a w:=by
 intro fuel;induction fuel with
 |zero=>
  intro L listed a w _ _ hr hy hS hL H;refine⟨fun h=>(by rw[h]at hr;cases hr),fun j hj oj hoj=>?_⟩
  by_cases hji:j=i
  ·subst hji
   rw[hi]at hoj;cases hoj;exact hy.wpOp hi(hsel _ _ hi).2 hS ⟨fun x hx=>hL x(mM.1 hx).1,H⟩
  ·have:=ready_mono hj hji
   rw[H.1]at this;cases this
 |succ fuel ih=>
  intro L listed a w hfree hsh hr hy hS hL H;refine⟨fun h=>(by rw[h]at hr;cases hr),fun j hj oj hoj=>?_⟩
  by_cases hji:j=i
  ·subst hji
   rw[hi]at hoj;cases hoj;exact hy.wpOp hi(hsel _ _ hi).2 hS ⟨fun x hx=>hL x(mM.1 hx).1,wy _ _ _ _ _ _(fun x hx=>.inl(aF _(mM.1 hx).1)) H⟩
  ·have h1:=H.2 j(ready_mono hj hji) oj hoj
   obtain⟨hjun,oj',hoj',hall⟩:=mem_ready.1 hj;rw[hoj]at hoj';cases hoj';have hnot:jz oj i=false:=by
    cases hb:jz oj i with
    |false=>rfl
    |true=>
     unfold jz at hb;obtain⟨e,he,hb⟩:=bT.1 hb;simp only[bd]at hb;have h1:=hall e(by simpa using he) hb.2;rw[bc hb.1]at h1;have h0:=(mem_ready.1 hr).1;rcases cg i listed.size with h'|h'
     ·simp[h']at h0 h1;rw[h0]at h1;cases h1
     ·simp[le h']at h1
   have hnotT:tb(Ap ms(Jk ms j)) i=false:=by
    cases hb:tb(Ap ms(Jk ms j)) i with
    |false=>rfl
    |true=>
     rw[CI]at hb;have h1:=Pw hsh(Kf hm hj) hb;have h0:=(mem_ready.1 hr).1;rcases cg i listed.size with h'|h'
     ·simp[h']at h0 h1;rw[h0]at h1;cases h1
     ·simp[le h']at h1
   have hrel:rel ms j((i,S)::L)=(i,S)::rel ms j L:=by simp only[rel,zO,hnotT,cond_false]
   rw[hrel]at h1;have h2:=LP hoj(hfree j oj hoj hji hjun hnot)(hsel _ _ hi).1(hsel _ _ hoj).1(hsel _ _ hoj).2 hQ hy h1;have hfree':∀k ok,ops[k]?=some ok→k≠i→(listed.setIfInBounds j true).getD k true=false→jz ok i=false→
     (∀d,oi.dst=some d→d∉ok.looksAt ops)∧(∀d,oi.dst=some d→ok.dst≠some d)∧(∀d,ok.dst=some d→d∉oi.looksAt ops):=fun k ok hk hki hun hno=>by
    refine hfree k ok hk hki ?_ hno;by_cases hjk:j=k
    ·subst hjk;exact hjun
    ·rw[getD_set_ne true hjk]at hun;exact hun
   refine wpOpIn_mono(fun a' w' h3=>⟨fun x hx=>h3.2.1 x(aF _ hx),ih(rel ms j L)(listed.setIfInBounds j true) a' w' hfree'(hsh.put hm hj)(ready_mono hr(Ne.symm hji)) h3.1(h3.2.1 _(ax ..))(fun x hx=>h3.2.1 x(aF _ hx)) ?_⟩) h2
   rw[Array.setIfInBounds_comm _ _ hji];exact h3.2.2
theorem vt{h:af}{R:Prop}:∀{L:ri},uD L h R↔(∀x∈L,x.2 h)∧R
 | []=>by simp[uD]
 |(k,S)::L=>by
  simp only[uD,vt (L:=L),aB,forall_eq_or_imp,and_assoc]
theorem P0{ms:List DM}{f:Nat}{L:ri}{listed:Array Bool}{a:Act}{w:World}(hr:gq .any ops listed= [])(h:Q .normal a w):P1 ms ro n P ops Q f L listed a w:=by
 cases f with
 |zero=>exact⟨hr,h⟩
 |succ f=>exact⟨fun _=>h,by rw[hr];simp⟩
def left(ops:Array Oper)(ls:Nat):Nat:=((List.range ops.size).filter fun j=> !ls.testBit j).length
theorem Aa{ls i:Nat}(hi:i<ops.size)(h0:ls.testBit i=false):left ops (cQ ls (g7 i))+1=left ops ls:=by
 have key:∀l:List Nat,l.Nodup→i∈l→(l.filter fun j=> !(cQ ls (g7 i)).testBit j).length+1=(l.filter fun j=> !ls.testBit j).length:=by
  intro l;induction l with
  |nil=>intro _ h;cases h
  |cons x l ih=>
   intro hn hm;rw[List.nodup_cons]at hn;by_cases hx:x=i
   ·subst hx
    have hrest:(l.filter fun j=> !(cQ ls (g7 x)).testBit j)=l.filter fun j=> !ls.testBit j:=by
     apply List.filter_congr;intro y hy;have:x≠y:=fun e=>hn.1 (e▸hy)
     rw[oF,y5,decide_eq_false this,Bool.or_false]
    have h1:(cQ ls (g7 x)).testBit x=true:=by rw[oF,y5];simp
    rw[bK,bK,h1,h0,hrest];rfl
   ·have hm':i∈l:=by rcases aB.1 hm with h|h;exact absurd h.symm hx;exact h
    have h1:(cQ ls (g7 i)).testBit x=ls.testBit x:=by rw[oF,y5,decide_eq_false (Ne.symm hx),Bool.or_false]
    have:=ih hn.2 hm';rw[bK,bK,h1];cases ls.testBit x with
    |true=>exact this
    |false=>exact congrArg (·+1) this
 exact key _ List.nodup_range (List.mem_range.2 hi)
theorem Pl{N:Nat}{opl:List Oper}{ms:List DM}{ls:Nat}{L:ri}{d:u3}{K:cD→af→Prop}{r:cD}{hp:af}:∀{l:DA},nL P N opl ms l true ls L d K r hp→∃i,i∈BW l
 | .done,h=>h.elim
 | .take i rest,h=>by
  exfalso;have hc:nL P N opl ms (.take i rest) true ls L d K r hp=(match opl[i]?,ms[i]? with|some _,some _=>False|_,_=>False):=rfl
  rw[hc]at h;split at h<;>exact h
 | .all _,h=>h.elim
 | .pick i _ _,_=>⟨i,ax ..⟩
 | .last i _,_=>⟨i,ax ..⟩
 | .lastT i _,_=>⟨i,ax ..⟩
 | .split ..,h=>h.elim
def Ny(ro:Option Nat)(n:Nat)(P:Program)(ops:Array Oper)(Q:Exit→Act→World→Prop)(N:Nat)(ms:List DM)(W:Nat→Prop)(a0:Act)(w0:World)(K:cD→af→Prop)(da:DA):Prop:=
 ∀(m:Bool) (ls:Nat) (L:ri) (d:u3) (r:cD) (a:Act) (w:World) (listed:Array Bool) (fuel:Nat),
  nL P N ops.toList ms da m ls L d K r w.heap→Agree N r a→DecOk d r→Fr W a0 w0 a w→LsRel ops ls listed→Shut ms listed→(∀x∈L,x.2 w.heap)→
  (m=false→left ops ls≤fuel→P1 ms ro n P ops Q fuel L listed a w)∧
  (m=true→left ops ls≤fuel+1→∀i∈BW da,i∈mo ls ms 0→∀o,ops[i]?=some o→
   wpOpIn (FW ro) n P ops Q i (fun a' w'=>(∀x∈rel ms i L,x.2 w'.heap)∧P1 ms ro n P ops Q fuel (rel ms i L) (listed.setIfInBounds i true) a' w') a w)
theorem J0{N:Nat}{ms:List DM}(hm:MsOk ops ms){W:Nat→Prop}(hW:∀o∈ops.toList,∀d,o.dst=some d→W d){a0:Act}{w0:World}{K:cD→af→Prop}
  (hQ:∀r a w,Agree N r a→Fr W a0 w0 a w→K r w.heap→Q .normal a w)(hnp:∀e a w,(∀c,e=.panic c→False)∨¬Q e a w)(da:DA):
  Ny ro n P ops Q N ms W a0 w0 K da:=by
 have one:∀(i:Nat) (rest:DA)
   (_:Ny ro n P ops Q N ms W a0 w0 K rest)
   (ls:Nat) (L:ri) (d:u3) (r:cD) (a:Act) (w:World) (listed:Array Bool) (fuel:Nat),
   OR P N ops.toList i L d r w.heap (fun L' d' r' h'=>nL P N ops.toList ms rest false (cQ ls (g7 i)) L' d' K r' h')→Agree N r a→DecOk d r→Fr W a0 w0 a w→LsRel ops ls listed→Shut ms listed→
   left ops ls≤fuel+1→i∈mo ls ms 0→∀o,ops[i]?=some o→
    wpOpIn (FW ro) n P ops Q i (fun a' w'=>(∀x∈rel ms i L,x.2 w'.heap)∧P1 ms ro n P ops Q fuel (rel ms i L) (listed.setIfInBounds i true) a' w') a w:=by
  intro i rest ih ls L d r a w listed fuel hs ha hd hf hl hsh hfu hr o ho;have hio:i<ops.size:=(cz.1 ho).1;obtain⟨k,mm,hk,hki,hbit,_⟩:=(rT ls ms 0 i).1 hr;unfold OR at hs;rw[bv,ho]at hs;simp only at hs;cases hw:jn ops.toList d o with
  |none=>rw[hw]at hs;exact hs.elim
  |some b=>
   rw[hw]at hs;cases b with
   |false=>exact hs.elim
   |true=>
    simp only at hs;cases hq:vW o.op with
    |true=>rw[hq]at hs;exact hs.elim
    |false=>
     rw[hq,cond_false]at hs;unfold wpOpIn;rw[ho];simp only[qs hw ha hd,if_true];refine sX (wz hs) (BB ha hs) ?_;intro v w' ht hK;obtain⟨r',hr',ha',hd'⟩:=vF (dv:=.x) hK ha hd trivial;obtain⟨hh,hs'⟩:=vt.1 hr';have hmem:o∈ops.toList:=jM (by rw[bv];exact ho);have hleft:=Aa hio hbit;have hsubR:∀x∈rel ms i L,x∈td o L:=fun x hx=>CT.2 ⟨(mM.1 hx).1,by
      cases hb:jz o x.1 with
      |false=>rfl
      |true=>
        have:=(mM.1 hx).2
        rw[CI,Pv (by rw[OG hm ho];exact hb)]at this;cases this⟩
     exact⟨fun x hx=>hh x (hsubR x hx),wy _ _ _ _ _ _ (fun x hx=>.inl (hsubR x hx)) ((ih false _ _ _ r' _ w' _ fuel hs' ha' hd' (hf.put (hW o hmem) v ht) (hl.put hio) (hsh.put hm ((pg hm hl).2 hr)) hh).1 rfl (by omega))⟩
 have oneT:∀(i:Nat) (rest:DA)
   (_:Ny ro n P ops Q N ms W a0 w0 K rest)
   (ls:Nat) (L:ri) (d:u3) (r:cD) (a:Act) (w:World) (listed:Array Bool) (fuel:Nat),
   N7 P N ops.toList ms i L d r w.heap (fun L' d' r' h'=>nL P N ops.toList ms rest false (cQ ls (g7 i)) L' d' K r' h')→Agree N r a→DecOk d r→Fr W a0 w0 a w→LsRel ops ls listed→Shut ms listed→
   left ops ls≤fuel+1→i∈mo ls ms 0→∀o,ops[i]?=some o→
    wpOpIn (FW ro) n P ops Q i (fun a' w'=>(∀x∈rel ms i L,x.2 w'.heap)∧P1 ms ro n P ops Q fuel (rel ms i L) (listed.setIfInBounds i true) a' w') a w:=by
  intro i rest ih ls L d r a w listed fuel hs ha hd hf hl hsh hfu hr o ho;have hio:i<ops.size:=(cz.1 ho).1;obtain⟨k,mm,hk,hki,hbit,_⟩:=(rT ls ms 0 i).1 hr;unfold N7 at hs;rw[bv,ho]at hs;simp only at hs;cases hw:jn ops.toList d o with
  |none=>rw[hw]at hs;exact hs.elim
  |some b=>
   rw[hw]at hs;cases b with
   |false=>exact hs.elim
   |true=>
    simp only at hs;cases hq:vW o.op with
    |true=>rw[hq]at hs;exact hs.elim
    |false=>
     rw[hq,cond_false]at hs;unfold wpOpIn;rw[ho];simp only[qs hw ha hd,if_true];refine sX (wz hs) (BB ha hs) ?_;intro v w' ht hK;obtain⟨r',hr',ha',hd'⟩:=vF (dv:=.x) hK ha hd trivial;obtain⟨hh,hs'⟩:=vt.1 hr';have hmem:o∈ops.toList:=jM (by rw[bv];exact ho);have hleft:=Aa hio hbit;exact⟨hh,(ih false _ _ _ r' _ w' _ fuel hs' ha' hd' (hf.put (hW o hmem) v ht) (hl.put hio) (hsh.put hm ((pg hm hl).2 hr)) hh).1 rfl (by omega)⟩
 induction da with
 |done=>
  intro m ls L d r a w listed fuel hs ha hd hf hl hsh hL;cases m with
  |true=>exact hs.elim
  |false=>
   refine⟨fun _ _=>?_,fun h=>by cases h⟩
   have hc:nL P N ops.toList ms .done false ls L d K r w.heap=bif vp (mo ls ms 0) []then K r w.heap else False:=rfl;rw[hc]at hs;cases hb:vp (mo ls ms 0) []with
   |false=>rw[hb]at hs;exact hs.elim
   |true=>
    rw[hb]at hs;have hnil:gq .any ops listed= []:=by
     apply List.eq_nil_iff_forall_not_mem.2;intro j hj;rw[pg hm hl,xA hb]at hj;cases hj
    exact P0 hnil (hQ r a w ha hf hs)
 |take i rest ih=>
  intro m ls L d r a w listed fuel hs ha hd hf hl hsh hL;cases m with
  |true=>
   exfalso;have hc:nL P N ops.toList ms (.take i rest) true ls L d K r w.heap=(match ops.toList[i]?,ms[i]? with|some _,some _=>False|_,_=>False):=rfl
   rw[hc]at hs;split at hs<;>exact hs
  |false=>
   refine⟨fun _ hfu=>?_,fun h=>by cases h⟩
   have hc:nL P N ops.toList ms (.take i rest) false ls L d K r w.heap=(match ops.toList[i]?,ms[i]? with
    |some o,some mi=>bif Et mi i ls ops.toList.length then
      (match jn ops.toList d o with
       |none=>False
       |some false=>Am N o undef r fun r'=>nL P N ops.toList ms rest false (cQ ls (g7 i)) L (su d o .u) K r' w.heap
       |some true=>bif vW o.op then
          BN P none o.op r (fun v S=>Am N o v r fun r'=>match S with
            |none=>nL P N ops.toList ms rest false (cQ ls (g7 i)) L (su d o (JM d o.op)) K r' w.heap
            |some S=>nL P N ops.toList ms rest false (cQ ls (g7 i)) ((i,S)::L) (su d o (JM d o.op)) K r' w.heap) w.heap
          else False)
     else False
    |_,_=>False):=rfl
   rw[hc]at hs;split at hs
   ·rename_i o mi ho hmi
    rw[bv]at ho;cases htk:Et mi i ls ops.toList.length with
    |false=>rw[htk]at hs;exact hs.elim
    |true=>
     rw[htk,cond_true]at hs;unfold Et at htk;simp only[bd,pV,CI]at htk;obtain⟨⟨hun,hrd⟩,hfr⟩:=htk;have hio:i<ops.size:=(cz.1 ho).1;have hready:i∈gq .any ops listed:=(Hf hm hl).2 ⟨mi,hmi,hun,hrd⟩;have hleft:=Aa (ops:=ops) hio hun;obtain⟨f',rfl⟩:∃f',fuel=f'+1:=⟨fuel-1,by omega⟩
     have hmem:o∈ops.toList:=jM (by rw[bv];exact ho);have hcov:∀j,j<ops.size→ls.testBit j=true∨mi.fr.testBit j=true:=by
      intro j hj;have h0:=bc hfr;have hpb:(xr (g7 ops.toList.length)).testBit j=true:=by
        have:xr (g7 ops.toList.length)=2^ops.toList.length-1:=rfl;rw[this,Nat.testBit_two_pow_sub_one];simpa using hj
      have hand:(jK (cQ ls mi.fr) (xr (g7 ops.toList.length))).testBit j=((cQ ls mi.fr).testBit j&&(xr (g7 ops.toList.length)).testBit j):=lz _ _ j;rw[h0,hpb,Bool.and_true,oF]at hand;exact(Bool.or_eq_true_iff).1 hand.symm
     have hfree:∀j oj,ops[j]?=some oj→j≠i→listed.getD j true=false→jz oj i=false→
        (∀d,o.dst=some d→d∉oj.looksAt ops)∧(∀d,o.dst=some d→oj.dst≠some d)∧(∀d,oj.dst=some d→d∉o.looksAt ops):=by
      intro j oj hoj hne hju hna;have hj:j<ops.size:=(cz.1 hoj).1;rw[hl.unlisted hj]at hju;have hjm:j<ms.length:=by rw[hm.len];exact hj
      have hmj:=ai hjm;rcases hcov j hj with h|h
      ·rw[h]at hju;cases hju
      ·rcases hm.free i j mi _ hmi hmj h with h|h|h
        ·exact absurd h hne
        ·rw[hm.am j oj _ hoj hmj,hna]at h;cases h
        ·exact Rp hm ho hoj hmi hmj h
     cases hw:jn ops.toList d o with
     |none=>rw[hw]at hs;exact hs.elim
     |some b=>
      rw[hw]at hs;have hwd:=qs hw ha hd;cases b with
      |false=>
        obtain⟨r',hr',ha',hd'⟩:=vF (dv:=.u) hs ha hd rfl;have hy:YG P ops (fun _=>True) o undef a:=.inr ⟨hwd,rfl⟩
        refine Eh hm ho hm.nosel hnp f' L listed a w hfree hsh hready hy trivial hL ?_;refine wy _ L _ _ _ _ (fun x hx=>(aB.1 hx).elim (fun e=>.inr fun h=>by rw[e];trivial) .inl) ?_
        exact(ih false _ _ _ r' _ w _ f' hr' ha' hd' (hf.put (hW o hmem) undef (Tame.refl w)) (hl.put hio) (hsh.put hm hready) hL).1 rfl (by omega)
      |true=>
        simp only at hs;cases hq:vW o.op with
        |false=>rw[hq]at hs;exact hs.elim
        |true=>
         rw[hq,cond_true]at hs;obtain⟨v,S,hK,hS,hdv,hrun⟩:=Hg ha hs d hd;obtain⟨r',hr',ha',hd'⟩:=vF hK ha hd hdv;have hfr':=hf.put (hW o hmem) v (Tame.refl w);cases S with
         |none=>
           have hy:YG P ops (fun _=>True) o v a:=.inl ⟨hwd,fun w _=>hrun w trivial⟩
           refine Eh hm ho hm.nosel hnp f' L listed a w hfree hsh hready hy trivial hL ?_;refine wy _ L _ _ _ _ (fun x hx=>(aB.1 hx).elim (fun e=>.inr fun h=>by rw[e];trivial) .inl) ?_
           exact(ih false _ _ _ r' _ w _ f' hr' ha' hd' hfr' (hl.put hio) (hsh.put hm hready) hL).1 rfl (by omega)
         |some S=>
           have hy:YG P ops S o v a:=.inl ⟨hwd,fun w h=>hrun w h⟩
           refine Eh hm ho hm.nosel hnp f' L listed a w hfree hsh hready hy hS hL ?_;exact(ih false _ _ _ r' _ w _ f' hr' ha' hd' hfr' (hl.put hio) (hsh.put hm hready) (fun x hx=>(aB.1 hx).elim (fun e=>by rw[e];exact hS) (hL x))).1 rfl (by omega)
   ·exact hs.elim
 |all l ih=>
  intro m ls L d r a w listed fuel hs ha hd hf hl hsh hL;cases m with
  |true=>exact hs.elim
  |false=>
   refine⟨fun _ hfu=>?_,fun h=>by cases h⟩
   have hc:nL P N ops.toList ms (.all l) false ls L d K r w.heap=bif vp (mo ls ms 0) (BW l)then nL P N ops.toList ms l true ls L d K r w.heap else False:=rfl;rw[hc]at hs;cases hb:vp (mo ls ms 0) (BW l)with
   |false=>rw[hb]at hs;exact hs.elim
   |true=>
    rw[hb,cond_true]at hs;obtain⟨i,hi⟩:=Pl hs;rw[←xA hb]at hi;have hrd:=(pg hm hl (j:=i)).2 hi;obtain⟨k,mm,hk,hki,hbit,_⟩:=(rT ls ms 0 i).1 hi;have hio:i<ops.size:=by
     have:=(bi.1 hk).1;rw[hm.len]at this;omega
    have hleft:=Aa (ops:=ops) hio hbit;obtain⟨f',rfl⟩:∃f',fuel=f'+1:=⟨fuel-1,by omega⟩
    refine⟨fun h=>(by rw[h]at hrd;cases hrd),fun j hj o ho=>?_⟩
    have hj':=(pg hm hl).1 hj;exact(ih true ls L d r a w listed f' hs ha hd hf hl hsh hL).2 rfl hfu j (by rw[←xA hb];exact hj') hj' o ho
 |pick i rest more ih1 ih2=>
  intro m ls L d r a w listed fuel hs ha hd hf hl hsh hL;cases m with
  |false=>exact hs.elim
  |true=>
   refine⟨fun h=>(by cases h),fun _ hfu j hj hjr o ho=>?_⟩
   have hs:OR P N ops.toList i L d r w.heap (fun L' d' r' h'=>nL P N ops.toList ms rest false (cQ ls (g7 i)) L' d' K r' h')∧nL P N ops.toList ms more true ls L d K r w.heap:=hs
   rcases aB.1 hj with rfl|hj
   ·exact one _ rest ih1 ls L d r a w listed fuel hs.1 ha hd hf hl hsh hfu hjr o ho
   ·exact(ih2 true ls L d r a w listed fuel hs.2 ha hd hf hl hsh hL).2 rfl hfu j hj hjr o ho
 |last i rest ih=>
  intro m ls L d r a w listed fuel hs ha hd hf hl hsh hL;cases m with
  |false=>exact hs.elim
  |true=>
   refine⟨fun h=>(by cases h),fun _ hfu j hj hjr o ho=>?_⟩
   have hs:OR P N ops.toList i L d r w.heap (fun L' d' r' h'=>nL P N ops.toList ms rest false (cQ ls (g7 i)) L' d' K r' h'):=hs
   have hji:j=i:=aC.1 hj;subst hji;exact one _ rest ih ls L d r a w listed fuel hs ha hd hf hl hsh hfu hjr o ho
 |lastT i rest ih=>
  intro m ls L d r a w listed fuel hs ha hd hf hl hsh hL;cases m with
  |false=>exact hs.elim
  |true=>
   refine⟨fun h=>(by cases h),fun _ hfu j hj hjr o ho=>?_⟩
   have hs:N7 P N ops.toList ms i L d r w.heap (fun L' d' r' h'=>nL P N ops.toList ms rest false (cQ ls (g7 i)) L' d' K r' h'):=hs
   have hji:j=i:=aC.1 hj;subst hji;exact oneT _ rest ih ls L d r a w listed fuel hs ha hd hf hl hsh hfu hjr o ho
 |split t yes no ih1 ih2=>
  intro m ls L d r a w listed fuel hs ha hd hf hl hsh hL;cases m with
  |true=>exact hs.elim
  |false=>
   refine⟨fun _ hfu=>?_,fun h=>by cases h⟩
   have hc:nL P N ops.toList ms (.split t yes no) false ls L d K r w.heap=(match ku r t with
    |some (.bool b)=>CondP b (nL P N ops.toList ms yes false ls L ((t,.t)::d) K ((t,.bool true)::r) w.heap) (nL P N ops.toList ms no false ls L ((t,.f)::d) K ((t,.bool false)::r) w.heap)
    |_=>False):=rfl
   rw[hc]at hs;split at hs
   ·rename_i b hlk
    cases b with
    |true=>exact(ih1 false ls L _ _ a w listed fuel (hs.yes rfl) (ha.known hlk) (hd.known rfl) hf hl hsh hL).1 rfl hfu
    |false=>exact(ih2 false ls L _ _ a w listed fuel (hs.no rfl) (ha.known hlk) (hd.known rfl) hf hl hsh hL).1 rfl hfu
   ·exact hs.elim
end Go.Lift
namespace Go.Lift
open Go
variable {P:Program} {ro:Option Nat} {n:Nat}
theorem HA{r:cD}:∀{l:List Nat} {r0:cD},Or r l=some r0→∀t v,ku r0 t=some v→t∈l∧ku r t=some v
 | [],r0,h,t,v,hv=>by cases h;cases hv
 |s::l,r0,h,t,v,hv=>by
  have h:(match ku r s,Or r l with|some v,some l=>some ((s,v)::l)|_,_=>none)=some r0:=h
  split at h
  ·rename_i u l' hu hl
   cases h;by_cases e:s=t
   ·subst e;rw[iT]at hv;cases hv;exact⟨ax ..,hu⟩
   ·rw[hH u _ e]at hv
    have:=HA hl t v hv;exact⟨aF _ this.1,this.2⟩
  ·cases h
theorem BT{m:Nat}{t:Nat}{v:Value}:∀{r:cD},ku (wM m r) t=some v→m.testBit t=false∧ku r t=some v
 | [],h=>by cases h
 |(k,u)::r,h=>by
  have h:ku (bif tb m k then wM m r else(k,u)::wM m r) t=some v:=h;cases hk:tb m k with
  |true=>
   rw[hk]at h;have:=BT h;by_cases e:k=t
   ·subst e;rw[CI,this.1]at hk;cases hk
   ·rw[hH u _ e];exact this
  |false=>
   rw[hk]at h;have h:ku ((k,u)::wM m r) t=some v:=h;by_cases e:k=t
   ·subst e;rw[iT]at h⊢;rw[CI]at hk;exact⟨hk,h⟩
   ·rw[hH u _ e]at h⊢;exact BT h
theorem BA{t:Nat}:∀{l:List Oper},(P4 l).testBit t=false→¬mc t l=true
 | [],_,h=>by cases h
 |o::l,hm,h=>by
  have hm:(cQ (ot o) (P4 l)).testBit t=false:=hm;rw[oF,mH]at hm;have h:(match o.dst with|some d=>bif bM d t then true else mc t l|none=>mc t l)=true:=h
  cases hd:o.dst with
  |none=>rw[hd]at h;exact BA hm.2 h
  |some d=>
   rw[hd]at h;cases e:bM d t with
   |true=>have:=(w8 o t).2 (by rw[hd,bc e]);rw[hm.1]at this;cases this
   |false=>simp only[e]at h;exact BA hm.2 h
theorem Kw{a b:Option Nat}{m:Nat}(h:TM a b=some m):∃x y,a=some x∧b=some y∧m=cQ x y:=by
 cases a<;>cases b<;>cases h
 exact⟨_,_,rfl,rfl,rfl⟩
theorem P3{t:Nat}(c:Code):∀{m:Nat},xW c=some m→m.testBit t=false→¬gK t c=true:=by
 induction c with
 |skip=>intro m _ _ h;cases h
 |region id ops dr=>intro m h hm hw;cases h;exact BA hm hw
 |seq a b iha ihb=>
  intro m h hm hw;obtain⟨x,y,hx,hy,rfl⟩:=Kw (show TM (xW a) (xW b)=some m from h)
  rw[oF,mH]at hm;have hw:(bif gK t a then true else gK t b)=true:=hw;cases ha:gK t a with
  |true=>exact iha hx hm.1 ha
  |false=>rw[ha]at hw;exact ihb hy hm.2 hw
 |cond c a b iha ihb=>
  intro m h hm hw;obtain⟨x,y,hx,hy,rfl⟩:=Kw (show TM (xW a) (xW b)=some m from h)
  rw[oF,mH]at hm;have hw:(bif gK t a then true else gK t b)=true:=hw;cases ha:gK t a with
  |true=>exact iha hx hm.1 ha
  |false=>rw[ha]at hw;exact ihb hy hm.2 hw
 |block id b ih=>exact fun h hm=>ih h hm
 |loop b ih=>exact fun h hm=>ih h hm
 |rangeFunc _ _ _ _ _ _=>intro m h;cases h
 |scope b ih=>exact fun h hm=>ih h hm
 |_=>intro m _ _ h;cases h
theorem Agree.keep{N:Nat}{r r':cD}{a a':Act}{w w':World}{m:Nat}{c:Code}(h:Agree N r a)(hm:xW c=some m)(hf:Fr(fun t=>gK t c=true) a w a' w')(h':Agree N r' a'):Agree N (wM m r) a':=
 ⟨h'.size,fun t v hv=>by
  obtain⟨hb,hr⟩:=BT hv
  rw[hf.same t (P3 c hm hb)];exact h.look t v hr⟩
theorem wA{st:St}{r:cD}{f:cJ(yz st)→Prop}(h:CO st r f):∃t,Ey r st=some (nR (yz st) t)∧f t:=by
 unfold CO at h;split at h
 ·rename_i vs hv
  obtain⟨t,rfl,hf⟩:=ss h;exact⟨t,hv,hf⟩
 ·exact h.elim
theorem Agree.zip{N:Nat}{r:cD}{a:Act}(h:Agree N r a):∀{st:St} {vs:List Value} {r0:cD},Ey r st=some vs→Agree N r0 a→Agree N (oh st vs r0) a
 | [],vs,r0,_,h0=>by cases vs<;>exact h0
 |(i,k)::st,vs,r0,hv,h0=>by
  unfold Ey at hv;split at hv
  ·rename_i v vs' h1 h2
   cases hv;have:=Agree.zip h h2 h0;refine⟨this.size,fun t u hu=>?_⟩
   by_cases e:i=t
   ·subst e
    rw[show oh ((i,k)::st) (v::vs') r0=(i,v)::oh st vs' r0 from rfl,iT]at hu;cases hu
    exact h.look i v h1
   ·rw[show oh ((i,k)::st) (v::vs') r0=(i,v)::oh st vs' r0 from rfl,hH v _ e]at hu
    exact this.look t u hu
  ·cases hv
theorem zx{t:Nat}:∀{l:List Oper} {o:Oper},o∈l→o.dst=some t→mc t l=true
 | [],_,h,_=>by cases h
 |x::l,o,h,hd=>by
  have e:mc t (x::l)=(match x.dst with|some d=>bif bM d t then true else mc t l|none=>mc t l):=rfl
  rw[e];rcases aB.1 h with rfl|h
  ·rw[hd];simp only;rw[show bM t t=true from rP t];rfl
  ·have:=zx h hd
   cases x.dst with
   |none=>exact this
   |some d=>
    simp only;cases bM d t with
    |true=>rfl
    |false=>exact this
def LWP(ro:Option Nat)(n:Nat)(P:Program)(c:Code)(Q:Exit→Act→World→Prop)(a:Act)(w:World):Prop:=
 ∀(b:Frame) (k:List Item) (cs:List Frame),b.roundOf=(FW ro).round→(FW ro).fn b.fn→(FW ro).room (cs.length+1+n)→
  ∃e a' w',Q e a' w'∧ArrivesIn (Machine.fenced P (FW ro)) P (lone (b.atR a (.code c:: .inLoop c::k)) cs w) b k cs e a' w'
theorem LWP.step{c:Code}{Q:Exit→Act→World→Prop}{a:Act}{w:World}(h:c.wpIn(FW ro) n P(Exit.then(LWP ro n P c Q) Q) a w):LWP ro n P c Q a w:=by
 intro b k cs hro hb hr;obtain⟨e,a₁,w₁,hq,harr⟩:=h b (.inLoop c::k) cs hro hb hr;cases e with
 |normal=>
  obtain⟨e₂,a₂,w₂,hq₂,harr₂⟩:=hq b k cs hro hb hr;exact⟨e₂,a₂,w₂,hq₂,.of_steps (StepsIn.trans harr (.one (fenced_calm hb hr rfl) stepR_inLoop)) harr₂⟩
 |exit id=>exact⟨_,a₁,w₁,hq,.pass (x:=.inLoop c) rfl (fun _ _=>.inl (by simp)) harr⟩
 |goto l=>exact⟨_,a₁,w₁,hq,.pass (x:=.inLoop c) rfl (fun _ _=>.inl (by simp)) harr⟩
 |ret=>exact⟨_,a₁,w₁,hq,.pass (x:=.inLoop c) rfl (fun _ _=>.inl (by simp)) harr⟩
 |panic ch=>exact⟨_,a₁,w₁,hq,.pass (x:=.inLoop c) rfl (fun _ _=>.inl (by simp)) harr⟩
 |outgrown=>exact⟨_,a₁,w₁,hq,.pass (x:=.inLoop c) rfl (fun _ _=>.inl (by simp)) harr⟩
theorem LWP.loop{c:Code}{Q:Exit→Act→World→Prop}{a:Act}{w:World}(h:LWP ro n P c Q a w):(Code.loop c).wpIn (FW ro) n P Q a w:=by
 intro b k cs hro hb hr;obtain⟨e,a',w',hq,harr⟩:=h b k cs hro hb hr;exact⟨e,a',w',hq,.of_steps (.one (fenced_calm hb hr rfl) stepR_loop) harr⟩
theorem HR(r:cD):DecOk [] r:=fun _=>.inl rfl
theorem Sm(ops:Array Oper)(ls:Nat):left ops ls≤ops.size:=by
 unfold left;exact bJ (List.length_filter_le ..) (by simp)
theorem me(hmix:P.follows .mixedOrders=true){N id:Nat}{ops:Array Oper}{dr:Bool}{an:Ann}{K:cD→af→Prop}{r:cD}{a:Act}{w:World}{Q:Exit→Act→World→Prop}
  (hs:BH P N ops.toList dr an K r w.heap)(ha:Agree N r a)(hp:∀c a w,¬Q(.panic c) a w)
  (hn:∀r' a' w',Agree N r' a'→Fr(fun t=>mc t ops.toList=true) a w a' w'→K r' w'.heap→Q .normal a' w'):(Code.region id ops dr).wpIn (FW ro) n P Q a w:=by
 have hW:∀o∈ops.toList,∀d,o.dst=some d→mc d ops.toList=true:=fun o ho d hd=>zx ho hd
 cases dr with
 |false=>
  have key:∀ek,EC P N ek ops.toList ops.toList [] K r w.heap→(Code.region id ops false).wpIn (FW ro) n P Q a w:=fun ek hs=>by
   refine wpIn_region ?_;rw[List.range_eq_range',show ops.size=ops.toList.length from rfl]
   exact EB hW hn ops.toList 0 rfl [] r a w hs ha (HR r) (Fr.refl _ a w)
  unfold BH at hs;simp only at hs;split at hs
  ·exact key _ hs
  ·exact key _ hs
 |true=>
  unfold BH at hs;simp only at hs;generalize Ol ops.toList=ms at hs;cases hm:D7 ops.toList ms with
  |false=>rw[hm]at hs;exact hs.elim
  |true=>
   rw[hm,cond_true]at hs;refine wpIn_region_any hmix (NS (ms:=ms) _ [] _ _ _ ?_);have ht:Tame w {w with drawn:=w.drawn+1}:=⟨rfl,rfl,rfl⟩;have hf:Fr (fun t=>mc t ops.toList=true) a w a {w with drawn:=w.drawn+1}:=⟨ht,rfl,fun _ _=>rfl⟩
   refine(J0 (MB hm) hW hn (fun e a w=>?_) _ false 0 [] [] r a {w with drawn:=w.drawn+1} _ ops.size hs ha (HR r) hf LsRel.start (fun j x _ h=>by rw[(LsRel.start (ops:=ops)).bit,nf]at h;cases h) (fun x hx=>by cases hx)).1 rfl (Sm ops 0)
   cases e with
   |panic ch=>exact.inr (hp _ a w)
   |_=>exact.inl fun c hc=>by cases hc
theorem Ef(t:Nat)(x y:Code):gK t (.seq x y)=(bif gK t x then true else gK t y):=rfl
theorem CF(t:Nat)(c:Operand)(x y:Code):gK t (.cond c x y)=(bif gK t x then true else gK t y):=rfl
theorem Jh{a b:Bool}:(bif a then true else b)=true↔a=true∨b=true:=by cases a<;>cases b<;>decide
theorem sZ(hmix:P.follows .mixedOrders=true){N:Nat}(c:Code):∀(an:Ann) (Kn:cD→af→Prop) (Kx:Ex→cD→af→Prop) (r:cD) (a:Act) (w:World) (Q:Exit→Act→World→Prop),
  lT P N c an Kn Kx r w.heap→Agree N r a→(∀ch a w,¬Q (.panic ch) a w)→
  (∀r' a' w',Agree N r' a'→Fr (fun t=>gK t c=true) a w a' w'→Kn r' w'.heap→Q .normal a' w')→
  (∀i r' a' w',Agree N r' a'→Fr (fun t=>gK t c=true) a w a' w'→Kx (.exit i) r' w'.heap→Q (.exit i) a' w')→
  (∀r' a' w',Agree N r' a'→Fr (fun t=>gK t c=true) a w a' w'→Kx .ret r' w'.heap→Q .ret a' w')→
  c.wpIn (FW ro) n P Q a w:=by
 induction c with
 |skip=>
  intro an Kn Kx r a w Q hs ha _ hn _ _;exact wpIn_skip (hn r a w ha (Fr.refl ..) hs)
 |region id ops dr=>
  intro an Kn Kx r a w Q hs ha hp hn _ _;cases an with
  |reg keep inner=>
   have hs:BH P N ops.toList dr inner (fun r' h'=>match Or r' keep with|some r0=>Kn r0 h'|none=>False) r w.heap:=hs
   refine me hmix hs ha hp fun r' a' w' ha' hf hk=>?_
   split at hk
   ·rename_i r0 hr0
    refine hn r0 a' w' ⟨ha'.size,fun t v hv=>ha'.look t v (HA hr0 t v hv).2⟩ hf hk
   ·exact hk.elim
  |nil=>exact me hmix (show BH P N ops.toList dr (.nil) Kn r w.heap from hs) ha hp hn
  |node x y=>exact me hmix (show BH P N ops.toList dr (.node x y) Kn r w.heap from hs) ha hp hn
  |join st x y=>exact me hmix (show BH P N ops.toList dr (.join st x y) Kn r w.heap from hs) ha hp hn
  |loop st y=>exact me hmix (show BH P N ops.toList dr (.loop st y) Kn r w.heap from hs) ha hp hn
  |draw d=>exact me hmix (show BH P N ops.toList dr (.draw d) Kn r w.heap from hs) ha hp hn
  |kinds k v=>exact me hmix (show BH P N ops.toList dr (.kinds k v) Kn r w.heap from hs) ha hp hn
  |rf ks x y=>exact me hmix (show BH P N ops.toList dr (.rf ks x y) Kn r w.heap from hs) ha hp hn
 |seq x y ihx ihy=>
  intro an Kn Kx r a w Q hs ha hp hn hx hr;have up1:∀{a' w'},Fr (fun t=>gK t x=true) a w a' w'→Fr (fun t=>gK t (.seq x y)=true) a w a' w':=fun h=>h.mono fun t ht=>by rw[Ef,Jh];exact.inl ht
  have up2:∀{a' w' a'' w''},Fr (fun t=>gK t x=true) a w a' w'→Fr (fun t=>gK t y=true) a' w' a'' w''→Fr (fun t=>gK t (.seq x y)=true) a w a'' w'':=
   fun h k=>(up1 h).trans (k.mono fun t ht=>by rw[Ef,Jh];exact.inr ht)
  have plain:∀aa ab,lT P N x aa (fun r' h'=>lT P N y ab Kn Kx r' h') Kx r w.heap→(Code.seq x y).wpIn (FW ro) n P Q a w:=fun aa ab hs=>by
   refine wpIn_seq (ihx aa _ Kx r a w _ hs ha (fun ch a w=>hp ch a w) ?_ (fun i r' a' w' h1 h2 h3=>hx i r' a' w' h1 (up1 h2) h3) (fun r' a' w' h1 h2 h3=>hr r' a' w' h1 (up1 h2) h3))
   intro r1 a1 w1 ha1 hf1 hs1;exact ihy ab Kn Kx r1 a1 w1 Q hs1 ha1 hp (fun r' a' w' h1 h2 h3=>hn r' a' w' h1 (up2 hf1 h2) h3) (fun i r' a' w' h1 h2 h3=>hx i r' a' w' h1 (up2 hf1 h2) h3) (fun r' a' w' h1 h2 h3=>hr r' a' w' h1 (up2 hf1 h2) h3)
  cases an with
  |join st aa ab=>
   have hs:(match xW x with
      |none=>False
      |some m=>Join (T:=cJ (yz st)) (fun t h'=>lT P N y ab Kn Kx (oh st (nR (yz st) t) (wM m r)) h')
       fun J=>lT P N x aa (fun r' h'=>CO st r' fun t=>J t h') Kx r w.heap):=hs
   split at hs
   ·exact hs.elim
   ·rename_i m hm
    refine wpIn_seq (ihx aa _ Kx r a w _ hs.run ha (fun ch a w=>hp ch a w) ?_ (fun i r' a' w' h1 h2 h3=>hx i r' a' w' h1 (up1 h2) h3) (fun r' a' w' h1 h2 h3=>hr r' a' w' h1 (up1 h2) h3))
    intro r1 a1 w1 ha1 hf1 hs1;obtain⟨t,hst,hs2⟩:=wA hs1;have ha2:Agree N (oh st (nR (yz st) t) (wM m r)) a1:=ha1.zip hst (ha.keep hm hf1 ha1);exact ihy ab Kn Kx _ a1 w1 Q hs2 ha2 hp (fun r' a' w' h1 h2 h3=>hn r' a' w' h1 (up2 hf1 h2) h3) (fun i r' a' w' h1 h2 h3=>hx i r' a' w' h1 (up2 hf1 h2) h3) (fun r' a' w' h1 h2 h3=>hr r' a' w' h1 (up2 hf1 h2) h3)
  |_=>exact plain _ _ hs
 |cond c x y ihx ihy=>
  intro an Kn Kx r a w Q hs ha hp hn hx hr;have hs:(match dA r c with
   |some (.bool t)=>CondP t (lT P N x an.l Kn Kx r w.heap) (lT P N y an.r Kn Kx r w.heap)
   |_=>False):=hs
  have up1:∀{a' w'},Fr (fun t=>gK t x=true) a w a' w'→Fr (fun t=>gK t (.cond c x y)=true) a w a' w':=fun h=>h.mono fun t ht=>by rw[CF,Jh];exact.inl ht
  have up2:∀{a' w'},Fr (fun t=>gK t y=true) a w a' w'→Fr (fun t=>gK t (.cond c x y)=true) a w a' w':=fun h=>h.mono fun t ht=>by rw[CF,Jh];exact.inr ht
  split at hs
  ·rename_i t ht
   refine wpIn_cond_split (mn ha ht) (fun e=>?_) (fun e=>?_)
   ·exact ihx _ Kn Kx r a w Q (hs.yes e) ha hp (fun r' a' w' h1 h2 h3=>hn r' a' w' h1 (up1 h2) h3) (fun i r' a' w' h1 h2 h3=>hx i r' a' w' h1 (up1 h2) h3) (fun r' a' w' h1 h2 h3=>hr r' a' w' h1 (up1 h2) h3)
   ·exact ihy _ Kn Kx r a w Q (hs.no e) ha hp (fun r' a' w' h1 h2 h3=>hn r' a' w' h1 (up2 h2) h3) (fun i r' a' w' h1 h2 h3=>hx i r' a' w' h1 (up2 h2) h3) (fun r' a' w' h1 h2 h3=>hr r' a' w' h1 (up2 h2) h3)
  ·exact hs.elim
 |block id b ih=>
  intro an Kn Kx r a w Q hs ha hp hn hx hr;refine wpIn_block (ih an Kn _ r a w _ hs ha (fun ch a w=>hp ch a w) hn (fun i r' a' w' h1 h2 h3=>?_) hr)
  simp only[Exit.inBlock]at h3⊢;cases hi:bM i id with
  |true=>
   rw[hi,cond_true]at h3;rw[if_pos (bc hi)];exact hn r' a' w' h1 h2 h3
  |false=>
   rw[hi,cond_false]at h3;rw[if_neg (fun e=>by rw[e,rP]at hi;cases hi)]
   exact hx i r' a' w' h1 h2 h3
 |loop b ih=>
  intro an Kn Kx r a w Q hs ha hp hn hx hr;cases an with
  |loop st ab=>
   have hs:(match xW b with
      |none=>False
      |some m=>CO st r fun t0=>LoopP (T:=cJ (yz st)) (fun self t h'=>lT P N b ab (fun r' h''=>CO st r' fun t'=>self t' h'') Kx (oh st (nR (yz st) t) (wM m r)) h') t0 w.heap):=hs
   split at hs
   ·exact hs.elim
   ·rename_i m hm
    obtain⟨t0,hst0,hl⟩:=wA hs;have h0:=hl.run (fun t h'=>∀a' w',w'.heap=h'→Agree N (oh st (nR (yz st) t) (wM m r)) a'→Fr (fun t=>gK t b=true) a w a' w'→LWP ro n P b Q a' w') (fun t h' hF a' w' hw ha' hf=>by
     subst hw
     refine LWP.step (ih ab _ Kx _ a' w' _ hF ha' (fun ch a w=>hp ch a w) ?_ (fun i r' a'' w'' h1 h2 h3=>hx i r' a'' w'' h1 (hf.trans h2) h3) (fun r' a'' w'' h1 h2 h3=>hr r' a'' w'' h1 (hf.trans h2) h3))
     intro r1 a1 w1 ha1 hf1 hs1
     obtain⟨t1,hst1,hk1⟩:=wA hs1
     exact hk1 a1 w1 rfl (ha1.zip hst1 (ha.keep hm (hf.trans hf1) ha1)) (hf.trans hf1))
    exact LWP.loop (h0 a w rfl (ha.zip hst0 (ha.keep hm (Fr.refl _ a w) ha)) (Fr.refl _ a w))
  |_=>exact hs.elim
 |rangeFunc f params assign body _ _=>intro an Kn Kx r a w Q hs;exact hs.elim
 |exit id=>
  intro an Kn Kx r a w Q hs ha hp hn hx hr;exact wpIn_exit (hx id r a w ha (Fr.refl ..) hs)
 |scope b _=>intro an Kn Kx r a w Q hs;exact hs.elim
 |label l=>
  intro an Kn Kx r a w Q hs ha hp hn hx hr;exact wpIn_label (hn r a w ha (Fr.refl ..) hs)
 |goto l=>intro an Kn Kx r a w Q hs;exact hs.elim
 |ret=>
  intro an Kn Kx r a w Q hs ha hp hn hx hr;exact wpIn_ret (hr r a w ha (Fr.refl ..) hs)
 |refuse why=>intro an Kn Kx r a w Q hs;exact hs.elim
end Go.Lift
namespace Go.Lift
open Go
variable {P:Program}
theorem qt{N:Nat}{r:cD}{a:Act}{w:World}(ha:Agree N r a):∀{l:List ResultVar} {K:List Value→Prop},ol P r w.heap l K→
  ∃vs,(∀g:ResultVar→Sem Value,(∀t,g (.tmp t)=pure (a.tmps.getD t undef))→(∀x t,g (.cell x t)=do loadVar t (←asAddr (a.tmps.getD x undef)))→(l.mapM g).run P w=.ok vs w)∧K vs
 | [],K,h=>⟨[],fun g _ _=>by rw[List.mapM_nil];rfl,h⟩
 | .tmp t::l,K,h=>by
  unfold ol at h;split at h
  ·rename_i v hv
   obtain⟨vs,hr,hk⟩:=qt ha h;refine⟨v::vs,fun g g1 g2=>?_,hk⟩
   rw[List.mapM_cons,g1];simp only[Sem.run_bind,Sem.run_pure,aG];rw[hr g g1 g2];simp only[aG,ha.look t v hv]
  ·exact h.elim
 | .cell x t::l,K,h=>by
  unfold ol at h;split at h
  ·rename_i v hv
   obtain⟨u,S,hK,hS,hl⟩:=CU h;obtain⟨vs,hr,hk⟩:=qt ha hK;refine⟨u::vs,fun g g1 g2=>?_,hk⟩
   rw[List.mapM_cons,g2];have h1:(do loadVar t (←asAddr (a.tmps.getD x undef)):Sem Value).run P w=.ok u w:=by
    rw[ha.look x v hv];unfold Kj at h;cases v with
    |pointer p=>cases p with
     |none=>exact h.elim
     |some b=>exact hl w hS
    |_=>exact h.elim
   simp only[Sem.run_bind]at h1⊢;rw[h1];simp only[aG];rw[hr g g1 g2];simp only[Sem.run_pure,aG]
  ·exact h.elim
theorem He(ks:List Kind)(t:cJ ks):(if h:(nR ks t).toArray.size=1 then(nR ks t).toArray[0]else Value.tuple (nR ks t).toArray)=EL ks (nR ks t):=by
 match ks,t with
 | [],t=>rfl
 | [k],t=>rfl
 |k::l::ks,(x,t)=>
  have:(nR (k::l::ks) (x,t)).length=(k::l::ks).length:=tx _ _;rw[dif_neg (by simp only[dE,this,ao];omega)];rfl
theorem vH:∀(vs:List Value) (i t:Nat) (v:Value),ku (qz i vs) t=some v→i≤t∧vs[t-i]?=some v
 | [],i,t,v,h=>by cases h
 |u::vs,i,t,v,h=>by
  by_cases e:i=t
  ·subst e
   rw[show qz i (u::vs)=(i,u)::qz (i+1) vs from rfl,iT]at h
   cases h;exact⟨au _,by simp⟩
  ·rw[show qz i (u::vs)=(i,u)::qz (i+1) vs from rfl,hH u _ e]at h
   obtain⟨h1,h2⟩:=vH vs (i+1) t v h;refine⟨by omega,?_⟩;rw[show t-i=(t-(i+1))+1 by omega,kg]
   exact h2
theorem HE.intro(hmix:P.follows .mixedOrders=true){f:FuncId}{fn:Func}{c:Code}{an:Ann}{args:List Value}{ks:List Kind}{K:cJ ks→af→Prop}{h:af}
  (hf:P.funcs[f]?=some fn)(hb:fn.body=some c)(hcall:∀(args:Array Value)(w:World),(callFunc f args).run P w=.ok(.enter f args) w)(hlen:args.length≤fn.ntmps)
  (hs:SQ P fn c an args ks K h):HE P f args ks K h:=by
 refine⟨fun w hw=>⟨hcall,?_⟩⟩
 subst hw;refine(callsIn_wide(n:=0)).1(callsIn_of_wp(F:=FW none) hf hb trivial ?_ rfl);have ha:Agree fn.ntmps(qz 0 args){tmps:=args.toArray++rq(fn.ntmps-args.toArray.size) undef,defers:= []}:=by
  refine⟨by simp;omega,fun t v hv=>?_⟩
  obtain⟨_,h2⟩:=vH args 0 t v hv;simp only[dQ]at h2;have hlt:=(bi.1 h2).1;simp[Array.getElem?_append,hlt];rw[ai hlt]at h2;cases h2;rfl
 have fin:∀r' a'(w':World),Agree fn.ntmps r' a'→Fr(fun t=>gK t c=true){tmps:=args.toArray++rq(fn.ntmps-args.toArray.size) undef,defers:= []} w a' w'→
   ol P r' w'.heap fn.results.toList(fun vs=>DE ks vs fun t=>K t w'.heap)→
   a'.defers= []∧∃v,(results fn a'.tmps).run P w'=.ok v w'∧(Tame w w'∧∃t:cJ ks,Ending.returned v=.returned(EL ks(nR ks t))∧K t w'.heap):=fun r' a' w' ha' hf' hr=>by
  obtain⟨vs,hrun,hd⟩:=qt ha' hr;obtain⟨t,rfl,hK⟩:=ss hd;refine⟨hf'.defers,_,?_,hf'.tame,t,rfl,hK⟩;unfold results;rw[nm];simp only[Sem.run_bind,Sem.run_map];rw[hrun _(fun _=>rfl)(fun _ _=>rfl)]
  simp only[aG,Sem.run_pure];rw[←He]
 exact sZ hmix c an _ _ _ _ w _ hs ha(fun ch a w h=>h.2.2.elim fun _ h=>by cases h.1) fin(fun _ _ _ _ _ _ h=>h.elim) fin
theorem HC.intro(hmix:P.follows .mixedOrders=true){f:FuncId}{fn:Func}{c:Code}{an:Ann}{args:List Value}{ks:List Kind}{K:cJ ks→af→Prop}{h:af}
 (hf:P.funcs[f]?=some fn)(hb:fn.body=some c)(hcall:∀(args:Array Value)(w:World),(callFunc f args).run P w=.ok(.enter f args) w)(hlen:args.length≤fn.ntmps)
 (hs:SQ P fn c an args ks K h):HC P f args ks K h:=(HE.intro hmix hf hb hcall hlen hs).hc
theorem Nc{N:Nat}{args:List Value}(hlen:args.length≤N):Agree N (qz 0 args) {tmps:=args.toArray++rq (N-args.toArray.size) undef,defers:= []}:=by
 refine⟨by simp;omega,fun t v hv=>?_⟩
 obtain⟨_,h2⟩:=vH args 0 t v hv;simp only[dQ]at h2;have hlt:=(bi.1 h2).1;simp[Array.getElem?_append,hlt];rw[ai hlt]at h2;cases h2;rfl
theorem Ke{N:Nat}{fn:Func}{ks:List Kind}{K:cJ ks→af→Prop}{r':cD}{a':Act}{w':World}(ha':Agree N r' a')(hr:ol P r' w'.heap fn.results.toList(fun vs=>DE ks vs fun t=>K t w'.heap)):
  ∃t:cJ ks,(results fn a'.tmps).run P w'=.ok (EL ks (nR ks t)) w'∧K t w'.heap:=by
 obtain⟨vs,hrun,hd⟩:=qt ha' hr;obtain⟨t,rfl,hK⟩:=ss hd;refine⟨t,?_,hK⟩;unfold results;rw[nm];simp only[Sem.run_bind,Sem.run_map];rw[hrun _ (fun _=>rfl) (fun _ _=>rfl)]
 simp only[aG,Sem.run_pure];rw[←He]
end Go.Lift
namespace Go.Lift
open Go
variable {P:Program}
abbrev nn(D:Nat):Deferred:={target:=.collected D,args:= #[]}
theorem Fv{N:Nat}:∀{ps:List Nat} {vs:List Value} {r:cD} {tmps:Array Value},yJ N ps=true→Agree N r {tmps:=tmps,defers:= []}→
  Agree N (RG ps vs r) {tmps:=(ps.zip vs).foldl (fun t x=>t.setIfInBounds x.1 x.2) tmps,defers:= []}
 | [],vs,r,tmps,_,h=>by cases vs<;>exact h
 |i::ps,[],r,tmps,_,h=>h
 |i::ps,v::vs,r,tmps,hl,h=>by
  have hl:(Nat.blt i N&&yJ N ps)=true:=hl;rw[bd]at hl;have hlt:i<N:=by simpa using hl.1
  have:=h.put i v hlt;exact Fv (tmps:=tmps.setIfInBounds i v) hl.2 this
theorem Er(w:World)(o:Obj):Tame w (w.alloc o):=⟨rfl,rfl,rfl⟩
theorem oR(w:World)(b:Nat)(o:Obj):Tame w (w.putObj b o):=⟨rfl,rfl,rfl⟩
theorem Ko(w:World)(b:Nat)(o:Obj):(w.putObj b o).heap=w.heap.setIfInBounds b o:=rfl
theorem OK(ps:Array Nat)(vs:List Value)(t:Array Value):(ps.zip vs.toArray).foldl (fun t (x:Nat×Value)=>t.setIfInBounds x.1 x.2) t=(ps.toList.zip vs).foldl (fun t x=>t.setIfInBounds x.1 x.2) t:=by
 obtain⟨l⟩:=ps;simp
theorem DB(hmix:P.follows .mixedOrders=true){n N:Nat}{g:Operand}{ps:Array Tmp}{assign body:Code}{aa ab:Ann}{ks:List Kind}{fv:Value}{r:cD}{a:Act}{w:World}{Q:Exit→Act→World→Prop}
  {KN:af→Prop}{KX:Nat→af→Prop}{KR:af→Prop}(hps:yJ N ps.toList=true)(hlen:ps.toList.length=ks.length)(hg:dA r g=some fv)(ha:Agree N r a)
  (hR:RangeP P fv ks w.heap(fun JL bz x k h'=>L9 P N ps.toList ks assign body(.node aa ab) r(w.heap.size+1) JL bz x k h') KN KX KR)
  (hn:∀w',Tame w w'→KN w'.heap→Q .normal{a with defers:=nn w.heap.size::a.defers} w')
  (hx:∀i w',Tame w w'→KX i w'.heap→Q(.exit i){a with defers:=nn w.heap.size::a.defers} w')
  (hr:∀w',Tame w w'→KR w'.heap→Q .ret{a with defers:=nn w.heap.size::a.defers} w'):(Code.rangeFunc g ps assign body).wpIn (FW none) n P Q a w:=by
 refine wpIn_rangeFunc fun fn _=>?_
 obtain⟨lo,hlo⟩:∃lo:LoopState→Option Ex→Obj,lo=fun s j=>.loop {state:=s,pending:=IW j,fn,tmps:=a.tmps,params:=ps,assign,body,defers:=w.heap.size}:=⟨_,rfl⟩
 have hj:∀j:Option Ex,(IW j).isNone=j.isNone:=fun j=>by rcases j with _|⟨_|_⟩<;>rfl
 obtain⟨f,first,cap,rfl,he⟩:=hR.run lo (fun s j=>⟨_,by rw[hlo]⟩) (fun x h' K hrec hround=>by
  refine⟨.inr ⟨_,rfl,⟨fun w1 hw1=>?_⟩⟩⟩
  subst hw1
  rw[hlo]at hrec
  have hy:=run_yield (P:=P) (args:=(nR ks x).toArray) hrec (by simp only[dE,tx];rw[←hlen];rfl)
  refine⟨_,_,_,_,hy,fun c cs=>?_⟩
  have hA:Agree N (RG ps.toList (nR ks x) r) {tmps:=(ps.zip (nR ks x).toArray).foldl (fun t (x:Nat×Value)=>t.setIfInBounds x.1 x.2) a.tmps,defers:= []}:=by
   rw[OK]
   exact Fv hps ⟨ha.size,ha.look⟩
  have hfin:∀j:Option Ex,∀W:World,Tame w1 W→(W.heap[w.heap.size+1]?=some (lo .busy none)∧K j.isNone (W.heap.setIfInBounds (w.heap.size+1) (lo (if j.isNone then.ready else.done) j)))→
    ∃v w',(Instr.endRound (w.heap.size+1) (IW j)).run P W=.ok v w'∧∃b,Ending.returned v=.returned (.bool b)∧Tame w1 w'∧K b w'.heap:=by
   rintro j W ht ⟨h1,h2⟩
   rw[hlo]at h1
   have:=run_endRound (P:=P) (IW j) h1
   refine⟨_,_,this,_,rfl,ht.trans (oR ..),?_⟩
   rw[hlo]at h2
   rw[hj]
   exact h2
  have:=roundIn_of_wpIn (F:=FW none) (n:=0) (P:=P) (l:=w.heap.size+1) (f:=fn) (assign:=assign) (body:=body) (w:=w1)
   (tmps:=(ps.zip (nR ks x).toArray).foldl (fun t (x:Nat×Value)=>t.setIfInBounds x.1 x.2) a.tmps)
   (R:=fun e w'=>∃b,e=.returned (.bool b)∧Tame w1 w'∧K b w'.heap) trivial (by
    refine sZ (ro:=some (w.heap.size+1)) hmix assign aa _ _ _ _ w1 _ hround hA (fun ch a w h=>h) ?_ (fun i r' a' w' _ _ h=>h.elim) (fun r' a' w' _ _ h=>h.elim)
    rintro r2 a2 w2 ha2 hf2 ⟨hrec2,hbody⟩
    rw[hlo]at hrec2
    refine⟨_,run_beginRound hrec2 rfl,?_⟩
    have hb:∀o,o=lo .busy none→w2.heap.setIfInBounds (w.heap.size+1) o=w2.heap.setIfInBounds (w.heap.size+1) (lo .busy none):=fun o ho=>by rw[ho]
    refine sZ (ro:=some (w.heap.size+1)) hmix body ab (fun _ h2=>_) (fun e _ h2=>_) _ _ (w2.putObj (w.heap.size+1) _) _ (by
     rw[Ko,hb _ (by rw[hlo])];exact hbody) ha2 (fun ch a w h=>h) ?_ ?_ ?_
    ·rintro r3 a3 w3 ha3 hf3 hk
     exact hfin none w3 ((hf2.tame.trans (oR ..)).trans hf3.tame) hk
    ·rintro i r3 a3 w3 ha3 hf3 hk
     exact hfin (some (.exit i)) w3 ((hf2.tame.trans (oR ..)).trans hf3.tame) hk
    ·rintro r3 a3 w3 ha3 hf3 hk
     exact hfin (some .ret) w3 ((hf2.tame.trans (oR ..)).trans hf3.tame) hk)
  obtain⟨e,w',⟨b,rfl,ht,hK⟩,hs⟩:=this.2 c cs (fun d h=>by simp[FW]at h)
  exact⟨b,w',ht,hK,hs.steps⟩)
 have hrun:=he.run ((w.alloc (.deferred (some []))).alloc (lo .ready none)) rfl;refine⟨w.heap.size+1,[nn w.heap.size],(w.alloc (.deferred (some []))).alloc (lo .ready none),{target:=.fn (.func f) cap,args:=first++ #[.func (.yield (w.heap.size+1)) #[] #[]]},(w.alloc (.deferred (some []))).alloc (lo .ready none),f,
  first++ #[.func (.yield (w.heap.size+1)) #[] #[]]++cap,(w.alloc (.deferred (some []))).alloc (lo .ready none),?_,?_,fun _ _=>trivial,?_,fun h=>by simp[FW]at h,?_⟩
 ·rw[hlo];exact run_enterLoop_outer fn a.tmps ps assign body
 ·have hev:=mn ha hg
  simp[resolve,hev,Deferred.ofValue,Sem.run_pure];rfl
 ·simp[invoke,hrun.1]
 ·refine Fm ?_
  have e:(first.toList++ [Value.func (.yield (w.heap.size+1)) #[] #[]]++cap.toList).toArray=first++ #[.func (.yield (w.heap.size+1)) #[] #[]]++cap:=by apply Array.ext';simp
  rw[←e];refine hrun.2.mono ?_;rintro e w' ⟨ht,t,rfl,s,j,hs,hrec,hfin⟩;have ht':Tame w w':=((Er w _).trans (Er _ _)).trans ht;rw[hlo]at hrec;refine⟨_,_,run_endLoop hrec hs,?_⟩;have ht2:∀o,Tame w (w'.putObj (w.heap.size+1) o):=fun o=>ht'.trans (oR ..)
  have hb:∀o,o=lo .exhausted j→(w'.putObj (w.heap.size+1) o).heap=w'.heap.setIfInBounds (w.heap.size+1) (lo .exhausted j):=fun o ho=>by rw[ho];rfl
  rcases j with _|⟨i|_⟩
  ·exact hn _ (ht2 _) (by rw[hb _ (by rw[hlo])];exact hfin)
  ·exact wpIn_exit (hx i _ (ht2 _) (by rw[hb _ (by rw[hlo])];exact hfin))
  ·exact wpIn_ret (hr _ (ht2 _) (by rw[hb _ (by rw[hlo])];exact hfin))
theorem Iq(hmix:P.follows .mixedOrders=true){n N:Nat}(c:Code):∀(an:Ann) (Kn:List Nat→cD→af→Prop) (Kx:Ex→List Nat→cD→af→Prop) (ms:List Nat) (r:cD) (a:Act) (w:World) (Q:Exit→Act→World→Prop),
  yC P N c an Kn Kx ms r w.heap→Agree N r a→a.defers=ms.map nn→(∀ch a w,¬Q (.panic ch) a w)→
  (∀ms' r' a' w',Agree N r' a'→a'.defers=ms'.map nn→Tame w w'→Kn ms' r' w'.heap→Q .normal a' w')→
  (∀i ms' r' a' w',Agree N r' a'→a'.defers=ms'.map nn→Tame w w'→Kx (.exit i) ms' r' w'.heap→Q (.exit i) a' w')→
  (∀ms' r' a' w',Agree N r' a'→a'.defers=ms'.map nn→Tame w w'→Kx .ret ms' r' w'.heap→Q .ret a' w')→
  c.wpIn (FW none) n P Q a w:=by
 have plain:∀(c:Code) (an:Ann) (Kn:List Nat→cD→af→Prop) (Kx:Ex→List Nat→cD→af→Prop) (ms:List Nat) (r:cD) (a:Act) (w:World) (Q:Exit→Act→World→Prop),
  lT P N c an (Kn ms) (fun e=>Kx e ms) r w.heap→Agree N r a→a.defers=ms.map nn→(∀ch a w,¬Q (.panic ch) a w)→
  (∀ms' r' a' w',Agree N r' a'→a'.defers=ms'.map nn→Tame w w'→Kn ms' r' w'.heap→Q .normal a' w')→
  (∀i ms' r' a' w',Agree N r' a'→a'.defers=ms'.map nn→Tame w w'→Kx (.exit i) ms' r' w'.heap→Q (.exit i) a' w')→
  (∀ms' r' a' w',Agree N r' a'→a'.defers=ms'.map nn→Tame w w'→Kx .ret ms' r' w'.heap→Q .ret a' w')→
  c.wpIn (FW none) n P Q a w:=by
  intro c an Kn Kx ms r a w Q hs ha hd hp hn hx hr;exact sZ hmix c an _ _ r a w Q hs ha hp (fun r' a' w' h1 h2 h3=>hn ms r' a' w' h1 (h2.defers.trans hd) h2.tame h3) (fun i r' a' w' h1 h2 h3=>hx i ms r' a' w' h1 (h2.defers.trans hd) h2.tame h3)
   (fun r' a' w' h1 h2 h3=>hr ms r' a' w' h1 (h2.defers.trans hd) h2.tame h3)
 induction c with
 |skip=>intro an Kn Kx ms r a w Q hs;exact plain _ an Kn Kx ms r a w Q hs
 |region id ops dr=>intro an Kn Kx ms r a w Q hs;exact plain _ an Kn Kx ms r a w Q hs
 |seq x y ihx ihy=>
  intro an Kn Kx ms r a w Q hs ha hd hp hn hx hr;have hs:(bif (bif rY x then true else rY y)then yC P N x an.l (fun ms r' h'=>yC P N y an.r Kn Kx ms r' h') Kx ms r w.heap
   else lT P N (.seq x y) an (Kn ms) (fun e=>Kx e ms) r w.heap):=hs
  cases hb:(bif rY x then true else rY y)with
  |false=>rw[hb]at hs;exact plain _ _ _ _ _ _ _ _ _ hs ha hd hp hn hx hr
  |true=>
   rw[hb,cond_true]at hs;refine wpIn_seq (ihx an.l _ Kx ms r a w _ hs ha hd (fun ch a w=>hp ch a w) ?_ hx hr)
   intro ms1 r1 a1 w1 ha1 hd1 ht1 hs1;exact ihy an.r Kn Kx ms1 r1 a1 w1 Q hs1 ha1 hd1 hp (fun ms' r' a' w' h1 h2 h3 h4=>hn ms' r' a' w' h1 h2 (ht1.trans h3) h4) (fun i ms' r' a' w' h1 h2 h3 h4=>hx i ms' r' a' w' h1 h2 (ht1.trans h3) h4)
    (fun ms' r' a' w' h1 h2 h3 h4=>hr ms' r' a' w' h1 h2 (ht1.trans h3) h4)
 |cond c x y ihx ihy=>
  intro an Kn Kx ms r a w Q hs ha hd hp hn hx hr;have hs:(bif (bif rY x then true else rY y)then
    (match dA r c with
     |some (.bool t)=>CondP t (yC P N x an.l Kn Kx ms r w.heap) (yC P N y an.r Kn Kx ms r w.heap)
     |_=>False)
   else lT P N (.cond c x y) an (Kn ms) (fun e=>Kx e ms) r w.heap):=hs
  cases hb:(bif rY x then true else rY y)with
  |false=>rw[hb]at hs;exact plain _ _ _ _ _ _ _ _ _ hs ha hd hp hn hx hr
  |true=>
   rw[hb,cond_true]at hs;split at hs
   ·rename_i t ht
    exact wpIn_cond_split (mn ha ht) (fun e=>ihx _ Kn Kx ms r a w Q (hs.yes e) ha hd hp hn hx hr) (fun e=>ihy _ Kn Kx ms r a w Q (hs.no e) ha hd hp hn hx hr)
   ·exact hs.elim
 |block id b ih=>
  intro an Kn Kx ms r a w Q hs ha hd hp hn hx hr;have hs:(bif rY b then yC P N b an Kn (fun e ms r' h'=>match e with
    | .exit i=>bif bM i id then Kn ms r' h' else Kx (.exit i) ms r' h'
    | .ret=>Kx .ret ms r' h') ms r w.heap
   else lT P N (.block id b) an (Kn ms) (fun e=>Kx e ms) r w.heap):=hs
  cases hb:rY b with
  |false=>rw[hb]at hs;exact plain _ _ _ _ _ _ _ _ _ hs ha hd hp hn hx hr
  |true=>
   rw[hb,cond_true]at hs;refine wpIn_block (ih an Kn _ ms r a w _ hs ha hd (fun ch a w=>hp ch a w) hn (fun i ms' r' a' w' h1 h2 h3 h4=>?_) hr)
   simp only[Exit.inBlock]at h4⊢;cases hi:bM i id with
   |true=>
    rw[hi,cond_true]at h4;rw[if_pos (bc hi)];exact hn ms' r' a' w' h1 h2 h3 h4
   |false=>
    rw[hi,cond_false]at h4;rw[if_neg (fun e=>by rw[e,rP]at hi;cases hi)]
    exact hx i ms' r' a' w' h1 h2 h3 h4
 |loop b ih=>intro an Kn Kx ms r a w Q hs;exact plain _ an Kn Kx ms r a w Q hs
 |rangeFunc g ps assign body _ _=>
  intro an Kn Kx ms r a w Q hs ha hd hp hn hx hr;cases an with
  |rf ks aa ab=>
   have hs:(bif yJ N ps.toList&&bM ps.toList.length ks.length then
    (match dA r g with
     |some fv=>RangeP P fv ks w.heap (fun JL bz x k h'=>L9 P N ps.toList ks assign body (.node aa ab) r (w.heap.size+1) JL bz x k h')
       (fun h'=>Kn (w.heap.size::ms) r h') (fun i h'=>Kx (.exit i) (w.heap.size::ms) r h') (fun h'=>Kx .ret (w.heap.size::ms) r h')
     |none=>False)else False):=hs
   cases hb:(yJ N ps.toList&&bM ps.toList.length ks.length)with
   |false=>rw[hb]at hs;exact hs.elim
   |true=>
    rw[hb,cond_true]at hs;rw[bd]at hb;split at hs
    ·rename_i fv hfv
      have hA:Agree N r {a with defers:=nn w.heap.size::a.defers}:=⟨ha.size,ha.look⟩;have hD:({a with defers:=nn w.heap.size::a.defers}:Act).defers=(w.heap.size::ms).map nn:=by rw[List.map_cons,←hd]
      exact DB hmix hb.1 (bc hb.2) hfv ha hs (fun w' ht hk=>hn _ r _ w' hA hD ht hk) (fun i w' ht hk=>hx i _ r _ w' hA hD ht hk) (fun w' ht hk=>hr _ r _ w' hA hD ht hk)
    ·exact hs.elim
  |_=>exact hs.elim
 |exit id=>intro an Kn Kx ms r a w Q hs;exact plain _ an Kn Kx ms r a w Q hs
 |scope b _=>intro an Kn Kx ms r a w Q hs;exact hs.elim
 |label l=>intro an Kn Kx ms r a w Q hs;exact plain _ an Kn Kx ms r a w Q hs
 |goto l=>intro an Kn Kx ms r a w Q hs;exact hs.elim
 |ret=>intro an Kn Kx ms r a w Q hs;exact plain _ an Kn Kx ms r a w Q hs
 |refuse why=>intro an Kn Kx ms r a w Q hs;exact hs.elim
theorem yB{fn:Func}{ks:List Kind}{K:cJ ks→af→Prop}{N:Nat}{n:Nat}{r:cD}{a:Act}{w0:World}(ha:Agree N r a):∀(ms:List Nat) (w:World),Tame w0 w→
  N6 ms (fun h'=>ol P r h' fn.results.toList fun vs=>DE ks vs fun t=>K t h') w.heap→
  LeavesInM (FW none) n P fn a.tmps (fun e w'=>Tame w0 w'∧∃t:cJ ks,e=.returned (EL ks (nR ks t))∧K t w'.heap) (ms.map nn) .returning w
 | [],w,ht,h=>by
  obtain⟨t,hrun,hK⟩:=Ke ha h;exact⟨_,hrun,ht,t,rfl,hK⟩
 |D::ms,w,ht,h=>by
  refine⟨by simp,.inl ⟨D,_,rfl,run_takeDeferred h.1,?_⟩⟩;exact yB ha ms (w.putObj D (.deferred none)) (ht.trans (oR ..)) h.2
theorem HE.introM(hmix:P.follows .mixedOrders=true){f:FuncId}{fn:Func}{c:Code}{an:Ann}{args:List Value}{ks:List Kind}{K:cJ ks→af→Prop}{h:af}
  (hf:P.funcs[f]?=some fn)(hb:fn.body=some c)(hcall:∀(args:Array Value)(w:World),(callFunc f args).run P w=.ok(.enter f args) w)(hlen:args.length≤fn.ntmps)
  (hs:Qn P fn c an args ks K h):HE P f args ks K h:=by
 refine⟨fun w hw=>⟨hcall,?_⟩⟩
 subst hw;refine(callsIn_wide(n:=0)).1(callsIn_of_wp_marks(F:=FW none) hf hb trivial ?_ rfl);refine wpIn_mono(Q:=fun e a w'=>(∀ch,e≠ .panic ch)∧bodyPostM(FW none) 0 P fn(fun e w'=>Tame w w'∧∃t:cJ ks,e=.returned(EL ks(nR ks t))∧K t w'.heap) e a w') ?_ fun e a w h=>h.2
 refine Iq hmix c an _ _[] _ _ w _ hs(Nc hlen) rfl(fun ch a w h=>h.1 ch rfl) ?_(fun _ _ _ _ _ _ _ _ h=>h.elim) ?_
 ·intro ms' r' a' w' ha' hd' ht' hk
  refine⟨(fun _ e=>by cases e),?_⟩
  show LeavesInM _ _ _ _ _ _ a'.defers _ _
  rw[hd'];exact yB ha' ms' w' ht' hk
 ·intro ms' r' a' w' ha' hd' ht' hk
  refine⟨(fun _ e=>by cases e),?_⟩
  show LeavesInM _ _ _ _ _ _ a'.defers _ _
  rw[hd'];exact yB ha' ms' w' ht' hk
theorem HC.introM(hmix:P.follows .mixedOrders=true){f:FuncId}{fn:Func}{c:Code}{an:Ann}{args:List Value}{ks:List Kind}{K:cJ ks→af→Prop}{h:af}
 (hf:P.funcs[f]?=some fn)(hb:fn.body=some c)(hcall:∀(args:Array Value)(w:World),(callFunc f args).run P w=.ok(.enter f args) w)(hlen:args.length≤fn.ntmps)
 (hs:Qn P fn c an args ks K h):HC P f args ks K h:=(HE.introM hmix hf hb hcall hlen hs).hc
end Go.Lift
namespace Go.Lift
open Go
def AppP(z:Option(List Value))(sz bytes:Nat)(t:TypeId)(base:Option Addr)(sl sc xl:Nat)(xs:List Value)(h:af)(K:SliceV→af→Prop):Prop:=
 (sl+xl≤sc→dq h base (sl*sz) xs∧cf xs=true∧K ⟨base,sl+xl,sc⟩ (fV h base (sl*sz) xs))∧
 (sc<sl+xl→∃old z',SRow h base (sl*sz) old∧z=some z'∧0<bytes∧Builtin.nextslicecap (sl+xl) sc*bytes≤2^48∧
  ∀nc,sl+xl≤nc→K ⟨some (ag h),sl+xl,nc⟩ (hnew h (old++xs++dz (nc-(sl+xl)) z') t))
end Go.Lift
namespace Go.Lift
open Go
attribute [simp] ar al
theorem ay{p:Prop}[Decidable p]{t e:Prop}(h1:p→t)(h2:¬p→e):CondP (decide p) t e:=CondP.intro (fun h=>h1 (of_decide_eq_true h)) (fun h=>h2 (of_decide_eq_false h))
theorem HC.mono{P:Program}{f:FuncId}{args:List Value}{ks:List Kind}{K K':cJ ks→af→Prop}{h:af}(hc:HC P f args ks K h)(hk:∀t h',K t h'→K' t h'):HC P f args ks K' h:=by
 refine⟨fun w hw=>?_⟩
 rcases hc.run w hw with⟨h1,h2⟩|⟨v,w',h1,h2,t,h3,h4⟩
 ·exact.inl ⟨h1,h2.mono fun e w' ⟨ht,t,he,hK⟩=>⟨ht,t,he,hk t _ hK⟩⟩
 ·exact.inr ⟨v,w',h1,h2,t,h3,hk t _ h4⟩
theorem Join.intro{T:Type}{rest:T→af→Prop}{k:(T→af→Prop)→Prop}(J:T→af→Prop)(h1:∀R:T→af→Prop,(∀t h,J t h→R t h)→k R)(h2:∀t h,J t h→rest t h):Join rest k:=⟨h1 rest h2⟩
theorem Join.plain{T:Type}{rest:T→af→Prop}{k:(T→af→Prop)→Prop}(h:k rest):Join rest k:=⟨h⟩
theorem LoopP.intro{T:Type}{F:(T→af→Prop)→T→af→Prop}{t:T}{h:af}(Inv:T→af→Prop)(m:T→af→Nat)(h0:Inv t h)
  (step:∀I:T→af→Prop,∀t h,Inv t h→(∀t' h',Inv t' h'→m t' h'<m t h→I t' h')→F I t h):LoopP F t h:=by
 refine⟨fun I hI=>?_⟩
 have key:∀n t h,m t h=n→Inv t h→I t h:=by
  intro n;induction n using Nat.strongRecOn with
  |_ n ih=>exact fun t h hn hi=>hI t h (step I t h hi fun t' h' hi' hlt=>ih _ (hn▸hlt) t' h' rfl hi')
 exact key _ t h rfl h0
theorem LoopP.ghost{T G:Type}{F:(T→af→Prop)→T→af→Prop}{t:T}{h:af}(Inv:G→T→af→Prop)(m:G→Nat)(g:G)(h0:Inv g t h)
  (step:∀I:T→af→Prop,∀g t h,Inv g t h→(∀g' t' h',Inv g' t' h'→m g'<m g→I t' h')→F I t h):LoopP F t h:=by
 refine⟨fun I hI=>?_⟩
 have key:∀n g t h,m g=n→Inv g t h→I t h:=by
  intro n;induction n using Nat.strongRecOn with
  |_ n ih=>exact fun g t h hn hi=>hI t h (step I g t h hi fun g' t' h' hi' hlt=>ih _ (hn▸hlt) g' t' h' rfl hi')
 exact key _ g t h rfl h0
theorem HV.mk'{P:Program}{f:FuncId}{first cap:Array Value}{args:List Value}{ks:List Kind}{K:cJ ks→af→Prop}{h:af}(hc:HC P f(first.toList++args++cap.toList) ks K h):HV P (.func (.func f) first cap) args ks K h:=
 ⟨.inl ⟨f,first,cap,rfl,hc⟩⟩
@[simp] theorem cd(b o n:Nat):adr ⟨b,o,none⟩ n=⟨b,o+n,none⟩:=by
 cases n<;>rfl
@[simp] theorem Cc(a:Addr)(n:Nat):(adr a n).block=a.block:=by
 cases n<;>rfl
theorem cH(h:af):ag h=⟨h.size,0,none⟩:=rfl
theorem KU{h:af}{a:Addr}{v:Value}(hv:aN h a=some v):a.block<h.size:=by
 unfold aN at hv;rcases cg a.block h.size with hl|hl
 ·exact hl
 ·rw[le hl]at hv;cases hv
theorem bj{h:af}{b i:Nat}{c:Array Value}{e:TypeId}{fr:Nat×Nat}(hb:h[b]?=some(.cells c e fr)):aN h ⟨b,i,none⟩=c[i]?:=by
 unfold aN;rw[hb];rfl
theorem MS{h h':af}{a:Addr}(hb:h'[a.block]?=h[a.block]?):aN h' a=aN h a:=by
 unfold aN;rw[hb]
theorem uC{h:af}{b i:Nat}{c:Array Value}{e:TypeId}{fr:Nat×Nat}{v:Value}(hb:h[b]?=some(.cells c e fr)):
  hset h ⟨b,i,none⟩ v=h.setIfInBounds b(.cells(c.setIfInBounds i v) e fr):=by
 unfold hset;apply Array.ext_getElem?;intro j;rw[Array.getElem?_modify,fQ];by_cases hj:b=j
 ·subst hj
  have hlt:=(cz.1 hb).1;simp only[hb,if_true,hlt,Option.map_some];rfl
 ·simp[hj]
theorem ir{h:af}{b i:Nat}{c:Array Value}{e:TypeId}(hb:h[b]?=some(.cells c e(0,0)))(hi:i<c.size):Wr h ⟨b,i,none⟩:=by
 refine⟨⟨c[i],by rw[bj hb,ft hi]⟩,?_⟩
 unfold D9;rw[hb];simp
structure Upd(M:Nat→Prop)(h h':af):Prop where
 size:h.size≤h'.size
 same:∀b,b<h.size→¬M b→h'[b]?=h[b]?
abbrev No:Nat→Prop:=fun _=>False
theorem Upd.refl(M:Nat→Prop)(h:af):Upd M h h:=⟨au _,fun _ _ _=>rfl⟩
theorem Upd.trans{M M':Nat→Prop}{h h1 h2:af}(k:Upd M h h1)(l:Upd M' h1 h2)(hs:∀b,M' b→M b∨h.size≤b):Upd M h h2:=
 ⟨bJ k.size l.size,fun b hb hn=>by
  rw[l.same b (Nat.lt_of_lt_of_le hb k.size) (fun hm=>(hs b hm).elim hn fun hge=>absurd hb (Nat.not_lt.2 hge)),k.same b hb hn]⟩
theorem Upd.tr{M:Nat→Prop}{h h1 h2:af}(k:Upd M h h1)(l:Upd M h1 h2):Upd M h h2:=k.trans l fun _ h=>.inl h
theorem Upd.mono{M M':Nat→Prop}{h h':af}(k:Upd M h h')(hs:∀b,M b→M' b∨h.size≤b):Upd M' h h':=
 ⟨k.size,fun b hb hn=>k.same b hb fun hm=>(hs b hm).elim hn fun hge=>absurd hb (Nat.not_lt.2 hge)⟩
theorem Upd.wide{M:Nat→Prop}{h h':af}(k:Upd No h h'):Upd M h h':=k.mono fun _ h=>h.elim
theorem Upd.get{M:Nat→Prop}{h h':af}(k:Upd M h h'){b:Nat}{o:Obj}(ho:h[b]?=some o)(hn:¬M b):h'[b]?=some o:=by
 rw[k.same b(cz.1 ho).1 hn,ho]
theorem Upd.get0{h h':af}(k:Upd No h h'){b:Nat}{o:Obj}(ho:h[b]?=some o):h'[b]?=some o:=k.get ho id
theorem Upd.cell{M:Nat→Prop}{h h':af}(k:Upd M h h'){a:Addr}{v:Value}(hv:aN h a=some v)(hn:¬M a.block):aN h' a=some v:=by
 rw[MS (k.same _ (KU hv) hn),hv]
theorem Upd.cell0{h h':af}(k:Upd No h h'){a:Addr}{v:Value}(hv:aN h a=some v):aN h' a=some v:=k.cell hv id
theorem Upd.push(M:Nat→Prop)(h:af)(o:Obj):Upd M h (h.push o):=⟨by simp,fun b hb _=>by rw[Array.getElem?_push];simp[Nat.ne_of_lt hb]⟩
theorem Upd.set{M:Nat→Prop}(h:af){b:Nat}(o:Obj)(hb:M b):Upd M h (h.setIfInBounds b o):=⟨by simp,fun c _ hn=>by
 rw[fQ]
 have:b≠c:=fun e=>hn (e▸hb)
 simp[this]⟩
theorem Upd.hset{M:Nat→Prop}(h:af){a:Addr}(v:Value)(hb:M a.block):Upd M h (hset h a v):=⟨by simp[Go.Lift.hset],fun c _ hn=>by
 unfold Go.Lift.hset
 rw[Array.getElem?_modify]
 have:a.block≠c:=fun e=>hn (e▸hb)
 simp[this]⟩
theorem Upd.hnew(M:Nat→Prop)(h:af)(cs:List Value)(t:TypeId):Upd M h (hnew h cs t):=Upd.push M h _
theorem bW(h:af)(cs:List Value)(t:TypeId):(hnew h cs t)[h.size]?=some (.cells cs.toArray t (0,0)):=by
 unfold hnew;simp
theorem Kq(h:af)(o:Obj):(h.push o)[h.size]?=some o:=by simp
theorem ja(h:af)(cs:List Value)(t:TypeId):(hnew h cs t).size=h.size+1:=by
 unfold hnew;simp
theorem jo{h:af}{b:Nat}{o o':Obj}(hb:h[b]?=some o'):(h.setIfInBounds b o)[b]?=some o:=by
 rw[fQ];simp[(cz.1 hb).1]
theorem bD{h:af}{b:Nat}{o:Obj}(hb:h[b]?=some o):b<h.size:=(cz.1 hb).1
theorem Row.upd{M:Nat→Prop}{h h':af}{a:Addr}{vs:List Value}(hr:Row h a vs)(k:Upd M h h')(hn:¬M a.block):Row h' a vs:=fun i v hv=>k.cell (hr i v hv) (by rw[Cc];exact hn)
theorem SRow.upd{M:Nat→Prop}{h h':af}{a:Option Addr}{n:Nat}{vs:List Value}(hr:SRow h a n vs)(k:Upd M h h')(hn:vs≠[]→∀b,a=some b→¬M b.block):SRow h' a n vs:=by
 obtain⟨h1,h2⟩:=hr;refine⟨h1,?_⟩;rcases h2 with rfl|⟨b,hb,hr⟩
 ·exact.inl rfl
 ·by_cases hv:vs= []
  ·exact.inl hv
  ·exact.inr ⟨b,hb,hr.upd k (hn hv b hb)⟩
theorem pd{h:af}{b o:Nat}{c:Array Value}{e:TypeId}{fr:Nat×Nat}(hb:h[b]?=some(.cells c e fr)){vs:List Value}(hv:∀i v,vs[i]?=some v→c[o+i]?=some v):Row h ⟨b,o,none⟩ vs:=fun i v hi=>by
 rw[cd,bj hb];exact hv i v hi
structure Sl{α:Type}(f:α→List Value)(sz:Nat)(W:Nat→Prop)(h:af)(s:SliceV)(xs:List α):Prop where
 len:s.len=xs.length
 ne:∀x,(f x).length=sz∧0<sz
 row:xs≠[]→∃a,s.a=some a∧¬W a.block∧Row h a (xs.flatMap f)
theorem Sl.nil{α:Type}{f:α→List Value}{sz:Nat}{W:Nat→Prop}{h:af}{a:Option Addr}{c:Nat}(hf:∀x,(f x).length=sz∧0<sz):Sl f sz W h ⟨a,0,c⟩ []:=⟨rfl,hf,fun h=>absurd rfl h⟩
theorem Sl.lt{α:Type}{f:α→List Value}{sz:Nat}{W:Nat→Prop}{h:af}{s:SliceV}{xs:List α}(hs:Sl f sz W h s xs)(hx:xs≠[]){a:Addr}(ha:s.a=some a):a.block<h.size:=by
 obtain⟨a',ha',hn,hr⟩:=hs.row hx;rw[ha]at ha';cases ha';cases xs with
 |nil=>exact absurd rfl hx
 |cons x xs=>
  have h1:=hs.ne x;cases hf:f x with
  |nil=>rw[hf]at h1;simp at h1;omega
  |cons v vs=>
   have:=hr 0 v (by rw[aX,hf];rfl);have:=KU this;rw[Cc]at this;exact this
theorem Sl.upd{α:Type}{f:α→List Value}{sz:Nat}{W M:Nat→Prop}{h h':af}{s:SliceV}{xs:List α}(hs:Sl f sz W h s xs)(k:Upd M h h')(hm:∀b,M b→W b∨h.size≤b):Sl f sz W h' s xs:=by
 refine⟨hs.len,hs.ne,fun hx=>?_⟩
 obtain⟨a,ha,hn,hr⟩:=hs.row hx;exact⟨a,ha,hn,hr.upd k fun hb=>(hm _ hb).elim hn fun hge=>absurd (hs.lt hx ha) (Nat.not_lt.2 hge)⟩
theorem Sl.less{α:Type}{f:α→List Value}{sz:Nat}{W W':Nat→Prop}{h:af}{s:SliceV}{xs:List α}(hs:Sl f sz W h s xs)(hm:∀b,W' b→W b∨h.size≤b):Sl f sz W' h s xs:=
 ⟨hs.len,hs.ne,fun hx=>let⟨a,ha,hn,hr⟩:=hs.row hx;⟨a,ha,fun hb=>(hm _ hb).elim hn fun hge=>absurd (hs.lt hx ha) (Nat.not_lt.2 hge),hr⟩⟩
theorem mw{α:Type}{f:α→List Value}{sz:Nat}(hsz:∀x,(f x).length=sz):∀xs:List α,(xs.flatMap f).length=xs.length*sz
 | []=>by simp
 |x::xs=>by rw[aX,ad,hsz,mw hsz xs,ao,rO];omega
theorem wP{α:Type}{f:α→List Value}{sz:Nat}(hsz:∀x,(f x).length=sz):∀(xs:List α) (i j:Nat) (x:α),xs[i]?=some x→j<sz→(xs.flatMap f)[i*sz+j]?=(f x)[j]?
 | [],i,j,x,h,_=>by simp at h
 |y::xs,0,j,x,h,hj=>by
  simp only[cF,bm.injEq]at h;subst h;rw[aX,Nat.zero_mul,aQ,bo (by rw[hsz];exact hj)]
 |y::xs,i+1,j,x,h,hj=>by
  rw[kg]at h;rw[aX,aH (by rw[hsz,rO];omega),hsz,show(i+1)*sz+j-sz=i*sz+j by rw[rO];omega]
  exact wP hsz xs i j x h hj
theorem Sl.at{α:Type}{f:α→List Value}{sz:Nat}{W:Nat→Prop}{h:af}{s:SliceV}{xs:List α}(hs:Sl f sz W h s xs){i:Nat}{x:α}(hi:xs[i]?=some x):
  ∃a,s.a=some a∧¬W a.block∧∀j v,(f x)[j]?=some v→aN h(adr(adr a(i*sz)) j)=some v:=by
 obtain⟨a,ha,hn,hr⟩:=hs.row(fun e=>by subst e;simp at hi)
 refine⟨a,ha,hn,fun j v hv=>?_⟩
 have hj:j<sz:=by rw[←(hs.ne x).1];exact(bi.1 hv).1
 rw[AB];exact hr _ v(by rw[wP(fun x=>(hs.ne x).1) xs i j x hi hj];exact hv)
theorem Sl.at0{α:Type}{g:α→Value}{W:Nat→Prop}{h:af}{s:SliceV}{xs:List α}(hs:Sl(fun x=> [g x]) 1 W h s xs){i:Nat}{x:α}(hi:xs[i]?=some x):
  ∃a,s.a=some a∧¬W a.block∧aN h(adr a(i*1))=some(g x):=by
 obtain⟨a,ha,hn,hr⟩:=hs.at hi;exact⟨a,ha,hn,hr 0 _ rfl⟩
theorem Sl.srow{α:Type}{f:α→List Value}{sz:Nat}{W:Nat→Prop}{h:af}{s:SliceV}{xs:List α}(hs:Sl f sz W h s xs):SRow h s.a (s.len*sz) (xs.flatMap f):=by
 refine⟨?_,?_⟩
 ·rw[hs.len,mw fun x=>(hs.ne x).1]
 ·by_cases hx:xs= []
  ·subst hx;exact.inl rfl
  ·obtain⟨a,ha,_,hr⟩:=hs.row hx
   exact.inr ⟨a,ha,hr⟩
theorem Sl.sub{α:Type}{f:α→List Value}{sz:Nat}{W:Nat→Prop}{h:af}{s:SliceV}{xs:List α}(hs:Sl f sz W h s xs){l hi m c:Nat}(h1:l≤hi)(h2:hi≤xs.length)(h3:hi≤m):
  Sl f sz W h ⟨aP s.a l m sz,hi-l,c⟩ ((xs.drop l).take (hi-l)):=by
 refine⟨by simp only[aI,aO];omega,hs.ne,fun hx=>?_⟩
 have hlt:l<hi:=by
  rcases cg l hi with h|h
  ·exact h
  ·rw[Nat.sub_eq_zero_of_le h]at hx;exact absurd List.take_zero hx
 obtain⟨a,ha,hn,hr⟩:=hs.row (fun e=>by rw[e]at h2;simp at h2;omega)
 refine⟨adr a (l*sz),?_,by rw[Cc];exact hn,fun i v hv=>?_⟩
 ·unfold aP
  rw[if_neg (by omega),ha];rfl
 ·rw[AB]
  refine hr _ v ?_;have e:xs=xs.take l++((xs.drop l).take (hi-l)++(xs.drop l).drop (hi-l)):=by rw[aK,aK]
  rw[e,bZ,bZ];have hl:((xs.take l).flatMap f).length=l*sz:=by rw[mw fun x=>(hs.ne x).1,aI];congr 1;omega
  rw[aH (by omega),hl,Nat.add_sub_cancel_left,bo (bi.1 hv).1];exact hv
structure OwnS{α:Type}(f:α→List Value)(sz:Nat)(t:TypeId)(M:Nat→Prop)(h:af)(s:SliceV)(xs:List α):Prop where
 len:s.len=xs.length
 ne:∀x,(f x).length=sz∧0<sz
 cap:s.len≤s.cap
 blk:s.cap=0∨∃b rest,s.a=some ⟨b,0,none⟩∧M b∧h[b]?=some (.cells (xs.flatMap f++rest).toArray t (0,0))∧rest.length=(s.cap-s.len)*sz
theorem OwnS.nil{α:Type}{f:α→List Value}{sz:Nat}{t:TypeId}{M:Nat→Prop}{h:af}{a:Option Addr}(hf:∀x,(f x).length=sz∧0<sz):OwnS f sz t M h ⟨a,0,0⟩ []:=⟨rfl,hf,au _,.inl rfl⟩
theorem OwnS.sl{α:Type}{f:α→List Value}{sz:Nat}{t:TypeId}{M W:Nat→Prop}{h:af}{s:SliceV}{xs:List α}(hs:OwnS f sz t M h s xs)(hm:∀b,M b→b<h.size→¬W b):Sl f sz W h s xs:=by
 refine⟨hs.len,hs.ne,fun hx=>?_⟩
 rcases hs.blk with h0|⟨b,rest,ha,hb,hc,_⟩
 ·have:=hs.len;have:=hs.cap
  have:xs.length=0:=by omega
  exact absurd (av.1 this) hx
 ·exact⟨_,ha,hm b hb (bD hc),pd hc fun i v hv=>by
   rw[aQ,List.getElem?_toArray,bo (bi.1 hv).1];exact hv⟩
theorem OwnS.upd{α:Type}{f:α→List Value}{sz:Nat}{t:TypeId}{M M':Nat→Prop}{h h':af}{s:SliceV}{xs:List α}(hs:OwnS f sz t M h s xs)(k:Upd M' h h')(hm:∀b,M b→¬M' b):OwnS f sz t M h' s xs:=by
 refine⟨hs.len,hs.ne,hs.cap,hs.blk.imp id fun⟨b,rest,ha,hb,hc,hr⟩=>⟨b,rest,ha,hb,k.get hc (hm b hb),hr⟩⟩
theorem OwnS.more{α:Type}{f:α→List Value}{sz:Nat}{t:TypeId}{M M':Nat→Prop}{h:af}{s:SliceV}{xs:List α}(hs:OwnS f sz t M h s xs)(hm:∀b,M b→M' b):OwnS f sz t M' h s xs:=by
 refine⟨hs.len,hs.ne,hs.cap,hs.blk.imp id fun⟨b,rest,ha,hb,hc,hr⟩=>⟨b,rest,ha,hm b hb,hc,hr⟩⟩
theorem OwnS.within{α:Type}{f:α→List Value}{sz:Nat}{t:TypeId}{M:Nat→Prop}{h:af}{s:SliceV}{xs:List α}(hs:OwnS f sz t M h s xs):OwnS f sz t (fun b=>M b∧b<h.size) h s xs:=by
 refine⟨hs.len,hs.ne,hs.cap,hs.blk.imp id fun⟨b,rest,ha,hb,hc,hr⟩=>⟨b,rest,ha,⟨hb,bD hc⟩,hc,hr⟩⟩
theorem ju{b:Nat}{t:TypeId}:∀(vs:List Value) (h:af) (i o:Nat) (c:List Value),h[b]?=some (.cells c.toArray t (0,0))→o+i+vs.length≤c.length→
  aV h ⟨b,o,none⟩ i vs=h.setIfInBounds b (.cells (c.take (o+i)++vs++c.drop (o+i+vs.length)).toArray t (0,0))
 | [],h,i,o,c,hb,hl=>by
  simp only[aV,List.append_nil,aD,iP,aK];apply Array.ext_getElem?;intro j;rw[fQ];split
  ·rename_i e;subst e;rw[hb];simp[bD hb]
  ·rfl
 |v::vs,h,i,o,c,hb,hl=>by
  rw[ao]at hl;simp only[aV];rw[cd,uC hb];have hb':(h.setIfInBounds b (.cells (c.toArray.setIfInBounds (o+i) v) t (0,0)))[b]?=some (.cells (c.set (o+i) v).toArray t (0,0)):=by
   rw[jo hb];simp
  rw[ju vs _ (i+1) o (c.set (o+i) v) hb' (by simp;omega)];have e:∀(x y:Obj),(h.setIfInBounds b x).setIfInBounds b y=h.setIfInBounds b y:=fun x y=>by
   apply Array.ext_getElem?;intro j;simp only[fQ,Array.size_setIfInBounds];split<;>rfl
  rw[e];congr 3
  apply List.ext_getElem?;intro j;simp only[List.getElem?_append,ad,aI,List.length_set,ao,List.getElem?_take,List.getElem?_set,List.getElem?_drop];grind
theorem nK(n:Nat)(z:List Value):(dz n z).length=n*z.length:=by
 unfold dz;induction n with
 |zero=>simp
 |succ n ih=>rw[List.replicate_succ,List.flatten_cons,ad,ih,rO];omega
theorem AppP.own{α:Type}{f:α→List Value}{sz bytes:Nat}{t:TypeId}{M:Nat→Prop}{h:af}{base:Option Addr}{sl sc xl:Nat}{xs ys:List α}{ysv z:List Value}{K:SliceV→af→Prop}
  (hs:OwnS f sz t M h ⟨base,sl,sc⟩ xs)(hxl:xl=ys.length)(hys:ysv=ys.flatMap f)(hone:cf ysv=true)(hz:z.length=sz)(hb:0<bytes)(hfit:(xs.length+ys.length)*bytes≤140737488355328)(hM:M h.size)
  (hk:∀s' h',OwnS f sz t M h' s'(xs++ys)→Upd M h h'→K s' h'):AppP (some z) sz bytes t base sl sc xl ysv h K:=by
 have hlen:sl=xs.length:=hs.len;have hsz:∀x,(f x).length=sz:=fun x=>(hs.ne x).1
 subst hxl hys;have hyl:=mw hsz ys;have hxl:=mw hsz xs;refine⟨fun hin=>?_,fun hout=>?_⟩
 ·rcases hs.blk with h0|⟨b,rest,ha,hb',hc,hr⟩
  ·have h0:sc=0:=h0
   have hy0:ys.length=0:=by omega
   have hx0:xs.length=0:=by omega
   have hy:=av.1 hy0;have hx:=av.1 hx0;subst hy hx;refine⟨.inl rfl,rfl,?_⟩;have e:fV h base (sl*sz) (([]:List α).flatMap f)=h:=by cases base<;>rfl
   rw[e];exact hk _ _ ⟨by simp[hlen],hs.ne,by simp only[aD];omega,.inl h0⟩ (Upd.refl _ _)
  ·have ha:base=some ⟨b,0,none⟩:=ha
   have hr:rest.length=(sc-sl)*sz:=hr;subst ha;have hin':sl+ys.length≤sc:=hin;have hle:ys.length*sz≤rest.length:=by rw[hr];exact Nat.mul_le_mul_right _ (Nat.le_sub_of_add_le (show ys.length+sl≤sc by omega))
   have hbnd:0+sl*sz+(ys.flatMap f).length≤(xs.flatMap f++rest).length:=by
    rw[ad,hxl,hyl,hlen];omega
   refine⟨.inr ⟨_,rfl,fun j hj=>?_⟩,hone,?_⟩
   ·rw[cd]
    refine ir hc ?_;rw[dE];omega
   ·have e:fV h (some ⟨b,0,none⟩) (sl*sz) (ys.flatMap f)=_:=ju (ys.flatMap f) h (sl*sz) 0 _ hc hbnd
    rw[e];have htk:(xs.flatMap f++rest).take (0+sl*sz)=xs.flatMap f:=by
     rw[aQ,hlen,←hxl,List.take_append_of_le_length (au _),List.take_length]
    have hdr:(xs.flatMap f++rest).drop (0+sl*sz+(ys.flatMap f).length)=rest.drop (ys.length*sz):=by
     rw[aQ,hlen,←hxl,List.drop_append,List.drop_eq_nil_of_le (by omega),List.nil_append,hyl];congr 1;omega
    rw[htk,hdr];refine hk _ _ ⟨by simp[hlen],hs.ne,hin,.inr ⟨b,rest.drop (ys.length*sz),rfl,hb',?_,?_⟩⟩ (Upd.set h _ hb')
    ·rw[jo hc,bZ]
    ·rw[aO,hr]
     simp only;rw[show sc-(sl+ys.length)=(sc-sl)-ys.length by omega,Nat.sub_mul (sc-sl)]
 ·have hcs:sc*1≤sc:=by omega
  refine⟨xs.flatMap f,z,?_,rfl,hb,Go.growslice_fits hout (by rw[hlen];exact hfit),fun nc hnc=>?_⟩
  ·exact(hs.sl (W:=No)fun _ _ _=>id).srow
  ·refine hk _ _ ⟨by simp[hlen],hs.ne,hnc,.inr ⟨h.size,dz (nc-(sl+ys.length)) z,rfl,hM,?_,?_⟩⟩ (Upd.hnew M h _ _)
   ·rw[bW,bZ]
   ·rw[nK,hz]
end Go.Lift
