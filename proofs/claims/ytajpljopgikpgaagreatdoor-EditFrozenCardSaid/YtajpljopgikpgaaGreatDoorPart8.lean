/- A part of the proof that the named laws of this program answer true, whatever the input. -/
import Derived.Test.YtajpljopgikpgaaGreatDoorPart6
import Derived.Test.YtajpljopgikpgaaGreatDoorPart7
import Derived.Test.YtajpljopgikpgaaGreatDoorPart2
import Derived.Test.YtajpljopgikpgaaGreatDoorPart0
import Derived.Test.YtajpljopgikpgaaGreatDoorPart4
open BitVec renaming ofInt_natCast→eZ,toNat_ofNat→oq,ofInt→aq
open ByteArray renaming size_extract→eE
open Int renaming toNat_natCast→aO,eq_ofNat_of_zero_le→oB,tdiv→mp,tdiv_eq_ediv_of_nonneg→eY,tmod_eq_emod_of_nonneg→eX
open List renaming getElem?_cons_zero→ce,getElem?_cons_succ→dD,getElem?_eq_getElem→ag,length_filter_le→fy,length_take→aU,take_succ_eq_append_getElem→bN,append_nil→bT,take_of_length_le→bD,getElem_mem→aP,length_append→af,length_singleton→aK,mem_singleton→au,take_length→cd,length_cons→aV,replicate→dQ,replicate_succ→iq,flatten_cons→eN,find?_cons→qH,getElem_of_mem→cD,flatten_append→dW
open Nat renaming zero_le→bo,not_lt_zero→ij,lt_or_ge→bK,le_trans→bv,le_refl→ao,add_zero→cX,mod_eq_of_lt→dw,mul_comm→kQ,pow_succ→mW,pow_add→tC,mod_lt→mh,mul_le_mul_right→ci,add_assoc→lz,add_mul→jD,succ_mul→jB,min_eq_left→bC,pow_le_pow_right→eW
open Option renaming some→bF
namespace Go.Proofs
open Go Go.Lift
theorem Ha:∀{x y:List UInt8} {i:Nat} {a b:UInt8},(∀j,j<i→x[j]? =y[j]?)→x[i]? =some a→y[i]? =some b→a≠b→Op.bytesLess x y=decide (a.toNat<b.toNat)
 | [],_,_,_,_,_,h,_,_=>by simp at h
 |_::_,[],_,_,_,_,_,h,_=>by simp at h
 |c::x,d::y,0,a,b,_,h1,h2,hne=>by
  simp only[ce,bF.injEq]at h1 h2;subst h1 h2;simp only[Op.bytesLess];rw[beq_false_of_ne hne];simp[UInt8.lt_iff_toNat_lt]
 |c::x,d::y,i+1,a,b,he,h1,h2,hne=>by
  have e:=he 0 (by omega);simp only[ce,bF.injEq]at e;subst e;simp only[dD]at h1 h2;simp only[Op.bytesLess];rw[Ha (i:=i) (fun j f=>by simpa using he (j+1) (by omega)) h1 h2 hne]
  simp[UInt8.lt_irrefl]
theorem G9:∀{x y:List UInt8} {i:Nat},(∀j,j<i→x[j]? =y[j]?)→i≤x.length→i≤y.length→(i=x.length∨i=y.length)→Op.bytesLess x y=decide (x.length<y.length)
 | [],[],_,_,_,_,_=>by simp[Op.bytesLess]
 | [],_::_,_,_,_,_,_=>by simp[Op.bytesLess]
 |_::_,[],_,_,_,_,_=>by simp[Op.bytesLess]
 |c::x,d::y,0,_,_,_,h=>by simp at h
 |c::x,d::y,i+1,he,h1,h2,h3=>by
  have e:=he 0 (by omega);simp only[ce,bF.injEq]at e;subst e;simp only[Op.bytesLess];rw[G9 (i:=i) (fun j a=>by simpa using he (j+1) (by omega)) (by simpa using h1) (by simpa using h2) (by simpa using h3)]
  simp[UInt8.lt_irrefl]
theorem JO{a b:ByteArray}(D:a.size≤1000000){h:ad}{K:Bool→ad→Prop}(B:K (decide (kl a b)) h):HC PG vj [.string a,.string b] [.c .bool] K h:=by
 refine Na a b ?_;unfold FA;have C:a.data.toList.length=a.size:=by simp
 have E:b.data.toList.length=b.size:=by simp
 have g:∀{p:Prop} [Decidable p],Op.bytesLess a.data.toList b.data.toList=decide p→K (decide p) h:=fun{p} _ e=>by
  have:decide (kl a b)=decide p:=by
   rw[←e,←ByteArray.toList_eq,←ByteArray.toList_eq];exact Bool.eq_iff_iff.2 (by rw[decide_eq_true_iff];exact Iff.rfl)
  rw[←this];exact B
 refine LoopP.ghost (fun(i:Nat) (t:Int) m=>t=(i:Int)∧i≤a.size∧i≤b.size∧m=h∧∀j,j<i→a.data.toList[j]? =b.data.toList[j]?) (fun i=>a.size-i) 0 ⟨rfl,bo _,bo _,rfl,fun j s=>absurd s (ij _)⟩ ?_
 rintro I i t m ⟨rfl,y,A,rfl,k⟩ z;refine Join.intro (fun t u=>t=decide (i<a.size∧i<b.size)∧u=m) (fun R q=>?_) ?_
 ·refine aQ (fun c=>q _ _ ⟨?_,rfl⟩) fun n=>q _ _ ⟨?_,rfl⟩
  ·rw[decide_eq_decide];omega
  ·rw[eq_comm,decide_eq_false_iff_not];omega
 ·rintro t u ⟨rfl,rfl⟩
  refine aQ (fun c=>?_) fun n=>?_
  ·have v:a.data.toList[i]? =some a[i]:=by rw[←Ks,getElem?_pos a i c.1]
   have o:b.data.toList[i]? =some b[i]:=by rw[←Ks,getElem?_pos b i c.2]
   refine⟨a[i],by omega,by rw[aO,getElem?_pos a i c.1],b[i],by omega,by rw[aO,getElem?_pos b i c.2],?_⟩
   refine CondP.intro (fun f=>?_) fun d=>?_
   ·refine⟨a[i],by omega,by rw[aO,getElem?_pos a i c.1],b[i],by omega,by rw[aO,getElem?_pos b i c.2],?_⟩
    refine g ?_;rw[Ha k v o fun e=>by rw[e]at f;simp at f]
    rw[decide_eq_decide];omega
   ·have d:a[i]=b[i]:=by
     have:((a[i].toNat:Int))=(b[i].toNat:Int):=by simpa using d
     exact UInt8.toNat_inj.1 (by omega)
    rw[cI c.1 (by omega)];refine z (i+1) _ _ ⟨rfl,by omega,by omega,rfl,fun j s=>?_⟩ (by omega)
    rcases bK j i with w|w
    ·exact k j w
    ·have:j=i:=by omega
     subst this;rw[v,o,d]
  ·refine g ?_
   rw[G9 k (by omega) (by omega) (by omega),decide_eq_decide];omega
theorem JQ{W:Nat→Prop}{h:ad}{s:SliceV}{l:List Pr}(A:Sl ge 2 W h s l)(H:l.length≤1000000)(k:ByteArray){K:SliceV→ad→Prop}
  (F:∀s' d,OwnS ge 2 bR (fun y=>h.size≤y) d s' (l.filter fun p=>decide (p.1≠k))→Upd No h d→K s' d):HC PG vl [.slice s.a s.len s.cap,.string k] [.c .slice] K h:=by
 refine Nc s k ?_;unfold FC dH bw aG nv my jS;have B:=A.len;refine LoopP.ghost (fun(i:Nat) (t:SliceV×Int) d=>t.2=(i:Int)∧i≤l.length∧OwnS ge 2 bR (fun y=>h.size≤y) d t.1 ((l.take i).filter fun p=>decide (p.1≠k))∧Upd No h d) (fun i=>l.length-i) 0 ⟨rfl,bo _,by simpa using OwnS.nil jh,Upd.refl _ _⟩ ?_
 rintro I i ⟨L,ti⟩ d ⟨C,hi,j,g⟩ E;simp only at C j;subst C;refine aQ (fun b=>?_) fun w=>?_
 ·have b:i<l.length:=by have:(i:Int)<(s.len:Int):=b;omega
  obtain⟨a,D,_,hv⟩:=(A.upd g fun _ h=>h.elim).at (ag b)
  have v:((l.take i).filter fun p=>decide (p.1≠k)).length≤l.length:=bv (fy ..) (by rw[aU];omega)
  refine Join.intro (fun t m=>OwnS ge 2 bR (fun y=>h.size≤y) m t ((l.take (i+1)).filter fun p=>decide (p.1≠k))∧Upd No h m) (fun R f=>⟨⟨by simp only;omega,by simp only;omega⟩,a,D,l[i].1,hv 0 _ rfl,l[i].2,hv 1 _ rfl,?_⟩) ?_
  ·refine yc (p:=l[i]) fun m b2 n=>⟨_,vc b2 0,?_⟩
   have c:=j.upd n fun _ _ h=>h
   rw[bN b,List.filter_append,List.filter_cons,List.filter_nil]at f;rw[iW];by_cases e:l[i].1=k
   ·rw[decide_eq_true e]
    rw[decide_eq_false (not_not_intro e)]at f;rw[if_neg (by simp),bT]at f;exact aj.2 (f _ _ ⟨c,g.tr n⟩)
   ·rw[decide_eq_false e]
    rw[decide_eq_true e,if_pos rfl]at f;refine ay.2 ⟨_,vc b2 0,_,vc b2 1,bV ?_⟩;refine Aw (p:=l[i]) c (fun y u=>bv (g.tr n).size u) (bv (Nat.add_le_add_right v 1) (by omega)) fun s3 J o z=>f _ _ ⟨o,(g.tr n).trans z fun y u=>.inr u⟩
  ·rintro t m ⟨c,q⟩
   rw[cI b (by omega)];exact E (i+1) _ _ ⟨rfl,b,c,q⟩ (by omega)
 ·have G:i=l.length:=by have:¬(i:Int)<(s.len:Int):=w;omega
  rw[bD (by omega)]at j;exact F _ _ j g
theorem Ti{W:Nat→Prop}{h:ad}{s:SliceV}{l:List Pr}(hs:Sl ge 2 W h s l)(hr:cA l)(hn:l.length≤1000000)(p:Pr)(hp:p.1.size≤1000000){K:SliceV→ad→Prop}
  (hk:∀s' u,OwnS ge 2 bR (fun y=>h.size≤y) u s' (ix p l)→Upd No h u→K s' u):HC PG BS [.slice s.a s.len s.cap,.agg #[.string p.1,.string p.2]] [.c .slice] K h:=by
 refine PS s p ?_;unfold HL dH bw aG nv my jS zE tZ;refine aJ fun h1 b1 k1=>⟨p.1,vc b1 0,?_⟩
 refine JQ (hs.upd k1 fun _ h=>h.elim) hn p.1 fun s4 v V k4=>?_
 rw[←He hr]at hk;have hrf:cA (l.filter fun q=>decide (q.1≠p.1)):=hr.sublist List.filter_sublist
 have hnl:(l.filter fun q=>decide (q.1≠p.1)).length≤1000000:=bv (fy ..) hn
 have N:∀q∈l.filter fun q=>decide (q.1≠p.1),q.1≠p.1:=fun q w=>of_decide_eq_true (List.mem_filter.1 w).2
 generalize l.filter (fun q=>decide (q.1≠p.1))=L at hk V hrf hnl N
 have z:=k1.tr k4;have T:Sl ge 2 No v s4 L:=V.sl fun _ _ _ h=>h
 have hlen:=T.len;have z4:=z.size;refine LoopP.ghost (fun(g:Nat×Bool) (t:SliceV×Bool×Int) u=>t.2.2=(g.1:Int)∧t.2.1=g.2∧g.1≤L.length∧(∃out,OwnS ge 2 bR (fun y=>v.size≤y) u t.1 out∧out.length≤g.1+1∧(g.2=false→out=L.take g.1∧∀q∈L.take g.1,kl q.1 p.1)∧(g.2=true→out=ix p (L.take g.1)∧∃q∈L.take g.1,kl p.1 q.1))∧Upd No v u) (fun g=>L.length-g.1) (0,false) ⟨rfl,rfl,bo _,⟨[],OwnS.nil jh,by simp,fun _=>⟨by simp,by simp⟩,fun h=>by cases h⟩,Upd.refl _ _⟩ ?_
 rintro I ⟨i,pl⟩ ⟨so,tp,ti⟩ u ⟨e1,e2,hi,⟨out,H,P,Z,ht⟩,D⟩ hI;simp only at e1 e2 hi H P Z ht;subst e1 e2;have b':=D.get0 (k4.get0 b1);refine aQ (fun f=>?_) fun hge=>?_
 ·have f:i<L.length:=by have:(i:Int)<(s4.len:Int):=f;omega
  obtain⟨a,ha,_,hv⟩:=(T.upd D fun _ h=>h.elim).at (ag f)
  have d:=bN f;have O:L[i]∈L:=aP f;refine Join.intro (fun t F=>(∃out,OwnS ge 2 bR (fun y=>v.size≤y) F t.1 out∧out.length≤i+1+1∧(t.2=false→out=L.take (i+1)∧∀q∈L.take (i+1),kl q.1 p.1)∧(t.2=true→out=ix p (L.take (i+1))∧∃q∈L.take (i+1),kl p.1 q.1))∧Upd No v F) (fun R hR=>⟨⟨by simp only;omega,by simp only;omega⟩,a,ha,L[i].1,hv 0 _ rfl,L[i].2,hv 1 _ rfl,?_⟩) ?_
  ·refine yc (p:=L[i]) fun F b2 k2=>?_
   have o:=H.upd k2 fun _ _ h=>h
   have m:=D.tr k2;have zb:=aH b2;have z2:=D.size;have hoM:=(H.within.upd k2 fun _ _ h=>h).more (M':=fun y=>(v.size≤y∧y<u.size)∨F.size≤y) fun y b=>.inl b
   have c2:=k2.get0 b';refine Join.intro (fun t C=>(∃out,OwnS ge 2 bR (fun y=>v.size≤y) C t.1 out∧out.length≤i+1∧(t.2=false→out=L.take i∧∀q∈L.take (i+1),kl q.1 p.1)∧(t.2=true→out++ [L[i]]=ix p (L.take (i+1))∧∃q∈L.take (i+1),kl p.1 q.1))∧C[u.size]? =some (.cells #[.string L[i].1,.string L[i].2] bR (0,0))∧Upd No v C) (fun R2 E=>?_) ?_
   ·refine Join.intro (fun t C=>t=(!tp&&decide (kl p.1 L[i].1))∧C=F) (fun R3 M=>?_) ?_
    ·cases tp with
     |false=>exact ay.2 ⟨p.1,vc c2 0,L[i].1,vc b2 0,JO hp (M _ _ ⟨by simp,rfl⟩)⟩
     |true=>exact aj.2 (M _ _ ⟨by simp,rfl⟩)
    ·rintro t C ⟨rfl,rfl⟩
     cases tp with
     |true=>
      obtain⟨e,q,w,X⟩:=ht rfl;refine aj.2 (E _ _ ⟨⟨out,o,P,fun h=>(by cases h),fun _=>?_⟩,b2,m⟩)
      rw[d,e];exact⟨(Km ⟨q,w,X⟩).symm,q,List.mem_append_left _ w,X⟩
     |false=>
      obtain⟨e,c⟩:=Z rfl;subst e;by_cases n:kl p.1 L[i].1
      ·rw[decide_eq_true n]
       refine ay.2 ⟨p.1,vc c2 0,p.2,vc c2 1,bV ?_⟩;refine Aw (p:=p) hoM (fun y b=>.inr b) (by rw[aU];omega) fun s5 h5 k j=>E _ _ ⟨⟨_,k.more (fun y b=>by rcases b with b|b<;>omega),by rw[af,aU,aK];omega,fun h=>(by cases h),fun _=>?_⟩,j.get b2 (by rintro(hx|hx)<;>omega),m.trans j fun y b=>.inr (by rcases b with b|b<;>omega)⟩
       ·rw[d,EG c]
        refine⟨?_,L[i],List.mem_append_right _ (au.2 rfl),n⟩;rw[List.append_assoc,Kk (l:= [L[i]]) fun q w=>by rw[au.1 w];exact n]
        rfl
      ·rw[decide_eq_false n]
       have w:kl L[i].1 p.1:=wF n fun e=>N _ O e.symm
       refine aj.2 (E _ _ ⟨⟨_,o,by rw[aU];omega,fun _=>⟨rfl,fun q J=>?_⟩,fun h=>(by cases h)⟩,b2,m⟩)
       rw[d]at J;rcases List.mem_append.1 J with h|h
       ·exact c q h
       ·rw[au.1 h];exact w
   ·rintro⟨t1,t2⟩ C ⟨⟨out3,G,hol3,S,Y⟩,b3,Q⟩
    simp only at G S Y;refine⟨_,vc b3 0,_,vc b3 1,bV ?_⟩;refine Aw (p:=L[i]) G (fun y b=>bv Q.size b) (by omega) fun s5 h5 k j=>hR _ _ ⟨⟨_,k,by rw[af,aK];omega,fun h=>?_,fun h=>Y h⟩,Q.trans j fun y b=>.inr b⟩
    obtain⟨e,c⟩:=S h;exact⟨by rw[e,d],c⟩
  ·rintro⟨t1,t2⟩ F ⟨o,m⟩
   rw[cI f (by omega)];exact hI (i+1,t2) _ _ ⟨rfl,rfl,f,o,m⟩ (by simp only;omega)
 ·have hil:i=L.length:=by have:¬(i:Int)<(s4.len:Int):=hge;omega
  subst hil;rw[cd]at Z ht;cases tp with
  |true=>
   obtain⟨e,_⟩:=ht rfl;subst e;exact aj.2 (hk _ _ (H.more fun y b=>bv z4 b) (z.tr D))
  |false=>
   obtain⟨e,c⟩:=Z rfl;subst e;refine ay.2 ⟨p.1,vc b' 0,p.2,vc b' 1,bV ?_⟩;refine Aw (p:=p) H (fun y b=>bv D.size b) (by omega) fun s5 h5 k j=>hk _ _ ?_ ((z.tr D).trans j fun y b=>.inr (bv z4 b))
   have:=EG (p:=p) (A:=out) (B:= []) c;rw[bT]at this;rw[this];exact k.more fun y b=>bv z4 b
end Go.Proofs
namespace Go.Proofs
open Go Go.Lift
abbrev Rt:=Int×Int×Int×Int×SliceV
abbrev qt(r:Rt):List Value:= [.int .i64 r.1,.int .u64 r.2.1,.int .u64 r.2.2.1,.int .u64 r.2.2.2.1,.slice r.2.2.2.2.a r.2.2.2.2.len r.2.2.2.2.cap]
abbrev S9(r:Rt):Value:=.agg #[.int .i64 r.1,.int .u64 r.2.1,.int .u64 r.2.2.1,.int .u64 r.2.2.2.1,.slice r.2.2.2.2.a r.2.2.2.2.len r.2.2.2.2.cap]
abbrev P6:Rt:=(0,0,0,0,⟨none,0,0⟩)
def hx(a v:Int):Int:=if a=0 then v else 0
def RefIs(W:Nat→Prop)(h:ad)(a:Int)(x:Hs)(r:Rt)(l:List Pr):Prop:=∃s,r=(a,hx a x.k0,hx a x.k1,hx a x.mask,s)∧Sl ge 2 W h s l∧s.len≤s.cap
theorem RefIs.upd0{W:Nat→Prop}{h b:ad}{a:Int}{x:Hs}{r:Rt}{l:List Pr}(k:Upd No h b)(i:RefIs W h a x r l):RefIs W b a x r l:=
 let⟨s,e,c⟩:=i;⟨s,e,c.1.upd k fun _ h=>h.elim,c.2⟩
theorem RefIs.less{W W':Nat→Prop}{h:ad}(hm:∀b,W' b→W b∨h.size≤b){a:Int}{x:Hs}{r:Rt}{l:List Pr}(i:RefIs W h a x r l):RefIs W' h a x r l:=
 let⟨s,e,c⟩:=i;⟨s,e,c.1.less hm,c.2⟩
theorem RefIs.updM{W M:Nat→Prop}{h d:ad}(k:Upd M h d)(hm:∀b,M b→W b∨h.size≤b){a:Int}{x:Hs}{r:Rt}{l:List Pr}(i:RefIs W h a x r l):RefIs W d a x r l:=
 let⟨s,e,c⟩:=i;⟨s,e,c.1.upd k hm,c.2⟩
theorem Tj{W:Nat→Prop}{x:Hs}{h:ad}{a:Int}(i:a=0∨a=1){K:Rt×Int→ad→Prop}(k:∀h' r,RefIs W h' a x r []→Upd No h h'→K (r,0) h'):HC PG BQ [.int .i64 a,.agg #[.int .u64 x.k0,.int .u64 x.k1,.int .u64 x.mask]] [.agg [.int .i64,.int .u64,.int .u64,.int .u64,.slice],.c (.int .i64)] K h:=by
 refine PO a (x.k0,x.k1,x.mask) ?_;unfold HH bh ah eK zT dK DH;refine aJ fun m b1 k1=>aJ fun n b2 j=>?_
 have c1:=j.get0 b1;have s1:=k1.size;have f:=k1.tr j;rcases i with rfl|rfl
 ·refine ay.2 ⟨_,vc c1 0,_,vc c1 1,_,vc c1 2,?_⟩
  refine cS (c:=qt P6) (vs:=qt (0,x.k0,x.k1,x.mask,⟨none,0,0⟩)) b2 rfl fun g b d=>?_
  exact⟨_,vc b 0,_,vc b 1,_,vc b 2,_,vc b 3,⟨none,0,0⟩,vc b 4,k g (0,x.k0,x.k1,x.mask,⟨none,0,0⟩) ⟨_,rfl,Sl.nil jh,ao _⟩ (f.own d s1)⟩
 ·refine aj.2 (ay.2 ?_)
  refine cS (c:=qt P6) (vs:=qt (1,0,0,0,⟨none,0,0⟩)) b2 rfl fun g b d=>?_
  exact⟨_,vc b 0,_,vc b 1,_,vc b 2,_,vc b 3,⟨none,0,0⟩,vc b 4,k g (1,0,0,0,⟨none,0,0⟩) ⟨_,rfl,Sl.nil jh,ao _⟩ (f.own d s1)⟩
theorem O2{k v:ByteArray}(b:k.size≤256)(c:v.size≤4096){h:ad}{K:Int→ad→Prop}(a:K 0 h):HC PG sH [.string k,.string v] [.c (.int .i64)] K h:=by
 refine CS k v ?_;unfold xh;refine aQ (fun h=>absurd h (by omega)) fun _=>aQ (fun h=>absurd h (by omega)) fun _=>a
theorem QF{W:Nat→Prop}{x:Hs}{h:ad}{a:Int}{r:Rt}{l:List Pr}(i:RefIs W h a x r l)(H:∀y,W y→y<h.size)(G:cA l)(E:l.length≤1000000)(p:Pr)(z:p.1.size≤256)(u:p.2.size≤4096){K:Rt×Int→ad→Prop}
  (I:∀h' r',RefIs W h' a x r' (ix p l)→Upd No h h'→K (r',0) h'):HC PG nY [S9 r,.agg #[.string p.1,.string p.2]] [.agg [.int .i64,.int .u64,.int .u64,.int .u64,.slice],.c (.int .i64)] K h:=by
 refine Ff r p ?_;unfold zo bh ah aG eK cp qK jS dK DH C9 DT tZ;refine aJ fun D b1 k1=>aJ fun B b2 v=>aJ fun Q b3 o=>?_
 have R:=aH b1;have N:=aH b2;have M:=aH b3;have s1:h.size≤D.size:=k1.size;have s2:D.size≤B.size:=v.size;have s3:=o.size;have g:=(k1.tr v).tr o;have C:=o.get0 (v.get0 b1);have q:=o.get0 b2;obtain⟨s,rfl,F,_⟩:=i;refine⟨_,vc q 0,_,vc q 1,O2 z u (aj.2 ?_)⟩;refine⟨s,vc C 4,p.1,vc q 0,p.2,vc q 1,?_⟩;refine Ti (F.upd g fun _ h=>h.elim) G E p (by omega) fun f P w b=>?_
 refine lN (i:=4) (c':=(qt (a,hx a x.k0,hx a x.k1,hx a x.mask,f)).toArray) (b.get0 C) (show 4<5 by decide) rfl fun O n d=>?_
 refine⟨_,vc n 0,_,vc n 1,_,vc n 2,_,vc n 3,f,vc n 4,?_⟩;refine cS (c:=qt P6) (vs:=qt (a,hx a x.k0,hx a x.k1,hx a x.mask,f)) (d.oth (b.get0 b3) (by omega)) rfl fun J j k=>?_
 refine⟨_,vc j 0,_,vc j 1,_,vc j 2,_,vc j 3,f,vc j 4,?_⟩;have m:=(w.upd d fun y A e=>by have e:y=h.size:=e;omega).upd k fun y A e=>by have e:y=B.size:=e;omega
 refine I J (a,hx a x.k0,hx a x.k1,hx a x.mask,f) ⟨f,rfl,m.sl fun y A _ L=>by have:=H y L;omega,m.cap⟩ (((g.tr b).own d (ao _)).own k (by omega))
def po(s:ByteArray):ByteArray:=s.extract 0 (min s.size 30)
theorem ML(s:ByteArray):(po s).size≤30:=by unfold po;rw[eE];omega
end Go.Proofs
namespace Go.Proofs
open Go Go.Lift
end Go.Proofs
namespace Go.Proofs
open Go Go.Lift
end Go.Proofs
namespace Go.Proofs
open Go.Lift
abbrev Ch:=ByteArray×ByteArray×ByteArray×Bool×Bool
end Go.Proofs
namespace Go.Proofs
open Go Go.Lift
end Go.Proofs
namespace Go.Proofs
open Go Go.Lift
theorem L1{h:ad}{b:Nat}{c:Array Value}{t:TypeId}(a:h[b]? =some (.cells c t (0,0))) (hc:0<c.size):eL h ⟨b,0,none⟩:=⟨c,t,a,hc⟩
theorem TrieAt.plain{W:Nat→Prop}{x:Hs}{h:ad}:∀{m b:Nat} {l:List Pr},TrieAt W x h m b l→eL h ⟨b,0,none⟩
 |0,_,_,t=>by obtain⟨_,_,_,a,_⟩:=BuckAt.ex t;exact L1 a (by simp[fM])
 |m+1,_,_,⟨s,nd,_⟩=>by obtain⟨_,_,_,_,_,a,_⟩:=nd.ex;exact L1 a (by simp[fM])
end Go.Proofs
namespace Go.Proofs
open Go Go.Lift
end Go.Proofs
namespace Go.Proofs
open Go Go.Lift
theorem WB{α:Type}{f:α→List Value}{sz:Nat}{W:Nat→Prop}{h:ad}{s:SliceV}{p:α}{l:List α}(a:Sl f sz W h s (p::l))(hc:s.len≤s.cap):Sl f sz W h ⟨bq s.a 1 s.cap sz,s.len-1,s.cap-1⟩ l:=by
 have b:=a.len;rw[aV]at b;have:=Sl.sub a (l:=1) (hi:=s.len) (m:=s.cap) (c:=s.cap-1) (by omega) (by rw[aV];omega) hc;rw[show((p::l).drop 1).take (s.len-1)=l by rw[List.drop_succ_cons,List.drop_zero];exact bD (by omega)]at this
 exact this
theorem RxN.plain{W:Nat→Prop}{h:ad}{b:Nat}{sl:ByteArray}{w:Option ByteArray}{F:Fo}(r:RxN W h b sl w F):eL h ⟨b,0,none⟩:=by
 obtain⟨val,s,ow,ks,a,_⟩:=r;exact L1 a (by simp[xr])
end Go.Proofs
namespace Go.Proofs
open Go Go.Lift
end Go.Proofs
namespace Go.Proofs
open Go Go.Lift
theorem Lw{t:Tr}{h:ad}{K:Int×Int×Int→ad→Prop}(d:∀h',Upd No h h'→K (t.2.1,t.2.2.1,t.2.2.2.1) h'):HC PG nV [GK t] [.agg [.int .u64,.int .u64,.int .u64]] K h:=by
 refine y6 t ?_;unfold rM ah bS eK pj Wg Wh;refine aJ fun g b1 k1=>aJ fun i b2 b=>?_
 have c1:=b.get0 b1;refine⟨_,fI c1 1 0,_,fI c1 1 1,_,fI c1 1 2,?_⟩;refine cS (c:= [.int .u64 0,.int .u64 0,.int .u64 0]) (vs:= [.int .u64 t.2.1,.int .u64 t.2.2.1,.int .u64 t.2.2.2.1]) b2 rfl fun f b3 a=>?_
 exact⟨_,vc b3 0,_,vc b3 1,_,vc b3 2,d f ((k1.tr b).own a k1.size)⟩
end Go.Proofs
namespace Go.Proofs
open Go Go.Lift
end Go.Proofs
namespace Go.Proofs
open Go Go.Lift
theorem SB(n:Nat):dE n [.int .u8 0]=(dQ n (0:UInt8)).flatMap oz:=by
 unfold dE;induction n with
 |zero=>rfl
 |succ n ih=>rw[iq,eN,iq,List.flatMap_cons,ih];rfl
theorem P8{h:ad}{n:Nat}{k:ad→Prop}(b:∀a,Upd No h a→∀s:ByteArray,s.size=n→SRow a (some (aD h)) n (dN s)→k a):At (hnew h (dE n [.int .u8 0]) cz) k:=by
 refine aJ fun a b1 k1=>?_
 rw[SB]at b1;have o:OwnS oz 1 cz (fun _=>True) a ⟨some (aD h),n,n⟩ (dQ n (0:UInt8)):=⟨by simp,qB,ao _,.inr ⟨h.size,[],rfl,trivial,by rw[bT];exact b1,by simp⟩⟩
 have r:=(o.sl (W:=No) fun _ _ _ h=>h).srow
 refine b a k1 ⟨(dQ n (0:UInt8)).toArray⟩ (by show(dQ n (0:UInt8)).toArray.size=n;simp) ?_;rw[sO];simpa using r
end Go.Proofs
namespace Go.Proofs
open Go Go.Lift
theorem NX{h:ad}{r:Rt}{k:ad→Prop}(d:∀h',h'[h.size]? =some (.cells (qt r).toArray bX (0,0))→Upd No h h'→k h'):
  At (hnew h (qt P6) bX) (fun b=>tT b (some (aD h)) 0 (qt r)∧At (gT b (aD h) 0 (qt r)) k):=
 aJ fun b b1 k1=>cS (c:=qt P6) (vs:=qt r) b1 rfl fun f b2 a=>d f b2 (k1.own a (ao _))
end Go.Proofs
namespace Go.Proofs
open Go Go.Lift
end Go.Proofs
namespace Go.Proofs
open Go Go.Lift
abbrev b1:ByteArray:=⟨#[49]⟩
abbrev b2:ByteArray:=⟨#[50]⟩
abbrev b3:ByteArray:=⟨#[51]⟩
end Go.Proofs
namespace Go.Proofs
open Go Go.Lift
def look(l:List Pr)(k:ByteArray):Option ByteArray:=(l.find? fun p=>decide (p.1=k)).map (·.2)
theorem Pk{l:List Pr}{k:ByteArray}(h:cn l k=false):look l k=none:=by
 unfold look;rw[Option.map_eq_none_iff,List.find?_eq_none];intro p a;unfold cn at h;rw[List.any_eq_false]at h;exact h p a
theorem BG:∀{l:List Pr} {k v:ByteArray},cA l→(k,v)∈l→look l k=some v
 |p::l,k,v,a,h=>by
  have a:=List.pairwise_cons.1 a;unfold look;rw[qH];rcases List.mem_cons.1 h with e|h
  ·subst e;simp
  ·have b:p.1≠k:=fun e=>by
    have:=a.1 _ h;simp only at this;rw[e]at this;exact cO _ this
   rw[decide_eq_false b];exact BG a.2 h
theorem N1{l:List Pr}(a:cA l){k v:ByteArray}(b:cn l k=true→(k,v)∈l)(c:cn l k=false→v=⟨#[]⟩):((look l k).getD ⟨#[]⟩,(look l k).isSome)=(v,cn l k):=by
 cases ht:cn l k with
 |true=>rw[BG a (b ht)];rfl
 |false=>rw[Pk ht,c ht];rfl
theorem Pj{x:Hs}{lev:Nat}{l:List Pr}{k:ByteArray}:look (part x lev (ck x lev k) l) k=look l k:=by
 unfold look part;congr 1
 rw[List.find?_filter];congr 1
 funext p;by_cases e:p.1=k
 ·rw[e];simp
 ·simp[e]
theorem KJ{W:Nat→Prop}{x:Hs}{h:ad}{b:Nat}{l:List Pr}(t:TrieAt W x h 13 b l)(hW:∀y,W y→y<h.size)(Z:cA l)(X:l.length≤1000000)(k:ByteArray){K:ByteArray×Bool→ad→Prop}
  (P:∀D,Upd No h D→K ((look l k).getD ⟨#[]⟩,(look l k).isSome) D):HC PG wW [.agg #[.int .u64 x.k0,.int .u64 x.k1,.int .u64 x.mask],.pointer (some ⟨b,0,none⟩),.string k] [.c .str,.c .bool] K h:=by
 refine K8 (x.k0,x.k1,x.mask) (some ⟨b,0,none⟩) k ?_;unfold C5 ah aG nv zT vH wm my tZ iR lR;refine aJ fun h1 b1 k1=>⟨_,vc b1 0,_,vc b1 1,_,vc b1 2,?_⟩
 refine sA fun h2 k2=>?_
 have u:=k1.tr k2;refine SZ (.inr ⟨b,rfl,TrieAt.upd0 u t⟩) (fun y hy=>Nat.lt_of_lt_of_le (hW y hy) u.size) fun h3 b3 t3 k3 _=>?_
 have R:=u.tr k3;refine LoopP.ghost (fun(g:Nat×Nat×List Pr) (t:Option Addr×Int) D=>t=(some ⟨g.2.1,0,none⟩,((13-g.1:Nat):Int))∧g.1≤13∧TrieAt W x D g.1 g.2.1 g.2.2∧cA g.2.2∧g.2.2.length≤1000000∧look g.2.2 k=look l k∧Upd No h D) (fun g=>g.1) (13,b3,l)
  ⟨rfl,ao _,t3,Z,X,rfl,R⟩ ?_
 rintro I ⟨m,c,C⟩ t h4 ⟨rfl,hm,tm,j,E,q,G⟩ Y;simp only at hm tm j E q;rcases m with _|m
 ·obtain⟨sp,sk,ow,L,_⟩:=BuckAt.ex tm
  refine gt L (ay.2 (Q5 tm j (by omega) k fun T v N w z=>?_))
  have:=P T (G.tr N);rw[←q,N1 j w z]at this;exact this
 ·obtain⟨s,F,J⟩:=tm
  have J:∀c,c<32→SlotIs W x h4 m s c (part x (12-m) c C):=J;obtain⟨d,n,sp,sk,ow,L,_⟩:=F.ex;refine gt L (aj.2 ?_);refine PC (by omega) ?_;rw[show 13-(m+1)=12-m by omega]
  have hi:=yg x (12-m) k;have o:=J _ hi;have f:look (part x (12-m) (ck x (12-m) k) C) k=look l k:=by rw[Pj,q]
  have B:cA (part x (12-m) (ck x (12-m) k) C):=px j;have A:(part x (12-m) (ck x (12-m) k) C).length≤1000000:=bv jW E;generalize part x (12-m) (ck x (12-m) k) C=lp at o f B A;generalize ck x (12-m) k=i at hi o;refine zZ F hi fun T N=>?_
  refine yc fun H O V=>?_
  have a:=N.tr V;rcases o with⟨Q,w,z⟩|⟨p,Q,w,z⟩|⟨_,w,S,z,tk⟩
  ·rw[w]
   refine aj.2 (Aa (F.upd a fun _ h=>h.elim) hi ?_)
   rw[z];refine ay.2 ?_;have:=P H (G.tr a);rw[←f,Q]at this;exact this
  ·rw[w]at O⊢
   refine ay.2 ⟨p.1,vc O 0,?_⟩;rw[iW];have:=P H (G.tr a);rw[←f,Q]at this;by_cases e:p.1=k
   ·rw[decide_eq_true e]
    refine aj.2 ⟨p.2,vc O 1,?_⟩;have M:look [p] k=some p.2:=by unfold look;rw[qH,decide_eq_true e];rfl
    rw[M]at this;exact this
   ·rw[decide_eq_false e]
    have M:look [p] k=none:=by unfold look;rw[qH,decide_eq_false e];rfl
    rw[M]at this;exact ay.2 this
  ·rw[w]
   refine aj.2 (Aa (F.upd a fun _ h=>h.elim) hi ?_)
   rw[z];refine aj.2 ?_;have ew:IntKind.wrap .i64 (((13-(m+1):Nat):Int)+1)=((13-m:Nat):Int):=by rw[oD (by omega)];omega
   rw[show 13-(m+1)=12-m by omega]at ew
   show I (some ⟨S,0,none⟩,IntKind.wrap .i64 (((12-m:Nat):Int)+1)) H
   rw[ew];exact Y (m,S,lp) _ H ⟨rfl,by simp only;omega,TrieAt.upd0 a tk,B,A,f,G.tr a⟩ (by simp only;omega)
abbrev Sd:=ByteArray×Bool
end Go.Proofs
namespace Go.Proofs
open Go Go.Lift
theorem QJ{W:Nat→Prop}{h:ad}{s:SliceV}{l:List Pr}(m:Sl ge 2 W h s l)(F:cA l)(E:Fit l)(J:l.length≤1000000)(k:ByteArray){K:Int×Bool→ad→Prop}
  (C:∀i:Nat,(cn l k=true→∃hi:i<l.length,l[i].1=k)→K ((i:Int),cn l k) h):HC PG yV [.slice s.a s.len s.cap,.string k] [.c (.int .i64),.c .bool] K h:=by
 refine Nb s k ?_;unfold FB dH bw jS;have A:=m.len;refine LoopP.ghost (fun(i:Nat) (t:Int) o=>t=(i:Int)∧i≤l.length∧o=h∧∀j (c:j<l.length),j<i→kl l[j].1 k) (fun i=>l.length-i) 0 ⟨rfl,bo _,rfl,fun j c h=>by omega⟩ ?_
 rintro I i t o ⟨rfl,hi,rfl,d⟩ D;refine Join.intro (fun t B=>B=o∧(t=true↔∃hi:i<l.length,kl l[i].1 k)) (fun R z=>?_) ?_
 ·refine aQ (fun b=>?_) fun v=>z _ _ ⟨rfl,⟨fun h=>(by cases h),fun⟨hi,_⟩=>by omega⟩⟩
  have b:i<l.length:=by omega
  obtain⟨a,n,_,hv⟩:=m.at (ag b);have G:=(E _ (aP b)).1;refine⟨⟨by omega,by omega⟩,a,n,l[i].1,hv 0 _ rfl,JO (by omega) (z _ _ ⟨rfl,?_⟩)⟩
  rw[decide_eq_true_iff];exact⟨fun h=>⟨b,h⟩,fun⟨_,h⟩=>h⟩
 ·rintro t B ⟨rfl,g⟩
  cases t with
  |true=>
   obtain⟨b,y⟩:=g.1 rfl;refine ay.2 ?_;rw[yz b (by omega)];refine D (i+1) _ _ ⟨rfl,b,rfl,fun j c H=>?_⟩ (by omega)
   rcases bK j i with h|h
   ·exact d j c h
   ·have:j=i:=by omega
    subst this;exact y
  |false=>
   refine aj.2 (aQ (fun b=>?_) fun v=>?_)
   ·have b:i<l.length:=by omega
    have u:¬kl l[i].1 k:=fun h=>by have:=g.2 ⟨b,h⟩;cases this
    obtain⟨a,n,_,hv⟩:=m.at (ag b);refine⟨⟨by omega,by omega⟩,a,n,l[i].1,hv 0 _ rfl,?_⟩
    rw[iW];have e:decide (l[i].1=k)=cn l k:=by
     by_cases e:l[i].1=k
     ·rw[decide_eq_true e]
      exact(List.any_eq_true.2 ⟨_,aP b,decide_eq_true e⟩).symm
     ·rw[decide_eq_false e]
      refine(zY fun q p f=>?_).symm
      obtain⟨j,c,rfl⟩:=cD p;have w:=wF u e;rcases Nat.lt_trichotomy j i with h|h|h
      ·have:=d j c h;rw[f]at this;exact cO _ this
      ·subst h;exact e f
      ·have:=List.pairwise_iff_getElem.1 F i j b c h
       rw[f]at this;exact cO _ (jY w this)
    rw[e];exact C i fun g=>⟨b,of_decide_eq_true (e.trans g)⟩
   ·have e:cn l k=false:=zY fun q p f=>by
     obtain⟨j,c,rfl⟩:=cD p;have:=d j c (by omega);rw[f]at this;exact cO _ this
    have:=C i fun h=>by rw[e]at h;cases h
    rw[e]at this;exact this
theorem NO{W:Nat→Prop}{h:ad}{s:SliceV}{l:List Pr}(f:Sl ge 2 W h s l)(n:cA l)(m:Fit l)(o:l.length≤1000000)(k:ByteArray){K:ByteArray×Bool→ad→Prop}
  (c:∀v,(cn l k=true→(k,v)∈l)→(cn l k=false→v=⟨#[]⟩)→K (v,cn l k) h):HC PG uh [.slice s.a s.len s.cap,.string k] [.c .str,.c .bool] K h:=by
 refine PT s k ?_;unfold HM dH bw zE;have g:=f.len;refine QJ f n m o k fun i hi=>?_
 cases ht:cn l k with
 |false=>rw[ht]at c;exact ay.2 (c _ (fun h=>(by cases h)) fun _=>rfl)
 |true=>
  rw[ht]at c;obtain⟨b,d⟩:=hi ht;obtain⟨a,j,_,hv⟩:=f.at (ag b);refine aj.2 ⟨⟨by simp only;omega,by simp only;omega⟩,a,j,l[i].2,hv 1 _ rfl,c _ (fun _=>by rw[←d];exact aP b) fun h=>(by cases h)⟩
end Go.Proofs
namespace Go.Proofs
open Go Go.Lift
theorem Pl(p:Pr)(l:List Pr)(k:ByteArray):look (p::l) k=if p.1=k then some p.2 else look l k:=by
 unfold look;rw[qH];by_cases e:p.1=k
 ·rw[decide_eq_true e,if_pos e];rfl
 ·rw[decide_eq_false e,if_neg e]
theorem Kg{k v:ByteArray}:∀{l:List Pr},look l k=some v→(k,v)∈l
 | [],h=>by cases h
 |p::l,h=>by
  rw[Pl]at h;by_cases e:p.1=k
  ·rw[if_pos e]at h;cases h;rw[←e];exact List.mem_cons_self ..
  ·rw[if_neg e]at h;exact List.mem_cons_of_mem _ (Kg h)
def UG(c:Ch):Bool:=(!((!c.2.2.2.1&& !c.2.2.2.2)||(c.2.2.2.1&&(c.2.2.2.2&&decide (c.2.1=c.2.2.1)))))&&((c.2.2.2.1||decide (c.2.1=⟨#[]⟩))&&(c.2.2.2.2||decide (c.2.2.1=⟨#[]⟩)))
def one(c:Ch):Option Ch:=if UG c then some c else none
end Go.Proofs
namespace Go.Proofs
open Go Go.Lift
end Go.Proofs
namespace Go.Proofs
open Go Go.Lift
end Go.Proofs
namespace Go.Proofs
open Go Go.Lift
theorem xu{W:Nat→Prop}{x:Hs}{h:ad}{a:Int}{r:Rt}{l:List Pr}(i:RefIs W h a x r l)(s:∀y,W y→y<h.size)(q:cA l)(o:l.length≤1000000)(p:Pr){K:Rt×Int→ad→Prop}
  (b:∀h' r',RefIs W h' a x r' (lQ l p)→Upd No h h'→K (r',Bl p) h'):HC PG nY [S9 r,.agg #[.string p.1,.string p.2]] [.agg [.int .i64,.int .u64,.int .u64,.int .u64,.slice],.c (.int .i64)] K h:=by
 unfold lQ at b;by_cases e:Bl p=0
 ·rw[if_pos e]at b
  have m:=GU e;rw[e]at b;exact QF i s q o p m.1 m.2 b
 ·rw[if_neg e]at b
  refine Ff r p ?_;unfold zo bh ah aG eK cp qK jS dK DH C9 DT tZ;refine aJ fun v b1 k1=>aJ fun u b2 k=>aJ fun w b3 j=>?_
  have s2:h.size≤u.size:=(k1.tr k).size;have g:=(k1.tr k).tr j;have c1:=j.get0 (k.get0 b1);have c2:=j.get0 b2;refine⟨_,vc c2 0,_,vc c2 1,Tg (p:=p) ?_⟩;rw[show(Bl p !=0)=true by simpa using e]
  refine ay.2 ⟨_,vc c1 0,_,vc c1 1,_,vc c1 2,_,vc c1 3,r.2.2.2.2,vc c1 4,?_⟩;refine cS (c:=qt P6) (vs:=qt r) b3 rfl fun n d f=>?_
  exact⟨_,vc d 0,_,vc d 1,_,vc d 2,_,vc d 3,r.2.2.2.2,vc d 4,b n r (i.upd0 (g.own f s2)) (g.own f s2)⟩
theorem zR{W:Nat→Prop}{x:Hs}{h:ad}{a:Int}{r:Rt}{l:List Pr}(i:RefIs W h a x r l)(I:∀y,W y→y<h.size)(H:cA l)(G:Fit l)(A:l.length≤1000000)(k:ByteArray){K:Rt×Int→ad→Prop}
  (g:∀h' r',RefIs W h' a x r' (oy l k)→Upd No h h'→K (r',BU l k) h'):HC PG pZ [S9 r,.string k] [.agg [.int .i64,.int .u64,.int .u64,.int .u64,.slice],.c (.int .i64)] K h:=by
 unfold oy BU at g;refine Gp r k ?_;unfold yv bh ah eK cp dK DH C9 DT zE;refine aJ fun E b1 k1=>aJ fun P b2 D=>?_
 have Q:=aH b1;have N:=aH b2;have s1:h.size≤E.size:=k1.size;have b:=k1.tr D;have c1:=D.get0 b1;refine aQ (fun e=>?_) fun e=>?_
 ·have e:256<k.size:=by omega
  rw[if_pos e,if_pos e]at g;refine⟨_,vc c1 0,_,vc c1 1,_,vc c1 2,_,vc c1 3,r.2.2.2.2,vc c1 4,?_⟩;refine cS (c:=qt P6) (vs:=qt r) b2 rfl fun u d f=>?_
  exact⟨_,vc d 0,_,vc d 1,_,vc d 2,_,vc d 3,r.2.2.2.2,vc d 4,g u r (i.upd0 (b.own f s1)) (b.own f s1)⟩
 ·have e:¬256<k.size:=by omega
  rw[if_neg e,if_neg e]at g;have F:=i;obtain⟨s,rfl,B,hc⟩:=i;refine⟨s,vc c1 4,NO (B.upd b fun _ h=>h.elim) H G A k fun v _ _=>?_⟩
  cases hth:cn l k with
  |false=>
   rw[hth]at g;refine ay.2 ⟨_,vc c1 0,_,vc c1 1,_,vc c1 2,_,vc c1 3,s,vc c1 4,?_⟩;refine cS (c:=qt P6) (vs:=qt (a,hx a x.k0,hx a x.k1,hx a x.mask,s)) b2 rfl fun u d f=>?_
   refine⟨_,vc d 0,_,vc d 1,_,vc d 2,_,vc d 3,s,vc d 4,g u _ ?_ (b.own f s1)⟩;rw[wZ (zJ hth)];exact F.upd0 (b.own f s1)
  |true=>
   rw[hth]at g;refine aj.2 ⟨s,vc c1 4,JQ (B.upd b fun _ h=>h.elim) A k fun o u z w=>?_⟩
   refine lN (i:=4) (c':=(qt (a,hx a x.k0,hx a x.k1,hx a x.mask,o)).toArray) (w.get0 c1) (show 4<5 by decide) rfl fun O q j=>?_
   have M:=w.size;refine⟨_,vc q 0,_,vc q 1,_,vc q 2,_,vc q 3,o,vc q 4,?_⟩;refine cS (c:=qt P6) (vs:=qt (a,hx a x.k0,hx a x.k1,hx a x.mask,o)) (j.oth (w.get0 b2) (by omega)) rfl fun J m n=>?_
   refine⟨_,vc m 0,_,vc m 1,_,vc m 2,_,vc m 3,o,vc m 4,?_⟩;have p:=(z.upd j fun y C e=>by have e:y=h.size:=e;omega).upd n fun y C e=>by have e:y=E.size:=e;omega
   exact g J _ ⟨o,rfl,p.sl fun y C _ L=>by have:=I y L;omega,p.cap⟩ (((b.tr w).own j (ao _)).own n s1)
end Go.Proofs
namespace Go.Proofs
open Go Go.Lift
theorem Uw(t:Tr):(jT t).length=6∧0<6:=⟨rfl,by omega⟩
theorem UF(r:Rt):(qt r).length=5∧0<5:=⟨rfl,by omega⟩
abbrev Vr:=Tr×Rt×List Pr
end Go.Proofs
namespace Go.Proofs
open Go Go.Lift
theorem Qw(x:Hs)(lev:Nat)(l:List Pr):(fS x lev l).length+(jJ x lev l).flatten.length=l.length:=by
 have h:=rl x lev l 32;have d:(l.filter fun p=>decide (ck x lev p.1<32))=l:=List.filter_eq_self.2 fun p _=>decide_eq_true (yg ..)
 rw[d]at h;have:∀n,(fm (fun c=>gI (part x lev c l)) n).length+(fm (fun c=>eJ (part x lev c l)) n).flatten.length=((List.range n).map fun c=>(part x lev c l).length).sum:=by
  intro n;induction n with
  |zero=>simp[fm]
  |succ n ih=>
   rw[gg,gg,List.range_succ,List.map_append,List.sum_append];simp only[af,dW,List.map_cons,List.map_nil,List.sum_cons,List.sum_nil,cX];generalize part x lev n l=q;have:(gI q).toList.length+(eJ q).toList.flatten.length=q.length:=by
    match q with
    | []=>simp[gI,eJ]
    | [a]=>simp[gI,eJ]
    |a::b::q=>simp[gI,eJ]
   omega
 have:=this 32;unfold fS jJ;omega
theorem Mg{W:Nat→Prop}{x:Hs}{h:ad}{m:Nat}{ks:List (Option Addr)}:∀{ls:List (List Pr)},KidsAt W x h m ks ls→ks.length=ls.length∧∀i (hi:i<ls.length),∃b,ks[i]? =some (some ⟨b,0,none⟩)∧TrieAt W x h m b ls[i]:=by
 induction ks with
 |nil=>intro ls;cases ls with
  |nil=>intro _;exact⟨rfl,fun i hi=>absurd hi (ij _)⟩
  |cons a ls=>intro h;exact h.elim
 |cons k ks ihk=>intro ls;cases ls with
  |nil=>intro h;exact h.elim
  |cons a ls=>
   rintro⟨⟨b,rfl,tk⟩,h⟩;obtain⟨e,c⟩:=ihk h;refine⟨by simp[e],fun i hi=>?_⟩
   cases i with
   |zero=>exact⟨b,rfl,tk⟩
   |succ i=>simp only[dD,List.getElem_cons_succ];exact c i (by simpa using hi)
theorem Tv{x:Hs}{W:Nat→Prop}:∀(m:Nat),m≤13→∀{b:Nat} {l:List Pr} {h:ad},TrieAt W x h m b l→l.length≤60000→∀{K:Int→ad→Prop},(∀j,Upd No h j→K (l.length:Int) j)→HC PG sJ [.pointer (some ⟨b,0,none⟩)] [.c (.int .i64)] K h:=by
 intro m;induction m with
 |zero=>
  intro _ b l h t S K O;refine CT _ ?_;unfold xj bJ dH;have bk:∀{j},Upd No h j→BuckAt W j b l:=fun k=>BuckAt.upd t k fun _ h=>h.elim
  obtain⟨sp,sk,ow,v,p,hsk,_⟩:=(bk (Upd.refl No h)).ex;refine qf v p (by omega) fun s1 h1 s k1=>?_
  obtain⟨F,G,M,u,Z,o,_⟩:=(bk k1).ex;refine Is u o (by simp) fun s2 y q B=>?_
  have A:=q.len;rw[List.length_nil]at A;refine LoopP.ghost (fun(_:Unit) (t:Int×Int) j=>t=((s1.len:Int),0)∧j=y) (fun _=>0) () ⟨rfl,rfl⟩ ?_
  rintro I _ t C ⟨rfl,e⟩ X;rw[e];refine aQ (fun f=>absurd f (by simp only;omega)) fun _=>?_
  simp only;rw[s.len];exact O y (k1.tr B)
 |succ m ih=>
  intro hm b l h t S K O;refine CT _ ?_;unfold xj bJ dH;obtain⟨sl,nd,J⟩:=t;have T:∀c,c<32→SlotIs W x h m sl c (part x (12-m) c l):=J;have hd:∀{j},Upd No h j→∃d n sp sk ow,j[b]? =some (.cells (fM d n sp sk false ow) bQ (0,0))∧Sl ge 2 W j sp (fS x (12-m) l)∧Sl qu 1 W j sk (fm sl.k 32):=fun{j} k=>by
   obtain⟨d,n,sp,sk,ow,v,bits,C,Y,_⟩:=(nd.upd k fun _ h=>h.elim).ex
   refine⟨d,n,sp,sk,ow,v,?_,Y⟩;rw[←Ds T];exact C
  have E:KidsAt W x h m (fm sl.k 32) (jJ x (12-m) l):=Mh 32 T;have w:∀L∈jJ x (12-m) l,L.length≤60000:=fun L hL=>by
   obtain⟨_,c,rfl⟩:=pC hL;exact bv jW S
  have H:=Qw x (12-m) l;obtain⟨Q,z⟩:=Mg E;generalize fS x (12-m) l=So at hd H;generalize jJ x (12-m) l=Ma at w H Q z;obtain⟨d,n,sp,sk,ow,v,p,_⟩:=hd (Upd.refl No h);refine qf v p (by omega) fun s1 h1 s k1=>?_
  obtain⟨d1,n1,F,G,M,u,_,o⟩:=hd k1;have V:=wJ (g:=sl.k);refine Is u o (by omega) fun s2 y q B=>?_
  have S2:Sl qu 1 No y s2 (fm sl.k 32):=q.sl fun _ _ _ h=>h
  have hlk:=S2.len;refine LoopP.ghost (fun(i:Nat) (t:Int×Int) j=>t.1=((So.length+(Ma.take i).flatten.length:Nat):Int)∧t.2=(i:Int)∧i≤Ma.length∧Upd No y j) (fun i=>Ma.length-i) 0 ⟨by rw[s.len];simp,rfl,bo _,Upd.refl _ _⟩ ?_
  rintro I i ⟨tn,ti⟩ C ⟨e1,A,hi,D⟩ X;simp only at e1 A;subst e1 A;refine aQ (fun f=>?_) fun N=>?_
  ·have f:i<Ma.length:=by simp only at f;omega
   obtain⟨kb,P,tk⟩:=z i f;obtain⟨a,ha,_,hv⟩:=(S2.upd D fun _ h=>h.elim).at0 P
   refine⟨⟨by simp only;omega,by simp only;omega⟩,a,ha,some ⟨kb,0,none⟩,hv,?_⟩
   have p:(Ma.take i).flatten.length+Ma[i].length≤Ma.flatten.length:=by
    have e:Ma=Ma.take i++Ma[i]::Ma.drop (i+1):=by rw[List.getElem_cons_drop,List.take_append_drop]
    have:=congrArg (fun L=>(List.flatten L).length) e
    simp only[dW,eN,af]at this;omega
   refine ih (by omega) (TrieAt.upd0 ((k1.tr B).tr D) tk) (w _ (aP f)) fun Y k4=>?_
   simp only;rw[cI f (by omega),oD (by omega)];refine X (i+1) _ _ ⟨?_,rfl,f,D.tr k4⟩ (by omega);rw[bN f,dW];simp only[eN,List.flatten_nil,bT,af];omega
  ·have R:i=Ma.length:=by simp only at N;omega
   subst R;simp only;rw[cd,H];exact O C ((k1.tr B).tr D)
theorem NM{W:Nat→Prop}{x:Hs}{h:ad}{a:Int}{t:Tr}{l:List Pr}(i:TreeIs W h a x t l)(j:cA l)(d:l.length≤60000){K:Int→ad→Prop}(f:∀h',Upd No h h'→K (l.length:Int) h'):HC PG kW [GK t] [.c (.int .i64)] K h:=by
 rcases i with⟨rfl,b,rfl,c⟩|⟨rfl,b,rfl,c⟩
 ·refine vO _ ?_
  unfold qD bh aI pj;refine aJ fun m b1 k1=>⟨_,vc b1 0,aj.2 ⟨_,vc b1 4,?_⟩⟩
  exact Tv 13 (ao _) (TrieAt.upd0 k1 c) d fun k g=>f k (k1.tr g)
 ·exact Qu (x:=x) (.inr ⟨rfl,b,rfl,c⟩) j d f
end Go.Proofs
namespace Go.Proofs
open Go Go.Lift
theorem Nz(n:Nat):IntKind.wrap .u64 (n:Int)=((n%18446744073709551616:Nat):Int):=by rw[IntKind.wrap_u64];omega
theorem zD{n:Nat}(h:n<18446744073709551616):IntKind.wrap .u64 (n:Int)=(n:Int):=by rw[Nz,dw h]
theorem Es{a b:Nat}(c:a<18446744073709551616)(d:b<18446744073709551616):Eu a b=((a|||b:Nat):Int):=by
 unfold Eu;rw[show IntKind.bits .u64=64 from rfl,eZ,eZ,BitVec.toNat_or,oq,oq,dw (show a<2^64 from c),dw (show b<2^64 from d)]
 exact zD (Nat.or_lt_two_pow (n:=64) c d)
theorem Et{n a b:Nat}(c:b<2^n)(d:a*2^n+b<18446744073709551616):Eu ((a*2^n:Nat):Int) (b:Int)=((a*2^n+b:Nat):Int):=by
 rw[Es (by omega) (by omega),kQ a,Nat.two_pow_add_eq_or_of_lt c]
def LJ(x:Nat):Nat:=x*2%18446744073709551616+x/9223372036854775808
def Eh:Nat→Nat→Nat
 |0,x=>x
 |n+1,x=>LJ (Eh n x)
theorem Td{n:Nat}(s:n≤64){x a b:Nat}(q:b<2^(64-n))(j:a<2^n)(e:x=a*2^(64-n)+b):Eh n x=b*2^n+a:=by
 induction n generalizing a b with
 |zero=>
  have:a=0:=by simpa using j
  subst this;rw[e];simp[Eh]
 |succ n ih=>
  have g:(2:Nat)^(64-n)=2*2^(64-(n+1)):=by rw[show 64-n=(64-(n+1))+1 by omega,mW,kQ]
  have o:(2:Nat)^(n+1)=2*2^n:=by rw[mW,kQ]
  have f:(2:Nat)^(64-(n+1))*2^n=9223372036854775808:=by rw[←tC,show 64-(n+1)+n=63 by omega]
  have u:a%2<2:=mh _ (by omega);have i:=Nat.div_add_mod a 2;have d:a/2<2^n:=by omega
  have p:a%2*2^(64-(n+1))+b<2^(64-n):=by
   rw[g];have:a%2*2^(64-(n+1))≤1*2^(64-(n+1)):=ci _ (by omega);omega
  have k:x=a/2*2^(64-n)+(a%2*2^(64-(n+1))+b):=by
   rw[e,g,←lz,←Nat.mul_assoc,←jD,kQ (a/2) 2,i]
  have:=ih (by omega) p d k;show LJ (Eh n x)=_
  rw[this,jD,Nat.mul_assoc,f,o];unfold LJ;have c:b*2^n+2^n≤2^(64-(n+1))*2^n:=by
   rw[←jB];exact ci _ q
  rw[f]at c;have m:b*(2*2^n)=2*(b*2^n):=by rw[Nat.mul_left_comm]
  rw[m];generalize b*2^n=B at c;generalize 2^n=N at d c;have:a%2=0∨a%2=1:=by omega
  rcases this with h|h<;>rw[h]at i⊢<;>omega
theorem Tc(n:Nat){x:Nat}(hx:x<18446744073709551616):Eh n x<18446744073709551616:=by
 induction n with
 |zero=>exact hx
 |succ n ih=>show LJ _<_;unfold LJ;omega
theorem We{n:Nat}(h:n<64):KP (IntKind.wrap .u64 (n:Int)) 63=(n:Int):=by
 rw[zD (by omega)];unfold KP;have:∀n:Fin 64,(aq (IntKind.bits .u64) ((n.val:Nat):Int)&&&aq (IntKind.bits .u64) 63).toNat=n.val:=by decide
 rw[this ⟨n,h⟩];exact zD (by omega)
theorem Tb{n x:Nat}(c:n<64)(hx:x<18446744073709551616):Eg (x:Int) (n:Int)=((Eh n x:Nat):Int):=by
 unfold Eg;rw[We c];rw[show((64:Int)-(n:Int))=((64-n:Nat):Int) by omega,zD (by omega)]
 simp only[show IntKind.bits .u64=64 from rfl,aO,bC (Nat.le_of_lt c),bC (Nat.sub_le 64 n)]
 have b:(2:Nat)^(64-n)*2^n=18446744073709551616:=by rw[←tC,show 64-n+n=64 by omega]
 have hd:=Nat.div_add_mod x (2^(64-n));have hm:x%2^(64-n)<2^(64-n):=mh _ (Nat.two_pow_pos _);have d:x/2^(64-n)<2^n:=by
  rw[Nat.div_lt_iff_lt_mul (Nat.two_pow_pos _),kQ,b];exact hx
 rw[kQ]at hd;rw[Td (Nat.le_of_lt c) hm d hd.symm];rw[show((x:Int)*2^n)=((x*2^n:Nat):Int) by rw[Int.natCast_mul,Int.natCast_pow];rfl,Nz]
 rw[show Int.fdiv (x:Int) (2^(64-n))=((x/2^(64-n):Nat):Int) by rw[show((2:Int)^(64-n))=((2^(64-n):Nat):Int) by rw[Int.natCast_pow];rfl];exact Int.ofNat_fdiv x _▸rfl]
 have a:x%2^(64-n)*2^n+2^n≤2^(64-n)*2^n:=by
  rw[←jB];exact ci _ hm
 rw[b]at a;have f:x*2^n%18446744073709551616=x%2^(64-n)*2^n:=by
  rw[←b,Nat.mul_mod_mul_right]
 rw[f];exact Et d (by omega)
end Go.Proofs
namespace Go.Proofs
open Go Go.Lift
def FU(s:ByteArray)(i:Nat):Nat:=if h:i<s.size then(s[i]'h).toNat else 0
def hv(s:ByteArray):Nat→Nat→Nat
 |_,0=>0
 |p,c+1=>hv s (p+1) c*256+FU s p
theorem RO(s:ByteArray)(i:Nat):FU s i<256:=by
 unfold FU;split
 ·exact UInt8.toNat_lt _
 ·omega
theorem On(s:ByteArray)(i:Nat):KL s i=(FU s i:Int):=by
 unfold KL FU;by_cases h:i<s.size
 ·rw[dif_pos h,getElem?_pos s i h]
 ·rw[dif_neg h,getElem?_neg s i h];rfl
theorem E4{s:ByteArray}{i:Nat}(h:s.size≤i):FU s i=0:=dif_neg (by omega)
theorem Hg(s:ByteArray):∀(c p:Nat),hv s p c<256^c
 |0,_=>by show(0:Nat)<1;omega
 |c+1,p=>by
  have:=Hg s c (p+1);have:=RO s p;rw[mW];show hv s (p+1) c*256+FU s p<_
  omega
theorem N7{s:ByteArray}:∀{c p:Nat},s.size≤p→hv s p c=0
 |0,_,_=>rfl
 |c+1,p,h=>by
  show hv s (p+1) c*256+FU s p=0
  rw[N7 (by omega),E4 h]
theorem Iv{s:ByteArray}{d:Nat}:∀{c p:Nat},s.size≤p+c→hv s p (c+d)=hv s p c
 |0,p,h=>by rw[N7 (by omega)];rfl
 |c+1,p,h=>by
  rw[show c+1+d=(c+d)+1 by omega]
  show hv s (p+1) (c+d)*256+_=hv s (p+1) c*256+_
  rw[Iv (by omega)]
theorem TM{s:ByteArray}{a b i:Nat}(c:b≤s.size):FU (s.extract a b) i=if a+i<b then FU s (a+i)else 0:=by
 unfold FU;have e:(s.extract a b).size=b-a:=by rw[eE];omega
 by_cases h:a+i<b
 ·rw[if_pos h,dif_pos (by omega),dif_pos (by omega),ByteArray.getElem_extract]
 ·rw[if_neg h,dif_neg (by omega)]
theorem Mu{s:ByteArray}{a:Nat}:∀{c p b:Nat},b≤s.size→(b=s.size∨a+p+c≤b)→hv (s.extract a b) p c=hv s (a+p) c
 |0,_,_,_,_=>rfl
 |c+1,p,b,hb,h=>by
  show hv _ (p+1) c*256+_=hv s (a+p+1) c*256+_
  rw[Mu hb (h.imp id fun h=>by omega),TM hb,lz]
  congr 1
  split
  ·rfl
  ·exact(E4 (by omega)).symm
theorem TT{s:ByteArray}:∀{k c:Nat},k+c≤8→wj s k ((hv s k c*2^(8*k):Nat):Int)=((hv s 0 (k+c):Nat):Int)
 |0,c,_=>by
  show((hv s 0 c*2^(8*0):Nat):Int)=_
  rw[Nat.zero_add];simp
 |k+1,c,h=>by
  have j:=RO s k;have hc:=Hg s c (k+1);have f:(2:Nat)^(8*(k+1))=256*2^(8*k):=by rw[show 8*(k+1)=8+8*k by omega,tC]
  have d:256^c*2^(8*(k+1))≤18446744073709551616:=by
   rw[show(256:Nat)=2^8 from rfl,←Nat.pow_mul,←tC]
   exact eW (by omega) (show 8*c+8*(k+1)≤64 by omega)
  have m:hv s (k+1) c*2^(8*(k+1))+2^(8*(k+1))≤18446744073709551616:=by
   rw[←jB];exact bv (ci _ hc) d
  have i:FU s k*2^(8*k)<2^(8*(k+1)):=by rw[f];exact Nat.mul_lt_mul_of_pos_right j (Nat.two_pow_pos _)
  have a:hv s (k+1) c*2^(8*(k+1))+FU s k*2^(8*k)=hv s k (c+1)*2^(8*k):=by
   rw[f,←Nat.mul_assoc,←jD];rfl
  have b:(if k=0 then IntKind.wrap .u64 (KL s 0)else TY (KL s k) ((8*k:Nat):Int))=((FU s k*2^(8*k):Nat):Int):=by
   split
   ·rename_i e
    subst e;rw[On,IntKind.wrap_u64];simp;omega
   ·unfold TY
    rw[On,aO,show IntKind.bits .u64=64 from rfl,bC (by omega)]
    have g:IntKind.wrap .u64 ((FU s k:Nat):Int)=((FU s k:Nat):Int):=by rw[IntKind.wrap_u64];omega
    rw[g,show((FU s k:Int)*2^(8*k))=((FU s k*2^(8*k):Nat):Int) by rw[Int.natCast_mul,Int.natCast_pow];rfl,IntKind.wrap_u64]
    omega
  show wj s k (Eu _ (if k=0 then _ else _))=_
  rw[b,Et i (by omega),a,TT (by omega),show k+(c+1)=k+1+c by omega]
theorem Jn{s:ByteArray}(h:s.size≤8):xZ s=((hv s 0 8:Nat):Int):=by
 have:=TT (s:=s) (k:=s.size) (c:=0) (by omega);rw[show hv s s.size 0=0 from rfl,Nat.zero_mul]at this
 unfold xZ;rw[show((0:Nat):Int)=0 from rfl]at this
 rw[this,cX];have e:=Iv (s:=s) (d:=8-s.size) (c:=s.size) (p:=0) (by omega);rw[show s.size+(8-s.size)=8 by omega]at e
 rw[e]
def oX:Nat→ByteArray→Nat→Q4→Nat×Q4
 |0,_,a,q=>(a,q)
 |n+1,s,a,q=>if a+8≤s.size then oX n s (a+8) (qL (hv s a 8:Nat) q)else(a,q)
theorem Jy:∀{n:Nat} {s:ByteArray} {a:Nat} {q:Q4},a≤s.size→Cs n (s.extract a s.size) q=(s.extract (oX n s a q).1 s.size,(oX n s a q).2)
 |0,_,_,_,_=>rfl
 |n+1,s,a,q,h=>by
  have e:(s.extract a s.size).size=s.size-a:=by rw[eE];omega
  show(if 8≤(s.extract a s.size).size then _ else _)=_
  rw[e];by_cases hc:a+8≤s.size
  ·rw[if_pos (show 8≤s.size-a by omega),ByteArray.extract_extract,ByteArray.extract_extract]
   rw[show oX (n+1) s a q=oX n s (a+8) (qL (hv s a 8:Nat) q)from if_pos hc]
   rw[show min (a+(s.size-a)) s.size=s.size by omega,show min (a+8) s.size=a+8 by omega,cX]
   rw[Jn (by rw[eE];omega),Mu (by omega) (.inr (by omega)),cX];exact Jy hc
  ·rw[if_neg (show ¬8≤s.size-a by omega),show oX (n+1) s a q=(a,q)from if_neg hc]
theorem Hq:∀{n:Nat} {s:ByteArray} {a:Nat} {q:Q4},s.size≤a+n→a≤s.size→s.size<(oX n s a q).1+8∧(oX n s a q).1≤s.size
 |0,_,_,_,h,h'=>⟨by show _<_+8;simp only[oX];omega,h'⟩
 |n+1,s,a,q,h,h'=>by
  by_cases hc:a+8≤s.size
  ·rw[show oX (n+1) s a q=oX n s (a+8) (qL (hv s a 8:Nat) q)from if_pos hc]
   exact Hq (by omega) hc
  ·rw[show oX (n+1) s a q=(a,q)from if_neg hc]
   exact⟨by simp only;omega,h'⟩
theorem SY{k0 k1:Int}{s:ByteArray}:Lx k0 k1 s=(let g:=oX s.size s 0 (dy k0 8317987319222330741,dy k1 7237128888997146477,dy k0 7816392313619706465,dy k1 8387220255154660723)
  TG (qL ((hv s g.1 8+s.size%256*72057594037927936:Nat):Int) g.2)):=by
 unfold Lx VP;generalize (dy k0 8317987319222330741,dy k1 7237128888997146477,dy k0 7816392313619706465,dy k1 8387220255154660723)=q;have e:=Jy (n:=s.size) (s:=s) (a:=0) (q:=q) (bo _);rw[ByteArray.extract_zero_size]at e;rw[e];have⟨k,o⟩:=Hq (n:=s.size) (s:=s) (a:=0) (q:=q) (by omega) (bo _);generalize oX s.size s 0 q=g at k o;obtain⟨a,r⟩:=g;simp only at k o⊢
 rw[Jn (by rw[eE];omega),Mu (ao _) (.inl rfl),cX];congr 2
 have hc:hv s a 8<2^56:=by
  have e:=Iv (s:=s) (d:=1) (c:=7) (p:=a) (by omega);rw[show(7+1:Nat)=8 from rfl]at e
  rw[e];exact Hg s 7 a
 have f:TY (s.size:Int) 56=((s.size%256*2^56:Nat):Int):=by
  unfold TY;rw[show min ((56:Int)).toNat (IntKind.bits .u64)=56 from rfl,Nz]
  rw[show(((s.size%18446744073709551616:Nat):Int)*2^56)=((s.size%18446744073709551616*72057594037927936:Nat):Int) by rw[Int.natCast_mul];rfl,Nz]
  omega
 have hm:s.size%256*2^56+hv s a 8<18446744073709551616:=by omega
 have i:∀{a b:Nat},a<18446744073709551616→b<18446744073709551616→Eu a b=Eu b a:=fun j m=>by rw[Es j m,Es m j,Nat.or_comm]
 rw[f,i (Nat.lt_trans hc (by decide)) (Nat.lt_of_le_of_lt (Nat.le_add_right _ _) hm),Et hc hm,Nat.add_comm]
end Go.Proofs
namespace Go.Proofs
open Go Go.Lift
abbrev Rg(x:Int):Prop:=0≤x∧x<18446744073709551616
theorem Ta(x n:Int):Rg (Eg x n):=Bs _
theorem tE(x n:Int):Rg (dy x n):=Bs _
theorem R0(x n:Int):Rg (R8 x n):=Bs _
theorem xo{x:Int}(hx:Rg x){n:Nat}(j:n<64){h:ad}{K:Int→ad→Prop}(d:K (Eg x n) h):HC PG mf [.int .u64 x,.int .i64 (n:Int)] [.c (.int .u64)] K h:=by
 obtain⟨X,rfl⟩:=oB hx.1;have c:X<18446744073709551616:=by have:=hx.2;omega
 rw[Tb j c]at d;refine Nd X n ?_;unfold FE;refine LoopP.ghost (fun(i:Nat) (t:Int×Int) f=>t=(((Eh i X:Nat):Int),(i:Int))∧i≤n∧f=h) (fun i=>n-i) 0 ⟨rfl,bo _,rfl⟩ ?_
 rintro I i t f ⟨rfl,hi,rfl⟩ g;refine aQ (fun a=>?_) fun b=>?_
 ·have a:i<n:=by have:(i:Int)<(n:Int):=a;omega
  have k:=Tc i c;refine⟨by decide,?_⟩;have e:IntKind.wrap .u64 (IntKind.wrap .u64 (((Eh i X:Nat):Int)*2)+IntKind.wrap .u64 (mp ((Eh i X:Nat):Int) 9223372036854775808))=((Eh (i+1) X:Nat):Int):=by
   show _=((LJ (Eh i X):Nat):Int)
   unfold LJ;rw[eY (by omega),IntKind.wrap_u64,IntKind.wrap_u64,IntKind.wrap_u64];omega
  simp only[Bd];rw[e,cI a (by omega)];exact g (i+1) _ _ ⟨rfl,a,rfl⟩ (by omega)
 ·obtain rfl:i=n:=by have:¬(i:Int)<(n:Int):=b;omega
  exact d
theorem tY{s:Q4}(f:Rg s.2.1)(i:Rg s.2.2.2){h:ad}{K:Q4→ad→Prop}(d:∀h',Upd No h h'→K (kG s) h'):HC PG kA [.agg #[.int .u64 s.1,.int .u64 s.2.1,.int .u64 s.2.2.1,.int .u64 s.2.2.2]] [.agg [.int .u64,.int .u64,.int .u64,.int .u64]] K h:=by
 refine K3 s ?_;unfold C0 bJ dH ah eK lR Ox OB QP;refine aJ fun g b1 k1=>aJ fun j b2 b=>?_
 have c1:=b.get0 b1;have s1:=k1.size;refine⟨by decide,_,vc c1 0,by decide,_,vc c1 1,by decide,_,vc c1 2,by decide,_,vc c1 3,?_⟩
 refine xo (n:=13) f (by omega) (xo (n:=32) (R0 _ _) (by omega) (xo (n:=16) i (by omega) (xo (n:=21) (tE _ _) (by omega) (xo (n:=17) (tE _ _) (by omega) (xo (n:=32) (R0 _ _) (by omega) ?_)))));refine cS b2 (by rfl) fun a b3 c=>?_
 refine⟨_,vc b3 0,_,vc b3 1,_,vc b3 2,_,vc b3 3,?_⟩;exact d a ((k1.tr b).own c (by omega))
abbrev Rq(q:Q4):Prop:=Rg q.1∧Rg q.2.1∧Rg q.2.2.1∧Rg q.2.2.2
theorem wA(s:Q4):Rq (kG s):=⟨R0 _ _,tE _ _,Ta _ _,tE _ _⟩
theorem Qo(m:Int)(s:Q4):Rq (qL m s):=⟨tE _ _,(wA _).2⟩
theorem Vg{s:ByteArray}{i:Nat}(h:i<s.size):∃b:UInt8,s[i]? =some b∧FU s i=b.toNat:=⟨s[i],getElem?_pos s i h,by unfold FU;rw[dif_pos h]⟩
theorem RC{n:Nat}{s:ByteArray}{a:Nat}{q:Q4}(h:s.size≤a+n)(hc:a+8≤s.size):∃m,oX n s a q=oX m s (a+8) (qL (hv s a 8:Nat) q)∧s.size≤a+8+m:=by
 cases n with
 |zero=>omega
 |succ n=>exact⟨n,if_pos hc,by omega⟩
theorem MH{n:Nat}{s:ByteArray}{a:Nat}{q:Q4}(hc:s.size<a+8):oX n s a q=(a,q):=by
 cases n with
 |zero=>rfl
 |succ n=>exact if_neg (by omega)
theorem Tf{k0 k1:Int}{s:ByteArray}(hs:s.size≤1000000000){h:ad}{K:Int→ad→Prop}(u:∀E,Upd No h E→K (Lx k0 k1 s) E):HC PG BT [.int .u64 k0,.int .u64 k1,.string s] [.c (.int .u64)] K h:=by
 rw[SY]at u;refine PU k0 k1 s ?_;unfold HN bJ dH ah eK cp nv Ox OB Ut Pa QP;simp only[Bd,show((0:Int)).toNat*1=0 from rfl,show((1:Int)).toNat*1=1 from rfl,show((2:Int)).toNat*1=2 from rfl,show((3:Int)).toNat*1=3 from rfl]
 have Z:∃F:Q4,F=(dy k0 8317987319222330741,dy k1 7237128888997146477,dy k0 7816392313619706465,dy k1 8387220255154660723):=⟨_,rfl⟩;obtain⟨F,Y⟩:=Z;rw[←Y]at u;have hq0:Rq F:=by rw[Y];exact⟨tE _ _,tE _ _,tE _ _,tE _ _⟩
 refine aJ fun h1 b1 k1=>?_
 refine cS b1 (by rfl) fun h2 b2 u2=>?_
 have b2':h2[h.size]? =some (.cells (q4 F) uN (0,0)):=by rw[Y];exact b2
 clear b2 Y;have hex:∃G:Nat×Q4,G=oX s.size s 0 F:=⟨_,rfl⟩;obtain⟨G,eG⟩:=hex;rw[←eG]at u;simp only at u;refine LoopP.ghost (fun(g:Nat×Q4) (t:Int) E=>t=(g.1:Int)∧E[h.size]? =some (.cells (q4 g.2) uN (0,0))∧Upd No h E∧Rq g.2∧
  ((∃n,oX n s g.1 g.2=G∧s.size≤g.1+n∧g.1≤s.size)∨(s.size<g.1∧g.2=qL ((hv s G.1 8+s.size%256*72057594037927936:Nat):Int) G.2))) (fun g=>s.size+1-g.1) (0,F) ⟨rfl,b2',k1.own u2 (ao _),hq0,.inl ⟨s.size,eG.symm,by omega,bo _⟩⟩ ?_
 rintro I ⟨a,q⟩ t E ⟨rfl,T,hu,W,y⟩ hI;simp only at T W y;refine aQ (fun hle=>?_) fun hgt=>?_
 ·have hle:a≤s.size:=by omega
  obtain⟨n,z,hn,_⟩:=y.resolve_right fun h=>by omega
  refine LoopP.ghost (fun(j:Nat) (t:Int×Int) w=>t=(((hv s (a+(8-j)) j:Nat):Int),(7:Int)-(j:Int))∧j≤8∧w=E) (fun j=>8-j) 0 ⟨rfl,by omega,rfl⟩ ?_
  rintro I2 j t w ⟨rfl,hj,rfl⟩ hI2;refine aQ (fun hge=>?_) fun hlt=>?_
  ·have hj7:j≤7:=by have:(7:Int)-(j:Int)≥0:=hge;omega
   have ei:IntKind.wrap .i64 ((a:Int)+(7-(j:Int)))=((a+(7-j):Nat):Int):=by rw[oD (by omega)];omega
   have C:=Hg s (j+1) (a+(8-(j+1)));have hp:256^(j+1)≤256^8:=eW (by omega) (by omega);have D:hv s (a+(8-(j+1))) (j+1)=hv s (a+(8-j)) j*256+FU s (a+(7-j)):=by
    rw[show a+(8-(j+1))=a+(7-j) by omega]
    show hv s (a+(7-j)+1) j*256+_=_
    rw[show a+(7-j)+1=a+(8-j) by omega]
   rw[D]at C;refine Join.intro (fun t S=>t=((hv s (a+(8-(j+1))) (j+1):Nat):Int)∧S=w) (fun R M=>?_) ?_
   ·simp only
    rw[ei];refine aQ (fun k=>?_) fun L=>?_
    ·have k:a+(7-j)<s.size:=by omega
     obtain⟨b,hb1,P⟩:=Vg k;refine⟨b,by omega,by rw[aO];exact hb1,M _ _ ⟨?_,rfl⟩⟩
     rw[D,P,IntKind.wrap_u64,IntKind.wrap_u64,IntKind.wrap_u64];rw[P]at C;omega
    ·have hz:FU s (a+(7-j))=0:=E4 (by omega)
     refine M _ _ ⟨?_,rfl⟩;rw[hz]at C;rw[D,hz,IntKind.wrap_u64];omega
   ·rintro t S ⟨rfl,rfl⟩
    simp only;have e7:IntKind.wrap .i64 ((7:Int)-(j:Int)-1)=(7:Int)-((j+1:Nat):Int):=by rw[oD (by omega)];omega
    rw[e7];exact hI2 (j+1) _ _ ⟨rfl,by omega,rfl⟩ (by omega)
  ·obtain rfl:j=8:=by have:¬(7:Int)-(j:Int)≥0:=hlt;omega
   simp only[Nat.sub_self,cX];have h8:=Hg s 8 a;have e8:IntKind.wrap .i64 ((a:Int)+8)=((a+8:Nat):Int):=by rw[oD (by omega)];omega
   rw[e8];refine Join.intro (fun(t:Int) S=>S=w∧∃m:Nat,t=(m:Int)∧((a+8≤s.size∧m=hv s a 8)∨(s.size<a+8∧m=hv s a 8+s.size%256*72057594037927936))) (fun R M=>?_) ?_
   ·refine aQ (fun k=>?_) fun L=>?_
    ·have k:s.size<a+8:=by omega
     have hc:hv s a 8<2^56:=by
      have e:=Iv (s:=s) (d:=1) (c:=7) (p:=a) (by omega);rw[show(7+1:Nat)=8 from rfl]at e
      rw[e];exact Hg s 7 a
     refine⟨by decide,M _ _ ⟨rfl,_,?_,.inr ⟨k,rfl⟩⟩⟩;rw[eX (by omega),IntKind.wrap_u64,IntKind.wrap_u64,IntKind.wrap_u64];omega
    ·exact M _ _ ⟨rfl,_,rfl,.inl ⟨by omega,rfl⟩⟩
   ·rintro t S ⟨rfl,m,rfl,hm⟩
    refine⟨by decide,_,vc T 3,by decide,?_⟩
    refine lN (i:=3) (c':=q4 (q.1,q.2.1,q.2.2.1,dy q.2.2.2 (m:Int))) T (show 3<4 by decide) rfl fun h4 o u4=>?_
    refine⟨_,vc o 0,_,vc o 1,_,vc o 2,_,vc o 3,?_⟩;refine tY (s:=(q.1,q.2.1,q.2.2.1,dy q.2.2.2 (m:Int))) W.2.1 (tE _ _) fun h5 Q=>?_
    have f:=wA (q.1,q.2.1,q.2.2.1,dy q.2.2.2 (m:Int));have et:qL (m:Int) q=(dy (kG (kG (q.1,q.2.1,q.2.2.1,dy q.2.2.2 (m:Int)))).1 m,(kG (kG (q.1,q.2.1,q.2.2.1,dy q.2.2.2 (m:Int)))).2):=rfl;refine tY f.2.1 f.2.2.2 fun h6 O=>?_
    obtain⟨r,er⟩:∃r,r=kG (kG (q.1,q.2.1,q.2.2.1,dy q.2.2.2 (m:Int))):=⟨_,rfl⟩;rw[←er]at et⊢;have b6:=O.get0 (Q.get0 o);have z6:=aH b6;refine cS (vs:=(q4 r).toList) b6 rfl fun h7 b7 u7=>?_
    have V:h7[h.size]? =some (.cells (q4 r) uN (0,0)):=b7;refine⟨by decide,_,vc V 0,by decide,?_⟩
    refine lN (i:=0) (c':=q4 (dy r.1 m,r.2)) V (show 0<4 by decide) rfl fun h8' X u8=>?_
    have uu:Upd No h h8':=((((hu.own u4 (ao _)).tr Q).tr O).own u7 (ao _)).own u8 (ao _);rw[←et]at X;refine hI (a+8,qL m q) _ _ ⟨rfl,X,uu,Qo _ _,?_⟩ (by simp only;omega);rcases hm with⟨hc,rfl⟩|⟨hc,rfl⟩
    ·obtain⟨n',hd,hn'⟩:=RC hn hc
     exact .inl ⟨n',hd.symm.trans z,hn',hc⟩
    ·refine .inr ⟨by simp only;omega,?_⟩
     have:=MH (n:=n) (q:=q) hc;rw[z]at this;rw[this]
 ·obtain⟨_,eq⟩:=y.resolve_left fun⟨_,_,_,h⟩=>by omega
  rw[←eq]at u;clear eq y;refine⟨by decide,_,vc T 2,by decide,?_⟩
  refine lN (i:=2) (c':=q4 (q.1,q.2.1,dy q.2.2.1 255,q.2.2.2)) T (show 2<4 by decide) rfl fun h4 o u4=>?_
  refine⟨_,vc o 0,_,vc o 1,_,vc o 2,_,vc o 3,?_⟩;have ef:TG q=U0 (kG (kG (kG (kG (q.1,q.2.1,dy q.2.2.1 255,q.2.2.2))))):=rfl;rw[ef]at u;refine tY (s:=(q.1,q.2.1,dy q.2.2.1 255,q.2.2.2)) W.2.1 W.2.2.2 fun h5 Q=>?_
  have f:=wA (q.1,q.2.1,dy q.2.2.1 255,q.2.2.2);obtain⟨r1,J⟩:∃r,r=kG (q.1,q.2.1,dy q.2.2.1 255,q.2.2.2):=⟨_,rfl⟩;rw[←J]at u f⊢;clear J;refine tY f.2.1 f.2.2.2 fun h6 O=>?_
  have A:=wA r1;obtain⟨r2,H⟩:∃r,r=kG r1:=⟨_,rfl⟩;rw[←H]at u A⊢;clear H;refine tY A.2.1 A.2.2.2 fun h7 k7=>?_
  have B:=wA r2;obtain⟨r3,N⟩:∃r,r=kG r2:=⟨_,rfl⟩;rw[←N]at u B⊢;clear N;refine tY B.2.1 B.2.2.2 fun h8 k8=>?_
  obtain⟨r,er⟩:∃r,r=kG r3:=⟨_,rfl⟩;rw[←er]at u⊢;clear er;have X:=k8.get0 (k7.get0 (O.get0 (Q.get0 o)));refine cS (vs:=(q4 r).toList) X rfl fun h9 b9 u9=>?_
  have v:h9[h.size]? =some (.cells (q4 r) uN (0,0)):=b9;refine⟨by decide,_,vc v 0,by decide,_,vc v 1,by decide,_,vc v 2,by decide,_,vc v 3,?_⟩
  exact u h9 ((((((hu.own u4 (ao _)).tr Q).tr O).tr k7).tr k8).own u9 (ao _))
theorem QH{x:Hs}{s:ByteArray}(c:s.size≤1000000000){h:ad}{K:Int→ad→Prop}(b:∀h',Upd No h h'→K (l9 x s) h'):HC PG yU [.agg #[.int .u64 x.k0,.int .u64 x.k1,.int .u64 x.mask],.string s] [.c (.int .u64)] K h:=by
 refine M9 (x.k0,x.k1,x.mask) s ?_;unfold Fz ah zT Ul;refine aJ fun f b1 k1=>⟨_,vc b1 0,_,vc b1 1,_,vc b1 2,Tf c fun d a=>⟨vc (a.get0 b1) 2,?_⟩⟩
 exact b d (k1.tr a)
theorem UL{hv:Int}(f:0≤hv∧hv<18446744073709551616){lev:Nat}(o:lev<13){h:ad}{K:Int→ad→Prop}(d:K (((hv.toNat>>>(5*lev))%32:Nat):Int) h):HC PG Am [.int .u64 hv,.int .i64 lev] [.c (.int .i64)] K h:=by
 obtain⟨n,rfl⟩:=oB f.1;rw[aO]at d;refine Sf n lev ?_;unfold Lb;refine Join.plain (aQ (fun h=>by omega) fun _=>?_)
 rw[decide_eq_false (by omega)];refine aj.2 ?_;refine LoopP.ghost (fun(i:Nat) (t:Int×Int) g=>t=(((n>>>(5*i):Nat):Int),(i:Int))∧i≤lev∧g=h) (fun i=>lev-i) 0 ⟨rfl,bo _,rfl⟩ ?_
 rintro I i t g ⟨rfl,hi,rfl⟩ k;refine aQ (fun a=>?_) fun b=>?_
 ·have a:i<lev:=by have:(i:Int)<(lev:Int):=a;omega
  have c:n>>>(5*i)≤n:=Nat.shiftRight_le _ _;have e:n>>>(5*(i+1))=n>>>(5*i)/32:=by rw[Nat.mul_add,Nat.shiftRight_add,Nat.shiftRight_eq_div_pow _ (5*1)]
  have m:n<18446744073709551616:=by have:=f.2;omega
  have j:IntKind.wrap .u64 (mp ((n>>>(5*i):Nat):Int) 32)=((n>>>(5*(i+1)):Nat):Int):=by
   rw[e];generalize n>>>(5*i)=y at c;rw[eY (by omega),IntKind.wrap_u64];omega
  refine⟨by decide,?_⟩;simp only;rw[j,cI a (by omega)];exact k (i+1) _ _ ⟨rfl,a,rfl⟩ (by omega)
 ·obtain rfl:i=lev:=by have:¬(i:Int)<(lev:Int):=b;omega
  refine⟨by decide,?_⟩;simp only;generalize n>>>(5*i)=y at d;rw[eX (by omega),oD (by omega)];exact_mod_cast d
theorem VR{x:Hs}{k:ByteArray}{lev:Nat}(b:lev<13){h:ad}{K:Int→ad→Prop}(a:K (ck x lev k:Int) h):HC PG Am [.int .u64 (l9 x k),.int .i64 lev] [.c (.int .i64)] K h:=UL (CF x k) b a
end Go.Proofs
