/- A part of the proof that the named laws of this program answer true, whatever the input. -/
import Derived.Test.YtajpljopgikpgaaGreatDoorPart6
import Derived.Test.YtajpljopgikpgaaGreatDoorPart9
import Derived.Test.YtajpljopgikpgaaGreatDoorPart2
import Derived.Test.YtajpljopgikpgaaGreatDoorPart7
import Derived.Test.YtajpljopgikpgaaGreatDoorPart8
import Derived.Test.YtajpljopgikpgaaGreatDoorPart0
import Derived.Test.YtajpljopgikpgaaGreatDoorPart4
open BitVec renaming ofInt_natCast→fx,toNat_ofNat→om,ofInt→ao
open ByteArray renaming size_extract→eK
open Int renaming toNat_natCast→aM,eq_ofNat_of_zero_le→oy,tdiv→my,tdiv_eq_ediv_of_nonneg→fu,tmod_eq_emod_of_nonneg→mw
open List renaming getElem?_cons_zero→cf,getElem?_cons_succ→dG,getElem?_eq_getElem→af,length_filter_le→fP,length_take→aD,take_succ_eq_append_getElem→bB,append_nil→bh,getElem_mem→aU,length_append→ad,length_singleton→aE,mem_singleton→aq,take_length→cd,take_take→mu,replicate→dT,replicate_succ→iG,flatten_cons→eh,getElem_of_mem→bP,flatten_append→d8
open List.Pairwise renaming nil→ey
open Nat renaming zero_le→aS,not_lt_zero→is,lt_or_ge→bG,le_trans→aX,le_refl→aj,min_eq_right→j8,min_eq_left→bo,add_assoc→jJ,add_comm→pj,lt_of_lt_of_le→bI,add_zero→cW,mod_eq_of_lt→dq,mul_comm→kP,pow_succ→mV,pow_add→tK,mod_lt→od,mul_le_mul_right→cg,add_mul→iR,succ_mul→jE,pow_le_pow_right→ft
open Option renaming some→bA
namespace Go.Proofs
open Go Go.Lift
theorem GK:∀{x y:List UInt8} {i:Nat} {a b:UInt8},(∀j,j<i→x[j]? =y[j]?)→x[i]? =some a→y[i]? =some b→a≠b→Op.bytesLess x y=decide (a.toNat<b.toNat)
 | [],_,_,_,_,_,h,_,_=>by simp at h
 |_::_,[],_,_,_,_,_,h,_=>by simp at h
 |c::x,d::y,0,a,b,_,h1,h2,hne=>by
  simp only[cf,bA.injEq]at h1 h2;subst h1 h2;simp only[Op.bytesLess];rw[beq_false_of_ne hne];simp[UInt8.lt_iff_toNat_lt]
 |c::x,d::y,i+1,a,b,he,h1,h2,hne=>by
  have e:=he 0 (by omega);simp only[cf,bA.injEq]at e;subst e;simp only[dG]at h1 h2;simp only[Op.bytesLess];rw[GK (i:=i) (fun j f=>by simpa using he (j+1) (by omega)) h1 h2 hne]
  simp[UInt8.lt_irrefl]
theorem GJ:∀{x y:List UInt8} {i:Nat},(∀j,j<i→x[j]? =y[j]?)→i≤x.length→i≤y.length→(i=x.length∨i=y.length)→Op.bytesLess x y=decide (x.length<y.length)
 | [],[],_,_,_,_,_=>by simp[Op.bytesLess]
 | [],_::_,_,_,_,_,_=>by simp[Op.bytesLess]
 |_::_,[],_,_,_,_,_=>by simp[Op.bytesLess]
 |c::x,d::y,0,_,_,_,h=>by simp at h
 |c::x,d::y,i+1,he,h1,h2,h3=>by
  have e:=he 0 (by omega);simp only[cf,bA.injEq]at e;subst e;simp only[Op.bytesLess];rw[GJ (i:=i) (fun j a=>by simpa using he (j+1) (by omega)) (by simpa using h1) (by simpa using h2) (by simpa using h3)]
  simp[UInt8.lt_irrefl]
theorem JJ{a b:ByteArray}(C:a.size≤1000000){h:ae}{K:Bool→ae→Prop}(A:K (decide (kl a b)) h):HC PG vx [.string a,.string b] [.c .bool] K h:=by
 refine Nk a b ?_;unfold Fg;have D:a.data.toList.length=a.size:=by simp
 have B:b.data.toList.length=b.size:=by simp
 have f:∀{p:Prop} [Decidable p],Op.bytesLess a.data.toList b.data.toList=decide p→K (decide p) h:=fun{p} _ e=>by
  have:decide (kl a b)=decide p:=by
   rw[←e,←ByteArray.toList_eq,←ByteArray.toList_eq];exact Bool.eq_iff_iff.2 (by rw[decide_eq_true_iff];exact Iff.rfl)
  rw[←this];exact A
 refine LoopP.ghost (fun(i:Nat) (t:Int) k=>t=(i:Int)∧i≤a.size∧i≤b.size∧k=h∧∀j,j<i→a.data.toList[j]? =b.data.toList[j]?) (fun i=>a.size-i) 0 ⟨rfl,aS _,aS _,rfl,fun j o=>absurd o (is _)⟩ ?_
 rintro I i t k ⟨rfl,z,y,rfl,m⟩ x;refine Join.intro (fun t v=>t=decide (i<a.size∧i<b.size)∧v=k) (fun R w=>?_) ?_
 ·refine aB (fun c=>w _ _ ⟨?_,rfl⟩) fun n=>w _ _ ⟨?_,rfl⟩
  ·rw[decide_eq_decide];omega
  ·rw[eq_comm,decide_eq_false_iff_not];omega
 ·rintro t v ⟨rfl,rfl⟩
  refine aB (fun c=>?_) fun n=>?_
  ·have u:a.data.toList[i]? =some a[i]:=by rw[←Ks,getElem?_pos a i c.1]
   have s:b.data.toList[i]? =some b[i]:=by rw[←Ks,getElem?_pos b i c.2]
   refine⟨a[i],by omega,by rw[aM,getElem?_pos a i c.1],b[i],by omega,by rw[aM,getElem?_pos b i c.2],?_⟩
   refine CondP.intro (fun g=>?_) fun d=>?_
   ·refine⟨a[i],by omega,by rw[aM,getElem?_pos a i c.1],b[i],by omega,by rw[aM,getElem?_pos b i c.2],?_⟩
    refine f ?_;rw[GK m u s fun e=>by rw[e]at g;simp at g]
    rw[decide_eq_decide];omega
   ·have d:a[i]=b[i]:=by
     have:((a[i].toNat:Int))=(b[i].toNat:Int):=by simpa using d
     exact UInt8.toNat_inj.1 (by omega)
    rw[cz c.1 (by omega)];refine x (i+1) _ _ ⟨rfl,by omega,by omega,rfl,fun j o=>?_⟩ (by omega)
    rcases bG j i with q|q
    ·exact m j q
    ·have:j=i:=by omega
     subst this;rw[u,s,d]
  ·refine f ?_
   rw[GJ m (by omega) (by omega) (by omega),decide_eq_decide];omega
theorem JL{W:Nat→Prop}{h:ae}{s:SliceV}{l:List Pr}(A:Sl eg 2 W h s l)(H:l.length≤1000000)(k:ByteArray){K:SliceV→ae→Prop}
  (F:∀s' d,OwnS eg 2 bX (fun y=>h.size≤y) d s' (l.filter fun p=>decide (p.1≠k))→Upd No h d→K s' d):HC PG vy [.slice s.a s.len s.cap,.string k] [.c .slice] K h:=by
 refine Nm s k ?_;unfold Fi cQ aY nv jU im ay;have z:=A.len;refine LoopP.ghost (fun(i:Nat) (t:SliceV×Int) d=>t.2=(i:Int)∧i≤l.length∧OwnS eg 2 bX (fun y=>h.size≤y) d t.1 ((l.take i).filter fun p=>decide (p.1≠k))∧Upd No h d) (fun i=>l.length-i) 0 ⟨rfl,aS _,by simpa using OwnS.nil g9,Upd.refl _ _⟩ ?_
 rintro I i ⟨L,J⟩ d ⟨B,hi,m,g⟩ C;simp only at B m;subst B;refine aB (fun b=>?_) fun u=>?_
 ·have b:i<l.length:=by have:(i:Int)<(s.len:Int):=b;omega
  obtain⟨a,E,_,hv⟩:=(A.upd g fun _ h=>h.elim).at (af b)
  have o:((l.take i).filter fun p=>decide (p.1≠k)).length≤l.length:=aX (fP ..) (by rw[aD];omega)
  refine Join.intro (fun t n=>OwnS eg 2 bX (fun y=>h.size≤y) n t ((l.take (i+1)).filter fun p=>decide (p.1≠k))∧Upd No h n) (fun R f=>⟨⟨by simp only;omega,by simp only;omega⟩,a,E,l[i].1,hv 0 _ rfl,l[i].2,hv 1 _ rfl,?_⟩) ?_
  ·refine qT (p:=l[i]) fun n b2 j=>⟨_,vc b2 0,?_⟩
   have c:=m.upd j fun _ _ h=>h
   rw[bB b,List.filter_append,List.filter_cons,List.filter_nil]at f;rw[jB];by_cases e:l[i].1=k
   ·rw[decide_eq_true e]
    rw[decide_eq_false (not_not_intro e)]at f;rw[if_neg (by simp),bh]at f;exact al.2 (f _ _ ⟨c,g.tr j⟩)
   ·rw[decide_eq_false e]
    rw[decide_eq_true e,if_pos rfl]at f;refine ax.2 ⟨_,vc b2 0,_,vc b2 1,bU ?_⟩;refine wS (p:=l[i]) c (fun y q=>aX (g.tr j).size q) (aX (Nat.add_le_add_right o 1) (by omega)) fun M G w v=>f _ _ ⟨w,(g.tr j).trans v fun y q=>.inr q⟩
  ·rintro t n ⟨c,x⟩
   rw[cz b (by omega)];exact C (i+1) _ _ ⟨rfl,b,c,x⟩ (by omega)
 ·have D:i=l.length:=by have:¬(i:Int)<(s.len:Int):=u;omega
  rw[List.take_of_length_le (by omega)]at m;exact F _ _ m g
theorem Tq{W:Nat→Prop}{h:ae}{s:SliceV}{l:List Pr}(hs:Sl eg 2 W h s l)(hr:cx l)(hn:l.length≤1000000)(p:Pr)(hp:p.1.size≤1000000){K:SliceV→ae→Prop}
  (hk:∀s' o,OwnS eg 2 bX (fun y=>h.size≤y) o s' (gA p l)→Upd No h o→K s' o):HC PG BJ [.slice s.a s.len s.cap,.agg #[.string p.1,.string p.2]] [.c .slice] K h:=by
 refine PV s p ?_;unfold Hh cQ aY nv jU im Bh ay tV;refine aP fun h1 b1 k1=>⟨p.1,vc b1 0,?_⟩
 refine JL (hs.upd k1 fun _ h=>h.elim) hn p.1 fun s4 v Q k4=>?_
 rw[←GQ hr]at hk;have hrf:cx (l.filter fun q=>decide (q.1≠p.1)):=hr.sublist List.filter_sublist
 have hnl:(l.filter fun q=>decide (q.1≠p.1)).length≤1000000:=aX (fP ..) hn
 have H:∀q∈l.filter fun q=>decide (q.1≠p.1),q.1≠p.1:=fun q w=>of_decide_eq_true (List.mem_filter.1 w).2
 generalize l.filter (fun q=>decide (q.1≠p.1))=L at hk Q hrf hnl H
 have D:=k1.tr k4;have U:Sl eg 2 No v s4 L:=Q.sl fun _ _ _ h=>h
 have hlen:=U.len;have z4:=D.size;refine LoopP.ghost (fun(g:Nat×Bool) (t:SliceV×Bool×Int) o=>t.2.2=(g.1:Int)∧t.2.1=g.2∧g.1≤L.length∧(∃out,OwnS eg 2 bX (fun y=>v.size≤y) o t.1 out∧out.length≤g.1+1∧(g.2=false→out=L.take g.1∧∀q∈L.take g.1,kl q.1 p.1)∧(g.2=true→out=gA p (L.take g.1)∧∃q∈L.take g.1,kl p.1 q.1))∧Upd No v o) (fun g=>L.length-g.1) (0,false) ⟨rfl,rfl,aS _,⟨[],OwnS.nil g9,by simp,fun _=>⟨by simp,by simp⟩,fun h=>by cases h⟩,Upd.refl _ _⟩ ?_
 rintro I ⟨i,pl⟩ ⟨so,tp,ti⟩ o ⟨e1,e2,hi,⟨out,F,G,X,Z⟩,z⟩ hI;simp only at e1 e2 hi F G X Z;subst e1 e2;have b':=z.get0 (k4.get0 b1);refine aB (fun f=>?_) fun hge=>?_
 ·have f:i<L.length:=by have:(i:Int)<(s4.len:Int):=f;omega
  obtain⟨a,ha,_,hv⟩:=(U.upd z fun _ h=>h.elim).at (af f)
  have d:=bB f;have N:L[i]∈L:=aU f;refine Join.intro (fun t E=>(∃out,OwnS eg 2 bX (fun y=>v.size≤y) E t.1 out∧out.length≤i+1+1∧(t.2=false→out=L.take (i+1)∧∀q∈L.take (i+1),kl q.1 p.1)∧(t.2=true→out=gA p (L.take (i+1))∧∃q∈L.take (i+1),kl p.1 q.1))∧Upd No v E) (fun R hR=>⟨⟨by simp only;omega,by simp only;omega⟩,a,ha,L[i].1,hv 0 _ rfl,L[i].2,hv 1 _ rfl,?_⟩) ?_
  ·refine qT (p:=L[i]) fun E b2 Y=>?_
   have u:=F.upd Y fun _ _ h=>h
   have n:=z.tr Y;have zb:=aN b2;have z2:=z.size;have hoM:=(F.within.upd Y fun _ _ h=>h).more (M':=fun y=>(v.size≤y∧y<o.size)∨E.size≤y) fun y b=>.inl b
   have c2:=Y.get0 b';refine Join.intro (fun t x=>(∃out,OwnS eg 2 bX (fun y=>v.size≤y) x t.1 out∧out.length≤i+1∧(t.2=false→out=L.take i∧∀q∈L.take (i+1),kl q.1 p.1)∧(t.2=true→out++ [L[i]]=gA p (L.take (i+1))∧∃q∈L.take (i+1),kl p.1 q.1))∧x[o.size]? =some (.cells #[.string L[i].1,.string L[i].2] bX (0,0))∧Upd No v x) (fun R2 C=>?_) ?_
   ·refine Join.intro (fun t x=>t=(!tp&&decide (kl p.1 L[i].1))∧x=E) (fun R3 T=>?_) ?_
    ·cases tp with
     |false=>exact ax.2 ⟨p.1,vc c2 0,L[i].1,vc b2 0,JJ hp (T _ _ ⟨by simp,rfl⟩)⟩
     |true=>exact al.2 (T _ _ ⟨by simp,rfl⟩)
    ·rintro t x ⟨rfl,rfl⟩
     cases tp with
     |true=>
      obtain⟨e,q,w,M⟩:=Z rfl;refine al.2 (C _ _ ⟨⟨out,u,G,fun h=>(by cases h),fun _=>?_⟩,b2,n⟩)
      rw[d,e];exact⟨(Kl ⟨q,w,M⟩).symm,q,List.mem_append_left _ w,M⟩
     |false=>
      obtain⟨e,c⟩:=X rfl;subst e;by_cases k:kl p.1 L[i].1
      ·rw[decide_eq_true k]
       refine ax.2 ⟨p.1,vc c2 0,p.2,vc c2 1,bU ?_⟩;refine wS (p:=p) hoM (fun y b=>.inr b) (by rw[aD];omega) fun s5 h5 m j=>C _ _ ⟨⟨_,m.more (fun y b=>by rcases b with b|b<;>omega),by rw[ad,aD,aE];omega,fun h=>(by cases h),fun _=>?_⟩,j.get b2 (by rintro(hx|hx)<;>omega),n.trans j fun y b=>.inr (by rcases b with b|b<;>omega)⟩
       ·rw[d,Es c]
        refine⟨?_,L[i],List.mem_append_right _ (aq.2 rfl),k⟩;rw[List.append_assoc,Kj (l:= [L[i]]) fun q w=>by rw[aq.1 w];exact k]
        rfl
      ·rw[decide_eq_false k]
       have w:kl L[i].1 p.1:=qE k fun e=>H _ N e.symm
       refine al.2 (C _ _ ⟨⟨_,u,by rw[aD];omega,fun _=>⟨rfl,fun q J=>?_⟩,fun h=>(by cases h)⟩,b2,n⟩)
       rw[d]at J;rcases List.mem_append.1 J with h|h
       ·exact c q h
       ·rw[aq.1 h];exact w
   ·rintro⟨t1,t2⟩ x ⟨⟨out3,S,hol3,O,V⟩,b3,P⟩
    simp only at S O V;refine⟨_,vc b3 0,_,vc b3 1,bU ?_⟩;refine wS (p:=L[i]) S (fun y b=>aX P.size b) (by omega) fun s5 h5 m j=>hR _ _ ⟨⟨_,m,by rw[ad,aE];omega,fun h=>?_,fun h=>V h⟩,P.trans j fun y b=>.inr b⟩
    obtain⟨e,c⟩:=O h;exact⟨by rw[e,d],c⟩
  ·rintro⟨t1,t2⟩ E ⟨u,n⟩
   rw[cz f (by omega)];exact hI (i+1,t2) _ _ ⟨rfl,rfl,f,u,n⟩ (by simp only;omega)
 ·have hil:i=L.length:=by have:¬(i:Int)<(s4.len:Int):=hge;omega
  subst hil;rw[cd]at X Z;cases tp with
  |true=>
   obtain⟨e,_⟩:=Z rfl;subst e;exact al.2 (hk _ _ (F.more fun y b=>aX z4 b) (D.tr z))
  |false=>
   obtain⟨e,c⟩:=X rfl;subst e;refine ax.2 ⟨p.1,vc b' 0,p.2,vc b' 1,bU ?_⟩;refine wS (p:=p) F (fun y b=>aX z.size b) (by omega) fun s5 h5 m j=>hk _ _ ?_ ((D.tr z).trans j fun y b=>.inr (aX z4 b))
   have:=Es (p:=p) (A:=out) (B:= []) c;rw[bh]at this;rw[this];exact m.more fun y b=>aX z4 b
end Go.Proofs
namespace Go.Proofs
open Go Go.Lift
abbrev Rt:=Int×Int×Int×Int×SliceV
abbrev vL(r:Rt):List Value:= [.int .i64 r.1,.int .u64 r.2.1,.int .u64 r.2.2.1,.int .u64 r.2.2.2.1,.slice r.2.2.2.2.a r.2.2.2.2.len r.2.2.2.2.cap]
abbrev VI(r:Rt):Value:=.agg #[.int .i64 r.1,.int .u64 r.2.1,.int .u64 r.2.2.1,.int .u64 r.2.2.2.1,.slice r.2.2.2.2.a r.2.2.2.2.len r.2.2.2.2.cap]
abbrev Qa:Rt:=(0,0,0,0,⟨none,0,0⟩)
def hx(a v:Int):Int:=if a=0 then v else 0
def RefIs(W:Nat→Prop)(h:ae)(a:Int)(x:Hs)(r:Rt)(l:List Pr):Prop:=∃s,r=(a,hx a x.k0,hx a x.k1,hx a x.mask,s)∧Sl eg 2 W h s l∧s.len≤s.cap
theorem RefIs.upd0{W:Nat→Prop}{h b:ae}{a:Int}{x:Hs}{r:Rt}{l:List Pr}(k:Upd No h b)(i:RefIs W h a x r l):RefIs W b a x r l:=
 let⟨s,e,c⟩:=i;⟨s,e,c.1.upd k fun _ h=>h.elim,c.2⟩
theorem RefIs.less{W W':Nat→Prop}{h:ae}(hm:∀b,W' b→W b∨h.size≤b){a:Int}{x:Hs}{r:Rt}{l:List Pr}(i:RefIs W h a x r l):RefIs W' h a x r l:=
 let⟨s,e,c⟩:=i;⟨s,e,c.1.less hm,c.2⟩
theorem RefIs.updM{W M:Nat→Prop}{h c:ae}(k:Upd M h c)(hm:∀b,M b→W b∨h.size≤b){a:Int}{x:Hs}{r:Rt}{l:List Pr}(i:RefIs W h a x r l):RefIs W c a x r l:=
 let⟨s,e,d⟩:=i;⟨s,e,d.1.upd k hm,d.2⟩
theorem Tt{W:Nat→Prop}{x:Hs}{h:ae}{a:Int}(f:a=0∨a=1){K:Rt×Int→ae→Prop}(m:∀h' r,RefIs W h' a x r []→Upd No h h'→K (r,0) h'):HC PG BI [.int .i64 a,.agg #[.int .u64 x.k0,.int .u64 x.k1,.int .u64 x.mask]] [.agg [.int .i64,.int .u64,.int .u64,.int .u64,.slice],.c (.int .i64)] K h:=by
 refine PT a (x.k0,x.k1,x.mask) ?_;unfold Hf bj ag cS eP Bx Lr;refine aP fun o b1 k1=>aP fun n b2 k=>?_
 have g:=k.get0 b1;have j:=k1.size;have e:=k1.tr k;rcases f with rfl|rfl
 ·refine ax.2 ⟨_,vc g 0,_,vc g 1,_,vc g 2,?_⟩
  refine cC (c:=vL Qa) (vs:=vL (0,x.k0,x.k1,x.mask,⟨none,0,0⟩)) b2 rfl fun i b d=>?_
  exact⟨_,vc b 0,_,vc b 1,_,vc b 2,_,vc b 3,⟨none,0,0⟩,vc b 4,m i (0,x.k0,x.k1,x.mask,⟨none,0,0⟩) ⟨_,rfl,Sl.nil g9,aj _⟩ (e.own d j)⟩
 ·refine al.2 (ax.2 ?_)
  refine cC (c:=vL Qa) (vs:=vL (1,0,0,0,⟨none,0,0⟩)) b2 rfl fun i b d=>?_
  exact⟨_,vc b 0,_,vc b 1,_,vc b 2,_,vc b 3,⟨none,0,0⟩,vc b 4,m i (1,0,0,0,⟨none,0,0⟩) ⟨_,rfl,Sl.nil g9,aj _⟩ (e.own d j)⟩
theorem Pg{k v:ByteArray}(c:k.size≤256)(b:v.size≤4096){h:ae}{K:Int→ae→Prop}(a:K 0 h):HC PG sM [.string k,.string v] [.c (.int .i64)] K h:=by
 refine CE k v ?_;unfold w6;refine aB (fun h=>absurd h (by omega)) fun _=>aB (fun h=>absurd h (by omega)) fun _=>a
theorem JH{W:Nat→Prop}{x:Hs}{h:ae}{a:Int}{r:Rt}{l:List Pr}(i:RefIs W h a x r l)(F:∀y,W y→y<h.size)(E:cx l)(H:l.length≤1000000)(p:Pr)(v:p.1.size≤256)(w:p.2.size≤4096){K:Rt×Int→ae→Prop}
  (J:∀h' r',RefIs W h' a x r' (gA p l)→Upd No h h'→K (r',0) h'):HC PG rM [VI r,.agg #[.string p.1,.string p.2]] [.agg [.int .i64,.int .u64,.int .u64,.int .u64,.slice],.c (.int .i64)] K h:=by
 refine EX r p ?_;unfold zm bj ag cS eP Lr Lo pt im OM cY ay tV;refine aP fun z b1 k1=>aP fun C b2 t=>aP fun N b3 q=>?_
 have R:=aN b1;have O:=aN b2;have Q:=aN b3;have L:h.size≤z.size:=k1.size;have T:z.size≤C.size:=t.size;have S:=q.size;have m:=(k1.tr t).tr q;have B:=q.get0 (t.get0 b1);have o:=q.get0 b2;obtain⟨s,rfl,I,_⟩:=i;refine⟨_,vc o 0,_,vc o 1,Pg v w (al.2 ?_)⟩;refine⟨s,vc B 4,p.1,vc o 0,p.2,vc o 1,?_⟩;refine Tq (I.upd m fun _ h=>h.elim) E H p (by omega) fun f P u b=>?_
 refine sA (i:=4) (c':=(vL (a,hx a x.k0,hx a x.k1,hx a x.mask,f)).toArray) (b.get0 B) (show 4<5 by decide) rfl fun M j d=>?_
 refine⟨_,vc j 0,_,vc j 1,_,vc j 2,_,vc j 3,f,vc j 4,?_⟩;refine cC (c:=vL Qa) (vs:=vL (a,hx a x.k0,hx a x.k1,hx a x.mask,f)) (d.oth (b.get0 b3) (by omega)) rfl fun G n g=>?_
 refine⟨_,vc n 0,_,vc n 1,_,vc n 2,_,vc n 3,f,vc n 4,?_⟩;have k:=(u.upd d fun y A e=>by have e:y=h.size:=e;omega).upd g fun y A e=>by have e:y=C.size:=e;omega
 refine J G (a,hx a x.k0,hx a x.k1,hx a x.mask,f) ⟨f,rfl,k.sl fun y A _ D=>by have:=F y D;omega,k.cap⟩ (((m.tr b).own d (aj _)).own g (by omega))
def lM(s:ByteArray):ByteArray:=s.extract 0 (min s.size 30)
theorem rP(s:ByteArray):(lM s).size≤30:=by unfold lM;rw[eK];omega
theorem rd{s:ByteArray}{h:ae}{K:ByteArray→ae→Prop}(a:K (lM s) h):HC PG gU [.string s,.int .i64 0] [.c .str] K h:=by
 refine EY s 0 ?_;unfold zn;have e:(if 30<(s.size:Int)then(30:Int)else(s.size:Int))=((min s.size 30:Nat):Int):=by split<;>omega
 rw[e];refine⟨⟨by omega,by omega⟩,?_⟩
 simp only[Bd];rw[aM];exact aB (fun h=>absurd h (by omega)) fun _=>a
theorem Oa{x:Hs}{h:ae}{K:Int×Int×Int→ae→Prop}(f:∀h',Upd No h h'→K (x.k0,x.k1,x.mask) h'):HC PG xt [.agg #[.int .u64 x.k0,.int .u64 x.k1,.int .u64 x.mask]] [.agg [.int .u64,.int .u64,.int .u64]] K h:=by
 refine PY (x.k0,x.k1,x.mask) ?_;unfold Hk ag eP Bx dQ WA WB;refine aP fun j b1 k1=>aP fun i b2 e=>?_
 have b:=e.get0 b1;refine⟨_,oz b 0 0,_,oz b 0 1,_,vc b 2,?_⟩;refine cC (c:= [.int .u64 0,.int .u64 0,.int .u64 0]) (vs:= [.int .u64 x.k0,.int .u64 x.k1,.int .u64 x.mask]) b2 rfl fun g d a=>?_
 exact⟨_,vc d 0,_,vc d 1,_,vc d 2,f g ((k1.tr e).own a k1.size)⟩
end Go.Proofs
namespace Go.Proofs
open Go Go.Lift
def CW(p:Pr):Pr:=(lM p.1,lM p.2)
def kV(l:List Pr):List Pr:=(l.take 25).foldl (fun acc p=>gA (CW p) acc) []
theorem Ra{l:List Pr}{i:Nat}(hi:i<l.length)(a:i<25):kV (l.take (i+1))=gA (CW l[i]) (kV (l.take i)):=by
 unfold kV;rw[mu,mu,j8 (by omega),j8 (by omega),bB hi,List.foldl_append];rfl
theorem Rb{l:List Pr}{i:Nat}(a:25≤i):kV (l.take (i+1))=kV (l.take i):=by
 unfold kV;rw[mu,mu,bo (by omega),bo (by omega)]
structure Few(n:Nat)(L:List Pr):Prop where
 up:cx L
 len:L.length≤n
 fit:∀p∈L,p.1.size≤30∧p.2.size≤30
theorem Few.ins{n:Nat}{L:List Pr}(f:Few n L)(p:Pr)(c:p.1.size≤30)(a:p.2.size≤30):Few (n+1) (gA p L):=
 ⟨xh p f.up,aX (BB p) (by have:=f.len;omega),fun q b=>(wx b).elim (fun e=>by rw[e];exact⟨c,a⟩) fun h=>f.fit q h⟩
theorem Ky(l:List Pr):Few 25 (kV l):=by
 unfold kV;have:∀(m:List Pr) (n:Nat) (acc:List Pr),Few n acc→Few (n+m.length) (m.foldl (fun acc p=>gA (CW p) acc) acc):=by
  intro m;induction m with
  |nil=>intro n acc h;exact h
  |cons p m ih=>
   intro n acc h;have:=ih (n+1) _ (h.ins (CW p) (rP _) (rP _));rw[List.foldl_cons,List.length_cons];rw[jJ,pj 1]at this;exact this
 have h:=this (l.take 25) 0 [] ⟨ey,aS _,fun p a=>by simp at a⟩
 exact⟨h.up,aX h.len (by rw[aD];omega),h.fit⟩
theorem Few.fits{n:Nat}{L:List Pr}(f:Few n L):Fit L:=fun p a=>by have:=f.fit p a;omega
set_option maxHeartbeats 1000000 in
theorem TF{W:Nat→Prop}{x:Hs}{h:ae}{s:SliceV}{l:List Pr}{b:Int}(hs:Sl eg 2 W h s l)(hW:∀y,W y→y<h.size)(hkd:b=0∨b=1)(hn:l.length≤9223372036854775807){K:Tr×Rt→ae→Prop}
  (hk:∀n t r,TreeIs W n b x t (kV l)→RefIs W n b x r (kV l)→Upd No h n→K (t,r) n):
  HC PG yU [.int .i64 b,.agg #[.int .u64 x.k0,.int .u64 x.k1,.int .u64 x.mask],.slice s.a s.len s.cap] [.agg [.int .i64,.int .u64,.int .u64,.int .u64,.ptr,.ptr],.agg [.int .i64,.int .u64,.int .u64,.int .u64,.slice]] K h:=by
 refine Nq b (x.k0,x.k1,x.mask) s ?_;unfold Fm cQ bj ag aH aY cS eP nv Bx xb Dt Lr uU Lo zD Qo pt OI jU im Hw OM JU ay;refine aP fun D b1 k1=>aP fun k b2 k2=>aP fun F b3 k3=>?_
 have z1:=aN b1;have z2:=aN b2;have z3:=aN b3;have s1:h.size≤D.size:=k1.size;have s2:D.size≤k.size:=k2.size;have U:=(k1.tr k2).tr k3;have c1:=k3.get0 (k2.get0 b1);have c2:=k3.get0 b2;have s3:=k3.size;refine⟨_,vc c1 0,_,vc c1 1,_,vc c1 2,?_⟩;refine NS (W:=Pro W h F) (x:=x) (Pro.lt hW U) hkd fun g t i8 k8=>?_
 refine aP fun h9 b9 k9=>?_
 have s8:=k8.size;have z9:=aN b9;refine cC (c:=lP DH) (vs:=lP t) b9 rfl fun h10 b10 hu10=>?_
 have N:Upd No g h10:=k9.own hu10 (aj _);have s10:=N.size;have z10:=aN b10;have d1:=N.get0 (k8.get0 c1);refine⟨_,vc d1 0,_,vc d1 1,_,vc d1 2,?_⟩;refine Oa (x:=x) fun h15 k15=>?_
 have s15:=k15.size;refine Tt (x:=x) (W:=fun y=>Pro W h F y∨y=g.size∨y=h15.size) hkd fun f r j17 k17=>?_
 have s17:=k17.size;refine aP fun h18 b18 k18=>?_
 have z18:=aN b18;refine cC (c:=vL Qa) (vs:=vL r) b18 rfl fun E bL huL=>?_
 have H:Upd No f E:=k18.own huL (aj _);have sL:=H.size;have zL:=aN bL;have S:Upd No g E:=((N.tr k15).tr k17).tr H;have kL:Upd No h E:=(U.tr k8).tr S;obtain⟨rs,rfl,hrs,hrc⟩:=j17;have iL:TreeIs (fun y=>Pro W h F y∨y=g.size∨y=f.size) E b x t []:=(i8.less fun y d=>by
  rcases d with d|d|d
  ·exact .inl d
  ·exact .inr (by omega)
  ·exact .inr (by omega)).upd0 S
 have jL:RefIs (fun y=>Pro W h F y∨y=g.size∨y=f.size) E b x (b,hx b x.k0,hx b x.k1,hx b x.mask,rs) []:=⟨rs,rfl,⟨hrs.len,g9,fun h=>absurd rfl h⟩,hrc⟩
 have tL:=H.get0 ((k15.tr k17).get0 b10);have rL1:=S.get0 (k8.get0 c2);have rL2:=S.get0 (k8.get0 b3);have V:∀y,(Pro W h F y∨y=g.size∨y=f.size)→y<E.size:=fun y d=>by
  rcases d with d|d|d
  ·have:=Pro.lt hW U y d;omega
  ·omega
  ·omega
 have hsL:=hs.upd kL fun _ h=>h.elim
 have hlen:=hs.len;generalize (b,hx b x.k0,hx b x.k1,hx b x.mask,rs)=o at jL bL;have Y:∀y,W y→(Pro W h F y∨y=g.size∨y=f.size):=fun y d=>.inl (.inl d)
 have hP1:(Pro W h F D.size∨D.size=g.size∨D.size=f.size):=.inl (.inr (by omega));have hP2:(Pro W h F k.size∨k.size=g.size∨k.size=f.size):=.inl (.inr (by omega));have hPt:(Pro W h F g.size∨g.size=g.size∨g.size=f.size):=.inr (.inl rfl);have Z:(Pro W h F f.size∨f.size=g.size∨f.size=f.size):=.inr (.inr rfl);generalize hWe:(fun y=>Pro W h F y∨y=g.size∨y=f.size)=W' at iL jL
 have eW:∀y,(Pro W h F y∨y=g.size∨y=f.size)=W' y:=fun y=>by rw[←hWe]
 rw[eW]at hP1 hP2 hPt Z;simp only[eW]at V Y;have n1:D.size≠g.size:=by omega
 have n1':D.size≠f.size:=by omega
 have n2:k.size≠g.size:=by omega
 have n2':k.size≠f.size:=by omega
 have n3:g.size≠f.size:=by omega
 have n4:k.size≠D.size:=by omega
 have hr1:h.size≤D.size:=s1;have hr2:h.size≤k.size:=by omega
 have hrt:h.size≤g.size:=by omega
 have hrx:h.size≤f.size:=by omega
 have htL:g.size<E.size:=by omega
 have hxL:f.size<E.size:=by omega
 have h1L:D.size<E.size:=by omega
 have h2L:k.size<E.size:=by omega
 refine LoopP.ghost (fun(i:Nat) (ti:Int) n=>ti=(i:Int)∧i≤l.length∧(∃P o,TreeIs W' n b x P (kV (l.take i))∧RefIs W' n b x o (kV (l.take i))∧n[g.size]? =some (.cells (lP P).toArray bF (0,0))∧n[f.size]? =some (.cells (vL o).toArray eR (0,0)))∧Upd (fun y=>y=g.size∨y=f.size) E n) (fun i=>l.length-i) 0 ⟨rfl,aS _,⟨t,o,by simpa[kV]using iL,by simpa[kV]using jL,tL,bL⟩,Upd.refl _ _⟩ ?_
 rintro I i ti n ⟨rfl,hi,⟨P,o,it,jr,bt,T⟩,hu⟩ hI;have hus:=hu.size;have hu0:Upd No h n:=kL.trans hu fun y d=>.inr (by rcases d with rfl|rfl<;>assumption)
 refine aB (fun L=>?_) fun hge=>?_
 ·have L:i<l.length:=by omega
  obtain⟨a,ha,_,hv⟩:=(hs.upd hu0 fun _ h=>h.elim).at (af L)
  refine Join.intro (fun _ k=>(∃P o,TreeIs W' k b x P (kV (l.take (i+1)))∧RefIs W' k b x o (kV (l.take (i+1)))∧k[g.size]? =some (.cells (lP P).toArray bF (0,0))∧k[f.size]? =some (.cells (vL o).toArray eR (0,0)))∧Upd (fun y=>y=g.size∨y=f.size) E k) (fun R hR=>⟨⟨by omega,by omega⟩,a,ha,l[i].1,hv 0 _ rfl,l[i].2,hv 1 _ rfl,?_⟩) ?_
  ·refine qT (p:=l[i]) fun h28 J w=>?_
   have z28:=aN J;have nt:n.size≠g.size:=by omega
   have nx:n.size≠f.size:=by omega
   refine aB (fun M=>?_) fun M=>?_
   ·have M:i<25:=by omega
    rw[Ra L M]at hR;refine⟨_,vc J 0,_,vc J 1,rd ⟨vc J 1,rd ?_⟩⟩;refine cC (c:= [.string l[i].1,.string l[i].2]) (vs:= [.string (CW l[i]).1,.string (CW l[i]).2]) J rfl fun h35 X hu35=>?_
    have C:Upd No n h35:=w.own hu35 (aj _);have q:=C.get0 bt;have x35:=C.get0 T;have s35:=C.size;have fw:=Ky (l.take i);have fl:=fw.len;have q1:=rP l[i].1;have q2:=rP l[i].2;refine⟨_,vc q 0,_,vc q 1,_,vc q 2,_,vc q 3,_,vc q 4,_,vc q 5,_,vc X 0,_,vc X 1,?_⟩;refine Jn (it.upd0 C) (fun y d=>bI (V y d) (by omega)) fw.up (by omega) (CW l[i]) (by unfold CW;simp only;omega) (by unfold CW;simp only;omega) fun h45 t' i45 _ A=>?_
    refine cC (c:=lP P) (vs:=lP t') (A.get0 q) rfl fun h46 t46 j=>?_
    have B:=j.oth (A.get0 x35) n3.symm;have p46:=j.oth (A.get0 X) nt;have j46:=((jr.upd0 C).upd0 A).updM j fun y d=>.inl (by have d:y=g.size:=d;rw[d];exact hPt)
    have s45:=A.size;have s46:=j.size;refine⟨_,vc B 0,_,vc B 1,_,vc B 2,_,vc B 3,o.2.2.2.2,vc B 4,_,vc p46 0,_,vc p46 1,?_⟩;refine JH j46 (fun y d=>bI (V y d) (by omega)) fw.up (by omega) (CW l[i]) (by unfold CW;simp only;omega) (by unfold CW;simp only;omega) fun h55 r' j55 Q=>?_
    refine cC (c:=vL o) (vs:=vL r') (Q.get0 B) rfl fun h56 x56 v=>hR _ _ ⟨⟨t',r',?_,j55.updM v fun y d=>.inl (by have d:y=f.size:=d;rw[d];exact Z),v.oth (Q.get0 t46) n3,x56⟩,?_⟩
    ·exact((i45.updM j fun y d=>.inl (by have d:y=g.size:=d;rw[d];exact hPt)).upd0 Q).updM v fun y d=>.inl (by have d:y=f.size:=d;rw[d];exact Z)
    ·exact((((hu.tr C.wide).tr A.wide).trans j fun y d=>.inl (.inl d)).tr Q.wide).trans v fun y d=>.inl (.inr d)
   ·have M:25≤i:=by omega
    rw[Rb M]at hR;exact hR _ _ ⟨⟨P,o,it.upd0 w,jr.upd0 w,w.get0 bt,w.get0 T⟩,hu.tr w.wide⟩
  ·rintro _ k ⟨hex,hu2⟩
   rw[rB L hn];exact hI (i+1) _ _ ⟨rfl,L,hex,hu2⟩ (by omega)
 ·have hil:i=l.length:=by omega
  subst hil;rw[cd]at it jr;have y1:=hu.get rL1 (by rintro(e|e)<;>omega)
  have y2:=hu.get rL2 (by rintro(e|e)<;>omega)
  refine⟨_,vc bt 0,_,vc bt 1,_,vc bt 2,_,vc bt 3,_,vc bt 4,_,vc bt 5,_,vc T 0,_,vc T 1,_,vc T 2,_,vc T 3,o.2.2.2.2,vc T 4,?_⟩;refine cC (c:=lP DH) (vs:=lP P) y1 rfl fun h70 b70 m=>?_
  have O:=m.oth T (by omega);refine⟨⟨vc O 0,vc O 1,vc O 2,vc O 3,vc O 4⟩,?_⟩;refine cC (c:=vL Qa) (vs:=vL o) (m.oth y2 n4) rfl fun h71 G u=>?_
  have z:=u.oth b70 n4.symm;refine⟨_,vc z 0,_,vc z 1,_,vc z 2,_,vc z 3,_,vc z 4,_,vc z 5,_,vc G 0,_,vc G 1,_,vc G 2,_,vc G 3,o.2.2.2.2,vc G 4,?_⟩;refine hk h71 P o (((it.updM m fun y d=>.inl (by have d:y=D.size:=d;rw[d];exact hP1)).updM u fun y d=>.inl (by have d:y=k.size:=d;rw[d];exact hP2)).less fun y d=>.inl (Y y d)) (((jr.updM m fun y d=>.inl (by have d:y=D.size:=d;rw[d];exact hP1)).updM u fun y d=>.inl (by have d:y=k.size:=d;rw[d];exact hP2)).less fun y d=>.inl (Y y d)) ((hu0.own m hr1).own u hr2)
end Go.Proofs
namespace Go.Proofs
open Go Go.Lift
end Go.Proofs
namespace Go.Proofs
open Go.Lift
abbrev Ch:=ByteArray×ByteArray×ByteArray×Bool×Bool
end Go.Proofs
namespace Go.Proofs
open Go Go.Lift
end Go.Proofs
namespace Go.Proofs
open Go Go.Lift
theorem L9{h:ae}{b:Nat}{c:Array Value}{t:TypeId}(a:h[b]? =some (.cells c t (0,0))) (hc:0<c.size):eY h ⟨b,0,none⟩:=⟨c,t,a,hc⟩
theorem TrieAt.plain{W:Nat→Prop}{x:Hs}{h:ae}:∀{m b:Nat} {l:List Pr},TrieAt W x h m b l→eY h ⟨b,0,none⟩
 |0,_,_,t=>by obtain⟨_,_,_,a,_⟩:=BuckAt.ex t;exact L9 a (by simp[fR])
 |m+1,_,_,⟨s,nd,_⟩=>by obtain⟨_,_,_,_,_,a,_⟩:=nd.ex;exact L9 a (by simp[fR])
end Go.Proofs
namespace Go.Proofs
open Go Go.Lift
end Go.Proofs
namespace Go.Proofs
open Go Go.Lift
theorem RxN.plain{W:Nat→Prop}{h:ae}{b:Nat}{sl:ByteArray}{w:Option ByteArray}{F:Fo}(r:RxN W h b sl w F):eY h ⟨b,0,none⟩:=by
 obtain⟨val,s,ow,ks,a,_⟩:=r;exact L9 a (by simp[xf])
end Go.Proofs
namespace Go.Proofs
open Go Go.Lift
end Go.Proofs
namespace Go.Proofs
open Go Go.Lift
theorem LB{t:Tr}{h:ae}{K:Int×Int×Int→ae→Prop}(f:∀h',Upd No h h'→K (t.2.1,t.2.2.1,t.2.2.2.1) h'):HC PG nP [DG t] [.agg [.int .u64,.int .u64,.int .u64]] K h:=by
 refine y6 t ?_;unfold rS ag eP uU dQ WA WB;refine aP fun i b1 k1=>aP fun g b2 d=>?_
 have b:=d.get0 b1;refine⟨_,oz b 1 0,_,oz b 1 1,_,oz b 1 2,?_⟩;refine cC (c:= [.int .u64 0,.int .u64 0,.int .u64 0]) (vs:= [.int .u64 t.2.1,.int .u64 t.2.2.1,.int .u64 t.2.2.2.1]) b2 rfl fun e b3 a=>?_
 exact⟨_,vc b3 0,_,vc b3 1,_,vc b3 2,f e ((k1.tr d).own a k1.size)⟩
theorem OV{t:Tr}{h:ae}{K:Option Addr→ae→Prop}(a:∀h',Upd No h h'→K t.2.2.2.2.2 h'):HC PG oL [DG t] [.c .ptr] K h:=by
 refine AA t ?_;unfold tf aH uU;exact aP fun b b1 k1=>⟨_,vc b1 5,a b k1⟩
end Go.Proofs
namespace Go.Proofs
open Go Go.Lift
end Go.Proofs
namespace Go.Proofs
open Go Go.Lift
theorem SQ(n:Nat):dH n [.int .u8 0]=(dT n (0:UInt8)).flatMap nX:=by
 unfold dH;induction n with
 |zero=>rfl
 |succ n ih=>rw[iG,eh,iG,List.flatMap_cons,ih];rfl
theorem Qe{h:ae}{n:Nat}{k:ae→Prop}(b:∀a,Upd No h a→∀s:ByteArray,s.size=n→SRow a (some (aC h)) n (dS s)→k a):At (hnew h (dH n [.int .u8 0]) cr) k:=by
 refine aP fun a b1 k1=>?_
 rw[SQ]at b1;have o:OwnS nX 1 cr (fun _=>True) a ⟨some (aC h),n,n⟩ (dT n (0:UInt8)):=⟨by simp,qJ,aj _,.inr ⟨h.size,[],rfl,trivial,by rw[bh];exact b1,by simp⟩⟩
 have r:=(o.sl (W:=No) fun _ _ _ h=>h).srow
 refine b a k1 ⟨(dT n (0:UInt8)).toArray⟩ (by show(dT n (0:UInt8)).toArray.size=n;simp) ?_;rw[sS];simpa using r
end Go.Proofs
namespace Go.Proofs
open Go Go.Lift
end Go.Proofs
namespace Go.Proofs
open Go Go.Lift
end Go.Proofs
namespace Go.Proofs
open Go Go.Lift
abbrev b1:ByteArray:=⟨#[49]⟩
abbrev b2:ByteArray:=⟨#[50]⟩
abbrev b3:ByteArray:=⟨#[51]⟩
end Go.Proofs
namespace Go.Proofs
open Go Go.Lift
def look(l:List Pr)(k:ByteArray):Option ByteArray:=(l.find? fun p=>decide (p.1=k)).map (·.2)
end Go.Proofs
namespace Go.Proofs
open Go Go.Lift
theorem QR{W:Nat→Prop}{h:ae}{s:SliceV}{l:List Pr}(v:Sl eg 2 W h s l)(E:cx l)(D:Fit l)(H:l.length≤1000000)(k:ByteArray){K:Int×Bool→ae→Prop}
  (B:∀i:Nat,(cp l k=true→∃hi:i<l.length,l[i].1=k)→K ((i:Int),cp l k) h):HC PG yS [.slice s.a s.len s.cap,.string k] [.c (.int .i64),.c .bool] K h:=by
 refine Nl s k ?_;unfold Fh cQ aY im;have y:=v.len;refine LoopP.ghost (fun(i:Nat) (t:Int) n=>t=(i:Int)∧i≤l.length∧n=h∧∀j (c:j<l.length),j<i→kl l[j].1 k) (fun i=>l.length-i) 0 ⟨rfl,aS _,rfl,fun j c h=>by omega⟩ ?_
 rintro I i t n ⟨rfl,hi,rfl,d⟩ C;refine Join.intro (fun t z=>z=n∧(t=true↔∃hi:i<l.length,kl l[i].1 k)) (fun R A=>?_) ?_
 ·refine aB (fun b=>?_) fun u=>A _ _ ⟨rfl,⟨fun h=>(by cases h),fun⟨hi,_⟩=>by omega⟩⟩
  have b:i<l.length:=by omega
  obtain⟨a,w,_,hv⟩:=v.at (af b);have G:=(D _ (aU b)).1;refine⟨⟨by omega,by omega⟩,a,w,l[i].1,hv 0 _ rfl,JJ (by omega) (A _ _ ⟨rfl,?_⟩)⟩
  rw[decide_eq_true_iff];exact⟨fun h=>⟨b,h⟩,fun⟨_,h⟩=>h⟩
 ·rintro t z ⟨rfl,g⟩
  cases t with
  |true=>
   obtain⟨b,x⟩:=g.1 rfl;refine ax.2 ?_;rw[rB b (by omega)];refine C (i+1) _ _ ⟨rfl,b,rfl,fun j c F=>?_⟩ (by omega)
   rcases bG j i with h|h
   ·exact d j c h
   ·have:j=i:=by omega
    subst this;exact x
  |false=>
   refine al.2 (aB (fun b=>?_) fun u=>?_)
   ·have b:i<l.length:=by omega
    have o:¬kl l[i].1 k:=fun h=>by have:=g.2 ⟨b,h⟩;cases this
    obtain⟨a,w,_,hv⟩:=v.at (af b);refine⟨⟨by omega,by omega⟩,a,w,l[i].1,hv 0 _ rfl,?_⟩
    rw[jB];have e:decide (l[i].1=k)=cp l k:=by
     by_cases e:l[i].1=k
     ·rw[decide_eq_true e]
      exact(List.any_eq_true.2 ⟨_,aU b,decide_eq_true e⟩).symm
     ·rw[decide_eq_false e]
      refine(zY fun q p f=>?_).symm
      obtain⟨j,c,rfl⟩:=bP p;have m:=qE o e;rcases Nat.lt_trichotomy j i with h|h|h
      ·have:=d j c h;rw[f]at this;exact cD _ this
      ·subst h;exact e f
      ·have:=List.pairwise_iff_getElem.1 E i j b c h
       rw[f]at this;exact cD _ (iB m this)
    rw[e];exact B i fun g=>⟨b,of_decide_eq_true (e.trans g)⟩
   ·have e:cp l k=false:=zY fun q p f=>by
     obtain⟨j,c,rfl⟩:=bP p;have:=d j c (by omega);rw[f]at this;exact cD _ this
    have:=B i fun h=>by rw[e]at h;cases h
    rw[e]at this;exact this
theorem Tu{W:Nat→Prop}{h:ae}{s:SliceV}{l:List Pr}(e:Sl eg 2 W h s l)(m:cx l)(n:Fit l)(g:l.length≤1000000)(k:ByteArray){K:ByteArray×Bool→ae→Prop}
  (c:∀v,(cp l k=true→(k,v)∈l)→(cp l k=false→v=⟨#[]⟩)→K (v,cp l k) h):HC PG BK [.slice s.a s.len s.cap,.string k] [.c .str,.c .bool] K h:=by
 refine PW s k ?_;unfold Hi cQ aY Bh;have f:=e.len;refine QR e m n g k fun i hi=>?_
 cases ht:cp l k with
 |false=>rw[ht]at c;exact ax.2 (c _ (fun h=>(by cases h)) fun _=>rfl)
 |true=>
  rw[ht]at c;obtain⟨b,d⟩:=hi ht;obtain⟨a,j,_,hv⟩:=e.at (af b);refine al.2 ⟨⟨by simp only;omega,by simp only;omega⟩,a,j,l[i].2,hv 1 _ rfl,c _ (fun _=>by rw[←d];exact aU b) fun h=>(by cases h)⟩
end Go.Proofs
namespace Go.Proofs
open Go Go.Lift
def UP(c:Ch):Bool:=(!((!c.2.2.2.1&& !c.2.2.2.2)||(c.2.2.2.1&&(c.2.2.2.2&&decide (c.2.1=c.2.2.1)))))&&((c.2.2.2.1||decide (c.2.1=⟨#[]⟩))&&(c.2.2.2.2||decide (c.2.2.1=⟨#[]⟩)))
def one(c:Ch):Option Ch:=if UP c then some c else none
end Go.Proofs
namespace Go.Proofs
open Go Go.Lift
end Go.Proofs
namespace Go.Proofs
open Go Go.Lift
end Go.Proofs
namespace Go.Proofs
open Go Go.Lift
theorem Pd{W:Nat→Prop}{x:Hs}{h:ae}{a:Int}{r:Rt}{l:List Pr}(i:RefIs W h a x r l)(v:∀y,W y→y<h.size)(w:cx l)(t:l.length≤1000000)(p:Pr){K:Rt×Int→ae→Prop}
  (b:∀h' r',RefIs W h' a x r' (xT l p)→Upd No h h'→K (r',FF p) h'):HC PG rM [VI r,.agg #[.string p.1,.string p.2]] [.agg [.int .i64,.int .u64,.int .u64,.int .u64,.slice],.c (.int .i64)] K h:=by
 unfold xT at b;by_cases e:FF p=0
 ·rw[if_pos e]at b
  have n:=Gw e;rw[e]at b;exact JH i v w t p n.1 n.2 b
 ·rw[if_neg e]at b
  refine EX r p ?_;unfold zm bj ag cS eP Lr Lo pt im OM cY ay tV;refine aP fun z b1 k1=>aP fun s b2 m=>aP fun A b3 k=>?_
  have q:h.size≤s.size:=(k1.tr m).size;have f:=(k1.tr m).tr k;have j:=k.get0 (m.get0 b1);have o:=k.get0 b2;refine⟨_,vc o 0,_,vc o 1,To (p:=p) ?_⟩;rw[show(FF p !=0)=true by simpa using e]
  refine ax.2 ⟨_,vc j 0,_,vc j 1,_,vc j 2,_,vc j 3,r.2.2.2.2,vc j 4,?_⟩;refine cC (c:=vL Qa) (vs:=vL r) b3 rfl fun u g d=>?_
  exact⟨_,vc g 0,_,vc g 1,_,vc g 2,_,vc g 3,r.2.2.2.2,vc g 4,b u r (i.upd0 (f.own d q)) (f.own d q)⟩
theorem HL{W:Nat→Prop}{x:Hs}{h:ae}{a:Int}{r:Rt}{l:List Pr}(i:RefIs W h a x r l)(L:∀y,W y→y<h.size)(J:cx l)(H:Fit l)(E:l.length≤1000000)(k:ByteArray){K:Rt×Int→ae→Prop}
  (j:∀h' r',RefIs W h' a x r' (Ct l k)→Upd No h h'→K (r',Ry l k) h'):HC PG uc [VI r,.string k] [.agg [.int .i64,.int .u64,.int .u64,.int .u64,.slice],.c (.int .i64)] K h:=by
 unfold Ct Ry at j;refine F5 r k ?_;unfold yl bj ag cS eP Lr Lo OM cY Bh;refine aP fun B b1 k1=>aP fun R b2 C=>?_
 have Q:=aN b1;have P:=aN b2;have n:h.size≤B.size:=k1.size;have b:=k1.tr C;have d:=C.get0 b1;refine aB (fun e=>?_) fun e=>?_
 ·have e:256<k.size:=by omega
  rw[if_pos e,if_pos e]at j;refine⟨_,vc d 0,_,vc d 1,_,vc d 2,_,vc d 3,r.2.2.2.2,vc d 4,?_⟩;refine cC (c:=vL Qa) (vs:=vL r) b2 rfl fun w g f=>?_
  exact⟨_,vc g 0,_,vc g 1,_,vc g 2,_,vc g 3,r.2.2.2.2,vc g 4,j w r (i.upd0 (b.own f n)) (b.own f n)⟩
 ·have e:¬256<k.size:=by omega
  rw[if_neg e,if_neg e]at j;have N:=i;obtain⟨s,rfl,F,hc⟩:=i;refine⟨s,vc d 4,Tu (F.upd b fun _ h=>h.elim) J H E k fun v _ _=>?_⟩
  cases hth:cp l k with
  |false=>
   rw[hth]at j;refine ax.2 ⟨_,vc d 0,_,vc d 1,_,vc d 2,_,vc d 3,s,vc d 4,?_⟩;refine cC (c:=vL Qa) (vs:=vL (a,hx a x.k0,hx a x.k1,hx a x.mask,s)) b2 rfl fun w g f=>?_
   refine⟨_,vc g 0,_,vc g 1,_,vc g 2,_,vc g 3,s,vc g 4,j w _ ?_ (b.own f n)⟩;rw[wR (zI hth)];exact N.upd0 (b.own f n)
  |true=>
   rw[hth]at j;refine al.2 ⟨s,vc d 4,JL (F.upd b fun _ h=>h.elim) E k fun q w A z=>?_⟩
   refine sA (i:=4) (c':=(vL (a,hx a x.k0,hx a x.k1,hx a x.mask,q)).toArray) (z.get0 d) (show 4<5 by decide) rfl fun O p m=>?_
   have I:=z.size;refine⟨_,vc p 0,_,vc p 1,_,vc p 2,_,vc p 3,q,vc p 4,?_⟩;refine cC (c:=vL Qa) (vs:=vL (a,hx a x.k0,hx a x.k1,hx a x.mask,q)) (m.oth (z.get0 b2) (by omega)) rfl fun M u o=>?_
   refine⟨_,vc u 0,_,vc u 1,_,vc u 2,_,vc u 3,q,vc u 4,?_⟩;have t:=(A.upd m fun y D e=>by have e:y=h.size:=e;omega).upd o fun y D e=>by have e:y=B.size:=e;omega
   exact j M _ ⟨q,rfl,t.sl fun y D _ G=>by have:=L y G;omega,t.cap⟩ (((b.tr z).own m (aj _)).own o n)
end Go.Proofs
namespace Go.Proofs
open Go Go.Lift
theorem Re{s:ByteArray}{m:Int}(hm:m≤5000){h:ae}{K:ByteArray→ae→Prop}(a:∀s' h',s'.size≤5030→Upd No h h'→K s' h'):HC PG gU [.string s,.int .i64 m] [.c .str] K h:=by
 refine EY s m ?_;unfold zn;have e:(if 30<(s.size:Int)then(30:Int)else(s.size:Int))=((min s.size 30:Nat):Int):=by split<;>omega
 rw[e];refine⟨⟨by omega,by omega⟩,?_⟩
 simp only[Bd];rw[aM];have z:(s.extract 0 (min s.size 30)).size≤30:=by rw[eK];omega
 refine aB (fun g=>⟨⟨by omega,Int.le_refl _,by omega,by omega⟩,?_⟩) fun _=>a _ _ (by omega) (Upd.refl _ _)
 refine Qe fun b f d i c=>⟨d,c,by omega,a _ b (by rw[ByteArray.size_append];omega) f⟩
end Go.Proofs
namespace Go.Proofs
open Go Go.Lift
theorem QD(x:Hs)(lev:Nat)(l:List Pr):(fQ x lev l).length+(iA x lev l).flatten.length=l.length:=by
 have h:=rz x lev l 32;have d:(l.filter fun p=>decide (ck x lev p.1<32))=l:=List.filter_eq_self.2 fun p _=>decide_eq_true (x8 ..)
 rw[d]at h;have:∀n,(fm (fun c=>gL (part x lev c l)) n).length+(fm (fun c=>eL (part x lev c l)) n).flatten.length=((List.range n).map fun c=>(part x lev c l).length).sum:=by
  intro n;induction n with
  |zero=>simp[fm]
  |succ n ih=>
   rw[gj,gj,List.range_succ,List.map_append,List.sum_append];simp only[ad,d8,List.map_cons,List.map_nil,List.sum_cons,List.sum_nil,cW];generalize part x lev n l=q;have:(gL q).toList.length+(eL q).toList.flatten.length=q.length:=by
    match q with
    | []=>simp[gL,eL]
    | [a]=>simp[gL,eL]
    |a::b::q=>simp[gL,eL]
   omega
 have:=this 32;unfold fQ iA;omega
theorem Ms{W:Nat→Prop}{x:Hs}{h:ae}{m:Nat}{ks:List (Option Addr)}:∀{ls:List (List Pr)},KidsAt W x h m ks ls→ks.length=ls.length∧∀i (hi:i<ls.length),∃b,ks[i]? =some (some ⟨b,0,none⟩)∧TrieAt W x h m b ls[i]:=by
 induction ks with
 |nil=>intro ls;cases ls with
  |nil=>intro _;exact⟨rfl,fun i hi=>absurd hi (is _)⟩
  |cons a ls=>intro h;exact h.elim
 |cons k ks ihk=>intro ls;cases ls with
  |nil=>intro h;exact h.elim
  |cons a ls=>
   rintro⟨⟨b,rfl,c⟩,h⟩;obtain⟨e,d⟩:=ihk h;refine⟨by simp[e],fun i hi=>?_⟩
   cases i with
   |zero=>exact⟨b,rfl,c⟩
   |succ i=>simp only[dG,List.getElem_cons_succ];exact d i (by simpa using hi)
theorem TI{x:Hs}{W:Nat→Prop}:∀(m:Nat),m≤13→∀{b:Nat} {l:List Pr} {h:ae},TrieAt W x h m b l→l.length≤60000→∀{K:Int→ae→Prop},(∀j,Upd No h j→K (l.length:Int) j)→HC PG sN [.pointer (some ⟨b,0,none⟩)] [.c (.int .i64)] K h:=by
 intro m;induction m with
 |zero=>
  intro _ b l h t Y K R;refine CF _ ?_;unfold w8 bR cQ;have X:∀{j},Upd No h j→BuckAt W j b l:=fun k=>BuckAt.upd t k fun _ h=>h.elim
  obtain⟨sp,sk,ow,v,p,hsk,_⟩:=(X (Upd.refl No h)).ex;refine oH v p (by omega) fun T h1 s k1=>?_
  obtain⟨H,O,P,u,hsp1,o,_⟩:=(X k1).ex;refine Dk u o (by simp) fun s2 z q B=>?_
  have C:=q.len;rw[List.length_nil]at C;refine LoopP.ghost (fun(_:Unit) (t:Int×Int) j=>t=((T.len:Int),0)∧j=z) (fun _=>0) () ⟨rfl,rfl⟩ ?_
  rintro I _ t A ⟨rfl,e⟩ S;rw[e];refine aB (fun f=>absurd f (by simp only;omega)) fun _=>?_
  simp only;rw[s.len];exact R z (k1.tr B)
 |succ m ih=>
  intro hm b l h t Y K R;refine CF _ ?_;unfold w8 bR cQ;obtain⟨sl,nd,F⟩:=t;have Z:∀c,c<32→SlotIs W x h m sl c (part x (12-m) c l):=F;have hd:∀{j},Upd No h j→∃d n sp sk ow,j[b]? =some (.cells (fR d n sp sk false ow) bT (0,0))∧Sl eg 2 W j sp (fQ x (12-m) l)∧Sl p6 1 W j sk (fm sl.k 32):=fun{j} k=>by
   obtain⟨d,n,sp,sk,ow,v,bits,A,V,_⟩:=(nd.upd k fun _ h=>h.elim).ex
   refine⟨d,n,sp,sk,ow,v,?_,V⟩;rw[←zN Z];exact A
  have M:KidsAt W x h m (fm sl.k 32) (iA x (12-m) l):=H4 32 Z;have y:∀L∈iA x (12-m) l,L.length≤60000:=fun L hL=>by
   obtain⟨_,c,rfl⟩:=mE hL;exact aX jX Y
  have J:=QD x (12-m) l;obtain⟨G,w⟩:=Ms M;generalize fQ x (12-m) l=So at hd J;generalize iA x (12-m) l=Ma at y J G w;obtain⟨d,n,sp,sk,ow,v,p,_⟩:=hd (Upd.refl No h);refine oH v p (by omega) fun T h1 s k1=>?_
  obtain⟨d1,n1,H,O,P,u,_,o⟩:=hd k1;have U:=vO (g:=sl.k);refine Dk u o (by omega) fun s2 z q B=>?_
  have S2:Sl p6 1 No z s2 (fm sl.k 32):=q.sl fun _ _ _ h=>h
  have hlk:=S2.len;refine LoopP.ghost (fun(i:Nat) (t:Int×Int) j=>t.1=((So.length+(Ma.take i).flatten.length:Nat):Int)∧t.2=(i:Int)∧i≤Ma.length∧Upd No z j) (fun i=>Ma.length-i) 0 ⟨by rw[s.len];simp,rfl,aS _,Upd.refl _ _⟩ ?_
  rintro I i ⟨tn,ti⟩ A ⟨e1,C,hi,D⟩ S;simp only at e1 C;subst e1 C;refine aB (fun f=>?_) fun N=>?_
  ·have f:i<Ma.length:=by simp only at f;omega
   obtain⟨kb,Q,tk⟩:=w i f;obtain⟨a,ha,_,hv⟩:=(S2.upd D fun _ h=>h.elim).at0 Q
   refine⟨⟨by simp only;omega,by simp only;omega⟩,a,ha,some ⟨kb,0,none⟩,hv,?_⟩
   have p:(Ma.take i).flatten.length+Ma[i].length≤Ma.flatten.length:=by
    have e:Ma=Ma.take i++Ma[i]::Ma.drop (i+1):=by rw[List.getElem_cons_drop,List.take_append_drop]
    have:=congrArg (fun L=>(List.flatten L).length) e
    simp only[d8,eh,ad]at this;omega
   refine ih (by omega) (TrieAt.upd0 ((k1.tr B).tr D) tk) (y _ (aU f)) fun V k4=>?_
   simp only;rw[cz f (by omega),ji (by omega)];refine S (i+1) _ _ ⟨?_,rfl,f,D.tr k4⟩ (by omega);rw[bB f,d8];simp only[eh,List.flatten_nil,bh,ad];omega
  ·have E:i=Ma.length:=by simp only at N;omega
   subst E;simp only;rw[cd,J];exact R A ((k1.tr B).tr D)
theorem Td{W:Nat→Prop}{x:Hs}{h:ae}{a:Int}{t:Tr}{l:List Pr}(i:TreeIs W h a x t l)(j:cx l)(d:l.length≤60000){K:Int→ae→Prop}(e:∀h',Upd No h h'→K (l.length:Int) h'):HC PG jn [DG t] [.c (.int .i64)] K h:=by
 rcases i with⟨rfl,b,rfl,c⟩|⟨rfl,b,rfl,c⟩
 ·refine vT _ ?_
  unfold qL bj aH uU;refine aP fun k b1 k1=>⟨_,vc b1 0,al.2 ⟨_,vc b1 4,?_⟩⟩
  exact TI 13 (aj _) (TrieAt.upd0 k1 c) d fun f g=>e f (k1.tr g)
 ·exact Jq (x:=x) (.inr ⟨rfl,b,rfl,c⟩) j d e
end Go.Proofs
namespace Go.Proofs
open Go Go.Lift
theorem NJ(n:Nat):IntKind.wrap .u64 (n:Int)=((n%18446744073709551616:Nat):Int):=by rw[IntKind.wrap_u64];omega
theorem zC{n:Nat}(h:n<18446744073709551616):IntKind.wrap .u64 (n:Int)=(n:Int):=by rw[NJ,dq h]
theorem Ed{a b:Nat}(c:a<18446744073709551616)(d:b<18446744073709551616):Ef a b=((a|||b:Nat):Int):=by
 unfold Ef;rw[show IntKind.bits .u64=64 from rfl,fx,fx,BitVec.toNat_or,om,om,dq (show a<2^64 from c),dq (show b<2^64 from d)]
 exact zC (Nat.or_lt_two_pow (n:=64) c d)
theorem Ee{n a b:Nat}(c:b<2^n)(d:a*2^n+b<18446744073709551616):Ef ((a*2^n:Nat):Int) (b:Int)=((a*2^n+b:Nat):Int):=by
 rw[Ed (by omega) (by omega),kP a,Nat.two_pow_add_eq_or_of_lt c]
def LU(x:Nat):Nat:=x*2%18446744073709551616+x/9223372036854775808
def D5:Nat→Nat→Nat
 |0,x=>x
 |n+1,x=>LU (D5 n x)
theorem Tl{n:Nat}(t:n≤64){x a b:Nat}(q:b<2^(64-n))(m:a<2^n)(e:x=a*2^(64-n)+b):D5 n x=b*2^n+a:=by
 induction n generalizing a b with
 |zero=>
  have:a=0:=by simpa using m
  subst this;rw[e];simp[D5]
 |succ n ih=>
  have f:(2:Nat)^(64-n)=2*2^(64-(n+1)):=by rw[show 64-n=(64-(n+1))+1 by omega,mV,kP]
  have o:(2:Nat)^(n+1)=2*2^n:=by rw[mV,kP]
  have i:(2:Nat)^(64-(n+1))*2^n=9223372036854775808:=by rw[←tK,show 64-(n+1)+n=63 by omega]
  have s:a%2<2:=od _ (by omega);have g:=Nat.div_add_mod a 2;have d:a/2<2^n:=by omega
  have j:a%2*2^(64-(n+1))+b<2^(64-n):=by
   rw[f];have:a%2*2^(64-(n+1))≤1*2^(64-(n+1)):=cg _ (by omega);omega
  have p:x=a/2*2^(64-n)+(a%2*2^(64-(n+1))+b):=by
   rw[e,f,←jJ,←Nat.mul_assoc,←iR,kP (a/2) 2,g]
  have:=ih (by omega) j d p;show LU (D5 n x)=_
  rw[this,iR,Nat.mul_assoc,i,o];unfold LU;have c:b*2^n+2^n≤2^(64-(n+1))*2^n:=by
   rw[←jE];exact cg _ q
  rw[i]at c;have k:b*(2*2^n)=2*(b*2^n):=by rw[Nat.mul_left_comm]
  rw[k];generalize b*2^n=B at c;generalize 2^n=N at d c;have:a%2=0∨a%2=1:=by omega
  rcases this with h|h<;>rw[h]at g⊢<;>omega
theorem Tk(n:Nat){x:Nat}(hx:x<18446744073709551616):D5 n x<18446744073709551616:=by
 induction n with
 |zero=>exact hx
 |succ n ih=>show LU _<_;unfold LU;omega
theorem Wy{n:Nat}(h:n<64):KM (IntKind.wrap .u64 (n:Int)) 63=(n:Int):=by
 rw[zC (by omega)];unfold KM;have:∀n:Fin 64,(ao (IntKind.bits .u64) ((n.val:Nat):Int)&&&ao (IntKind.bits .u64) 63).toNat=n.val:=by decide
 rw[this ⟨n,h⟩];exact zC (by omega)
theorem Tj{n x:Nat}(a:n<64)(hx:x<18446744073709551616):D4 (x:Int) (n:Int)=((D5 n x:Nat):Int):=by
 unfold D4;rw[Wy a];rw[show((64:Int)-(n:Int))=((64-n:Nat):Int) by omega,zC (by omega)]
 simp only[show IntKind.bits .u64=64 from rfl,aM,bo (Nat.le_of_lt a),bo (Nat.sub_le 64 n)]
 have c:(2:Nat)^(64-n)*2^n=18446744073709551616:=by rw[←tK,show 64-n+n=64 by omega]
 have hd:=Nat.div_add_mod x (2^(64-n));have hm:x%2^(64-n)<2^(64-n):=od _ (Nat.two_pow_pos _);have d:x/2^(64-n)<2^n:=by
  rw[Nat.div_lt_iff_lt_mul (Nat.two_pow_pos _),kP,c];exact hx
 rw[kP]at hd;rw[Tl (Nat.le_of_lt a) hm d hd.symm];rw[show((x:Int)*2^n)=((x*2^n:Nat):Int) by rw[Int.natCast_mul,Int.natCast_pow];rfl,NJ]
 rw[show Int.fdiv (x:Int) (2^(64-n))=((x/2^(64-n):Nat):Int) by rw[show((2:Int)^(64-n))=((2^(64-n):Nat):Int) by rw[Int.natCast_pow];rfl];exact Int.ofNat_fdiv x _▸rfl]
 have b:x%2^(64-n)*2^n+2^n≤2^(64-n)*2^n:=by
  rw[←jE];exact cg _ hm
 rw[c]at b;have e:x*2^n%18446744073709551616=x%2^(64-n)*2^n:=by
  rw[←c,Nat.mul_mod_mul_right]
 rw[e];exact Ee d (by omega)
end Go.Proofs
namespace Go.Proofs
open Go Go.Lift
def Fx(s:ByteArray)(i:Nat):Nat:=if h:i<s.size then(s[i]'h).toNat else 0
def hv(s:ByteArray):Nat→Nat→Nat
 |_,0=>0
 |p,c+1=>hv s (p+1) c*256+Fx s p
theorem Sd(s:ByteArray)(i:Nat):Fx s i<256:=by
 unfold Fx;split
 ·exact UInt8.toNat_lt _
 ·omega
theorem OB(s:ByteArray)(i:Nat):KI s i=(Fx s i:Int):=by
 unfold KI Fx;by_cases h:i<s.size
 ·rw[dif_pos h,getElem?_pos s i h]
 ·rw[dif_neg h,getElem?_neg s i h];rfl
theorem EM{s:ByteArray}{i:Nat}(h:s.size≤i):Fx s i=0:=dif_neg (by omega)
theorem GS(s:ByteArray):∀(c p:Nat),hv s p c<256^c
 |0,_=>by show(0:Nat)<1;omega
 |c+1,p=>by
  have:=GS s c (p+1);have:=Sd s p;rw[mV];show hv s (p+1) c*256+Fx s p<_
  omega
theorem Og{s:ByteArray}:∀{c p:Nat},s.size≤p→hv s p c=0
 |0,_,_=>rfl
 |c+1,p,h=>by
  show hv s (p+1) c*256+Fx s p=0
  rw[Og (by omega),EM h]
theorem H7{s:ByteArray}{d:Nat}:∀{c p:Nat},s.size≤p+c→hv s p (c+d)=hv s p c
 |0,p,h=>by rw[Og (by omega)];rfl
 |c+1,p,h=>by
  rw[show c+1+d=(c+d)+1 by omega]
  show hv s (p+1) (c+d)*256+_=hv s (p+1) c*256+_
  rw[H7 (by omega)]
theorem TZ{s:ByteArray}{a b i:Nat}(c:b≤s.size):Fx (s.extract a b) i=if a+i<b then Fx s (a+i)else 0:=by
 unfold Fx;have e:(s.extract a b).size=b-a:=by rw[eK];omega
 by_cases h:a+i<b
 ·rw[if_pos h,dif_pos (by omega),dif_pos (by omega),ByteArray.getElem_extract]
 ·rw[if_neg h,dif_neg (by omega)]
theorem MD{s:ByteArray}{a:Nat}:∀{c p b:Nat},b≤s.size→(b=s.size∨a+p+c≤b)→hv (s.extract a b) p c=hv s (a+p) c
 |0,_,_,_,_=>rfl
 |c+1,p,b,hb,h=>by
  show hv _ (p+1) c*256+_=hv s (a+p+1) c*256+_
  rw[MD hb (h.imp id fun h=>by omega),TZ hb,jJ]
  congr 1
  split
  ·rfl
  ·exact(EM (by omega)).symm
theorem Ua{s:ByteArray}:∀{k c:Nat},k+c≤8→wj s k ((hv s k c*2^(8*k):Nat):Int)=((hv s 0 (k+c):Nat):Int)
 |0,c,_=>by
  show((hv s 0 c*2^(8*0):Nat):Int)=_
  rw[Nat.zero_add];simp
 |k+1,c,h=>by
  have j:=Sd s k;have hc:=GS s c (k+1);have f:(2:Nat)^(8*(k+1))=256*2^(8*k):=by rw[show 8*(k+1)=8+8*k by omega,tK]
  have d:256^c*2^(8*(k+1))≤18446744073709551616:=by
   rw[show(256:Nat)=2^8 from rfl,←Nat.pow_mul,←tK]
   exact ft (by omega) (show 8*c+8*(k+1)≤64 by omega)
  have m:hv s (k+1) c*2^(8*(k+1))+2^(8*(k+1))≤18446744073709551616:=by
   rw[←jE];exact aX (cg _ hc) d
  have i:Fx s k*2^(8*k)<2^(8*(k+1)):=by rw[f];exact Nat.mul_lt_mul_of_pos_right j (Nat.two_pow_pos _)
  have a:hv s (k+1) c*2^(8*(k+1))+Fx s k*2^(8*k)=hv s k (c+1)*2^(8*k):=by
   rw[f,←Nat.mul_assoc,←iR];rfl
  have b:(if k=0 then IntKind.wrap .u64 (KI s 0)else Uh (KI s k) ((8*k:Nat):Int))=((Fx s k*2^(8*k):Nat):Int):=by
   split
   ·rename_i e
    subst e;rw[OB,IntKind.wrap_u64];simp;omega
   ·unfold Uh
    rw[OB,aM,show IntKind.bits .u64=64 from rfl,bo (by omega)]
    have g:IntKind.wrap .u64 ((Fx s k:Nat):Int)=((Fx s k:Nat):Int):=by rw[IntKind.wrap_u64];omega
    rw[g,show((Fx s k:Int)*2^(8*k))=((Fx s k*2^(8*k):Nat):Int) by rw[Int.natCast_mul,Int.natCast_pow];rfl,IntKind.wrap_u64]
    omega
  show wj s k (Ef _ (if k=0 then _ else _))=_
  rw[b,Ee i (by omega),a,Ua (by omega),show k+(c+1)=k+1+c by omega]
theorem Jd{s:ByteArray}(h:s.size≤8):xR s=((hv s 0 8:Nat):Int):=by
 have:=Ua (s:=s) (k:=s.size) (c:=0) (by omega);rw[show hv s s.size 0=0 from rfl,Nat.zero_mul]at this
 unfold xR;rw[show((0:Nat):Int)=0 from rfl]at this
 rw[this,cW];have e:=H7 (s:=s) (d:=8-s.size) (c:=s.size) (p:=0) (by omega);rw[show s.size+(8-s.size)=8 by omega]at e
 rw[e]
def oV:Nat→ByteArray→Nat→Q4→Nat×Q4
 |0,_,a,q=>(a,q)
 |n+1,s,a,q=>if a+8≤s.size then oV n s (a+8) (qR (hv s a 8:Nat) q)else(a,q)
theorem Js:∀{n:Nat} {s:ByteArray} {a:Nat} {q:Q4},a≤s.size→Cf n (s.extract a s.size) q=(s.extract (oV n s a q).1 s.size,(oV n s a q).2)
 |0,_,_,_,_=>rfl
 |n+1,s,a,q,h=>by
  have e:(s.extract a s.size).size=s.size-a:=by rw[eK];omega
  show(if 8≤(s.extract a s.size).size then _ else _)=_
  rw[e];by_cases hc:a+8≤s.size
  ·rw[if_pos (show 8≤s.size-a by omega),ByteArray.extract_extract,ByteArray.extract_extract]
   rw[show oV (n+1) s a q=oV n s (a+8) (qR (hv s a 8:Nat) q)from if_pos hc]
   rw[show min (a+(s.size-a)) s.size=s.size by omega,show min (a+8) s.size=a+8 by omega,cW]
   rw[Jd (by rw[eK];omega),MD (by omega) (.inr (by omega)),cW];exact Js hc
  ·rw[if_neg (show ¬8≤s.size-a by omega),show oV (n+1) s a q=(a,q)from if_neg hc]
theorem G3:∀{n:Nat} {s:ByteArray} {a:Nat} {q:Q4},s.size≤a+n→a≤s.size→s.size<(oV n s a q).1+8∧(oV n s a q).1≤s.size
 |0,_,_,_,h,h'=>⟨by show _<_+8;simp only[oV];omega,h'⟩
 |n+1,s,a,q,h,h'=>by
  by_cases hc:a+8≤s.size
  ·rw[show oV (n+1) s a q=oV n s (a+8) (qR (hv s a 8:Nat) q)from if_pos hc]
   exact G3 (by omega) hc
  ·rw[show oV (n+1) s a q=(a,q)from if_neg hc]
   exact⟨by simp only;omega,h'⟩
theorem Te{k0 k1:Int}{s:ByteArray}:LD k0 k1 s=(let g:=oV s.size s 0 (du k0 8317987319222330741,du k1 7237128888997146477,du k0 7816392313619706465,du k1 8387220255154660723)
  TQ (qR ((hv s g.1 8+s.size%256*72057594037927936:Nat):Int) g.2)):=by
 unfold LD VZ;generalize (du k0 8317987319222330741,du k1 7237128888997146477,du k0 7816392313619706465,du k1 8387220255154660723)=q;have e:=Js (n:=s.size) (s:=s) (a:=0) (q:=q) (aS _);rw[ByteArray.extract_zero_size]at e;rw[e];have⟨k,j⟩:=G3 (n:=s.size) (s:=s) (a:=0) (q:=q) (by omega) (aS _);generalize oV s.size s 0 q=g at k j;obtain⟨a,r⟩:=g;simp only at k j⊢
 rw[Jd (by rw[eK];omega),MD (aj _) (.inl rfl),cW];congr 2
 have hc:hv s a 8<2^56:=by
  have e:=H7 (s:=s) (d:=1) (c:=7) (p:=a) (by omega);rw[show(7+1:Nat)=8 from rfl]at e
  rw[e];exact GS s 7 a
 have f:Uh (s.size:Int) 56=((s.size%256*2^56:Nat):Int):=by
  unfold Uh;rw[show min ((56:Int)).toNat (IntKind.bits .u64)=56 from rfl,NJ]
  rw[show(((s.size%18446744073709551616:Nat):Int)*2^56)=((s.size%18446744073709551616*72057594037927936:Nat):Int) by rw[Int.natCast_mul];rfl,NJ]
  omega
 have hm:s.size%256*2^56+hv s a 8<18446744073709551616:=by omega
 have i:∀{a b:Nat},a<18446744073709551616→b<18446744073709551616→Ef a b=Ef b a:=fun m o=>by rw[Ed m o,Ed o m,Nat.or_comm]
 rw[f,i (Nat.lt_trans hc (by decide)) (Nat.lt_of_le_of_lt (Nat.le_add_right _ _) hm),Ee hc hm,pj]
end Go.Proofs
namespace Go.Proofs
open Go Go.Lift
abbrev Rg(x:Int):Prop:=0≤x∧x<18446744073709551616
theorem Ti(x n:Int):Rg (D4 x n):=Bi _
theorem tO(x n:Int):Rg (du x n):=Bi _
theorem Sr(x n:Int):Rg (Ss x n):=Bi _
theorem xd{x:Int}(hx:Rg x){n:Nat}(g:n<64){h:ae}{K:Int→ae→Prop}(f:K (D4 x n) h):HC PG ml [.int .u64 x,.int .i64 (n:Int)] [.c (.int .u64)] K h:=by
 obtain⟨X,rfl⟩:=oy hx.1;have c:X<18446744073709551616:=by have:=hx.2;omega
 rw[Tj g c]at f;refine Nn X n ?_;unfold Fj;refine LoopP.ghost (fun(i:Nat) (t:Int×Int) d=>t=(((D5 i X:Nat):Int),(i:Int))∧i≤n∧d=h) (fun i=>n-i) 0 ⟨rfl,aS _,rfl⟩ ?_
 rintro I i t d ⟨rfl,hi,rfl⟩ j;refine aB (fun a=>?_) fun b=>?_
 ·have a:i<n:=by have:(i:Int)<(n:Int):=a;omega
  have k:=Tk i c;refine⟨by decide,?_⟩;have e:IntKind.wrap .u64 (IntKind.wrap .u64 (((D5 i X:Nat):Int)*2)+IntKind.wrap .u64 (my ((D5 i X:Nat):Int) 9223372036854775808))=((D5 (i+1) X:Nat):Int):=by
   show _=((LU (D5 i X):Nat):Int)
   unfold LU;rw[fu (by omega),IntKind.wrap_u64,IntKind.wrap_u64,IntKind.wrap_u64];omega
  simp only[Bd];rw[e,cz a (by omega)];exact j (i+1) _ _ ⟨rfl,a,rfl⟩ (by omega)
 ·obtain rfl:i=n:=by have:¬(i:Int)<(n:Int):=b;omega
  exact f
theorem uw{s:Q4}(d:Rg s.2.1)(f:Rg s.2.2.2){h:ae}{K:Q4→ae→Prop}(i:∀h',Upd No h h'→K (kF s) h'):HC PG kz [.agg #[.int .u64 s.1,.int .u64 s.2.1,.int .u64 s.2.2.1,.int .u64 s.2.2.2]] [.agg [.int .u64,.int .u64,.int .u64,.int .u64]] K h:=by
 refine K7 s ?_;unfold CN bR cQ ag eP mZ OF OJ QX;refine aP fun e b1 k1=>aP fun j b2 c=>?_
 have a:=c.get0 b1;have k:=k1.size;refine⟨by decide,_,vc a 0,by decide,_,vc a 1,by decide,_,vc a 2,by decide,_,vc a 3,?_⟩
 refine xd (n:=13) d (by omega) (xd (n:=32) (Sr _ _) (by omega) (xd (n:=16) f (by omega) (xd (n:=21) (tO _ _) (by omega) (xd (n:=17) (tO _ _) (by omega) (xd (n:=32) (Sr _ _) (by omega) ?_)))));refine cC b2 (by rfl) fun b b3 g=>?_
 refine⟨_,vc b3 0,_,vc b3 1,_,vc b3 2,_,vc b3 3,?_⟩;exact i b ((k1.tr c).own g (by omega))
abbrev Rq(q:Q4):Prop:=Rg q.1∧Rg q.2.1∧Rg q.2.2.1∧Rg q.2.2.2
theorem ws(s:Q4):Rq (kF s):=⟨Sr _ _,tO _ _,Ti _ _,tO _ _⟩
theorem Qw(m:Int)(s:Q4):Rq (qR m s):=⟨tO _ _,(ws _).2⟩
theorem Vv{s:ByteArray}{i:Nat}(h:i<s.size):∃b:UInt8,s[i]? =some b∧Fx s i=b.toNat:=⟨s[i],getElem?_pos s i h,by unfold Fx;rw[dif_pos h]⟩
theorem RW{n:Nat}{s:ByteArray}{a:Nat}{q:Q4}(h:s.size≤a+n)(hc:a+8≤s.size):∃m,oV n s a q=oV m s (a+8) (qR (hv s a 8:Nat) q)∧s.size≤a+8+m:=by
 cases n with
 |zero=>omega
 |succ n=>exact⟨n,if_pos hc,by omega⟩
theorem MO{n:Nat}{s:ByteArray}{a:Nat}{q:Q4}(hc:s.size<a+8):oV n s a q=(a,q):=by
 cases n with
 |zero=>rfl
 |succ n=>exact if_neg (by omega)
theorem Tn{k0 k1:Int}{s:ByteArray}(hs:s.size≤1000000000){h:ae}{K:Int→ae→Prop}(u:∀C,Upd No h C→K (LD k0 k1 s) C):HC PG BL [.int .u64 k0,.int .u64 k1,.string s] [.c (.int .u64)] K h:=by
 rw[Te]at u;refine PX k0 k1 s ?_;unfold Hj bR cQ ag eP nv cY OF OJ UG Pm QX;simp only[Bd,show((0:Int)).toNat*1=0 from rfl,show((1:Int)).toNat*1=1 from rfl,show((2:Int)).toNat*1=2 from rfl,show((3:Int)).toNat*1=3 from rfl]
 have eq0:∃E:Q4,E=(du k0 8317987319222330741,du k1 7237128888997146477,du k0 7816392313619706465,du k1 8387220255154660723):=⟨_,rfl⟩;obtain⟨E,W⟩:=eq0;rw[←W]at u;have hq0:Rq E:=by rw[W];exact⟨tO _ _,tO _ _,tO _ _,tO _ _⟩
 refine aP fun h1 b1 k1=>?_
 refine cC b1 (by rfl) fun h2 b2 u2=>?_
 have b2':h2[h.size]? =some (.cells (q4 E) uY (0,0)):=by rw[W];exact b2
 clear b2 W;have hex:∃G:Nat×Q4,G=oV s.size s 0 E:=⟨_,rfl⟩;obtain⟨G,eG⟩:=hex;rw[←eG]at u;simp only at u;refine LoopP.ghost (fun(g:Nat×Q4) (t:Int) C=>t=(g.1:Int)∧C[h.size]? =some (.cells (q4 g.2) uY (0,0))∧Upd No h C∧Rq g.2∧
  ((∃n,oV n s g.1 g.2=G∧s.size≤g.1+n∧g.1≤s.size)∨(s.size<g.1∧g.2=qR ((hv s G.1 8+s.size%256*72057594037927936:Nat):Int) G.2))) (fun g=>s.size+1-g.1) (0,E) ⟨rfl,b2',k1.own u2 (aj _),hq0,.inl ⟨s.size,eG.symm,by omega,aS _⟩⟩ ?_
 rintro I ⟨a,q⟩ t C ⟨rfl,H,hu,U,w⟩ hI;simp only at H U w;refine aB (fun hle=>?_) fun hgt=>?_
 ·have hle:a≤s.size:=by omega
  obtain⟨n,y,hn,_⟩:=w.resolve_right fun h=>by omega
  refine LoopP.ghost (fun(j:Nat) (t:Int×Int) v=>t=(((hv s (a+(8-j)) j:Nat):Int),(7:Int)-(j:Int))∧j≤8∧v=C) (fun j=>8-j) 0 ⟨rfl,by omega,rfl⟩ ?_
  rintro I2 j t v ⟨rfl,hj,rfl⟩ Y;refine aB (fun Z=>?_) fun hlt=>?_
  ·have hj7:j≤7:=by have:(7:Int)-(j:Int)≥0:=Z;omega
   have ei:IntKind.wrap .i64 ((a:Int)+(7-(j:Int)))=((a+(7-j):Nat):Int):=by rw[ji (by omega)];omega
   have A:=GS s (j+1) (a+(8-(j+1)));have hp:256^(j+1)≤256^8:=ft (by omega) (by omega);have B:hv s (a+(8-(j+1))) (j+1)=hv s (a+(8-j)) j*256+Fx s (a+(7-j)):=by
    rw[show a+(8-(j+1))=a+(7-j) by omega]
    show hv s (a+(7-j)+1) j*256+_=_
    rw[show a+(7-j)+1=a+(8-j) by omega]
   rw[B]at A;refine Join.intro (fun t Q=>t=((hv s (a+(8-(j+1))) (j+1):Nat):Int)∧Q=v) (fun R O=>?_) ?_
   ·simp only
    rw[ei];refine aB (fun o=>?_) fun L=>?_
    ·have o:a+(7-j)<s.size:=by omega
     obtain⟨b,hb1,N⟩:=Vv o;refine⟨b,by omega,by rw[aM];exact hb1,O _ _ ⟨?_,rfl⟩⟩
     rw[B,N,IntKind.wrap_u64,IntKind.wrap_u64,IntKind.wrap_u64];rw[N]at A;omega
    ·have hz:Fx s (a+(7-j))=0:=EM (by omega)
     refine O _ _ ⟨?_,rfl⟩;rw[hz]at A;rw[B,hz,IntKind.wrap_u64];omega
   ·rintro t Q ⟨rfl,rfl⟩
    simp only;have e7:IntKind.wrap .i64 ((7:Int)-(j:Int)-1)=(7:Int)-((j+1:Nat):Int):=by rw[ji (by omega)];omega
    rw[e7];exact Y (j+1) _ _ ⟨rfl,by omega,rfl⟩ (by omega)
  ·obtain rfl:j=8:=by have:¬(7:Int)-(j:Int)≥0:=hlt;omega
   simp only[Nat.sub_self,cW];have h8:=GS s 8 a;have e8:IntKind.wrap .i64 ((a:Int)+8)=((a+8:Nat):Int):=by rw[ji (by omega)];omega
   rw[e8];refine Join.intro (fun(t:Int) Q=>Q=v∧∃m:Nat,t=(m:Int)∧((a+8≤s.size∧m=hv s a 8)∨(s.size<a+8∧m=hv s a 8+s.size%256*72057594037927936))) (fun R O=>?_) ?_
   ·refine aB (fun o=>?_) fun L=>?_
    ·have o:s.size<a+8:=by omega
     have hc:hv s a 8<2^56:=by
      have e:=H7 (s:=s) (d:=1) (c:=7) (p:=a) (by omega);rw[show(7+1:Nat)=8 from rfl]at e
      rw[e];exact GS s 7 a
     refine⟨by decide,O _ _ ⟨rfl,_,?_,.inr ⟨o,rfl⟩⟩⟩;rw[mw (by omega),IntKind.wrap_u64,IntKind.wrap_u64,IntKind.wrap_u64];omega
    ·exact O _ _ ⟨rfl,_,rfl,.inl ⟨by omega,rfl⟩⟩
   ·rintro t Q ⟨rfl,m,rfl,hm⟩
    refine⟨by decide,_,vc H 3,by decide,?_⟩
    refine sA (i:=3) (c':=q4 (q.1,q.2.1,q.2.2.1,du q.2.2.2 (m:Int))) H (show 3<4 by decide) rfl fun h4 k u4=>?_
    refine⟨_,vc k 0,_,vc k 1,_,vc k 2,_,vc k 3,?_⟩;refine uw (s:=(q.1,q.2.1,q.2.2.1,du q.2.2.2 (m:Int))) U.2.1 (tO _ _) fun h5 J=>?_
    have f:=ws (q.1,q.2.1,q.2.2.1,du q.2.2.2 (m:Int));have et:qR (m:Int) q=(du (kF (kF (q.1,q.2.1,q.2.2.1,du q.2.2.2 (m:Int)))).1 m,(kF (kF (q.1,q.2.1,q.2.2.1,du q.2.2.2 (m:Int)))).2):=rfl;refine uw f.2.1 f.2.2.2 fun h6 F=>?_
    obtain⟨r,X⟩:∃r,r=kF (kF (q.1,q.2.1,q.2.2.1,du q.2.2.2 (m:Int))):=⟨_,rfl⟩;rw[←X]at et⊢;have b6:=F.get0 (J.get0 k);have z6:=aN b6;refine cC (vs:=(q4 r).toList) b6 rfl fun h7 b7 u7=>?_
    have T:h7[h.size]? =some (.cells (q4 r) uY (0,0)):=b7;refine⟨by decide,_,vc T 0,by decide,?_⟩
    refine sA (i:=0) (c':=q4 (du r.1 m,r.2)) T (show 0<4 by decide) rfl fun h8' V u8=>?_
    have uu:Upd No h h8':=((((hu.own u4 (aj _)).tr J).tr F).own u7 (aj _)).own u8 (aj _);rw[←et]at V;refine hI (a+8,qR m q) _ _ ⟨rfl,V,uu,Qw _ _,?_⟩ (by simp only;omega);rcases hm with⟨hc,rfl⟩|⟨hc,rfl⟩
    ·obtain⟨n',hd,hn'⟩:=RW hn hc
     exact .inl ⟨n',hd.symm.trans y,hn',hc⟩
    ·refine .inr ⟨by simp only;omega,?_⟩
     have:=MO (n:=n) (q:=q) hc;rw[y]at this;rw[this]
 ·obtain⟨_,eq⟩:=w.resolve_left fun⟨_,_,_,h⟩=>by omega
  rw[←eq]at u;clear eq w;refine⟨by decide,_,vc H 2,by decide,?_⟩
  refine sA (i:=2) (c':=q4 (q.1,q.2.1,du q.2.2.1 255,q.2.2.2)) H (show 2<4 by decide) rfl fun h4 k u4=>?_
  refine⟨_,vc k 0,_,vc k 1,_,vc k 2,_,vc k 3,?_⟩;have ef:TQ q=Vf (kF (kF (kF (kF (q.1,q.2.1,du q.2.2.1 255,q.2.2.2))))):=rfl;rw[ef]at u;refine uw (s:=(q.1,q.2.1,du q.2.2.1 255,q.2.2.2)) U.2.1 U.2.2.2 fun h5 J=>?_
  have f:=ws (q.1,q.2.1,du q.2.2.1 255,q.2.2.2);obtain⟨r1,S⟩:∃r,r=kF (q.1,q.2.1,du q.2.2.1 255,q.2.2.2):=⟨_,rfl⟩;rw[←S]at u f⊢;clear S;refine uw f.2.1 f.2.2.2 fun h6 F=>?_
  have z:=ws r1;obtain⟨r2,M⟩:∃r,r=kF r1:=⟨_,rfl⟩;rw[←M]at u z⊢;clear M;refine uw z.2.1 z.2.2.2 fun h7 k7=>?_
  have D:=ws r2;obtain⟨r3,P⟩:∃r,r=kF r2:=⟨_,rfl⟩;rw[←P]at u D⊢;clear P;refine uw D.2.1 D.2.2.2 fun h8 k8=>?_
  obtain⟨r,X⟩:∃r,r=kF r3:=⟨_,rfl⟩;rw[←X]at u⊢;clear X;have V:=k8.get0 (k7.get0 (F.get0 (J.get0 k)));refine cC (vs:=(q4 r).toList) V rfl fun h9 b9 u9=>?_
  have x:h9[h.size]? =some (.cells (q4 r) uY (0,0)):=b9;refine⟨by decide,_,vc x 0,by decide,_,vc x 1,by decide,_,vc x 2,by decide,_,vc x 3,?_⟩
  exact u h9 ((((((hu.own u4 (aj _)).tr J).tr F).tr k7).tr k8).own u9 (aj _))
theorem QQ{x:Hs}{s:ByteArray}(d:s.size≤1000000000){h:ae}{K:Int→ae→Prop}(c:∀h',Upd No h h'→K (me x s) h'):HC PG yR [.agg #[.int .u64 x.k0,.int .u64 x.k1,.int .u64 x.mask],.string s] [.c (.int .u64)] K h:=by
 refine Nj (x.k0,x.k1,x.mask) s ?_;unfold Ff ag Bx UC;refine aP fun e b1 k1=>⟨_,vc b1 0,_,vc b1 1,_,vc b1 2,Tn d fun b a=>⟨vc (a.get0 b1) 2,?_⟩⟩
 exact c b (k1.tr a)
theorem UU{hv:Int}(f:0≤hv∧hv<18446744073709551616){lev:Nat}(o:lev<13){h:ae}{K:Int→ae→Prop}(d:K (((hv.toNat>>>(5*lev))%32:Nat):Int) h):HC PG Ak [.int .u64 hv,.int .i64 lev] [.c (.int .i64)] K h:=by
 obtain⟨n,rfl⟩:=oy f.1;rw[aM]at d;refine SB n lev ?_;unfold Lf;refine Join.plain (aB (fun h=>by omega) fun _=>?_)
 rw[decide_eq_false (by omega)];refine al.2 ?_;refine LoopP.ghost (fun(i:Nat) (t:Int×Int) g=>t=(((n>>>(5*i):Nat):Int),(i:Int))∧i≤lev∧g=h) (fun i=>lev-i) 0 ⟨rfl,aS _,rfl⟩ ?_
 rintro I i t g ⟨rfl,hi,rfl⟩ j;refine aB (fun a=>?_) fun b=>?_
 ·have a:i<lev:=by have:(i:Int)<(lev:Int):=a;omega
  have c:n>>>(5*i)≤n:=Nat.shiftRight_le _ _;have e:n>>>(5*(i+1))=n>>>(5*i)/32:=by rw[Nat.mul_add,Nat.shiftRight_add,Nat.shiftRight_eq_div_pow _ (5*1)]
  have m:n<18446744073709551616:=by have:=f.2;omega
  have k:IntKind.wrap .u64 (my ((n>>>(5*i):Nat):Int) 32)=((n>>>(5*(i+1)):Nat):Int):=by
   rw[e];generalize n>>>(5*i)=y at c;rw[fu (by omega),IntKind.wrap_u64];omega
  refine⟨by decide,?_⟩;simp only;rw[k,cz a (by omega)];exact j (i+1) _ _ ⟨rfl,a,rfl⟩ (by omega)
 ·obtain rfl:i=lev:=by have:¬(i:Int)<(lev:Int):=b;omega
  refine⟨by decide,?_⟩;simp only;generalize n>>>(5*i)=y at d;rw[mw (by omega),ji (by omega)];exact_mod_cast d
theorem V3{x:Hs}{k:ByteArray}{lev:Nat}(a:lev<13){h:ae}{K:Int→ae→Prop}(b:K (ck x lev k:Int) h):HC PG Ak [.int .u64 (me x k),.int .i64 lev] [.c (.int .i64)] K h:=UU (Cs x k) a b
end Go.Proofs
