/- A part of the proof that the named laws of this program answer true, whatever the input. -/
import Derived.Test.YtajpljopgikpgaaGreatDoorPart6
import Derived.Test.YtajpljopgikpgaaGreatDoorPart7
import Derived.Test.YtajpljopgikpgaaGreatDoorPart2
import Derived.Test.YtajpljopgikpgaaGreatDoorPart0
import Derived.Test.YtajpljopgikpgaaGreatDoorPart4
open BitVec renaming ofInt_natCast→eh,toNat_ofNat→mr,ofInt→ah
open ByteArray renaming size_extract→fG
open Int renaming toNat_natCast→aE,eq_ofNat_of_zero_le→mB,tdiv→kF,tdiv_eq_ediv_of_nonneg→eg,tmod_eq_emod_of_nonneg→g6
open List renaming getElem?_cons_zero→bT,getElem?_cons_succ→cZ,getElem?_eq_getElem→ag,length_filter_le→eR,length_take→aG,take_succ_eq_append_getElem→bC,append_nil→bJ,getElem_mem→aP,length_append→ae,length_singleton→aO,mem_singleton→aq,take_length→bN,getElem_of_mem→cj,flatten_append→du,flatten_cons→eO
open Nat renaming zero_le→aV,not_lt_zero→gz,lt_or_ge→bD,le_trans→aX,le_refl→al,add_zero→cN,mod_eq_of_lt→cF,mul_comm→m9,pow_succ→lj,pow_add→qZ,mod_lt→nQ,mul_le_mul_right→bQ,add_assoc→jN,add_mul→ix,succ_mul→iv,min_eq_left→aZ,pow_le_pow_right→d9
open Option renaming some→bm
namespace Go.Proofs
open Go Go.Lift
theorem D3:∀{x y:List UInt8} {i:Nat} {a b:UInt8},(∀j,j<i→x[j]? =y[j]?)→x[i]? =some a→y[i]? =some b→a≠b→Op.bytesLess x y=decide (a.toNat<b.toNat)
 | [],_,_,_,_,_,h,_,_=>by simp at h
 |_::_,[],_,_,_,_,_,h,_=>by simp at h
 |c::x,d::y,0,a,b,_,h1,h2,hne=>by
  simp only[bT,bm.injEq]at h1 h2;subst h1 h2;simp only[Op.bytesLess];rw[beq_false_of_ne hne];simp[UInt8.lt_iff_toNat_lt]
 |c::x,d::y,i+1,a,b,he,h1,h2,hne=>by
  have e:=he 0 (by omega);simp only[bT,bm.injEq]at e;subst e;simp only[cZ]at h1 h2;simp only[Op.bytesLess];rw[D3 (i:=i) (fun j f=>by simpa using he (j+1) (by omega)) h1 h2 hne]
  simp[UInt8.lt_irrefl]
theorem D2:∀{x y:List UInt8} {i:Nat},(∀j,j<i→x[j]? =y[j]?)→i≤x.length→i≤y.length→(i=x.length∨i=y.length)→Op.bytesLess x y=decide (x.length<y.length)
 | [],[],_,_,_,_,_=>by simp[Op.bytesLess]
 | [],_::_,_,_,_,_,_=>by simp[Op.bytesLess]
 |_::_,[],_,_,_,_,_=>by simp[Op.bytesLess]
 |c::x,d::y,0,_,_,_,h=>by simp at h
 |c::x,d::y,i+1,he,h1,h2,h3=>by
  have e:=he 0 (by omega);simp only[bT,bm.injEq]at e;subst e;simp only[Op.bytesLess];rw[D2 (i:=i) (fun j a=>by simpa using he (j+1) (by omega)) (by simpa using h1) (by simpa using h2) (by simpa using h3)]
  simp[UInt8.lt_irrefl]
theorem Gz{a b:ByteArray}(D:a.size≤1000000){h:ad}{K:Bool→ad→Prop}(z:K (decide (kl a b)) h):HC PG sL [.string a,.string b] [.c .bool] K h:=by
 refine JI a b ?_;unfold CH;have B:a.data.toList.length=a.size:=by simp
 have C:b.data.toList.length=b.size:=by simp
 have f:∀{p:Prop} [Decidable p],Op.bytesLess a.data.toList b.data.toList=decide p→K (decide p) h:=fun{p} _ e=>by
  have:decide (kl a b)=decide p:=by
   rw[←e,←ByteArray.toList_eq,←ByteArray.toList_eq];exact Bool.eq_iff_iff.2 (by rw[decide_eq_true_iff];exact Iff.rfl)
  rw[←this];exact z
 refine LoopP.ghost (fun(i:Nat) (t:Int) k=>t=(i:Int)∧i≤a.size∧i≤b.size∧k=h∧∀j,j<i→a.data.toList[j]? =b.data.toList[j]?) (fun i=>a.size-i) 0 ⟨rfl,aV _,aV _,rfl,fun j v=>absurd v (gz _)⟩ ?_
 rintro I i t k ⟨rfl,y,A,rfl,n⟩ x;refine Join.intro (fun t w=>t=decide (i<a.size∧i<b.size)∧w=k) (fun R s=>?_) ?_
 ·refine aH (fun c=>s _ _ ⟨?_,rfl⟩) fun m=>s _ _ ⟨?_,rfl⟩
  ·rw[decide_eq_decide];omega
  ·rw[eq_comm,decide_eq_false_iff_not];omega
 ·rintro t w ⟨rfl,rfl⟩
  refine aH (fun c=>?_) fun m=>?_
  ·have o:a.data.toList[i]? =some a[i]:=by rw[←G1,getElem?_pos a i c.1]
   have q:b.data.toList[i]? =some b[i]:=by rw[←G1,getElem?_pos b i c.2]
   refine⟨a[i],by omega,by rw[aE,getElem?_pos a i c.1],b[i],by omega,by rw[aE,getElem?_pos b i c.2],?_⟩
   refine CondP.intro (fun g=>?_) fun d=>?_
   ·refine⟨a[i],by omega,by rw[aE,getElem?_pos a i c.1],b[i],by omega,by rw[aE,getElem?_pos b i c.2],?_⟩
    refine f ?_;rw[D3 n o q fun e=>by rw[e]at g;simp at g]
    rw[decide_eq_decide];omega
   ·have d:a[i]=b[i]:=by
     have:((a[i].toNat:Int))=(b[i].toNat:Int):=by simpa using d
     exact UInt8.toNat_inj.1 (by omega)
    rw[ci c.1 (by omega)];refine x (i+1) _ _ ⟨rfl,by omega,by omega,rfl,fun j v=>?_⟩ (by omega)
    rcases bD j i with u|u
    ·exact n j u
    ·have:j=i:=by omega
     subst this;rw[o,q,d]
  ·refine f ?_
   rw[D2 n (by omega) (by omega) (by omega),decide_eq_decide];omega
theorem GB{W:Nat→Prop}{h:ad}{s:SliceV}{l:List Pr}(A:Sl gC 2 W h s l)(G:l.length≤1000000)(k:ByteArray){K:SliceV→ad→Prop}
  (E:∀s' d,OwnS gC 2 bH (fun y=>h.size≤y) d s' (l.filter fun p=>decide (p.1≠k))→Upd No h d→K s' d):HC PG sM [.slice s.a s.len s.cap,.string k] [.c .slice] K h:=by
 refine JK s k ?_;unfold CJ dz az nv mC jO bI;have B:=A.len;refine LoopP.ghost (fun(i:Nat) (t:SliceV×Int) d=>t.2=(i:Int)∧i≤l.length∧OwnS gC 2 bH (fun y=>h.size≤y) d t.1 ((l.take i).filter fun p=>decide (p.1≠k))∧Upd No h d) (fun i=>l.length-i) 0 ⟨rfl,aV _,by simpa using OwnS.nil hJ,Upd.refl _ _⟩ ?_
 rintro I i ⟨H,ti⟩ d ⟨z,hi,m,g⟩ D;simp only at z m;subst z;refine aH (fun b=>?_) fun u=>?_
 ·have b:i<l.length:=by have:(i:Int)<(s.len:Int):=b;omega
  obtain⟨a,F,_,hv⟩:=(A.upd g fun _ h=>h.elim).at (ag b)
  have v:((l.take i).filter fun p=>decide (p.1≠k)).length≤l.length:=aX (eR ..) (by rw[aG];omega)
  refine Join.intro (fun t n=>OwnS gC 2 bH (fun y=>h.size≤y) n t ((l.take (i+1)).filter fun p=>decide (p.1≠k))∧Upd No h n) (fun R f=>⟨⟨by simp only;omega,by simp only;omega⟩,a,F,l[i].1,hv 0 _ rfl,l[i].2,hv 1 _ rfl,?_⟩) ?_
  ·refine vC (p:=l[i]) fun n b2 j=>⟨_,vc b2 0,?_⟩
   have c:=m.upd j fun _ _ h=>h
   rw[bC b,List.filter_append,List.filter_cons,List.filter_nil]at f;rw[iU];by_cases e:l[i].1=k
   ·rw[decide_eq_true e]
    rw[decide_eq_false (not_not_intro e)]at f;rw[if_neg (by simp),bJ]at f;exact aj.2 (f _ _ ⟨c,g.tr j⟩)
   ·rw[decide_eq_false e]
    rw[decide_eq_true e,if_pos rfl]at f;refine ax.2 ⟨_,vc b2 0,_,vc b2 1,bL ?_⟩;refine xW (p:=l[i]) c (fun y q=>aX (g.tr j).size q) (aX (Nat.add_le_add_right v 1) (by omega)) fun J L x w=>f _ _ ⟨x,(g.tr j).trans w fun y q=>.inr q⟩
  ·rintro t n ⟨c,o⟩
   rw[ci b (by omega)];exact D (i+1) _ _ ⟨rfl,b,c,o⟩ (by omega)
 ·have C:i=l.length:=by have:¬(i:Int)<(s.len:Int):=u;omega
  rw[List.take_of_length_le (by omega)]at m;exact E _ _ m g
theorem Pj{W:Nat→Prop}{h:ad}{s:SliceV}{l:List Pr}(hs:Sl gC 2 W h s l)(hr:cB l)(hn:l.length≤1000000)(p:Pr)(hp:p.1.size≤1000000){K:SliceV→ad→Prop}
  (Y:∀s' o,OwnS gC 2 bH (fun y=>h.size≤y) o s' (gG p l)→Upd No h o→K s' o):HC PG zg [.slice s.a s.len s.cap,.agg #[.string p.1,.string p.2]] [.c .slice] K h:=by
 refine Ml s p ?_;unfold Ez dz az nv mC jO yO tG bI;refine aQ fun h1 b1 k1=>⟨p.1,vc b1 0,?_⟩
 refine GB (hs.upd k1 fun _ h=>h.elim) hn p.1 fun s4 w Q k4=>?_
 rw[←D7 hr]at Y;have hrf:cB (l.filter fun q=>decide (q.1≠p.1)):=hr.sublist List.filter_sublist
 have hnl:(l.filter fun q=>decide (q.1≠p.1)).length≤1000000:=aX (eR ..) hn
 have M:∀q∈l.filter fun q=>decide (q.1≠p.1),q.1≠p.1:=fun q v=>of_decide_eq_true (List.mem_filter.1 v).2
 generalize l.filter (fun q=>decide (q.1≠p.1))=L at Y Q hrf hnl M
 have C:=k1.tr k4;have T:Sl gC 2 No w s4 L:=Q.sl fun _ _ _ h=>h
 have hlen:=T.len;have z4:=C.size;refine LoopP.ghost (fun(g:Nat×Bool) (t:SliceV×Bool×Int) o=>t.2.2=(g.1:Int)∧t.2.1=g.2∧g.1≤L.length∧(∃out,OwnS gC 2 bH (fun y=>w.size≤y) o t.1 out∧out.length≤g.1+1∧(g.2=false→out=L.take g.1∧∀q∈L.take g.1,kl q.1 p.1)∧(g.2=true→out=gG p (L.take g.1)∧∃q∈L.take g.1,kl p.1 q.1))∧Upd No w o) (fun g=>L.length-g.1) (0,false) ⟨rfl,rfl,aV _,⟨[],OwnS.nil hJ,by simp,fun _=>⟨by simp,by simp⟩,fun h=>by cases h⟩,Upd.refl _ _⟩ ?_
 rintro I ⟨i,pl⟩ ⟨so,tp,ti⟩ o ⟨e1,e2,hi,⟨out,F,J,hf,Z⟩,x⟩ hI;simp only at e1 e2 hi F J hf Z;subst e1 e2;have b':=x.get0 (k4.get0 b1);refine aH (fun f=>?_) fun hge=>?_
 ·have f:i<L.length:=by have:(i:Int)<(s4.len:Int):=f;omega
  obtain⟨a,ha,_,hv⟩:=(T.upd x fun _ h=>h.elim).at (ag f)
  have d:=bC f;have H:L[i]∈L:=aP f;refine Join.intro (fun t E=>(∃out,OwnS gC 2 bH (fun y=>w.size≤y) E t.1 out∧out.length≤i+1+1∧(t.2=false→out=L.take (i+1)∧∀q∈L.take (i+1),kl q.1 p.1)∧(t.2=true→out=gG p (L.take (i+1))∧∃q∈L.take (i+1),kl p.1 q.1))∧Upd No w E) (fun R hR=>⟨⟨by simp only;omega,by simp only;omega⟩,a,ha,L[i].1,hv 0 _ rfl,L[i].2,hv 1 _ rfl,?_⟩) ?_
  ·refine vC (p:=L[i]) fun E b2 X=>?_
   have u:=F.upd X fun _ _ h=>h
   have m:=x.tr X;have zb:=aD b2;have z2:=x.size;have hoM:=(F.within.upd X fun _ _ h=>h).more (M':=fun y=>(w.size≤y∧y<o.size)∨E.size≤y) fun y b=>.inl b
   have c2:=X.get0 b';refine Join.intro (fun t D=>(∃out,OwnS gC 2 bH (fun y=>w.size≤y) D t.1 out∧out.length≤i+1∧(t.2=false→out=L.take i∧∀q∈L.take (i+1),kl q.1 p.1)∧(t.2=true→out++ [L[i]]=gG p (L.take (i+1))∧∃q∈L.take (i+1),kl p.1 q.1))∧D[o.size]? =some (.cells #[.string L[i].1,.string L[i].2] bH (0,0))∧Upd No w D) (fun R2 z=>?_) ?_
   ·refine Join.intro (fun t D=>t=(!tp&&decide (kl p.1 L[i].1))∧D=E) (fun R3 G=>?_) ?_
    ·cases tp with
     |false=>exact ax.2 ⟨p.1,vc c2 0,L[i].1,vc b2 0,Gz hp (G _ _ ⟨by simp,rfl⟩)⟩
     |true=>exact aj.2 (G _ _ ⟨by simp,rfl⟩)
    ·rintro t D ⟨rfl,rfl⟩
     cases tp with
     |true=>
      obtain⟨e,q,v,O⟩:=Z rfl;refine aj.2 (z _ _ ⟨⟨out,u,J,fun h=>(by cases h),fun _=>?_⟩,b2,m⟩)
      rw[d,e];exact⟨(GY ⟨q,v,O⟩).symm,q,List.mem_append_left _ v,O⟩
     |false=>
      obtain⟨e,c⟩:=hf rfl;subst e;by_cases k:kl p.1 L[i].1
      ·rw[decide_eq_true k]
       refine ax.2 ⟨p.1,vc c2 0,p.2,vc c2 1,bL ?_⟩;refine xW (p:=p) hoM (fun y b=>.inr b) (by rw[aG];omega) fun s5 h5 n j=>z _ _ ⟨⟨_,n.more (fun y b=>by rcases b with b|b<;>omega),by rw[ae,aG,aO];omega,fun h=>(by cases h),fun _=>?_⟩,j.get b2 (by rintro(hx|hx)<;>omega),m.trans j fun y b=>.inr (by rcases b with b|b<;>omega)⟩
       ·rw[d,B0 c]
        refine⟨?_,L[i],List.mem_append_right _ (aq.2 rfl),k⟩;rw[List.append_assoc,GW (l:= [L[i]]) fun q v=>by rw[aq.1 v];exact k]
        rfl
      ·rw[decide_eq_false k]
       have v:kl L[i].1 p.1:=tW k fun e=>M _ H e.symm
       refine aj.2 (z _ _ ⟨⟨_,u,by rw[aG];omega,fun _=>⟨rfl,fun q N=>?_⟩,fun h=>(by cases h)⟩,b2,m⟩)
       rw[d]at N;rcases List.mem_append.1 N with h|h
       ·exact c q h
       ·rw[aq.1 h];exact v
   ·rintro⟨t1,t2⟩ D ⟨⟨out3,U,hol3,S,V⟩,b3,P⟩
    simp only at U S V;refine⟨_,vc b3 0,_,vc b3 1,bL ?_⟩;refine xW (p:=L[i]) U (fun y b=>aX P.size b) (by omega) fun s5 h5 n j=>hR _ _ ⟨⟨_,n,by rw[ae,aO];omega,fun h=>?_,fun h=>V h⟩,P.trans j fun y b=>.inr b⟩
    obtain⟨e,c⟩:=S h;exact⟨by rw[e,d],c⟩
  ·rintro⟨t1,t2⟩ E ⟨u,m⟩
   rw[ci f (by omega)];exact hI (i+1,t2) _ _ ⟨rfl,rfl,f,u,m⟩ (by simp only;omega)
 ·have hil:i=L.length:=by have:¬(i:Int)<(s4.len:Int):=hge;omega
  subst hil;rw[bN]at hf Z;cases tp with
  |true=>
   obtain⟨e,_⟩:=Z rfl;subst e;exact aj.2 (Y _ _ (F.more fun y b=>aX z4 b) (C.tr x))
  |false=>
   obtain⟨e,c⟩:=hf rfl;subst e;refine ax.2 ⟨p.1,vc b' 0,p.2,vc b' 1,bL ?_⟩;refine xW (p:=p) F (fun y b=>aX x.size b) (by omega) fun s5 h5 n j=>Y _ _ ?_ ((C.tr x).trans j fun y b=>.inr (aX z4 b))
   have:=B0 (p:=p) (A:=out) (B:= []) c;rw[bJ]at this;rw[this];exact n.more fun y b=>aX z4 b
end Go.Proofs
namespace Go.Proofs
open Go Go.Lift
abbrev Rt:=Int×Int×Int×Int×SliceV
abbrev xd(r:Rt):List Value:= [.int .i64 r.1,.int .u64 r.2.1,.int .u64 r.2.2.1,.int .u64 r.2.2.2.1,.slice r.2.2.2.2.a r.2.2.2.2.len r.2.2.2.2.cap]
abbrev RL(r:Rt):Value:=.agg #[.int .i64 r.1,.int .u64 r.2.1,.int .u64 r.2.2.1,.int .u64 r.2.2.2.1,.slice r.2.2.2.2.a r.2.2.2.2.len r.2.2.2.2.cap]
abbrev O9:Rt:=(0,0,0,0,⟨none,0,0⟩)
def hx(a v:Int):Int:=if a=0 then v else 0
def RefIs(W:Nat→Prop)(h:ad)(a:Int)(x:Hs)(r:Rt)(l:List Pr):Prop:=∃s,r=(a,hx a x.k0,hx a x.k1,hx a x.mask,s)∧Sl gC 2 W h s l∧s.len≤s.cap
theorem RefIs.upd0{W:Nat→Prop}{h c:ad}{a:Int}{x:Hs}{r:Rt}{l:List Pr}(k:Upd No h c)(i:RefIs W h a x r l):RefIs W c a x r l:=
 let⟨s,e,b⟩:=i;⟨s,e,b.1.upd k fun _ h=>h.elim,b.2⟩
theorem RefIs.less{W W':Nat→Prop}{h:ad}(hm:∀b,W' b→W b∨h.size≤b){a:Int}{x:Hs}{r:Rt}{l:List Pr}(i:RefIs W h a x r l):RefIs W' h a x r l:=
 let⟨s,e,c⟩:=i;⟨s,e,c.1.less hm,c.2⟩
theorem RefIs.updM{W M:Nat→Prop}{h d:ad}(k:Upd M h d)(hm:∀b,M b→W b∨h.size≤b){a:Int}{x:Hs}{r:Rt}{l:List Pr}(i:RefIs W h a x r l):RefIs W d a x r l:=
 let⟨s,e,c⟩:=i;⟨s,e,c.1.upd k hm,c.2⟩
theorem Pk{W:Nat→Prop}{x:Hs}{h:ad}{a:Int}(g:a=0∨a=1){K:Rt×Int→ad→Prop}(k:∀h' r,RefIs W h' a x r []→Upd No h h'→K (r,0) h'):HC PG za [.int .i64 a,.agg #[.int .u64 x.k0,.int .u64 x.k1,.int .u64 x.mask]] [.agg [.int .i64,.int .u64,.int .u64,.int .u64,.slice],.c (.int .i64)] K h:=by
 refine Mi a (x.k0,x.k1,x.mask) ?_;unfold Ev bo af dU fT y2 Mw;refine aQ fun m b1 k1=>aQ fun n b2 i=>?_
 have c1:=i.get0 b1;have j:=k1.size;have e:=k1.tr i;rcases g with rfl|rfl
 ·refine ax.2 ⟨_,vc c1 0,_,vc c1 1,_,vc c1 2,?_⟩
  refine dT (c:=xd O9) (vs:=xd (0,x.k0,x.k1,x.mask,⟨none,0,0⟩)) b2 rfl fun f b d=>?_
  exact⟨_,vc b 0,_,vc b 1,_,vc b 2,_,vc b 3,⟨none,0,0⟩,vc b 4,k f (0,x.k0,x.k1,x.mask,⟨none,0,0⟩) ⟨_,rfl,Sl.nil hJ,al _⟩ (e.own d j)⟩
 ·refine aj.2 (ax.2 ?_)
  refine dT (c:=xd O9) (vs:=xd (1,0,0,0,⟨none,0,0⟩)) b2 rfl fun f b d=>?_
  exact⟨_,vc b 0,_,vc b 1,_,vc b 2,_,vc b 3,⟨none,0,0⟩,vc b 4,k f (1,0,0,0,⟨none,0,0⟩) ⟨_,rfl,Sl.nil hJ,al _⟩ (e.own d j)⟩
theorem LA{k v:ByteArray}(c:k.size≤256)(b:v.size≤4096){h:ad}{K:Int→ad→Prop}(a:K 0 h):HC PG qw [.string k,.string v] [.c (.int .i64)] K h:=by
 refine Am k v ?_;unfold uE;refine aH (fun h=>absurd h (by omega)) fun _=>aH (fun h=>absurd h (by omega)) fun _=>a
theorem Nc{W:Nat→Prop}{x:Hs}{h:ad}{a:Int}{r:Rt}{l:List Pr}(i:RefIs W h a x r l)(E:∀y,W y→y<h.size)(H:cB l)(F:l.length≤1000000)(p:Pr)(v:p.1.size≤256)(u:p.2.size≤4096){K:Rt×Int→ad→Prop}
  (I:∀h' r',RefIs W h' a x r' (gG p l)→Upd No h h'→K (r',0) h'):HC PG sH [RL r,.agg #[.string p.1,.string p.2]] [.agg [.int .i64,.int .u64,.int .u64,.int .u64,.slice],.c (.int .i64)] K h:=by
 refine Cv r p ?_;unfold w7 bo af az dU fT Mw Kg jO Ku rC cL tG;refine aQ fun z b1 k1=>aQ fun C b2 t=>aQ fun T b3 o=>?_
 have L:=aD b1;have M:=aD b2;have P:=aD b3;have S:h.size≤z.size:=k1.size;have N:z.size≤C.size:=t.size;have O:=o.size;have n:=(k1.tr t).tr o;have A:=o.get0 (t.get0 b1);have q:=o.get0 b2;obtain⟨s,rfl,D,_⟩:=i;refine⟨_,vc q 0,_,vc q 1,LA v u (aj.2 ?_)⟩;refine⟨s,vc A 4,p.1,vc q 0,p.2,vc q 1,?_⟩;refine Pj (D.upd n fun _ h=>h.elim) H F p (by omega) fun f Q w b=>?_
 refine pj (i:=4) (c':=(xd (a,hx a x.k0,hx a x.k1,hx a x.mask,f)).toArray) (b.get0 A) (show 4<5 by decide) rfl fun R j d=>?_
 refine⟨_,vc j 0,_,vc j 1,_,vc j 2,_,vc j 3,f,vc j 4,?_⟩;refine dT (c:=xd O9) (vs:=xd (a,hx a x.k0,hx a x.k1,hx a x.mask,f)) (d.oth (b.get0 b3) (by omega)) rfl fun G m g=>?_
 refine⟨_,vc m 0,_,vc m 1,_,vc m 2,_,vc m 3,f,vc m 4,?_⟩;have k:=(w.upd d fun y B e=>by have e:y=h.size:=e;omega).upd g fun y B e=>by have e:y=C.size:=e;omega
 refine I G (a,hx a x.k0,hx a x.k1,hx a x.mask,f) ⟨f,rfl,k.sl fun y B _ J=>by have:=E y J;omega,k.cap⟩ (((n.tr b).own d (al _)).own g (by omega))
end Go.Proofs
namespace Go.Proofs
open Go Go.Lift
end Go.Proofs
namespace Go.Proofs
open Go Go.Lift
end Go.Proofs
namespace Go.Proofs
open Go.Lift
abbrev Ch:=ByteArray×ByteArray×ByteArray×Bool×Bool
end Go.Proofs
namespace Go.Proofs
open Go Go.Lift
end Go.Proofs
namespace Go.Proofs
open Go Go.Lift
theorem Iz{h:ad}{b:Nat}{c:Array Value}{t:TypeId}(a:h[b]? =some (.cells c t (0,0))) (hc:0<c.size):dQ h ⟨b,0,none⟩:=⟨c,t,a,hc⟩
theorem TrieAt.plain{W:Nat→Prop}{x:Hs}{h:ad}:∀{m b:Nat} {l:List Pr},TrieAt W x h m b l→dQ h ⟨b,0,none⟩
 |0,_,_,t=>by obtain⟨_,_,_,a,_⟩:=BuckAt.ex t;exact Iz a (by simp[ff])
 |m+1,_,_,⟨s,nd,_⟩=>by obtain⟨_,_,_,_,_,a,_⟩:=nd.ex;exact Iz a (by simp[ff])
end Go.Proofs
namespace Go.Proofs
open Go Go.Lift
end Go.Proofs
namespace Go.Proofs
open Go Go.Lift
theorem RxN.plain{W:Nat→Prop}{h:ad}{b:Nat}{sl:ByteArray}{w:Option ByteArray}{F:Fo}(r:RxN W h b sl w F):dQ h ⟨b,0,none⟩:=by
 obtain⟨val,s,ow,ks,a,_⟩:=r;exact Iz a (by simp[uM])
end Go.Proofs
namespace Go.Proofs
open Go Go.Lift
end Go.Proofs
namespace Go.Proofs
open Go Go.Lift
theorem H3{t:Tr}{h:ad}{K:Int×Int×Int→ad→Prop}(d:∀h',Upd No h h'→K (t.2.1,t.2.2.1,t.2.2.2.1) h'):HC PG mc [Mx t] [.agg [.int .u64,.int .u64,.int .u64]] K h:=by
 refine wN t ?_;unfold pV af cz fT tH Se Sf;refine aQ fun f b1 k1=>aQ fun g b2 b=>?_
 have c1:=b.get0 b1;refine⟨_,kJ c1 1 0,_,kJ c1 1 1,_,kJ c1 1 2,?_⟩;refine dT (c:= [.int .u64 0,.int .u64 0,.int .u64 0]) (vs:= [.int .u64 t.2.1,.int .u64 t.2.2.1,.int .u64 t.2.2.2.1]) b2 rfl fun e b3 a=>?_
 exact⟨_,vc b3 0,_,vc b3 1,_,vc b3 2,d e ((k1.tr b).own a k1.size)⟩
end Go.Proofs
namespace Go.Proofs
open Go Go.Lift
end Go.Proofs
namespace Go.Proofs
open Go Go.Lift
end Go.Proofs
namespace Go.Proofs
open Go Go.Lift
theorem P3{h:ad}{r:Rt}{k:ad→Prop}(e:∀h',h'[h.size]? =some (.cells (xd r).toArray dP (0,0))→Upd No h h'→k h'):
  At (hnew h (xd O9) dP) (fun b=>rK b (some (aA h)) 0 (xd r)∧At (gD b (aA h) 0 (xd r)) k):=
 aQ fun b b1 k1=>dT (c:=xd O9) (vs:=xd r) b1 rfl fun d b2 a=>e d b2 (k1.own a (al _))
end Go.Proofs
namespace Go.Proofs
open Go Go.Lift
end Go.Proofs
namespace Go.Proofs
open Go Go.Lift
abbrev b1:ByteArray:=⟨#[49]⟩
abbrev b2:ByteArray:=⟨#[50]⟩
abbrev b3:ByteArray:=⟨#[51]⟩
end Go.Proofs
namespace Go.Proofs
open Go Go.Lift
def look(l:List Pr)(k:ByteArray):Option ByteArray:=(l.find? fun p=>decide (p.1=k)).map (·.2)
end Go.Proofs
namespace Go.Proofs
open Go Go.Lift
theorem Ng{W:Nat→Prop}{h:ad}{s:SliceV}{l:List Pr}(m:Sl gC 2 W h s l)(E:cB l)(F:Fit l)(H:l.length≤1000000)(k:ByteArray){K:Int×Bool→ad→Prop}
  (z:∀i:Nat,(bW l k=true→∃hi:i<l.length,l[i].1=k)→K ((i:Int),bW l k) h):HC PG wD [.slice s.a s.len s.cap,.string k] [.c (.int .i64),.c .bool] K h:=by
 refine JJ s k ?_;unfold CI dz jO bI;have y:=m.len;refine LoopP.ghost (fun(i:Nat) (t:Int) n=>t=(i:Int)∧i≤l.length∧n=h∧∀j (c:j<l.length),j<i→kl l[j].1 k) (fun i=>l.length-i) 0 ⟨rfl,aV _,rfl,fun j c h=>by omega⟩ ?_
 rintro I i t n ⟨rfl,hi,rfl,d⟩ D;refine Join.intro (fun t B=>B=n∧(t=true↔∃hi:i<l.length,kl l[i].1 k)) (fun R A=>?_) ?_
 ·refine aH (fun b=>?_) fun w=>A _ _ ⟨rfl,⟨fun h=>(by cases h),fun⟨hi,_⟩=>by omega⟩⟩
  have b:i<l.length:=by omega
  obtain⟨a,x,_,hv⟩:=m.at (ag b);have C:=(F _ (aP b)).1;refine⟨⟨by omega,by omega⟩,a,x,l[i].1,hv 0 _ rfl,Gz (by omega) (A _ _ ⟨rfl,?_⟩)⟩
  rw[decide_eq_true_iff];exact⟨fun h=>⟨b,h⟩,fun⟨_,h⟩=>h⟩
 ·rintro t B ⟨rfl,g⟩
  cases t with
  |true=>
   obtain⟨b,u⟩:=g.1 rfl;refine ax.2 ?_;rw[HU b (by omega)];refine D (i+1) _ _ ⟨rfl,b,rfl,fun j c G=>?_⟩ (by omega)
   rcases bD j i with h|h
   ·exact d j c h
   ·have:j=i:=by omega
    subst this;exact u
  |false=>
   refine aj.2 (aH (fun b=>?_) fun w=>?_)
   ·have b:i<l.length:=by omega
    have v:¬kl l[i].1 k:=fun h=>by have:=g.2 ⟨b,h⟩;cases this
    obtain⟨a,x,_,hv⟩:=m.at (ag b);refine⟨⟨by omega,by omega⟩,a,x,l[i].1,hv 0 _ rfl,?_⟩
    rw[iU];have e:decide (l[i].1=k)=bW l k:=by
     by_cases e:l[i].1=k
     ·rw[decide_eq_true e]
      exact(List.any_eq_true.2 ⟨_,aP b,decide_eq_true e⟩).symm
     ·rw[decide_eq_false e]
      refine(xA fun q o f=>?_).symm
      obtain⟨j,c,rfl⟩:=cj o;have p:=tW v e;rcases Nat.lt_trichotomy j i with h|h|h
      ·have:=d j c h;rw[f]at this;exact cA _ this
      ·subst h;exact e f
      ·have:=List.pairwise_iff_getElem.1 E i j b c h
       rw[f]at this;exact cA _ (iP p this)
    rw[e];exact z i fun g=>⟨b,of_decide_eq_true (e.trans g)⟩
   ·have e:bW l k=false:=xA fun q o f=>by
     obtain⟨j,c,rfl⟩:=cj o;have:=d j c (by omega);rw[f]at this;exact cA _ this
    have:=z i fun h=>by rw[e]at h;cases h
    rw[e]at this;exact this
theorem Pl{W:Nat→Prop}{h:ad}{s:SliceV}{l:List Pr}(d:Sl gC 2 W h s l)(n:cB l)(g:Fit l)(m:l.length≤1000000)(k:ByteArray){K:ByteArray×Bool→ad→Prop}
  (c:∀v,(bW l k=true→(k,v)∈l)→(bW l k=false→v=⟨#[]⟩)→K (v,bW l k) h):HC PG zh [.slice s.a s.len s.cap,.string k] [.c .str,.c .bool] K h:=by
 refine Mm s k ?_;unfold EA dz yO bI;have f:=d.len;refine Ng d n g m k fun i hi=>?_
 cases ht:bW l k with
 |false=>rw[ht]at c;exact ax.2 (c _ (fun h=>(by cases h)) fun _=>rfl)
 |true=>
  rw[ht]at c;obtain⟨b,e⟩:=hi ht;obtain⟨a,j,_,hv⟩:=d.at (ag b);refine aj.2 ⟨⟨by simp only;omega,by simp only;omega⟩,a,j,l[i].2,hv 1 _ rfl,c _ (fun _=>by rw[←e];exact aP b) fun h=>(by cases h)⟩
end Go.Proofs
namespace Go.Proofs
open Go Go.Lift
def Qw(c:Ch):Bool:=(!((!c.2.2.2.1&& !c.2.2.2.2)||(c.2.2.2.1&&(c.2.2.2.2&&decide (c.2.1=c.2.2.1)))))&&((c.2.2.2.1||decide (c.2.1=⟨#[]⟩))&&(c.2.2.2.2||decide (c.2.2.1=⟨#[]⟩)))
def one(c:Ch):Option Ch:=if Qw c then some c else none
end Go.Proofs
namespace Go.Proofs
open Go Go.Lift
end Go.Proofs
namespace Go.Proofs
open Go Go.Lift
end Go.Proofs
namespace Go.Proofs
open Go Go.Lift
theorem Lx{W:Nat→Prop}{x:Hs}{h:ad}{a:Int}{r:Rt}{l:List Pr}(i:RefIs W h a x r l)(o:∀y,W y→y<h.size)(u:cB l)(q:l.length≤1000000)(p:Pr){K:Rt×Int→ad→Prop}
  (b:∀h' r',RefIs W h' a x r' (o6 l p)→Upd No h h'→K (r',CU p) h'):HC PG sH [RL r,.agg #[.string p.1,.string p.2]] [.agg [.int .i64,.int .u64,.int .u64,.int .u64,.slice],.c (.int .i64)] K h:=by
 unfold o6 at b;by_cases e:CU p=0
 ·rw[if_pos e]at b
  have m:=DL e;rw[e]at b;exact Nc i o u q p m.1 m.2 b
 ·rw[if_neg e]at b
  refine Cv r p ?_;unfold w7 bo af az dU fT Mw Kg jO Ku rC cL tG;refine aQ fun v b1 k1=>aQ fun t b2 j=>aQ fun w b3 k=>?_
  have n:h.size≤t.size:=(k1.tr j).size;have d:=(k1.tr j).tr k;have c1:=k.get0 (j.get0 b1);have c2:=k.get0 b2;refine⟨_,vc c2 0,_,vc c2 1,Ph (p:=p) ?_⟩;rw[show(CU p !=0)=true by simpa using e]
  refine ax.2 ⟨_,vc c1 0,_,vc c1 1,_,vc c1 2,_,vc c1 3,r.2.2.2.2,vc c1 4,?_⟩;refine dT (c:=xd O9) (vs:=xd r) b3 rfl fun s f g=>?_
  exact⟨_,vc f 0,_,vc f 1,_,vc f 2,_,vc f 3,r.2.2.2.2,vc f 4,b s r (i.upd0 (d.own g n)) (d.own g n)⟩
theorem EV{W:Nat→Prop}{x:Hs}{h:ad}{a:Int}{r:Rt}{l:List Pr}(i:RefIs W h a x r l)(F:∀y,W y→y<h.size)(H:cB l)(J:Fit l)(C:l.length≤1000000)(k:ByteArray){K:Rt×Int→ad→Prop}
  (g:∀h' r',RefIs W h' a x r' (pa l k)→Upd No h h'→K (r',Fq l k) h'):HC PG rl [RL r,.string k] [.agg [.int .i64,.int .u64,.int .u64,.int .u64,.slice],.c (.int .i64)] K h:=by
 unfold pa Fq at g;refine Dk r k ?_;unfold vR bo af dU fT Mw Kg Ku cL yO;refine aQ fun D b1 k1=>aQ fun Q b2 A=>?_
 have N:=aD b1;have O:=aD b2;have q:h.size≤D.size:=k1.size;have b:=k1.tr A;have c1:=A.get0 b1;refine aH (fun e=>?_) fun e=>?_
 ·have e:256<k.size:=by omega
  rw[if_pos e,if_pos e]at g;refine⟨_,vc c1 0,_,vc c1 1,_,vc c1 2,_,vc c1 3,r.2.2.2.2,vc c1 4,?_⟩;refine dT (c:=xd O9) (vs:=xd r) b2 rfl fun u f d=>?_
  exact⟨_,vc f 0,_,vc f 1,_,vc f 2,_,vc f 3,r.2.2.2.2,vc f 4,g u r (i.upd0 (b.own d q)) (b.own d q)⟩
 ·have e:¬256<k.size:=by omega
  rw[if_neg e,if_neg e]at g;have I:=i;obtain⟨s,rfl,B,hc⟩:=i;refine⟨s,vc c1 4,Pl (B.upd b fun _ h=>h.elim) H J C k fun v _ _=>?_⟩
  cases hth:bW l k with
  |false=>
   rw[hth]at g;refine ax.2 ⟨_,vc c1 0,_,vc c1 1,_,vc c1 2,_,vc c1 3,s,vc c1 4,?_⟩;refine dT (c:=xd O9) (vs:=xd (a,hx a x.k0,hx a x.k1,hx a x.mask,s)) b2 rfl fun u f d=>?_
   refine⟨_,vc f 0,_,vc f 1,_,vc f 2,_,vc f 3,s,vc f 4,g u _ ?_ (b.own d q)⟩;rw[uv (xk hth)];exact I.upd0 (b.own d q)
  |true=>
   rw[hth]at g;refine aj.2 ⟨s,vc c1 4,GB (B.upd b fun _ h=>h.elim) C k fun t u z w=>?_⟩
   refine pj (i:=4) (c':=(xd (a,hx a x.k0,hx a x.k1,hx a x.mask,t)).toArray) (w.get0 c1) (show 4<5 by decide) rfl fun P n j=>?_
   have M:=w.size;refine⟨_,vc n 0,_,vc n 1,_,vc n 2,_,vc n 3,t,vc n 4,?_⟩;refine dT (c:=xd O9) (vs:=xd (a,hx a x.k0,hx a x.k1,hx a x.mask,t)) (j.oth (w.get0 b2) (by omega)) rfl fun G p m=>?_
   refine⟨_,vc p 0,_,vc p 1,_,vc p 2,_,vc p 3,t,vc p 4,?_⟩;have o:=(z.upd j fun y E e=>by have e:y=h.size:=e;omega).upd m fun y E e=>by have e:y=D.size:=e;omega
   exact g G _ ⟨t,rfl,o.sl fun y E _ L=>by have:=F y L;omega,o.cap⟩ (((b.tr w).own j (al _)).own m q)
end Go.Proofs
namespace Go.Proofs
open Go Go.Lift
end Go.Proofs
namespace Go.Proofs
open Go Go.Lift
theorem M3(x:Hs)(lev:Nat)(l:List Pr):(fi x lev l).length+(iC x lev l).flatten.length=l.length:=by
 have h:=pD x lev l 32;have d:(l.filter fun p=>decide (ck x lev p.1<32))=l:=List.filter_eq_self.2 fun p _=>decide_eq_true (xT ..)
 rw[d]at h;have:∀n,(fm (fun c=>fX (part x lev c l)) n).length+(fm (fun c=>dN (part x lev c l)) n).flatten.length=((List.range n).map fun c=>(part x lev c l).length).sum:=by
  intro n;induction n with
  |zero=>simp[fm]
  |succ n ih=>
   rw[fz,fz,List.range_succ,List.map_append,List.sum_append];simp only[ae,du,List.map_cons,List.map_nil,List.sum_cons,List.sum_nil,cN];generalize part x lev n l=q;have:(fX q).toList.length+(dN q).toList.flatten.length=q.length:=by
    match q with
    | []=>simp[fX,dN]
    | [a]=>simp[fX,dN]
    |a::b::q=>simp[fX,dN]
   omega
 have:=this 32;unfold fi iC;omega
theorem IQ{W:Nat→Prop}{x:Hs}{h:ad}{m:Nat}{ks:List (Option Addr)}:∀{ls:List (List Pr)},KidsAt W x h m ks ls→ks.length=ls.length∧∀i (hi:i<ls.length),∃b,ks[i]? =some (some ⟨b,0,none⟩)∧TrieAt W x h m b ls[i]:=by
 induction ks with
 |nil=>intro ls;cases ls with
  |nil=>intro _;exact⟨rfl,fun i hi=>absurd hi (gz _)⟩
  |cons a ls=>intro h;exact h.elim
 |cons k ks ihk=>intro ls;cases ls with
  |nil=>intro h;exact h.elim
  |cons a ls=>
   rintro⟨⟨b,rfl,tk⟩,h⟩;obtain⟨e,c⟩:=ihk h;refine⟨by simp[e],fun i hi=>?_⟩
   cases i with
   |zero=>exact⟨b,rfl,tk⟩
   |succ i=>simp only[cZ,List.getElem_cons_succ];exact c i (by simpa using hi)
theorem Pv{x:Hs}{W:Nat→Prop}:∀(m:Nat),m≤13→∀{b:Nat} {l:List Pr} {h:ad},TrieAt W x h m b l→l.length≤60000→∀{K:Int→ad→Prop},(∀j,Upd No h j→K (l.length:Int) j)→HC PG qy [.pointer (some ⟨b,0,none⟩)] [.c (.int .i64)] K h:=by
 intro m;induction m with
 |zero=>
  intro _ b l h t X K M;refine An _ ?_;unfold uG cT dz;have bk:∀{j},Upd No h j→BuckAt W j b l:=fun k=>BuckAt.upd t k fun _ h=>h.elim
  obtain⟨sp,sk,ow,w,p,hsk,_⟩:=(bk (Upd.refl No h)).ex;refine ou w p (by omega) fun s1 h1 q k1=>?_
  obtain⟨J,R,G,u,Z,o,_⟩:=(bk k1).ex;refine Fc u o (by simp) fun U z s A=>?_
  have B:=s.len;rw[List.length_nil]at B;refine LoopP.ghost (fun(_:Unit) (t:Int×Int) j=>t=((s1.len:Int),0)∧j=z) (fun _=>0) () ⟨rfl,rfl⟩ ?_
  rintro I _ t D ⟨rfl,e⟩ Y;rw[e];refine aH (fun f=>absurd f (by simp only;omega)) fun _=>?_
  simp only;rw[q.len];exact M z (k1.tr A)
 |succ m ih=>
  intro hm b l h t X K M;refine An _ ?_;unfold uG cT dz;obtain⟨sl,nd,H⟩:=t;have T:∀c,c<32→SlotIs W x h m sl c (part x (12-m) c l):=H;have hd:∀{j},Upd No h j→∃d n sp sk ow,j[b]? =some (.cells (ff d n sp sk false ow) bE (0,0))∧Sl gC 2 W j sp (fi x (12-m) l)∧Sl oJ 1 W j sk (fm sl.k 32):=fun{j} k=>by
   obtain⟨d,n,sp,sk,ow,w,bits,D,h4,_⟩:=(nd.upd k fun _ h=>h.elim).ex
   refine⟨d,n,sp,sk,ow,w,?_,h4⟩;rw[←AQ T];exact D
  have N:KidsAt W x h m (fm sl.k 32) (iC x (12-m) l):=IR 32 T;have v:∀L∈iC x (12-m) l,L.length≤60000:=fun L hL=>by
   obtain⟨_,c,rfl⟩:=nG hL;exact aX jA X
  have Q:=M3 x (12-m) l;obtain⟨F,y⟩:=IQ N;generalize fi x (12-m) l=So at hd Q;generalize iC x (12-m) l=Ma at v Q F y;obtain⟨d,n,sp,sk,ow,w,p,_⟩:=hd (Upd.refl No h);refine ou w p (by omega) fun s1 h1 q k1=>?_
  obtain⟨d1,n1,J,R,G,u,_,o⟩:=hd k1;have V:=uc (g:=sl.k);refine Fc u o (by omega) fun U z s A=>?_
  have S2:Sl oJ 1 No z U (fm sl.k 32):=s.sl fun _ _ _ h=>h
  have hlk:=S2.len;refine LoopP.ghost (fun(i:Nat) (t:Int×Int) j=>t.1=((So.length+(Ma.take i).flatten.length:Nat):Int)∧t.2=(i:Int)∧i≤Ma.length∧Upd No z j) (fun i=>Ma.length-i) 0 ⟨by rw[q.len];simp,rfl,aV _,Upd.refl _ _⟩ ?_
  rintro I i ⟨tn,ti⟩ D ⟨S,B,hi,C⟩ Y;simp only at S B;subst S B;refine aH (fun f=>?_) fun P=>?_
  ·have f:i<Ma.length:=by simp only at f;omega
   obtain⟨kb,O,tk⟩:=y i f;obtain⟨a,ha,_,hv⟩:=(S2.upd C fun _ h=>h.elim).at0 O
   refine⟨⟨by simp only;omega,by simp only;omega⟩,a,ha,some ⟨kb,0,none⟩,hv,?_⟩
   have p:(Ma.take i).flatten.length+Ma[i].length≤Ma.flatten.length:=by
    have e:Ma=Ma.take i++Ma[i]::Ma.drop (i+1):=by rw[List.getElem_cons_drop,List.take_append_drop]
    have:=congrArg (fun L=>(List.flatten L).length) e
    simp only[du,eO,ae]at this;omega
   refine ih (by omega) (TrieAt.upd0 ((k1.tr A).tr C) tk) (v _ (aP f)) fun h4 k4=>?_
   simp only;rw[ci f (by omega),nq (by omega)];refine Y (i+1) _ _ ⟨?_,rfl,f,C.tr k4⟩ (by omega);rw[bC f,du];simp only[eO,List.flatten_nil,bJ,ae];omega
  ·have E:i=Ma.length:=by simp only at P;omega
   subst E;simp only;rw[bN,Q];exact M D ((k1.tr A).tr C)
theorem EN{W:Nat→Prop}{x:Hs}{h:ad}{a:Int}{t:Tr}{l:List Pr}(i:TreeIs W h a x t l)(j:cB l)(e:l.length≤60000){K:Int→ad→Prop}(d:∀h',Upd No h h'→K (l.length:Int) h'):HC PG ie [Mx t] [.c (.int .i64)] K h:=by
 rcases i with⟨rfl,b,rfl,c⟩|⟨rfl,b,rfl,c⟩
 ·refine tl _ ?_
  unfold oU bo aJ tH;refine aQ fun k b1 k1=>⟨_,vc b1 0,aj.2 ⟨_,vc b1 4,?_⟩⟩
  exact Pv 13 (al _) (TrieAt.upd0 k1 c) e fun g f=>d g (k1.tr f)
 ·exact M1 (x:=x) (.inr ⟨rfl,b,rfl,c⟩) j e d
end Go.Proofs
namespace Go.Proofs
open Go Go.Lift
theorem Kc(n:Nat):IntKind.wrap .u64 (n:Int)=((n%18446744073709551616:Nat):Int):=by rw[IntKind.wrap_u64];omega
theorem xg{n:Nat}(h:n<18446744073709551616):IntKind.wrap .u64 (n:Int)=(n:Int):=by rw[Kc,cF h]
theorem BN{a b:Nat}(c:a<18446744073709551616)(d:b<18446744073709551616):BP a b=((a|||b:Nat):Int):=by
 unfold BP;rw[show IntKind.bits .u64=64 from rfl,eh,eh,BitVec.toNat_or,mr,mr,cF (show a<2^64 from c),cF (show b<2^64 from d)]
 exact xg (Nat.or_lt_two_pow (n:=64) c d)
theorem BO{n a b:Nat}(c:b<2^n)(d:a*2^n+b<18446744073709551616):BP ((a*2^n:Nat):Int) (b:Int)=((a*2^n+b:Nat):Int):=by
 rw[BN (by omega) (by omega),m9 a,Nat.two_pow_add_eq_or_of_lt c]
def Ii(x:Nat):Nat:=x*2%18446744073709551616+x/9223372036854775808
def BF:Nat→Nat→Nat
 |0,x=>x
 |n+1,x=>Ii (BF n x)
theorem Pe{n:Nat}(t:n≤64){x a b:Nat}(o:b<2^(64-n))(m:a<2^n)(e:x=a*2^(64-n)+b):BF n x=b*2^n+a:=by
 induction n generalizing a b with
 |zero=>
  have:a=0:=by simpa using m
  subst this;rw[e];simp[BF]
 |succ n ih=>
  have g:(2:Nat)^(64-n)=2*2^(64-(n+1)):=by rw[show 64-n=(64-(n+1))+1 by omega,lj,m9]
  have j:(2:Nat)^(n+1)=2*2^n:=by rw[lj,m9]
  have f:(2:Nat)^(64-(n+1))*2^n=9223372036854775808:=by rw[←qZ,show 64-(n+1)+n=63 by omega]
  have s:a%2<2:=nQ _ (by omega);have i:=Nat.div_add_mod a 2;have d:a/2<2^n:=by omega
  have k:a%2*2^(64-(n+1))+b<2^(64-n):=by
   rw[g];have:a%2*2^(64-(n+1))≤1*2^(64-(n+1)):=bQ _ (by omega);omega
  have p:x=a/2*2^(64-n)+(a%2*2^(64-(n+1))+b):=by
   rw[e,g,←jN,←Nat.mul_assoc,←ix,m9 (a/2) 2,i]
  have:=ih (by omega) k d p;show Ii (BF n x)=_
  rw[this,ix,Nat.mul_assoc,f,j];unfold Ii;have c:b*2^n+2^n≤2^(64-(n+1))*2^n:=by
   rw[←iv];exact bQ _ o
  rw[f]at c;have q:b*(2*2^n)=2*(b*2^n):=by rw[Nat.mul_left_comm]
  rw[q];generalize b*2^n=B at c;generalize 2^n=N at d c;have:a%2=0∨a%2=1:=by omega
  rcases this with h|h<;>rw[h]at i⊢<;>omega
theorem Pd(n:Nat){x:Nat}(hx:x<18446744073709551616):BF n x<18446744073709551616:=by
 induction n with
 |zero=>exact hx
 |succ n ih=>show Ii _<_;unfold Ii;omega
theorem Sd{n:Nat}(h:n<64):Hk (IntKind.wrap .u64 (n:Int)) 63=(n:Int):=by
 rw[xg (by omega)];unfold Hk;have:∀n:Fin 64,(ah (IntKind.bits .u64) ((n.val:Nat):Int)&&&ah (IntKind.bits .u64) 63).toNat=n.val:=by decide
 rw[this ⟨n,h⟩];exact xg (by omega)
theorem Pc{n x:Nat}(b:n<64)(hx:x<18446744073709551616):BE (x:Int) (n:Int)=((BF n x:Nat):Int):=by
 unfold BE;rw[Sd b];rw[show((64:Int)-(n:Int))=((64-n:Nat):Int) by omega,xg (by omega)]
 simp only[show IntKind.bits .u64=64 from rfl,aE,aZ (Nat.le_of_lt b),aZ (Nat.sub_le 64 n)]
 have a:(2:Nat)^(64-n)*2^n=18446744073709551616:=by rw[←qZ,show 64-n+n=64 by omega]
 have hd:=Nat.div_add_mod x (2^(64-n));have hm:x%2^(64-n)<2^(64-n):=nQ _ (Nat.two_pow_pos _);have d:x/2^(64-n)<2^n:=by
  rw[Nat.div_lt_iff_lt_mul (Nat.two_pow_pos _),m9,a];exact hx
 rw[m9]at hd;rw[Pe (Nat.le_of_lt b) hm d hd.symm];rw[show((x:Int)*2^n)=((x*2^n:Nat):Int) by rw[Int.natCast_mul,Int.natCast_pow];rfl,Kc]
 rw[show Int.fdiv (x:Int) (2^(64-n))=((x/2^(64-n):Nat):Int) by rw[show((2:Int)^(64-n))=((2^(64-n):Nat):Int) by rw[Int.natCast_pow];rfl];exact Int.ofNat_fdiv x _▸rfl]
 have c:x%2^(64-n)*2^n+2^n≤2^(64-n)*2^n:=by
  rw[←iv];exact bQ _ hm
 rw[a]at c;have e:x*2^n%18446744073709551616=x%2^(64-n)*2^n:=by
  rw[←a,Nat.mul_mod_mul_right]
 rw[e];exact BO d (by omega)
end Go.Proofs
namespace Go.Proofs
open Go Go.Lift
def CV(s:ByteArray)(i:Nat):Nat:=if h:i<s.size then(s[i]'h).toNat else 0
def hv(s:ByteArray):Nat→Nat→Nat
 |_,0=>0
 |p,c+1=>hv s (p+1) c*256+CV s p
theorem Og(s:ByteArray)(i:Nat):CV s i<256:=by
 unfold CV;split
 ·exact UInt8.toNat_lt _
 ·omega
theorem K4(s:ByteArray)(i:Nat):Hi s i=(CV s i:Int):=by
 unfold Hi CV;by_cases h:i<s.size
 ·rw[dif_pos h,getElem?_pos s i h]
 ·rw[dif_neg h,getElem?_neg s i h];rfl
theorem Cm{s:ByteArray}{i:Nat}(h:s.size≤i):CV s i=0:=dif_neg (by omega)
theorem D9(s:ByteArray):∀(c p:Nat),hv s p c<256^c
 |0,_=>by show(0:Nat)<1;omega
 |c+1,p=>by
  have:=D9 s c (p+1);have:=Og s p;rw[lj];show hv s (p+1) c*256+CV s p<_
  omega
theorem KJ{s:ByteArray}:∀{c p:Nat},s.size≤p→hv s p c=0
 |0,_,_=>rfl
 |c+1,p,h=>by
  show hv s (p+1) c*256+CV s p=0
  rw[KJ (by omega),Cm h]
theorem Fg{s:ByteArray}{d:Nat}:∀{c p:Nat},s.size≤p+c→hv s p (c+d)=hv s p c
 |0,p,h=>by rw[KJ (by omega)];rfl
 |c+1,p,h=>by
  rw[show c+1+d=(c+d)+1 by omega]
  show hv s (p+1) (c+d)*256+_=hv s (p+1) c*256+_
  rw[Fg (by omega)]
theorem PM{s:ByteArray}{a b i:Nat}(c:b≤s.size):CV (s.extract a b) i=if a+i<b then CV s (a+i)else 0:=by
 unfold CV;have e:(s.extract a b).size=b-a:=by rw[fG];omega
 by_cases h:a+i<b
 ·rw[if_pos h,dif_pos (by omega),dif_pos (by omega),ByteArray.getElem_extract]
 ·rw[if_neg h,dif_neg (by omega)]
theorem I6{s:ByteArray}{a:Nat}:∀{c p b:Nat},b≤s.size→(b=s.size∨a+p+c≤b)→hv (s.extract a b) p c=hv s (a+p) c
 |0,_,_,_,_=>rfl
 |c+1,p,b,hb,h=>by
  show hv _ (p+1) c*256+_=hv s (a+p+1) c*256+_
  rw[I6 hb (h.imp id fun h=>by omega),PM hb,jN]
  congr 1
  split
  ·rfl
  ·exact(Cm (by omega)).symm
theorem PT{s:ByteArray}:∀{k c:Nat},k+c≤8→wj s k ((hv s k c*2^(8*k):Nat):Int)=((hv s 0 (k+c):Nat):Int)
 |0,c,_=>by
  show((hv s 0 c*2^(8*0):Nat):Int)=_
  rw[Nat.zero_add];simp
 |k+1,c,h=>by
  have j:=Og s k;have hc:=D9 s c (k+1);have f:(2:Nat)^(8*(k+1))=256*2^(8*k):=by rw[show 8*(k+1)=8+8*k by omega,qZ]
  have b:256^c*2^(8*(k+1))≤18446744073709551616:=by
   rw[show(256:Nat)=2^8 from rfl,←Nat.pow_mul,←qZ]
   exact d9 (by omega) (show 8*c+8*(k+1)≤64 by omega)
  have m:hv s (k+1) c*2^(8*(k+1))+2^(8*(k+1))≤18446744073709551616:=by
   rw[←iv];exact aX (bQ _ hc) b
  have g:CV s k*2^(8*k)<2^(8*(k+1)):=by rw[f];exact Nat.mul_lt_mul_of_pos_right j (Nat.two_pow_pos _)
  have a:hv s (k+1) c*2^(8*(k+1))+CV s k*2^(8*k)=hv s k (c+1)*2^(8*k):=by
   rw[f,←Nat.mul_assoc,←ix];rfl
  have d:(if k=0 then IntKind.wrap .u64 (Hi s 0)else PX (Hi s k) ((8*k:Nat):Int))=((CV s k*2^(8*k):Nat):Int):=by
   split
   ·rename_i e
    subst e;rw[K4,IntKind.wrap_u64];simp;omega
   ·unfold PX
    rw[K4,aE,show IntKind.bits .u64=64 from rfl,aZ (by omega)]
    have i:IntKind.wrap .u64 ((CV s k:Nat):Int)=((CV s k:Nat):Int):=by rw[IntKind.wrap_u64];omega
    rw[i,show((CV s k:Int)*2^(8*k))=((CV s k*2^(8*k):Nat):Int) by rw[Int.natCast_mul,Int.natCast_pow];rfl,IntKind.wrap_u64]
    omega
  show wj s k (BP _ (if k=0 then _ else _))=_
  rw[d,BO g (by omega),a,PT (by omega),show k+(c+1)=k+1+c by omega]
theorem Gd{s:ByteArray}(h:s.size≤8):vu s=((hv s 0 8:Nat):Int):=by
 have:=PT (s:=s) (k:=s.size) (c:=0) (by omega);rw[show hv s s.size 0=0 from rfl,Nat.zero_mul]at this
 unfold vu;rw[show((0:Nat):Int)=0 from rfl]at this
 rw[this,cN];have e:=Fg (s:=s) (d:=8-s.size) (c:=s.size) (p:=0) (by omega);rw[show s.size+(8-s.size)=8 by omega]at e
 rw[e]
def m0:Nat→ByteArray→Nat→Q4→Nat×Q4
 |0,_,a,q=>(a,q)
 |n+1,s,a,q=>if a+8≤s.size then m0 n s (a+8) (o8 (hv s a 8:Nat) q)else(a,q)
theorem Gl:∀{n:Nat} {s:ByteArray} {a:Nat} {q:Q4},a≤s.size→zP n (s.extract a s.size) q=(s.extract (m0 n s a q).1 s.size,(m0 n s a q).2)
 |0,_,_,_,_=>rfl
 |n+1,s,a,q,h=>by
  have e:(s.extract a s.size).size=s.size-a:=by rw[fG];omega
  show(if 8≤(s.extract a s.size).size then _ else _)=_
  rw[e];by_cases hc:a+8≤s.size
  ·rw[if_pos (show 8≤s.size-a by omega),ByteArray.extract_extract,ByteArray.extract_extract]
   rw[show m0 (n+1) s a q=m0 n s (a+8) (o8 (hv s a 8:Nat) q)from if_pos hc]
   rw[show min (a+(s.size-a)) s.size=s.size by omega,show min (a+8) s.size=a+8 by omega,cN]
   rw[Gd (by rw[fG];omega),I6 (by omega) (.inr (by omega)),cN];exact Gl hc
  ·rw[if_neg (show ¬8≤s.size-a by omega),show m0 (n+1) s a q=(a,q)from if_neg hc]
theorem Ei:∀{n:Nat} {s:ByteArray} {a:Nat} {q:Q4},s.size≤a+n→a≤s.size→s.size<(m0 n s a q).1+8∧(m0 n s a q).1≤s.size
 |0,_,_,_,h,h'=>⟨by show _<_+8;simp only[m0];omega,h'⟩
 |n+1,s,a,q,h,h'=>by
  by_cases hc:a+8≤s.size
  ·rw[show m0 (n+1) s a q=m0 n s (a+8) (o8 (hv s a 8:Nat) q)from if_pos hc]
   exact Ei (by omega) hc
  ·rw[show m0 (n+1) s a q=(a,q)from if_neg hc]
   exact⟨by simp only;omega,h'⟩
theorem O5{k0 k1:Int}{s:ByteArray}:H4 k0 k1 s=(let g:=m0 s.size s 0 (cV k0 8317987319222330741,cV k1 7237128888997146477,cV k0 7816392313619706465,cV k1 8387220255154660723)
  PH (o8 ((hv s g.1 8+s.size%256*72057594037927936:Nat):Int) g.2)):=by
 unfold H4 RI;generalize (cV k0 8317987319222330741,cV k1 7237128888997146477,cV k0 7816392313619706465,cV k1 8387220255154660723)=q;have e:=Gl (n:=s.size) (s:=s) (a:=0) (q:=q) (aV _);rw[ByteArray.extract_zero_size]at e;rw[e];have⟨j,o⟩:=Ei (n:=s.size) (s:=s) (a:=0) (q:=q) (by omega) (aV _);generalize m0 s.size s 0 q=g at j o;obtain⟨a,r⟩:=g;simp only at j o⊢
 rw[Gd (by rw[fG];omega),I6 (al _) (.inl rfl),cN];congr 2
 have hc:hv s a 8<2^56:=by
  have e:=Fg (s:=s) (d:=1) (c:=7) (p:=a) (by omega);rw[show(7+1:Nat)=8 from rfl]at e
  rw[e];exact D9 s 7 a
 have f:PX (s.size:Int) 56=((s.size%256*2^56:Nat):Int):=by
  unfold PX;rw[show min ((56:Int)).toNat (IntKind.bits .u64)=56 from rfl,Kc]
  rw[show(((s.size%18446744073709551616:Nat):Int)*2^56)=((s.size%18446744073709551616*72057594037927936:Nat):Int) by rw[Int.natCast_mul];rfl,Kc]
  omega
 have hm:s.size%256*2^56+hv s a 8<18446744073709551616:=by omega
 have i:∀{a b:Nat},a<18446744073709551616→b<18446744073709551616→BP a b=BP b a:=fun k m=>by rw[BN k m,BN m k,Nat.or_comm]
 rw[f,i (Nat.lt_trans hc (by decide)) (Nat.lt_of_le_of_lt (Nat.le_add_right _ _) hm),BO hc hm,Nat.add_comm]
end Go.Proofs
namespace Go.Proofs
open Go Go.Lift
abbrev Rg(x:Int):Prop:=0≤x∧x<18446744073709551616
theorem Pb(x n:Int):Rg (BE x n):=yP _
theorem rc(x n:Int):Rg (cV x n):=yP _
theorem Ov(x n:Int):Rg (Ow x n):=yP _
theorem uJ{x:Int}(hx:Rg x){n:Nat}(g:n<64){h:ad}{K:Int→ad→Prop}(c:K (BE x n) h):HC PG kA [.int .u64 x,.int .i64 (n:Int)] [.c (.int .u64)] K h:=by
 obtain⟨X,rfl⟩:=mB hx.1;have f:X<18446744073709551616:=by have:=hx.2;omega
 rw[Pc g f]at c;refine JL X n ?_;unfold CL;refine LoopP.ghost (fun(i:Nat) (t:Int×Int) d=>t=(((BF i X:Nat):Int),(i:Int))∧i≤n∧d=h) (fun i=>n-i) 0 ⟨rfl,aV _,rfl⟩ ?_
 rintro I i t d ⟨rfl,hi,rfl⟩ j;refine aH (fun a=>?_) fun b=>?_
 ·have a:i<n:=by have:(i:Int)<(n:Int):=a;omega
  have k:=Pd i f;refine⟨by decide,?_⟩;have e:IntKind.wrap .u64 (IntKind.wrap .u64 (((BF i X:Nat):Int)*2)+IntKind.wrap .u64 (kF ((BF i X:Nat):Int) 9223372036854775808))=((BF (i+1) X:Nat):Int):=by
   show _=((Ii (BF i X):Nat):Int)
   unfold Ii;rw[eg (by omega),IntKind.wrap_u64,IntKind.wrap_u64,IntKind.wrap_u64];omega
  simp only[Bd];rw[e,ci a (by omega)];exact j (i+1) _ _ ⟨rfl,a,rfl⟩ (by omega)
 ·obtain rfl:i=n:=by have:¬(i:Int)<(n:Int):=b;omega
  exact c
theorem rE{s:Q4}(c:Rg s.2.1)(g:Rg s.2.2.2){h:ad}{K:Q4→ad→Prop}(f:∀h',Upd No h h'→K (jl s) h'):HC PG je [.agg #[.int .u64 s.1,.int .u64 s.2.1,.int .u64 s.2.2.1,.int .u64 s.2.2.2]] [.agg [.int .u64,.int .u64,.int .u64,.int .u64]] K h:=by
 refine Hu s ?_;unfold Au cT dz af fT lr K7 K9 Nm;refine aQ fun d b1 k1=>aQ fun j b2 b=>?_
 have c1:=b.get0 b1;have i:=k1.size;refine⟨by decide,_,vc c1 0,by decide,_,vc c1 1,by decide,_,vc c1 2,by decide,_,vc c1 3,?_⟩
 refine uJ (n:=13) c (by omega) (uJ (n:=32) (Ov _ _) (by omega) (uJ (n:=16) g (by omega) (uJ (n:=21) (rc _ _) (by omega) (uJ (n:=17) (rc _ _) (by omega) (uJ (n:=32) (Ov _ _) (by omega) ?_)))));refine dT b2 (by rfl) fun a b3 e=>?_
 refine⟨_,vc b3 0,_,vc b3 1,_,vc b3 2,_,vc b3 3,?_⟩;exact f a ((k1.tr b).own e (by omega))
abbrev Rq(q:Q4):Prop:=Rg q.1∧Rg q.2.1∧Rg q.2.2.1∧Rg q.2.2.2
theorem tR(s:Q4):Rq (jl s):=⟨Ov _ _,rc _ _,Pb _ _,rc _ _⟩
theorem MV(m:Int)(s:Q4):Rq (o8 m s):=⟨rc _ _,(tR _).2⟩
theorem Q6{s:ByteArray}{i:Nat}(h:i<s.size):∃b:UInt8,s[i]? =some b∧CV s i=b.toNat:=⟨s[i],getElem?_pos s i h,by unfold CV;rw[dif_pos h]⟩
theorem N6{n:Nat}{s:ByteArray}{a:Nat}{q:Q4}(h:s.size≤a+n)(hc:a+8≤s.size):∃m,m0 n s a q=m0 m s (a+8) (o8 (hv s a 8:Nat) q)∧s.size≤a+8+m:=by
 cases n with
 |zero=>omega
 |succ n=>exact⟨n,if_pos hc,by omega⟩
theorem Jj{n:Nat}{s:ByteArray}{a:Nat}{q:Q4}(hc:s.size<a+8):m0 n s a q=(a,q):=by
 cases n with
 |zero=>rfl
 |succ n=>exact if_neg (by omega)
theorem Pg{k0 k1:Int}{s:ByteArray}(hs:s.size≤1000000000){h:ad}{K:Int→ad→Prop}(u:∀A,Upd No h A→K (H4 k0 k1 s) A):HC PG zi [.int .u64 k0,.int .u64 k1,.string s] [.c (.int .u64)] K h:=by
 rw[O5]at u;refine Mn k0 k1 s ?_;unfold EB cT dz af fT nv cL K7 K9 Qk LK Nm;simp only[Bd,show((0:Int)).toNat*1=0 from rfl,show((1:Int)).toNat*1=1 from rfl,show((2:Int)).toNat*1=2 from rfl,show((3:Int)).toNat*1=3 from rfl]
 have eq0:∃E:Q4,E=(cV k0 8317987319222330741,cV k1 7237128888997146477,cV k0 7816392313619706465,cV k1 8387220255154660723):=⟨_,rfl⟩;obtain⟨E,U⟩:=eq0;rw[←U]at u;have hq0:Rq E:=by rw[U];exact⟨rc _ _,rc _ _,rc _ _,rc _ _⟩
 refine aQ fun h1 b1 k1=>?_
 refine dT b1 (by rfl) fun h2 b2 u2=>?_
 have Y:h2[h.size]? =some (.cells (q4 E) sd (0,0)):=by rw[U];exact b2
 clear b2 U;have hex:∃G:Nat×Q4,G=m0 s.size s 0 E:=⟨_,rfl⟩;obtain⟨G,eG⟩:=hex;rw[←eG]at u;simp only at u;refine LoopP.ghost (fun(g:Nat×Q4) (t:Int) A=>t=(g.1:Int)∧A[h.size]? =some (.cells (q4 g.2) sd (0,0))∧Upd No h A∧Rq g.2∧
  ((∃n,m0 n s g.1 g.2=G∧s.size≤g.1+n∧g.1≤s.size)∨(s.size<g.1∧g.2=o8 ((hv s G.1 8+s.size%256*72057594037927936:Nat):Int) G.2))) (fun g=>s.size+1-g.1) (0,E) ⟨rfl,Y,k1.own u2 (al _),hq0,.inl ⟨s.size,eG.symm,by omega,aV _⟩⟩ ?_
 rintro I ⟨a,q⟩ t A ⟨rfl,L,hu,W,v⟩ hI;simp only at L W v;refine aH (fun hle=>?_) fun hgt=>?_
 ·have hle:a≤s.size:=by omega
  obtain⟨n,y,hn,_⟩:=v.resolve_right fun h=>by omega
  refine LoopP.ghost (fun(j:Nat) (t:Int×Int) w=>t=(((hv s (a+(8-j)) j:Nat):Int),(7:Int)-(j:Int))∧j≤8∧w=A) (fun j=>8-j) 0 ⟨rfl,by omega,rfl⟩ ?_
  rintro I2 j t w ⟨rfl,hj,rfl⟩ hI2;refine aH (fun Z=>?_) fun hlt=>?_
  ·have hj7:j≤7:=by have:(7:Int)-(j:Int)≥0:=Z;omega
   have ei:IntKind.wrap .i64 ((a:Int)+(7-(j:Int)))=((a+(7-j):Nat):Int):=by rw[nq (by omega)];omega
   have z:=D9 s (j+1) (a+(8-(j+1)));have hp:256^(j+1)≤256^8:=d9 (by omega) (by omega);have D:hv s (a+(8-(j+1))) (j+1)=hv s (a+(8-j)) j*256+CV s (a+(7-j)):=by
    rw[show a+(8-(j+1))=a+(7-j) by omega]
    show hv s (a+(7-j)+1) j*256+_=_
    rw[show a+(7-j)+1=a+(8-j) by omega]
   rw[D]at z;refine Join.intro (fun t F=>t=((hv s (a+(8-(j+1))) (j+1):Nat):Int)∧F=w) (fun R P=>?_) ?_
   ·simp only
    rw[ei];refine aH (fun o=>?_) fun O=>?_
    ·have o:a+(7-j)<s.size:=by omega
     obtain⟨b,hb1,N⟩:=Q6 o;refine⟨b,by omega,by rw[aE];exact hb1,P _ _ ⟨?_,rfl⟩⟩
     rw[D,N,IntKind.wrap_u64,IntKind.wrap_u64,IntKind.wrap_u64];rw[N]at z;omega
    ·have hz:CV s (a+(7-j))=0:=Cm (by omega)
     refine P _ _ ⟨?_,rfl⟩;rw[hz]at z;rw[D,hz,IntKind.wrap_u64];omega
   ·rintro t F ⟨rfl,rfl⟩
    simp only;have e7:IntKind.wrap .i64 ((7:Int)-(j:Int)-1)=(7:Int)-((j+1:Nat):Int):=by rw[nq (by omega)];omega
    rw[e7];exact hI2 (j+1) _ _ ⟨rfl,by omega,rfl⟩ (by omega)
  ·obtain rfl:j=8:=by have:¬(7:Int)-(j:Int)≥0:=hlt;omega
   simp only[Nat.sub_self,cN];have h8:=D9 s 8 a;have e8:IntKind.wrap .i64 ((a:Int)+8)=((a+8:Nat):Int):=by rw[nq (by omega)];omega
   rw[e8];refine Join.intro (fun(t:Int) F=>F=w∧∃m:Nat,t=(m:Int)∧((a+8≤s.size∧m=hv s a 8)∨(s.size<a+8∧m=hv s a 8+s.size%256*72057594037927936))) (fun R P=>?_) ?_
   ·refine aH (fun o=>?_) fun O=>?_
    ·have o:s.size<a+8:=by omega
     have hc:hv s a 8<2^56:=by
      have e:=Fg (s:=s) (d:=1) (c:=7) (p:=a) (by omega);rw[show(7+1:Nat)=8 from rfl]at e
      rw[e];exact D9 s 7 a
     refine⟨by decide,P _ _ ⟨rfl,_,?_,.inr ⟨o,rfl⟩⟩⟩;rw[g6 (by omega),IntKind.wrap_u64,IntKind.wrap_u64,IntKind.wrap_u64];omega
    ·exact P _ _ ⟨rfl,_,rfl,.inl ⟨by omega,rfl⟩⟩
   ·rintro t F ⟨rfl,m,rfl,hm⟩
    refine⟨by decide,_,vc L 3,by decide,?_⟩
    refine pj (i:=3) (c':=q4 (q.1,q.2.1,q.2.2.1,cV q.2.2.2 (m:Int))) L (show 3<4 by decide) rfl fun h4 k u4=>?_
    refine⟨_,vc k 0,_,vc k 1,_,vc k 2,_,vc k 3,?_⟩;refine rE (s:=(q.1,q.2.1,q.2.2.1,cV q.2.2.2 (m:Int))) W.2.1 (rc _ _) fun h5 M=>?_
    have f:=tR (q.1,q.2.1,q.2.2.1,cV q.2.2.2 (m:Int));have et:o8 (m:Int) q=(cV (jl (jl (q.1,q.2.1,q.2.2.1,cV q.2.2.2 (m:Int)))).1 m,(jl (jl (q.1,q.2.1,q.2.2.1,cV q.2.2.2 (m:Int)))).2):=rfl;refine rE f.2.1 f.2.2.2 fun h6 S=>?_
    obtain⟨r,X⟩:∃r,r=jl (jl (q.1,q.2.1,q.2.2.1,cV q.2.2.2 (m:Int))):=⟨_,rfl⟩;rw[←X]at et⊢;have b6:=S.get0 (M.get0 k);have z6:=aD b6;refine dT (vs:=(q4 r).toList) b6 rfl fun h7 b7 u7=>?_
    have T:h7[h.size]? =some (.cells (q4 r) sd (0,0)):=b7;refine⟨by decide,_,vc T 0,by decide,?_⟩
    refine pj (i:=0) (c':=q4 (cV r.1 m,r.2)) T (show 0<4 by decide) rfl fun h8' V u8=>?_
    have uu:Upd No h h8':=((((hu.own u4 (al _)).tr M).tr S).own u7 (al _)).own u8 (al _);rw[←et]at V;refine hI (a+8,o8 m q) _ _ ⟨rfl,V,uu,MV _ _,?_⟩ (by simp only;omega);rcases hm with⟨hc,rfl⟩|⟨hc,rfl⟩
    ·obtain⟨n',hd,hn'⟩:=N6 hn hc
     exact .inl ⟨n',hd.symm.trans y,hn',hc⟩
    ·refine .inr ⟨by simp only;omega,?_⟩
     have:=Jj (n:=n) (q:=q) hc;rw[y]at this;rw[this]
 ·obtain⟨_,eq⟩:=v.resolve_left fun⟨_,_,_,h⟩=>by omega
  rw[←eq]at u;clear eq v;refine⟨by decide,_,vc L 2,by decide,?_⟩
  refine pj (i:=2) (c':=q4 (q.1,q.2.1,cV q.2.2.1 255,q.2.2.2)) L (show 2<4 by decide) rfl fun h4 k u4=>?_
  refine⟨_,vc k 0,_,vc k 1,_,vc k 2,_,vc k 3,?_⟩;have ef:PH q=QR (jl (jl (jl (jl (q.1,q.2.1,cV q.2.2.1 255,q.2.2.2))))):=rfl;rw[ef]at u;refine rE (s:=(q.1,q.2.1,cV q.2.2.1 255,q.2.2.2)) W.2.1 W.2.2.2 fun h5 M=>?_
  have f:=tR (q.1,q.2.1,cV q.2.2.1 255,q.2.2.2);obtain⟨r1,Q⟩:∃r,r=jl (q.1,q.2.1,cV q.2.2.1 255,q.2.2.2):=⟨_,rfl⟩;rw[←Q]at u f⊢;clear Q;refine rE f.2.1 f.2.2.2 fun h6 S=>?_
  have B:=tR r1;obtain⟨r2,J⟩:∃r,r=jl r1:=⟨_,rfl⟩;rw[←J]at u B⊢;clear J;refine rE B.2.1 B.2.2.2 fun h7 k7=>?_
  have C:=tR r2;obtain⟨r3,H⟩:∃r,r=jl r2:=⟨_,rfl⟩;rw[←H]at u C⊢;clear H;refine rE C.2.1 C.2.2.2 fun h8 k8=>?_
  obtain⟨r,X⟩:∃r,r=jl r3:=⟨_,rfl⟩;rw[←X]at u⊢;clear X;have V:=k8.get0 (k7.get0 (S.get0 (M.get0 k)));refine dT (vs:=(q4 r).toList) V rfl fun h9 b9 u9=>?_
  have x:h9[h.size]? =some (.cells (q4 r) sd (0,0)):=b9;refine⟨by decide,_,vc x 0,by decide,_,vc x 1,by decide,_,vc x 2,by decide,_,vc x 3,?_⟩
  exact u h9 ((((((hu.own u4 (al _)).tr M).tr S).tr k7).tr k8).own u9 (al _))
theorem Nf{x:Hs}{s:ByteArray}(b:s.size≤1000000000){h:ad}{K:Int→ad→Prop}(c:∀h',Upd No h h'→K (ko x s) h'):HC PG wC [.agg #[.int .u64 x.k0,.int .u64 x.k1,.int .u64 x.mask],.string s] [.c (.int .u64)] K h:=by
 refine JH (x.k0,x.k1,x.mask) s ?_;unfold CG af y2 Qg;refine aQ fun e b1 k1=>⟨_,vc b1 0,_,vc b1 1,_,vc b1 2,Pg b fun d a=>⟨vc (a.get0 b1) 2,?_⟩⟩
 exact c d (k1.tr a)
theorem QB{hv:Int}(g:0≤hv∧hv<18446744073709551616){lev:Nat}(o:lev<13){h:ad}{K:Int→ad→Prop}(d:K (((hv.toNat>>>(5*lev))%32:Nat):Int) h):HC PG xM [.int .u64 hv,.int .i64 lev] [.c (.int .i64)] K h:=by
 obtain⟨n,rfl⟩:=mB g.1;rw[aE]at d;refine OC n lev ?_;unfold HB;refine Join.plain (aH (fun h=>by omega) fun _=>?_)
 rw[decide_eq_false (by omega)];refine aj.2 ?_;refine LoopP.ghost (fun(i:Nat) (t:Int×Int) f=>t=(((n>>>(5*i):Nat):Int),(i:Int))∧i≤lev∧f=h) (fun i=>lev-i) 0 ⟨rfl,aV _,rfl⟩ ?_
 rintro I i t f ⟨rfl,hi,rfl⟩ k;refine aH (fun a=>?_) fun c=>?_
 ·have a:i<lev:=by have:(i:Int)<(lev:Int):=a;omega
  have b:n>>>(5*i)≤n:=Nat.shiftRight_le _ _;have e:n>>>(5*(i+1))=n>>>(5*i)/32:=by rw[Nat.mul_add,Nat.shiftRight_add,Nat.shiftRight_eq_div_pow _ (5*1)]
  have m:n<18446744073709551616:=by have:=g.2;omega
  have j:IntKind.wrap .u64 (kF ((n>>>(5*i):Nat):Int) 32)=((n>>>(5*(i+1)):Nat):Int):=by
   rw[e];generalize n>>>(5*i)=y at b;rw[eg (by omega),IntKind.wrap_u64];omega
  refine⟨by decide,?_⟩;simp only;rw[j,ci a (by omega)];exact k (i+1) _ _ ⟨rfl,a,rfl⟩ (by omega)
 ·obtain rfl:i=lev:=by have:¬(i:Int)<(lev:Int):=c;omega
  refine⟨by decide,?_⟩;simp only;generalize n>>>(5*i)=y at d;rw[g6 (by omega),nq (by omega)];exact_mod_cast d
theorem RM{x:Hs}{k:ByteArray}{lev:Nat}(a:lev<13){h:ad}{K:Int→ad→Prop}(b:K (ck x lev k:Int) h):HC PG xM [.int .u64 (ko x k),.int .i64 lev] [.c (.int .i64)] K h:=QB (Aa x k) a b
end Go.Proofs
