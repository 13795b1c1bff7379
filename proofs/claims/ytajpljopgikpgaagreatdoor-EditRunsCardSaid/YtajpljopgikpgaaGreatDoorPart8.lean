/- A part of the proof that the named laws of this program answer true, whatever the input. -/
import Derived.Test.YtajpljopgikpgaaGreatDoorPart6
import Derived.Test.YtajpljopgikpgaaGreatDoorPart7
import Derived.Test.YtajpljopgikpgaaGreatDoorPart2
import Derived.Test.YtajpljopgikpgaaGreatDoorPart0
import Derived.Test.YtajpljopgikpgaaGreatDoorPart4
open BitVec renaming ofInt_natCast→eK,toNat_ofNat→nh,ofInt→ah
open ByteArray renaming size_extract→dV
open Int renaming toNat_natCast→aH,eq_ofNat_of_zero_le→nu,tdiv→lq,tdiv_eq_ediv_of_nonneg→eJ,tmod_eq_emod_of_nonneg→iq
open List renaming getElem?_cons_zero→bW,getElem?_cons_succ→du,getElem?_eq_getElem→af,length_filter_le→fh,length_take→aI,take_succ_eq_append_getElem→bI,append_nil→bP,getElem_mem→aP,length_append→ae,length_singleton→aK,mem_singleton→aq,take_length→bU,replicate→dE,replicate_succ→gV,flatten_cons→eh,getElem_of_mem→cB,flatten_append→dM
open Nat renaming zero_le→aU,not_lt_zero→gP,lt_or_ge→bH,le_trans→ba,le_refl→ao,add_zero→cZ,mod_eq_of_lt→de,mul_comm→jV,pow_succ→lY,pow_add→rX,mod_lt→na,mul_le_mul_right→bZ,add_assoc→kB,add_mul→iQ,succ_mul→iM,min_eq_left→bm,pow_le_pow_right→eI
open Option renaming some→bv
namespace Go.Proofs
open Go Go.Lift
theorem Fb:∀{x y:List UInt8} {i:Nat} {a b:UInt8},(∀j,j<i→x[j]? =y[j]?)→x[i]? =some a→y[i]? =some b→a≠b→Op.bytesLess x y=decide (a.toNat<b.toNat)
 | [],_,_,_,_,_,h,_,_=>by simp at h
 |_::_,[],_,_,_,_,_,h,_=>by simp at h
 |c::x,d::y,0,a,b,_,h1,h2,hne=>by
  simp only[bW,bv.injEq]at h1 h2;subst h1 h2;simp only[Op.bytesLess];rw[beq_false_of_ne hne];simp[UInt8.lt_iff_toNat_lt]
 |c::x,d::y,i+1,a,b,he,h1,h2,hne=>by
  have e:=he 0 (by omega);simp only[bW,bv.injEq]at e;subst e;simp only[du]at h1 h2;simp only[Op.bytesLess];rw[Fb (i:=i) (fun j f=>by simpa using he (j+1) (by omega)) h1 h2 hne]
  simp[UInt8.lt_irrefl]
theorem Fa:∀{x y:List UInt8} {i:Nat},(∀j,j<i→x[j]? =y[j]?)→i≤x.length→i≤y.length→(i=x.length∨i=y.length)→Op.bytesLess x y=decide (x.length<y.length)
 | [],[],_,_,_,_,_=>by simp[Op.bytesLess]
 | [],_::_,_,_,_,_,_=>by simp[Op.bytesLess]
 |_::_,[],_,_,_,_,_=>by simp[Op.bytesLess]
 |c::x,d::y,0,_,_,_,h=>by simp at h
 |c::x,d::y,i+1,he,h1,h2,h3=>by
  have e:=he 0 (by omega);simp only[bW,bv.injEq]at e;subst e;simp only[Op.bytesLess];rw[Fa (i:=i) (fun j a=>by simpa using he (j+1) (by omega)) (by simpa using h1) (by simpa using h2) (by simpa using h3)]
  simp[UInt8.lt_irrefl]
theorem HI{a b:ByteArray}(B:a.size≤1000000){h:ad}{K:Bool→ad→Prop}(z:K (decide (kl a b)) h):HC PG tZ [.string a,.string b] [.c .bool] K h:=by
 refine Lb a b ?_;unfold DQ;have D:a.data.toList.length=a.size:=by simp
 have C:b.data.toList.length=b.size:=by simp
 have g:∀{p:Prop} [Decidable p],Op.bytesLess a.data.toList b.data.toList=decide p→K (decide p) h:=fun{p} _ e=>by
  have:decide (kl a b)=decide p:=by
   rw[←e,←ByteArray.toList_eq,←ByteArray.toList_eq];exact Bool.eq_iff_iff.2 (by rw[decide_eq_true_iff];exact Iff.rfl)
  rw[←this];exact z
 refine LoopP.ghost (fun(i:Nat) (t:Int) k=>t=(i:Int)∧i≤a.size∧i≤b.size∧k=h∧∀j,j<i→a.data.toList[j]? =b.data.toList[j]?) (fun i=>a.size-i) 0 ⟨rfl,aU _,aU _,rfl,fun j u=>absurd u (gP _)⟩ ?_
 rintro I i t k ⟨rfl,y,A,rfl,m⟩ x;refine Join.intro (fun t q=>t=decide (i<a.size∧i<b.size)∧q=k) (fun R o=>?_) ?_
 ·refine aG (fun c=>o _ _ ⟨?_,rfl⟩) fun n=>o _ _ ⟨?_,rfl⟩
  ·rw[decide_eq_decide];omega
  ·rw[eq_comm,decide_eq_false_iff_not];omega
 ·rintro t q ⟨rfl,rfl⟩
  refine aG (fun c=>?_) fun n=>?_
  ·have v:a.data.toList[i]? =some a[i]:=by rw[←Ie,getElem?_pos a i c.1]
   have s:b.data.toList[i]? =some b[i]:=by rw[←Ie,getElem?_pos b i c.2]
   refine⟨a[i],by omega,by rw[aH,getElem?_pos a i c.1],b[i],by omega,by rw[aH,getElem?_pos b i c.2],?_⟩
   refine CondP.intro (fun f=>?_) fun d=>?_
   ·refine⟨a[i],by omega,by rw[aH,getElem?_pos a i c.1],b[i],by omega,by rw[aH,getElem?_pos b i c.2],?_⟩
    refine g ?_;rw[Fb m v s fun e=>by rw[e]at f;simp at f]
    rw[decide_eq_decide];omega
   ·have d:a[i]=b[i]:=by
     have:((a[i].toNat:Int))=(b[i].toNat:Int):=by simpa using d
     exact UInt8.toNat_inj.1 (by omega)
    rw[cz c.1 (by omega)];refine x (i+1) _ _ ⟨rfl,by omega,by omega,rfl,fun j u=>?_⟩ (by omega)
    rcases bH j i with w|w
    ·exact m j w
    ·have:j=i:=by omega
     subst this;rw[v,s,d]
  ·refine g ?_
   rw[Fa m (by omega) (by omega) (by omega),decide_eq_decide];omega
theorem HK{W:Nat→Prop}{h:ad}{s:SliceV}{l:List Pr}(B:Sl fP 2 W h s l)(G:l.length≤1000000)(k:ByteArray){K:SliceV→ad→Prop}
  (F:∀s' d,OwnS fP 2 bO (fun y=>h.size≤y) d s' (l.filter fun p=>decide (p.1≠k))→Upd No h d→K s' d):HC PG ua [.slice s.a s.len s.cap,.string k] [.c .slice] K h:=by
 refine Ld s k ?_;unfold DS dK bM aB nv mo jw;have A:=B.len;refine LoopP.ghost (fun(i:Nat) (t:SliceV×Int) d=>t.2=(i:Int)∧i≤l.length∧OwnS fP 2 bO (fun y=>h.size≤y) d t.1 ((l.take i).filter fun p=>decide (p.1≠k))∧Upd No h d) (fun i=>l.length-i) 0 ⟨rfl,aU _,by simpa using OwnS.nil gX,Upd.refl _ _⟩ ?_
 rintro I i ⟨J,ti⟩ d ⟨z,hi,m,g⟩ D;simp only at z m;subst z;refine aG (fun b=>?_) fun w=>?_
 ·have b:i<l.length:=by have:(i:Int)<(s.len:Int):=b;omega
  obtain⟨a,E,_,hv⟩:=(B.upd g fun _ h=>h.elim).at (af b)
  have q:((l.take i).filter fun p=>decide (p.1≠k)).length≤l.length:=ba (fh ..) (by rw[aI];omega)
  refine Join.intro (fun t j=>OwnS fP 2 bO (fun y=>h.size≤y) j t ((l.take (i+1)).filter fun p=>decide (p.1≠k))∧Upd No h j) (fun R f=>⟨⟨by simp only;omega,by simp only;omega⟩,a,E,l[i].1,hv 0 _ rfl,l[i].2,hv 1 _ rfl,?_⟩) ?_
  ·refine wN (p:=l[i]) fun j b2 n=>⟨_,vc b2 0,?_⟩
   have c:=m.upd n fun _ _ h=>h
   rw[bI b,List.filter_append,List.filter_cons,List.filter_nil]at f;rw[jp];by_cases e:l[i].1=k
   ·rw[decide_eq_true e]
    rw[decide_eq_false (not_not_intro e)]at f;rw[if_neg (by simp),bP]at f;exact aj.2 (f _ _ ⟨c,g.tr n⟩)
   ·rw[decide_eq_false e]
    rw[decide_eq_true e,if_pos rfl]at f;refine aA.2 ⟨_,vc b2 0,_,vc b2 1,bT ?_⟩;refine yX (p:=l[i]) c (fun y x=>ba (g.tr n).size x) (ba (Nat.add_le_add_right q 1) (by omega)) fun s3 H u o=>f _ _ ⟨u,(g.tr n).trans o fun y x=>.inr x⟩
  ·rintro t j ⟨c,v⟩
   rw[cz b (by omega)];exact D (i+1) _ _ ⟨rfl,b,c,v⟩ (by omega)
 ·have C:i=l.length:=by have:¬(i:Int)<(s.len:Int):=w;omega
  rw[List.take_of_length_le (by omega)]at m;exact F _ _ m g
theorem QJ{W:Nat→Prop}{h:ad}{s:SliceV}{l:List Pr}(hs:Sl fP 2 W h s l)(hr:cu l)(hn:l.length≤1000000)(p:Pr)(hp:p.1.size≤1000000){K:SliceV→ad→Prop}
  (hk:∀s' u,OwnS fP 2 bO (fun y=>h.size≤y) u s' (gY p l)→Upd No h u→K s' u):HC PG Ap [.slice s.a s.len s.cap,.agg #[.string p.1,.string p.2]] [.c .slice] K h:=by
 refine NN s p ?_;unfold FM dK bM aB nv mo jw zR uL;refine aO fun h1 b1 k1=>⟨p.1,vc b1 0,?_⟩
 refine HK (hs.upd k1 fun _ h=>h.elim) hn p.1 fun s4 w F k4=>?_
 rw[←Fg hr]at hk;have hrf:cu (l.filter fun q=>decide (q.1≠p.1)):=hr.sublist List.filter_sublist
 have hnl:(l.filter fun q=>decide (q.1≠p.1)).length≤1000000:=ba (fh ..) hn
 have N:∀q∈l.filter fun q=>decide (q.1≠p.1),q.1≠p.1:=fun q v=>of_decide_eq_true (List.mem_filter.1 v).2
 generalize l.filter (fun q=>decide (q.1≠p.1))=L at hk F hrf hnl N
 have z:=k1.tr k4;have S:Sl fP 2 No w s4 L:=F.sl fun _ _ _ h=>h
 have hlen:=S.len;have z4:=z.size;refine LoopP.ghost (fun(g:Nat×Bool) (t:SliceV×Bool×Int) u=>t.2.2=(g.1:Int)∧t.2.1=g.2∧g.1≤L.length∧(∃out,OwnS fP 2 bO (fun y=>w.size≤y) u t.1 out∧out.length≤g.1+1∧(g.2=false→out=L.take g.1∧∀q∈L.take g.1,kl q.1 p.1)∧(g.2=true→out=gY p (L.take g.1)∧∃q∈L.take g.1,kl p.1 q.1))∧Upd No w u) (fun g=>L.length-g.1) (0,false) ⟨rfl,rfl,aU _,⟨[],OwnS.nil gX,by simp,fun _=>⟨by simp,by simp⟩,fun h=>by cases h⟩,Upd.refl _ _⟩ ?_
 rintro I ⟨i,pl⟩ ⟨so,tp,ti⟩ u ⟨e1,e2,hi,⟨out,J,P,Y,ht⟩,C⟩ hI;simp only at e1 e2 hi J P Y ht;subst e1 e2;have b':=C.get0 (k4.get0 b1);refine aG (fun f=>?_) fun hge=>?_
 ·have f:i<L.length:=by have:(i:Int)<(s4.len:Int):=f;omega
  obtain⟨a,ha,_,hv⟩:=(S.upd C fun _ h=>h.elim).at (af f)
  have d:=bI f;have G:L[i]∈L:=aP f;refine Join.intro (fun t E=>(∃out,OwnS fP 2 bO (fun y=>w.size≤y) E t.1 out∧out.length≤i+1+1∧(t.2=false→out=L.take (i+1)∧∀q∈L.take (i+1),kl q.1 p.1)∧(t.2=true→out=gY p (L.take (i+1))∧∃q∈L.take (i+1),kl p.1 q.1))∧Upd No w E) (fun R hR=>⟨⟨by simp only;omega,by simp only;omega⟩,a,ha,L[i].1,hv 0 _ rfl,L[i].2,hv 1 _ rfl,?_⟩) ?_
  ·refine wN (p:=L[i]) fun E b2 Z=>?_
   have o:=J.upd Z fun _ _ h=>h
   have m:=C.tr Z;have zb:=aD b2;have z2:=C.size;have hoM:=(J.within.upd Z fun _ _ h=>h).more (M':=fun y=>(w.size≤y∧y<u.size)∨E.size≤y) fun y b=>.inl b
   have c2:=Z.get0 b';refine Join.intro (fun t x=>(∃out,OwnS fP 2 bO (fun y=>w.size≤y) x t.1 out∧out.length≤i+1∧(t.2=false→out=L.take i∧∀q∈L.take (i+1),kl q.1 p.1)∧(t.2=true→out++ [L[i]]=gY p (L.take (i+1))∧∃q∈L.take (i+1),kl p.1 q.1))∧x[u.size]? =some (.cells #[.string L[i].1,.string L[i].2] bO (0,0))∧Upd No w x) (fun R2 D=>?_) ?_
   ·refine Join.intro (fun t x=>t=(!tp&&decide (kl p.1 L[i].1))∧x=E) (fun R3 V=>?_) ?_
    ·cases tp with
     |false=>exact aA.2 ⟨p.1,vc c2 0,L[i].1,vc b2 0,HI hp (V _ _ ⟨by simp,rfl⟩)⟩
     |true=>exact aj.2 (V _ _ ⟨by simp,rfl⟩)
    ·rintro t x ⟨rfl,rfl⟩
     cases tp with
     |true=>
      obtain⟨e,q,v,O⟩:=ht rfl;refine aj.2 (D _ _ ⟨⟨out,o,P,fun h=>(by cases h),fun _=>?_⟩,b2,m⟩)
      rw[d,e];exact⟨(H9 ⟨q,v,O⟩).symm,q,List.mem_append_left _ v,O⟩
     |false=>
      obtain⟨e,c⟩:=Y rfl;subst e;by_cases k:kl p.1 L[i].1
      ·rw[decide_eq_true k]
       refine aA.2 ⟨p.1,vc c2 0,p.2,vc c2 1,bT ?_⟩;refine yX (p:=p) hoM (fun y b=>.inr b) (by rw[aI];omega) fun s5 h5 n j=>D _ _ ⟨⟨_,n.more (fun y b=>by rcases b with b|b<;>omega),by rw[ae,aI,aK];omega,fun h=>(by cases h),fun _=>?_⟩,j.get b2 (by rintro(hx|hx)<;>omega),m.trans j fun y b=>.inr (by rcases b with b|b<;>omega)⟩
       ·rw[d,C1 c]
        refine⟨?_,L[i],List.mem_append_right _ (aq.2 rfl),k⟩;rw[List.append_assoc,H7 (l:= [L[i]]) fun q v=>by rw[aq.1 v];exact k]
        rfl
      ·rw[decide_eq_false k]
       have v:kl L[i].1 p.1:=u0 k fun e=>N _ G e.symm
       refine aj.2 (D _ _ ⟨⟨_,o,by rw[aI];omega,fun _=>⟨rfl,fun q T=>?_⟩,fun h=>(by cases h)⟩,b2,m⟩)
       rw[d]at T;rcases List.mem_append.1 T with h|h
       ·exact c q h
       ·rw[aq.1 h];exact v
   ·rintro⟨t1,t2⟩ x ⟨⟨out3,Q,hol3,X,M⟩,b3,H⟩
    simp only at Q X M;refine⟨_,vc b3 0,_,vc b3 1,bT ?_⟩;refine yX (p:=L[i]) Q (fun y b=>ba H.size b) (by omega) fun s5 h5 n j=>hR _ _ ⟨⟨_,n,by rw[ae,aK];omega,fun h=>?_,fun h=>M h⟩,H.trans j fun y b=>.inr b⟩
    obtain⟨e,c⟩:=X h;exact⟨by rw[e,d],c⟩
  ·rintro⟨t1,t2⟩ E ⟨o,m⟩
   rw[cz f (by omega)];exact hI (i+1,t2) _ _ ⟨rfl,rfl,f,o,m⟩ (by simp only;omega)
 ·have hil:i=L.length:=by have:¬(i:Int)<(s4.len:Int):=hge;omega
  subst hil;rw[bU]at Y ht;cases tp with
  |true=>
   obtain⟨e,_⟩:=ht rfl;subst e;exact aj.2 (hk _ _ (J.more fun y b=>ba z4 b) (z.tr C))
  |false=>
   obtain⟨e,c⟩:=Y rfl;subst e;refine aA.2 ⟨p.1,vc b' 0,p.2,vc b' 1,bT ?_⟩;refine yX (p:=p) J (fun y b=>ba C.size b) (by omega) fun s5 h5 n j=>hk _ _ ?_ ((z.tr C).trans j fun y b=>.inr (ba z4 b))
   have:=C1 (p:=p) (A:=out) (B:= []) c;rw[bP]at this;rw[this];exact n.more fun y b=>ba z4 b
end Go.Proofs
namespace Go.Proofs
open Go Go.Lift
abbrev Rt:=Int×Int×Int×Int×SliceV
abbrev mn(r:Rt):List Value:= [.int .i64 r.1,.int .u64 r.2.1,.int .u64 r.2.2.1,.int .u64 r.2.2.2.1,.slice r.2.2.2.2.a r.2.2.2.2.len r.2.2.2.2.cap]
abbrev TE(r:Rt):Value:=.agg #[.int .i64 r.1,.int .u64 r.2.1,.int .u64 r.2.2.1,.int .u64 r.2.2.2.1,.slice r.2.2.2.2.a r.2.2.2.2.len r.2.2.2.2.cap]
abbrev N0:Rt:=(0,0,0,0,⟨none,0,0⟩)
def hx(a v:Int):Int:=if a=0 then v else 0
def RefIs(W:Nat→Prop)(h:ad)(a:Int)(x:Hs)(r:Rt)(l:List Pr):Prop:=∃s,r=(a,hx a x.k0,hx a x.k1,hx a x.mask,s)∧Sl fP 2 W h s l∧s.len≤s.cap
theorem RefIs.upd0{W:Nat→Prop}{h b:ad}{a:Int}{x:Hs}{r:Rt}{l:List Pr}(k:Upd No h b)(i:RefIs W h a x r l):RefIs W b a x r l:=
 let⟨s,e,c⟩:=i;⟨s,e,c.1.upd k fun _ h=>h.elim,c.2⟩
theorem RefIs.less{W W':Nat→Prop}{h:ad}(hm:∀b,W' b→W b∨h.size≤b){a:Int}{x:Hs}{r:Rt}{l:List Pr}(i:RefIs W h a x r l):RefIs W' h a x r l:=
 let⟨s,e,c⟩:=i;⟨s,e,c.1.less hm,c.2⟩
theorem RefIs.updM{W M:Nat→Prop}{h c:ad}(k:Upd M h c)(hm:∀b,M b→W b∨h.size≤b){a:Int}{x:Hs}{r:Rt}{l:List Pr}(i:RefIs W h a x r l):RefIs W c a x r l:=
 let⟨s,e,d⟩:=i;⟨s,e,d.1.upd k hm,d.2⟩
theorem QK{W:Nat→Prop}{x:Hs}{h:ad}{a:Int}(f:a=0∨a=1){K:Rt×Int→ad→Prop}(i:∀h' r,RefIs W h' a x r []→Upd No h h'→K (r,0) h'):HC PG An [.int .i64 a,.agg #[.int .u64 x.k0,.int .u64 x.k1,.int .u64 x.mask]] [.agg [.int .i64,.int .u64,.int .u64,.int .u64,.slice],.c (.int .i64)] K h:=by
 refine NK a (x.k0,x.k1,x.mask) ?_;unfold FJ bo ag eD eO Ae LA;refine aO fun k b1 k1=>aO fun m b2 j=>?_
 have c1:=j.get0 b1;have s1:=k1.size;have e:=k1.tr j;rcases f with rfl|rfl
 ·refine aA.2 ⟨_,vc c1 0,_,vc c1 1,_,vc c1 2,?_⟩
  refine dd (c:=mn N0) (vs:=mn (0,x.k0,x.k1,x.mask,⟨none,0,0⟩)) b2 rfl fun g b d=>?_
  exact⟨_,vc b 0,_,vc b 1,_,vc b 2,_,vc b 3,⟨none,0,0⟩,vc b 4,i g (0,x.k0,x.k1,x.mask,⟨none,0,0⟩) ⟨_,rfl,Sl.nil gX,ao _⟩ (e.own d s1)⟩
 ·refine aj.2 (aA.2 ?_)
  refine dd (c:=mn N0) (vs:=mn (1,0,0,0,⟨none,0,0⟩)) b2 rfl fun g b d=>?_
  exact⟨_,vc b 0,_,vc b 1,_,vc b 2,_,vc b 3,⟨none,0,0⟩,vc b 4,i g (1,0,0,0,⟨none,0,0⟩) ⟨_,rfl,Sl.nil gX,ao _⟩ (e.own d s1)⟩
theorem M2{k v:ByteArray}(b:k.size≤256)(c:v.size≤4096){h:ad}{K:Int→ad→Prop}(a:K 0 h):HC PG rk [.string k,.string v] [.c (.int .i64)] K h:=by
 refine Bo k v ?_;unfold vI;refine aG (fun h=>absurd h (by omega)) fun _=>aG (fun h=>absurd h (by omega)) fun _=>a
theorem OE{W:Nat→Prop}{x:Hs}{h:ad}{a:Int}{r:Rt}{l:List Pr}(i:RefIs W h a x r l)(H:∀y,W y→y<h.size)(I:cu l)(E:l.length≤1000000)(p:Pr)(w:p.1.size≤256)(v:p.2.size≤4096){K:Rt×Int→ad→Prop}
  (G:∀h' r',RefIs W h' a x r' (gY p l)→Upd No h h'→K (r',0) h'):HC PG qy [TE r,.agg #[.string p.1,.string p.2]] [.agg [.int .i64,.int .u64,.int .u64,.int .u64,.slice],.c (.int .i64)] K h:=by
 refine DB r p ?_;unfold x9 bo ag aB eD eO cV jw qX JV LA Jk uL;refine aO fun C b1 k1=>aO fun z b2 u=>aO fun M b3 q=>?_
 have N:=aD b1;have P:=aD b2;have O:=aD b3;have s1:h.size≤C.size:=k1.size;have s2:C.size≤z.size:=u.size;have s3:=q.size;have g:=(k1.tr u).tr q;have A:=q.get0 (u.get0 b1);have o:=q.get0 b2;obtain⟨s,rfl,J,_⟩:=i;refine⟨_,vc o 0,_,vc o 1,M2 w v (aj.2 ?_)⟩;refine⟨s,vc A 4,p.1,vc o 0,p.2,vc o 1,?_⟩;refine QJ (J.upd g fun _ h=>h.elim) I E p (by omega) fun f Q t d=>?_
 refine pB (i:=4) (c':=(mn (a,hx a x.k0,hx a x.k1,hx a x.mask,f)).toArray) (d.get0 A) (show 4<5 by decide) rfl fun L n b=>?_
 refine⟨_,vc n 0,_,vc n 1,_,vc n 2,_,vc n 3,f,vc n 4,?_⟩;refine dd (c:=mn N0) (vs:=mn (a,hx a x.k0,hx a x.k1,hx a x.mask,f)) (b.oth (d.get0 b3) (by omega)) rfl fun D m k=>?_
 refine⟨_,vc m 0,_,vc m 1,_,vc m 2,_,vc m 3,f,vc m 4,?_⟩;have j:=(t.upd b fun y B e=>by have e:y=h.size:=e;omega).upd k fun y B e=>by have e:y=z.size:=e;omega
 refine G D (a,hx a x.k0,hx a x.k1,hx a x.mask,f) ⟨f,rfl,j.sl fun y B _ F=>by have:=H y F;omega,j.cap⟩ (((g.tr d).own b (ao _)).own k (by omega))
def jo(s:ByteArray):ByteArray:=s.extract 0 (min s.size 30)
theorem qC(s:ByteArray):(jo s).size≤30:=by unfold jo;rw[dV];omega
end Go.Proofs
namespace Go.Proofs
open Go Go.Lift
end Go.Proofs
namespace Go.Proofs
open Go Go.Lift
end Go.Proofs
namespace Go.Proofs
open Go.Lift
abbrev Ch:=ByteArray×ByteArray×ByteArray×Bool×Bool
end Go.Proofs
namespace Go.Proofs
open Go Go.Lift
end Go.Proofs
namespace Go.Proofs
open Go Go.Lift
theorem JT{h:ad}{b:Nat}{c:Array Value}{t:TypeId}(a:h[b]? =some (.cells c t (0,0))) (hc:0<c.size):d9 h ⟨b,0,none⟩:=⟨c,t,a,hc⟩
theorem TrieAt.plain{W:Nat→Prop}{x:Hs}{h:ad}:∀{m b:Nat} {l:List Pr},TrieAt W x h m b l→d9 h ⟨b,0,none⟩
 |0,_,_,t=>by obtain⟨_,_,_,a,_⟩:=BuckAt.ex t;exact JT a (by simp[fy])
 |m+1,_,_,⟨s,nd,_⟩=>by obtain⟨_,_,_,_,_,a,_⟩:=nd.ex;exact JT a (by simp[fy])
end Go.Proofs
namespace Go.Proofs
open Go Go.Lift
end Go.Proofs
namespace Go.Proofs
open Go Go.Lift
theorem RxN.plain{W:Nat→Prop}{h:ad}{b:Nat}{sl:ByteArray}{w:Option ByteArray}{F:Fo}(r:RxN W h b sl w F):d9 h ⟨b,0,none⟩:=by
 obtain⟨val,s,ow,ks,a,_⟩:=r;exact JT a (by simp[vQ])
end Go.Proofs
namespace Go.Proofs
open Go Go.Lift
end Go.Proofs
namespace Go.Proofs
open Go Go.Lift
theorem Jq{t:Tr}{h:ad}{K:Int×Int×Int→ad→Prop}(d:∀h',Upd No h h'→K (t.2.1,t.2.2.1,t.2.2.2.1) h'):HC PG mY [LK t] [.agg [.int .u64,.int .u64,.int .u64]] K h:=by
 refine xN t ?_;unfold qE ag bN eO sK T1 T3;refine aO fun f b1 k1=>aO fun g b2 b=>?_
 have c1:=b.get0 b1;refine⟨_,fu c1 1 0,_,fu c1 1 1,_,fu c1 1 2,?_⟩;refine dd (c:= [.int .u64 0,.int .u64 0,.int .u64 0]) (vs:= [.int .u64 t.2.1,.int .u64 t.2.2.1,.int .u64 t.2.2.2.1]) b2 rfl fun e b3 a=>?_
 exact⟨_,vc b3 0,_,vc b3 1,_,vc b3 2,d e ((k1.tr b).own a k1.size)⟩
end Go.Proofs
namespace Go.Proofs
open Go Go.Lift
end Go.Proofs
namespace Go.Proofs
open Go Go.Lift
theorem Qi(n:Nat):dy n [.int .u8 0]=(dE n (0:UInt8)).flatMap nq:=by
 unfold dy;induction n with
 |zero=>rfl
 |succ n ih=>rw[gV,eh,gV,List.flatMap_cons,ih];rfl
theorem N2{h:ad}{n:Nat}{k:ad→Prop}(b:∀a,Upd No h a→∀s:ByteArray,s.size=n→SRow a (some (aC h)) n (dD s)→k a):At (hnew h (dy n [.int .u8 0]) cp) k:=by
 refine aO fun a b1 k1=>?_
 rw[Qi]at b1;have o:OwnS nq 1 cp (fun _=>True) a ⟨some (aC h),n,n⟩ (dE n (0:UInt8)):=⟨by simp,pF,ao _,.inr ⟨h.size,[],rfl,trivial,by rw[bP];exact b1,by simp⟩⟩
 have r:=(o.sl (W:=No) fun _ _ _ h=>h).srow
 refine b a k1 ⟨(dE n (0:UInt8)).toArray⟩ (by show(dE n (0:UInt8)).toArray.size=n;simp) ?_;rw[rA];simpa using r
end Go.Proofs
namespace Go.Proofs
open Go Go.Lift
theorem TJ{h:ad}{r:Rt}{k:ad→Prop}(d:∀h',h'[h.size]? =some (.cells (mn r).toArray bE (0,0))→Upd No h h'→k h'):
  At (hnew h (mn N0) bE) (fun a=>sS a (some (aC h)) 0 (mn r)∧At (gT a (aC h) 0 (mn r)) k):=
 aO fun a b1 k1=>dd (c:=mn N0) (vs:=mn r) b1 rfl fun e b2 b=>d e b2 (k1.own b (ao _))
end Go.Proofs
namespace Go.Proofs
open Go Go.Lift
end Go.Proofs
namespace Go.Proofs
open Go Go.Lift
abbrev b1:ByteArray:=⟨#[49]⟩
abbrev b2:ByteArray:=⟨#[50]⟩
abbrev b3:ByteArray:=⟨#[51]⟩
end Go.Proofs
namespace Go.Proofs
open Go Go.Lift
def look(l:List Pr)(k:ByteArray):Option ByteArray:=(l.find? fun p=>decide (p.1=k)).map (·.2)
end Go.Proofs
namespace Go.Proofs
open Go Go.Lift
theorem OH{W:Nat→Prop}{h:ad}{s:SliceV}{l:List Pr}(x:Sl fP 2 W h s l)(G:cu l)(C:Fit l)(H:l.length≤1000000)(k:ByteArray){K:Int×Bool→ad→Prop}
  (A:∀i:Nat,(cj l k=true→∃hi:i<l.length,l[i].1=k)→K ((i:Int),cj l k) h):HC PG xD [.slice s.a s.len s.cap,.string k] [.c (.int .i64),.c .bool] K h:=by
 refine Lc s k ?_;unfold DR dK bM jw;have B:=x.len;refine LoopP.ghost (fun(i:Nat) (t:Int) m=>t=(i:Int)∧i≤l.length∧m=h∧∀j (c:j<l.length),j<i→kl l[j].1 k) (fun i=>l.length-i) 0 ⟨rfl,aU _,rfl,fun j c h=>by omega⟩ ?_
 rintro I i t m ⟨rfl,hi,rfl,d⟩ D;refine Join.intro (fun t z=>z=m∧(t=true↔∃hi:i<l.length,kl l[i].1 k)) (fun R y=>?_) ?_
 ·refine aG (fun b=>?_) fun w=>y _ _ ⟨rfl,⟨fun h=>(by cases h),fun⟨hi,_⟩=>by omega⟩⟩
  have b:i<l.length:=by omega
  obtain⟨a,o,_,hv⟩:=x.at (af b);have F:=(C _ (aP b)).1;refine⟨⟨by omega,by omega⟩,a,o,l[i].1,hv 0 _ rfl,HI (by omega) (y _ _ ⟨rfl,?_⟩)⟩
  rw[decide_eq_true_iff];exact⟨fun h=>⟨b,h⟩,fun⟨_,h⟩=>h⟩
 ·rintro t z ⟨rfl,g⟩
  cases t with
  |true=>
   obtain⟨b,n⟩:=g.1 rfl;refine aA.2 ?_;rw[xf b (by omega)];refine D (i+1) _ _ ⟨rfl,b,rfl,fun j c E=>?_⟩ (by omega)
   rcases bH j i with h|h
   ·exact d j c h
   ·have:j=i:=by omega
    subst this;exact n
  |false=>
   refine aj.2 (aG (fun b=>?_) fun w=>?_)
   ·have b:i<l.length:=by omega
    have v:¬kl l[i].1 k:=fun h=>by have:=g.2 ⟨b,h⟩;cases this
    obtain⟨a,o,_,hv⟩:=x.at (af b);refine⟨⟨by omega,by omega⟩,a,o,l[i].1,hv 0 _ rfl,?_⟩
    rw[jp];have e:decide (l[i].1=k)=cj l k:=by
     by_cases e:l[i].1=k
     ·rw[decide_eq_true e]
      exact(List.any_eq_true.2 ⟨_,aP b,decide_eq_true e⟩).symm
     ·rw[decide_eq_false e]
      refine(yB fun q u f=>?_).symm
      obtain⟨j,c,rfl⟩:=cB u;have p:=u0 v e;rcases Nat.lt_trichotomy j i with h|h|h
      ·have:=d j c h;rw[f]at this;exact cJ _ this
      ·subst h;exact e f
      ·have:=List.pairwise_iff_getElem.1 G i j b c h
       rw[f]at this;exact cJ _ (jh p this)
    rw[e];exact A i fun g=>⟨b,of_decide_eq_true (e.trans g)⟩
   ·have e:cj l k=false:=yB fun q u f=>by
     obtain⟨j,c,rfl⟩:=cB u;have:=d j c (by omega);rw[f]at this;exact cJ _ this
    have:=A i fun h=>by rw[e]at h;cases h
    rw[e]at this;exact this
theorem QL{W:Nat→Prop}{h:ad}{s:SliceV}{l:List Pr}(d:Sl fP 2 W h s l)(m:cu l)(g:Fit l)(j:l.length≤1000000)(k:ByteArray){K:ByteArray×Bool→ad→Prop}
  (c:∀v,(cj l k=true→(k,v)∈l)→(cj l k=false→v=⟨#[]⟩)→K (v,cj l k) h):HC PG Aq [.slice s.a s.len s.cap,.string k] [.c .str,.c .bool] K h:=by
 refine NO s k ?_;unfold FO dK bM zR;have f:=d.len;refine OH d m g j k fun i hi=>?_
 cases ht:cj l k with
 |false=>rw[ht]at c;exact aA.2 (c _ (fun h=>(by cases h)) fun _=>rfl)
 |true=>
  rw[ht]at c;obtain⟨b,e⟩:=hi ht;obtain⟨a,n,_,hv⟩:=d.at (af b);refine aj.2 ⟨⟨by simp only;omega,by simp only;omega⟩,a,n,l[i].2,hv 1 _ rfl,c _ (fun _=>by rw[←e];exact aP b) fun h=>(by cases h)⟩
end Go.Proofs
namespace Go.Proofs
open Go Go.Lift
def Sd(c:Ch):Bool:=(!((!c.2.2.2.1&& !c.2.2.2.2)||(c.2.2.2.1&&(c.2.2.2.2&&decide (c.2.1=c.2.2.1)))))&&((c.2.2.2.1||decide (c.2.1=⟨#[]⟩))&&(c.2.2.2.2||decide (c.2.2.1=⟨#[]⟩)))
def one(c:Ch):Option Ch:=if Sd c then some c else none
end Go.Proofs
namespace Go.Proofs
open Go Go.Lift
end Go.Proofs
namespace Go.Proofs
open Go Go.Lift
abbrev stF(s:ByteArray):List Value:= [.string s]
end Go.Proofs
namespace Go.Proofs
open Go Go.Lift
theorem EZ{W:Nat→Prop}{x:Hs}{h:ad}{a:Int}{r:Rt}{l:List Pr}(i:RefIs W h a x r l)(s:∀y,W y→y<h.size)(o:cu l)(n:l.length≤1000000)(p:Pr){K:Rt×Int→ad→Prop}
  (b:∀h' r',RefIs W h' a x r' (l6 l p)→Upd No h h'→K (r',yf p) h'):HC PG qy [TE r,.agg #[.string p.1,.string p.2]] [.agg [.int .i64,.int .u64,.int .u64,.int .u64,.slice],.c (.int .i64)] K h:=by
 unfold l6 at b;by_cases e:yf p=0
 ·rw[if_pos e]at b
  have m:=EU e;rw[e]at b;exact OE i s o n p m.1 m.2 b
 ·rw[if_neg e]at b
  refine DB r p ?_;unfold x9 bo ag aB eD eO cV jw qX JV LA Jk uL;refine aO fun v b1 k1=>aO fun t b2 k=>aO fun u b3 j=>?_
  have s2:h.size≤t.size:=(k1.tr k).size;have f:=(k1.tr k).tr j;have c1:=j.get0 (k.get0 b1);have c2:=j.get0 b2;refine⟨_,vc c2 0,_,vc c2 1,QH (p:=p) ?_⟩;rw[show(yf p !=0)=true by simpa using e]
  refine aA.2 ⟨_,vc c1 0,_,vc c1 1,_,vc c1 2,_,vc c1 3,r.2.2.2.2,vc c1 4,?_⟩;refine dd (c:=mn N0) (vs:=mn r) b3 rfl fun q g d=>?_
  exact⟨_,vc g 0,_,vc g 1,_,vc g 2,_,vc g 3,r.2.2.2.2,vc g 4,b q r (i.upd0 (f.own d s2)) (f.own d s2)⟩
theorem Gb{W:Nat→Prop}{x:Hs}{h:ad}{a:Int}{r:Rt}{l:List Pr}(i:RefIs W h a x r l)(I:∀y,W y→y<h.size)(J:cu l)(E:Fit l)(z:l.length≤1000000)(k:ByteArray){K:Rt×Int→ad→Prop}
  (g:∀h' r',RefIs W h' a x r' (jH l k)→Upd No h h'→K (r',BK l k) h'):HC PG su [TE r,.string k] [.agg [.int .i64,.int .u64,.int .u64,.int .u64,.slice],.c (.int .i64)] K h:=by
 unfold jH BK at g;refine Eu r k ?_;unfold w8 bo ag eD eO cV JV LA Jk zR;refine aO fun C b1 k1=>aO fun N b2 A=>?_
 have O:=aD b1;have P:=aD b2;have s1:h.size≤C.size:=k1.size;have b:=k1.tr A;have c1:=A.get0 b1;refine aG (fun e=>?_) fun e=>?_
 ·have e:256<k.size:=by omega
  rw[if_pos e,if_pos e]at g;refine⟨_,vc c1 0,_,vc c1 1,_,vc c1 2,_,vc c1 3,r.2.2.2.2,vc c1 4,?_⟩;refine dd (c:=mn N0) (vs:=mn r) b2 rfl fun u f d=>?_
  exact⟨_,vc f 0,_,vc f 1,_,vc f 2,_,vc f 3,r.2.2.2.2,vc f 4,g u r (i.upd0 (b.own d s1)) (b.own d s1)⟩
 ·have e:¬256<k.size:=by omega
  rw[if_neg e,if_neg e]at g;have L:=i;obtain⟨s,rfl,D,hc⟩:=i;refine⟨s,vc c1 4,QL (D.upd b fun _ h=>h.elim) J E z k fun v _ _=>?_⟩
  cases hth:cj l k with
  |false=>
   rw[hth]at g;refine aA.2 ⟨_,vc c1 0,_,vc c1 1,_,vc c1 2,_,vc c1 3,s,vc c1 4,?_⟩;refine dd (c:=mn N0) (vs:=mn (a,hx a x.k0,hx a x.k1,hx a x.mask,s)) b2 rfl fun u f d=>?_
   refine⟨_,vc f 0,_,vc f 1,_,vc f 2,_,vc f 3,s,vc f 4,g u _ ?_ (b.own d s1)⟩;rw[vA (yn hth)];exact L.upd0 (b.own d s1)
  |true=>
   rw[hth]at g;refine aj.2 ⟨s,vc c1 4,HK (D.upd b fun _ h=>h.elim) z k fun p u w t=>?_⟩
   refine pB (i:=4) (c':=(mn (a,hx a x.k0,hx a x.k1,hx a x.mask,p)).toArray) (t.get0 c1) (show 4<5 by decide) rfl fun M q j=>?_
   have G:=t.size;refine⟨_,vc q 0,_,vc q 1,_,vc q 2,_,vc q 3,p,vc q 4,?_⟩;refine dd (c:=mn N0) (vs:=mn (a,hx a x.k0,hx a x.k1,hx a x.mask,p)) (j.oth (t.get0 b2) (by omega)) rfl fun F o n=>?_
   refine⟨_,vc o 0,_,vc o 1,_,vc o 2,_,vc o 3,p,vc o 4,?_⟩;have m:=(w.upd j fun y B e=>by have e:y=h.size:=e;omega).upd n fun y B e=>by have e:y=C.size:=e;omega
   exact g F _ ⟨p,rfl,m.sl fun y B _ H=>by have:=I y H;omega,m.cap⟩ (((b.tr t).own j (ao _)).own n s1)
end Go.Proofs
namespace Go.Proofs
open Go Go.Lift
theorem RV(t:Tr):(je t).length=6∧0<6:=⟨rfl,by omega⟩
theorem Sc(r:Rt):(mn r).length=5∧0<5:=⟨rfl,by omega⟩
end Go.Proofs
namespace Go.Proofs
open Go Go.Lift
theorem Ou(x:Hs)(lev:Nat)(l:List Pr):(fC x lev l).length+(iV x lev l).flatten.length=l.length:=by
 have h:=qi x lev l 32;have d:(l.filter fun p=>decide (ck x lev p.1<32))=l:=List.filter_eq_self.2 fun p _=>decide_eq_true (yU ..)
 rw[d]at h;have:∀n,(fm (fun c=>gk (part x lev c l)) n).length+(fm (fun c=>dZ (part x lev c l)) n).flatten.length=((List.range n).map fun c=>(part x lev c l).length).sum:=by
  intro n;induction n with
  |zero=>simp[fm]
  |succ n ih=>
   rw[fS,fS,List.range_succ,List.map_append,List.sum_append];simp only[ae,dM,List.map_cons,List.map_nil,List.sum_cons,List.sum_nil,cZ];generalize part x lev n l=q;have:(gk q).toList.length+(dZ q).toList.flatten.length=q.length:=by
    match q with
    | []=>simp[gk,dZ]
    | [a]=>simp[gk,dZ]
    |a::b::q=>simp[gk,dZ]
   omega
 have:=this 32;unfold fC iV;omega
theorem Kg{W:Nat→Prop}{x:Hs}{h:ad}{m:Nat}{ks:List (Option Addr)}:∀{ls:List (List Pr)},KidsAt W x h m ks ls→ks.length=ls.length∧∀i (hi:i<ls.length),∃b,ks[i]? =some (some ⟨b,0,none⟩)∧TrieAt W x h m b ls[i]:=by
 induction ks with
 |nil=>intro ls;cases ls with
  |nil=>intro _;exact⟨rfl,fun i hi=>absurd hi (gP _)⟩
  |cons a ls=>intro h;exact h.elim
 |cons k ks ihk=>intro ls;cases ls with
  |nil=>intro h;exact h.elim
  |cons a ls=>
   rintro⟨⟨b,rfl,tk⟩,h⟩;obtain⟨e,c⟩:=ihk h;refine⟨by simp[e],fun i hi=>?_⟩
   cases i with
   |zero=>exact⟨b,rfl,tk⟩
   |succ i=>simp only[du,List.getElem_cons_succ];exact c i (by simpa using hi)
theorem QV{x:Hs}{W:Nat→Prop}:∀(m:Nat),m≤13→∀{b:Nat} {l:List Pr} {h:ad},TrieAt W x h m b l→l.length≤60000→∀{K:Int→ad→Prop},(∀j,Upd No h j→K (l.length:Int) j)→HC PG rp [.pointer (some ⟨b,0,none⟩)] [.c (.int .i64)] K h:=by
 intro m;induction m with
 |zero=>
  intro _ b l h t V K H;refine Bp _ ?_;unfold vK bQ dK;have bk:∀{j},Upd No h j→BuckAt W j b l:=fun k=>BuckAt.upd t k fun _ h=>h.elim
  obtain⟨sp,sk,ow,y,p,hsk,_⟩:=(bk (Upd.refl No h)).ex;refine pf y p (by omega) fun s1 h1 u k1=>?_
  obtain⟨Q,J,F,s,S,o,_⟩:=(bk k1).ex;refine Gu s o (by simp) fun s2 v q B=>?_
  have A:=q.len;rw[List.length_nil]at A;refine LoopP.ghost (fun(_:Unit) (t:Int×Int) j=>t=((s1.len:Int),0)∧j=v) (fun _=>0) () ⟨rfl,rfl⟩ ?_
  rintro I _ t C ⟨rfl,e⟩ T;rw[e];refine aG (fun f=>absurd f (by simp only;omega)) fun _=>?_
  simp only;rw[u.len];exact H v (k1.tr B)
 |succ m ih=>
  intro hm b l h t V K H;refine Bp _ ?_;unfold vK bQ dK;obtain⟨sl,nd,R⟩:=t;have hs:∀c,c<32→SlotIs W x h m sl c (part x (12-m) c l):=R;have hd:∀{j},Upd No h j→∃d n sp sk ow,j[b]? =some (.cells (fy d n sp sk false ow) bK (0,0))∧Sl fP 2 W j sp (fC x (12-m) l)∧Sl px 1 W j sk (fm sl.k 32):=fun{j} k=>by
   obtain⟨d,n,sp,sk,ow,y,bits,C,Z,_⟩:=(nd.upd k fun _ h=>h.elim).ex
   refine⟨d,n,sp,sk,ow,y,?_,Z⟩;rw[←BX hs];exact C
  have M:KidsAt W x h m (fm sl.k 32) (iV x (12-m) l):=Kh 32 hs;have w:∀L∈iV x (12-m) l,L.length≤60000:=fun L hL=>by
   obtain⟨_,c,rfl⟩:=oF hL;exact ba j3 V
  have N:=Ou x (12-m) l;obtain⟨O,z⟩:=Kg M;generalize fC x (12-m) l=So at hd N;generalize iV x (12-m) l=Ma at w N O z;obtain⟨d,n,sp,sk,ow,y,p,_⟩:=hd (Upd.refl No h);refine pf y p (by omega) fun s1 h1 u k1=>?_
  obtain⟨d1,n1,Q,J,F,s,_,o⟩:=hd k1;have Y:=vi (g:=sl.k);refine Gu s o (by omega) fun s2 v q B=>?_
  have S2:Sl px 1 No v s2 (fm sl.k 32):=q.sl fun _ _ _ h=>h
  have hlk:=S2.len;refine LoopP.ghost (fun(i:Nat) (t:Int×Int) j=>t.1=((So.length+(Ma.take i).flatten.length:Nat):Int)∧t.2=(i:Int)∧i≤Ma.length∧Upd No v j) (fun i=>Ma.length-i) 0 ⟨by rw[u.len];simp,rfl,aU _,Upd.refl _ _⟩ ?_
  rintro I i ⟨tn,ti⟩ C ⟨X,A,hi,D⟩ T;simp only at X A;subst X A;refine aG (fun f=>?_) fun P=>?_
  ·have f:i<Ma.length:=by simp only at f;omega
   obtain⟨kb,G,tk⟩:=z i f;obtain⟨a,ha,_,hv⟩:=(S2.upd D fun _ h=>h.elim).at0 G
   refine⟨⟨by simp only;omega,by simp only;omega⟩,a,ha,some ⟨kb,0,none⟩,hv,?_⟩
   have p:(Ma.take i).flatten.length+Ma[i].length≤Ma.flatten.length:=by
    have e:Ma=Ma.take i++Ma[i]::Ma.drop (i+1):=by rw[List.getElem_cons_drop,List.take_append_drop]
    have:=congrArg (fun L=>(List.flatten L).length) e
    simp only[dM,eh,ae]at this;omega
   refine ih (by omega) (TrieAt.upd0 ((k1.tr B).tr D) tk) (w _ (aP f)) fun Z k4=>?_
   simp only;rw[cz f (by omega),oq (by omega)];refine T (i+1) _ _ ⟨?_,rfl,f,D.tr k4⟩ (by omega);rw[bI f,dM];simp only[eh,List.flatten_nil,bP,ae];omega
  ·have E:i=Ma.length:=by simp only at P;omega
   subst E;simp only;rw[bU,N];exact H C ((k1.tr B).tr D)
theorem LQ{W:Nat→Prop}{x:Hs}{h:ad}{a:Int}{t:Tr}{l:List Pr}(i:TreeIs W h a x t l)(f:cu l)(d:l.length≤60000){K:Int→ad→Prop}(e:∀h',Upd No h h'→K (l.length:Int) h'):HC PG j4 [LK t] [.c (.int .i64)] K h:=by
 rcases i with⟨rfl,b,rfl,c⟩|⟨rfl,b,rfl,c⟩
 ·refine uB _ ?_
  unfold pH bo sK aJ;refine aO fun k b1 k1=>⟨_,vc b1 0,aj.2 ⟨_,vc b1 4,?_⟩⟩
  exact QV 13 (ao _) (TrieAt.upd0 k1 c) d fun j g=>e j (k1.tr g)
 ·exact Oo (x:=x) (.inr ⟨rfl,b,rfl,c⟩) f d e
end Go.Proofs
namespace Go.Proofs
open Go Go.Lift
theorem LC(n:Nat):IntKind.wrap .u64 (n:Int)=((n%18446744073709551616:Nat):Int):=by rw[IntKind.wrap_u64];omega
theorem yi{n:Nat}(h:n<18446744073709551616):IntKind.wrap .u64 (n:Int)=(n:Int):=by rw[LC,de h]
theorem CO{a b:Nat}(c:a<18446744073709551616)(d:b<18446744073709551616):CQ a b=((a|||b:Nat):Int):=by
 unfold CQ;rw[show IntKind.bits .u64=64 from rfl,eK,eK,BitVec.toNat_or,nh,nh,de (show a<2^64 from c),de (show b<2^64 from d)]
 exact yi (Nat.or_lt_two_pow (n:=64) c d)
theorem CP{n a b:Nat}(c:b<2^n)(d:a*2^n+b<18446744073709551616):CQ ((a*2^n:Nat):Int) (b:Int)=((a*2^n+b:Nat):Int):=by
 rw[CO (by omega) (by omega),jV a,Nat.two_pow_add_eq_or_of_lt c]
def JD(x:Nat):Nat:=x*2%18446744073709551616+x/9223372036854775808
def CG:Nat→Nat→Nat
 |0,x=>x
 |n+1,x=>JD (CG n x)
theorem QE{n:Nat}(s:n≤64){x a b:Nat}(o:b<2^(64-n))(m:a<2^n)(e:x=a*2^(64-n)+b):CG n x=b*2^n+a:=by
 induction n generalizing a b with
 |zero=>
  have:a=0:=by simpa using m
  subst this;rw[e];simp[CG]
 |succ n ih=>
  have f:(2:Nat)^(64-n)=2*2^(64-(n+1)):=by rw[show 64-n=(64-(n+1))+1 by omega,lY,jV]
  have q:(2:Nat)^(n+1)=2*2^n:=by rw[lY,jV]
  have i:(2:Nat)^(64-(n+1))*2^n=9223372036854775808:=by rw[←rX,show 64-(n+1)+n=63 by omega]
  have t:a%2<2:=na _ (by omega);have g:=Nat.div_add_mod a 2;have d:a/2<2^n:=by omega
  have p:a%2*2^(64-(n+1))+b<2^(64-n):=by
   rw[f];have:a%2*2^(64-(n+1))≤1*2^(64-(n+1)):=bZ _ (by omega);omega
  have j:x=a/2*2^(64-n)+(a%2*2^(64-(n+1))+b):=by
   rw[e,f,←kB,←Nat.mul_assoc,←iQ,jV (a/2) 2,g]
  have:=ih (by omega) p d j;show JD (CG n x)=_
  rw[this,iQ,Nat.mul_assoc,i,q];unfold JD;have c:b*2^n+2^n≤2^(64-(n+1))*2^n:=by
   rw[←iM];exact bZ _ o
  rw[i]at c;have k:b*(2*2^n)=2*(b*2^n):=by rw[Nat.mul_left_comm]
  rw[k];generalize b*2^n=B at c;generalize 2^n=N at d c;have:a%2=0∨a%2=1:=by omega
  rcases this with h|h<;>rw[h]at g⊢<;>omega
theorem QD(n:Nat){x:Nat}(hx:x<18446744073709551616):CG n x<18446744073709551616:=by
 induction n with
 |zero=>exact hx
 |succ n ih=>show JD _<_;unfold JD;omega
theorem TZ{n:Nat}(h:n<64):IC (IntKind.wrap .u64 (n:Int)) 63=(n:Int):=by
 rw[yi (by omega)];unfold IC;have:∀n:Fin 64,(ah (IntKind.bits .u64) ((n.val:Nat):Int)&&&ah (IntKind.bits .u64) 63).toNat=n.val:=by decide
 rw[this ⟨n,h⟩];exact yi (by omega)
theorem QC{n x:Nat}(a:n<64)(hx:x<18446744073709551616):CF (x:Int) (n:Int)=((CG n x:Nat):Int):=by
 unfold CF;rw[TZ a];rw[show((64:Int)-(n:Int))=((64-n:Nat):Int) by omega,yi (by omega)]
 simp only[show IntKind.bits .u64=64 from rfl,aH,bm (Nat.le_of_lt a),bm (Nat.sub_le 64 n)]
 have c:(2:Nat)^(64-n)*2^n=18446744073709551616:=by rw[←rX,show 64-n+n=64 by omega]
 have hd:=Nat.div_add_mod x (2^(64-n));have hm:x%2^(64-n)<2^(64-n):=na _ (Nat.two_pow_pos _);have d:x/2^(64-n)<2^n:=by
  rw[Nat.div_lt_iff_lt_mul (Nat.two_pow_pos _),jV,c];exact hx
 rw[jV]at hd;rw[QE (Nat.le_of_lt a) hm d hd.symm];rw[show((x:Int)*2^n)=((x*2^n:Nat):Int) by rw[Int.natCast_mul,Int.natCast_pow];rfl,LC]
 rw[show Int.fdiv (x:Int) (2^(64-n))=((x/2^(64-n):Nat):Int) by rw[show((2:Int)^(64-n))=((2^(64-n):Nat):Int) by rw[Int.natCast_pow];rfl];exact Int.ofNat_fdiv x _▸rfl]
 have b:x%2^(64-n)*2^n+2^n≤2^(64-n)*2^n:=by
  rw[←iM];exact bZ _ hm
 rw[c]at b;have e:x*2^n%18446744073709551616=x%2^(64-n)*2^n:=by
  rw[←c,Nat.mul_mod_mul_right]
 rw[e];exact CP d (by omega)
end Go.Proofs
namespace Go.Proofs
open Go Go.Lift
def D4(s:ByteArray)(i:Nat):Nat:=if h:i<s.size then(s[i]'h).toNat else 0
def hv(s:ByteArray):Nat→Nat→Nat
 |_,0=>0
 |p,c+1=>hv s (p+1) c*256+D4 s p
theorem PL(s:ByteArray)(i:Nat):D4 s i<256:=by
 unfold D4;split
 ·exact UInt8.toNat_lt _
 ·omega
theorem Ms(s:ByteArray)(i:Nat):IA s i=(D4 s i:Int):=by
 unfold IA D4;by_cases h:i<s.size
 ·rw[dif_pos h,getElem?_pos s i h]
 ·rw[dif_neg h,getElem?_neg s i h];rfl
theorem Dr{s:ByteArray}{i:Nat}(h:s.size≤i):D4 s i=0:=dif_neg (by omega)
theorem Fi(s:ByteArray):∀(c p:Nat),hv s p c<256^c
 |0,_=>by show(0:Nat)<1;omega
 |c+1,p=>by
  have:=Fi s c (p+1);have:=PL s p;rw[lY];show hv s (p+1) c*256+D4 s p<_
  omega
theorem L9{s:ByteArray}:∀{c p:Nat},s.size≤p→hv s p c=0
 |0,_,_=>rfl
 |c+1,p,h=>by
  show hv s (p+1) c*256+D4 s p=0
  rw[L9 (by omega),Dr h]
theorem Gx{s:ByteArray}{d:Nat}:∀{c p:Nat},s.size≤p+c→hv s p (c+d)=hv s p c
 |0,p,h=>by rw[L9 (by omega)];rfl
 |c+1,p,h=>by
  rw[show c+1+d=(c+d)+1 by omega]
  show hv s (p+1) (c+d)*256+_=hv s (p+1) c*256+_
  rw[Gx (by omega)]
theorem Re{s:ByteArray}{a b i:Nat}(c:b≤s.size):D4 (s.extract a b) i=if a+i<b then D4 s (a+i)else 0:=by
 unfold D4;have e:(s.extract a b).size=b-a:=by rw[dV];omega
 by_cases h:a+i<b
 ·rw[if_pos h,dif_pos (by omega),dif_pos (by omega),ByteArray.getElem_extract]
 ·rw[if_neg h,dif_neg (by omega)]
theorem Ks{s:ByteArray}{a:Nat}:∀{c p b:Nat},b≤s.size→(b=s.size∨a+p+c≤b)→hv (s.extract a b) p c=hv s (a+p) c
 |0,_,_,_,_=>rfl
 |c+1,p,b,hb,h=>by
  show hv _ (p+1) c*256+_=hv s (a+p+1) c*256+_
  rw[Ks hb (h.imp id fun h=>by omega),Re hb,kB]
  congr 1
  split
  ·rfl
  ·exact(Dr (by omega)).symm
theorem Rm{s:ByteArray}:∀{k c:Nat},k+c≤8→wj s k ((hv s k c*2^(8*k):Nat):Int)=((hv s 0 (k+c):Nat):Int)
 |0,c,_=>by
  show((hv s 0 c*2^(8*0):Nat):Int)=_
  rw[Nat.zero_add];simp
 |k+1,c,h=>by
  have g:=PL s k;have hc:=Fi s c (k+1);have f:(2:Nat)^(8*(k+1))=256*2^(8*k):=by rw[show 8*(k+1)=8+8*k by omega,rX]
  have b:256^c*2^(8*(k+1))≤18446744073709551616:=by
   rw[show(256:Nat)=2^8 from rfl,←Nat.pow_mul,←rX]
   exact eI (by omega) (show 8*c+8*(k+1)≤64 by omega)
  have m:hv s (k+1) c*2^(8*(k+1))+2^(8*(k+1))≤18446744073709551616:=by
   rw[←iM];exact ba (bZ _ hc) b
  have i:D4 s k*2^(8*k)<2^(8*(k+1)):=by rw[f];exact Nat.mul_lt_mul_of_pos_right g (Nat.two_pow_pos _)
  have a:hv s (k+1) c*2^(8*(k+1))+D4 s k*2^(8*k)=hv s k (c+1)*2^(8*k):=by
   rw[f,←Nat.mul_assoc,←iQ];rfl
  have d:(if k=0 then IntKind.wrap .u64 (IA s 0)else Ru (IA s k) ((8*k:Nat):Int))=((D4 s k*2^(8*k):Nat):Int):=by
   split
   ·rename_i e
    subst e;rw[Ms,IntKind.wrap_u64];simp;omega
   ·unfold Ru
    rw[Ms,aH,show IntKind.bits .u64=64 from rfl,bm (by omega)]
    have j:IntKind.wrap .u64 ((D4 s k:Nat):Int)=((D4 s k:Nat):Int):=by rw[IntKind.wrap_u64];omega
    rw[j,show((D4 s k:Int)*2^(8*k))=((D4 s k*2^(8*k):Nat):Int) by rw[Int.natCast_mul,Int.natCast_pow];rfl,IntKind.wrap_u64]
    omega
  show wj s k (CQ _ (if k=0 then _ else _))=_
  rw[d,CP i (by omega),a,Rm (by omega),show k+(c+1)=k+1+c by omega]
theorem Hj{s:ByteArray}(h:s.size≤8):wH s=((hv s 0 8:Nat):Int):=by
 have:=Rm (s:=s) (k:=s.size) (c:=0) (by omega);rw[show hv s s.size 0=0 from rfl,Nat.zero_mul]at this
 unfold wH;rw[show((0:Nat):Int)=0 from rfl]at this
 rw[this,cZ];have e:=Gx (s:=s) (d:=8-s.size) (c:=s.size) (p:=0) (by omega);rw[show s.size+(8-s.size)=8 by omega]at e
 rw[e]
def nU:Nat→ByteArray→Nat→Q4→Nat×Q4
 |0,_,a,q=>(a,q)
 |n+1,s,a,q=>if a+8≤s.size then nU n s (a+8) (pN (hv s a 8:Nat) q)else(a,q)
theorem Hr:∀{n:Nat} {s:ByteArray} {a:Nat} {q:Q4},a≤s.size→AX n (s.extract a s.size) q=(s.extract (nU n s a q).1 s.size,(nU n s a q).2)
 |0,_,_,_,_=>rfl
 |n+1,s,a,q,h=>by
  have e:(s.extract a s.size).size=s.size-a:=by rw[dV];omega
  show(if 8≤(s.extract a s.size).size then _ else _)=_
  rw[e];by_cases hc:a+8≤s.size
  ·rw[if_pos (show 8≤s.size-a by omega),ByteArray.extract_extract,ByteArray.extract_extract]
   rw[show nU (n+1) s a q=nU n s (a+8) (pN (hv s a 8:Nat) q)from if_pos hc]
   rw[show min (a+(s.size-a)) s.size=s.size by omega,show min (a+8) s.size=a+8 by omega,cZ]
   rw[Hj (by rw[dV];omega),Ks (by omega) (.inr (by omega)),cZ];exact Hr hc
  ·rw[if_neg (show ¬8≤s.size-a by omega),show nU (n+1) s a q=(a,q)from if_neg hc]
theorem Fv:∀{n:Nat} {s:ByteArray} {a:Nat} {q:Q4},s.size≤a+n→a≤s.size→s.size<(nU n s a q).1+8∧(nU n s a q).1≤s.size
 |0,_,_,_,h,h'=>⟨by show _<_+8;simp only[nU];omega,h'⟩
 |n+1,s,a,q,h,h'=>by
  by_cases hc:a+8≤s.size
  ·rw[show nU (n+1) s a q=nU n s (a+8) (pN (hv s a 8:Nat) q)from if_pos hc]
   exact Fv (by omega) hc
  ·rw[show nU (n+1) s a q=(a,q)from if_neg hc]
   exact⟨by simp only;omega,h'⟩
theorem Qw{k0 k1:Int}{s:ByteArray}:Jr k0 k1 s=(let g:=nU s.size s 0 (df k0 8317987319222330741,df k1 7237128888997146477,df k0 7816392313619706465,df k1 8387220255154660723)
  Q8 (pN ((hv s g.1 8+s.size%256*72057594037927936:Nat):Int) g.2)):=by
 unfold Jr TC;generalize (df k0 8317987319222330741,df k1 7237128888997146477,df k0 7816392313619706465,df k1 8387220255154660723)=q;have e:=Hr (n:=s.size) (s:=s) (a:=0) (q:=q) (aU _);rw[ByteArray.extract_zero_size]at e;rw[e];have⟨m,o⟩:=Fv (n:=s.size) (s:=s) (a:=0) (q:=q) (by omega) (aU _);generalize nU s.size s 0 q=g at m o;obtain⟨a,r⟩:=g;simp only at m o⊢
 rw[Hj (by rw[dV];omega),Ks (ao _) (.inl rfl),cZ];congr 2
 have hc:hv s a 8<2^56:=by
  have e:=Gx (s:=s) (d:=1) (c:=7) (p:=a) (by omega);rw[show(7+1:Nat)=8 from rfl]at e
  rw[e];exact Fi s 7 a
 have f:Ru (s.size:Int) 56=((s.size%256*2^56:Nat):Int):=by
  unfold Ru;rw[show min ((56:Int)).toNat (IntKind.bits .u64)=56 from rfl,LC]
  rw[show(((s.size%18446744073709551616:Nat):Int)*2^56)=((s.size%18446744073709551616*72057594037927936:Nat):Int) by rw[Int.natCast_mul];rfl,LC]
  omega
 have hm:s.size%256*2^56+hv s a 8<18446744073709551616:=by omega
 have i:∀{a b:Nat},a<18446744073709551616→b<18446744073709551616→CQ a b=CQ b a:=fun j k=>by rw[CO j k,CO k j,Nat.or_comm]
 rw[f,i (Nat.lt_trans hc (by decide)) (Nat.lt_of_le_of_lt (Nat.le_add_right _ _) hm),CP hc hm,Nat.add_comm]
end Go.Proofs
namespace Go.Proofs
open Go Go.Lift
abbrev Rg(x:Int):Prop:=0≤x∧x<18446744073709551616
theorem QB(x n:Int):Rg (CF x n):=zS _
theorem rZ(x n:Int):Rg (df x n):=zS _
theorem PX(x n:Int):Rg (PY x n):=zS _
theorem vN{x:Int}(hx:Rg x){n:Nat}(g:n<64){h:ad}{K:Int→ad→Prop}(f:K (CF x n) h):HC PG lg [.int .u64 x,.int .i64 (n:Int)] [.c (.int .u64)] K h:=by
 obtain⟨X,rfl⟩:=nu hx.1;have c:X<18446744073709551616:=by have:=hx.2;omega
 rw[QC g c]at f;refine Lf X n ?_;unfold DT;refine LoopP.ghost (fun(i:Nat) (t:Int×Int) d=>t=(((CG i X:Nat):Int),(i:Int))∧i≤n∧d=h) (fun i=>n-i) 0 ⟨rfl,aU _,rfl⟩ ?_
 rintro I i t d ⟨rfl,hi,rfl⟩ j;refine aG (fun a=>?_) fun b=>?_
 ·have a:i<n:=by have:(i:Int)<(n:Int):=a;omega
  have k:=QD i c;refine⟨by decide,?_⟩;have e:IntKind.wrap .u64 (IntKind.wrap .u64 (((CG i X:Nat):Int)*2)+IntKind.wrap .u64 (lq ((CG i X:Nat):Int) 9223372036854775808))=((CG (i+1) X:Nat):Int):=by
   show _=((JD (CG i X):Nat):Int)
   unfold JD;rw[eJ (by omega),IntKind.wrap_u64,IntKind.wrap_u64,IntKind.wrap_u64];omega
  simp only[Bd];rw[e,cz a (by omega)];exact j (i+1) _ _ ⟨rfl,a,rfl⟩ (by omega)
 ·obtain rfl:i=n:=by have:¬(i:Int)<(n:Int):=b;omega
  exact f
theorem sJ{s:Q4}(g:Rg s.2.1)(f:Rg s.2.2.2){h:ad}{K:Q4→ad→Prop}(e:∀h',Upd No h h'→K (jO s) h'):HC PG jI [.agg #[.int .u64 s.1,.int .u64 s.2.1,.int .u64 s.2.2.1,.int .u64 s.2.2.2]] [.agg [.int .u64,.int .u64,.int .u64,.int .u64]] K h:=by
 refine IP s ?_;unfold Bw bQ dK ag eO l9 Mz MC ON;refine aO fun d b1 k1=>aO fun i b2 b=>?_
 have c1:=b.get0 b1;have s1:=k1.size;refine⟨by decide,_,vc c1 0,by decide,_,vc c1 1,by decide,_,vc c1 2,by decide,_,vc c1 3,?_⟩
 refine vN (n:=13) g (by omega) (vN (n:=32) (PX _ _) (by omega) (vN (n:=16) f (by omega) (vN (n:=21) (rZ _ _) (by omega) (vN (n:=17) (rZ _ _) (by omega) (vN (n:=32) (PX _ _) (by omega) ?_)))));refine dd b2 (by rfl) fun a b3 c=>?_
 refine⟨_,vc b3 0,_,vc b3 1,_,vc b3 2,_,vc b3 3,?_⟩;exact e a ((k1.tr b).own c (by omega))
abbrev Rq(q:Q4):Prop:=Rg q.1∧Rg q.2.1∧Rg q.2.2.1∧Rg q.2.2.2
theorem uV(s:Q4):Rq (jO s):=⟨PX _ _,rZ _ _,QB _ _,rZ _ _⟩
theorem Oi(m:Int)(s:Q4):Rq (pN m s):=⟨rZ _ _,(uV _).2⟩
theorem SY{s:ByteArray}{i:Nat}(h:i<s.size):∃b:UInt8,s[i]? =some b∧D4 s i=b.toNat:=⟨s[i],getElem?_pos s i h,by unfold D4;rw[dif_pos h]⟩
theorem Py{n:Nat}{s:ByteArray}{a:Nat}{q:Q4}(h:s.size≤a+n)(hc:a+8≤s.size):∃m,nU n s a q=nU m s (a+8) (pN (hv s a 8:Nat) q)∧s.size≤a+8+m:=by
 cases n with
 |zero=>omega
 |succ n=>exact⟨n,if_pos hc,by omega⟩
theorem KF{n:Nat}{s:ByteArray}{a:Nat}{q:Q4}(hc:s.size<a+8):nU n s a q=(a,q):=by
 cases n with
 |zero=>rfl
 |succ n=>exact if_neg (by omega)
theorem QG{k0 k1:Int}{s:ByteArray}(hs:s.size≤1000000000){h:ad}{K:Int→ad→Prop}(o:∀B,Upd No h B→K (Jr k0 k1 s) B):HC PG Ar [.int .u64 k0,.int .u64 k1,.string s] [.c (.int .u64)] K h:=by
 rw[Qw]at o;refine NP k0 k1 s ?_;unfold FP bQ dK ag eO cV nv Mz MC RQ Na ON;simp only[Bd,show((0:Int)).toNat*1=0 from rfl,show((1:Int)).toNat*1=1 from rfl,show((2:Int)).toNat*1=2 from rfl,show((3:Int)).toNat*1=3 from rfl]
 have eq0:∃E:Q4,E=(df k0 8317987319222330741,df k1 7237128888997146477,df k0 7816392313619706465,df k1 8387220255154660723):=⟨_,rfl⟩;obtain⟨E,X⟩:=eq0;rw[←X]at o;have hq0:Rq E:=by rw[X];exact⟨rZ _ _,rZ _ _,rZ _ _,rZ _ _⟩
 refine aO fun h1 b1 k1=>?_
 refine dd b1 (by rfl) fun h2 b2 u2=>?_
 have b2':h2[h.size]? =some (.cells (q4 E) tH (0,0)):=by rw[X];exact b2
 clear b2 X;have hex:∃G:Nat×Q4,G=nU s.size s 0 E:=⟨_,rfl⟩;obtain⟨G,eG⟩:=hex;rw[←eG]at o;simp only at o;refine LoopP.ghost (fun(g:Nat×Q4) (t:Int) B=>t=(g.1:Int)∧B[h.size]? =some (.cells (q4 g.2) tH (0,0))∧Upd No h B∧Rq g.2∧
  ((∃n,nU n s g.1 g.2=G∧s.size≤g.1+n∧g.1≤s.size)∨(s.size<g.1∧g.2=pN ((hv s G.1 8+s.size%256*72057594037927936:Nat):Int) G.2))) (fun g=>s.size+1-g.1) (0,E) ⟨rfl,b2',k1.own u2 (ao _),hq0,.inl ⟨s.size,eG.symm,by omega,aU _⟩⟩ ?_
 rintro I ⟨a,q⟩ t B ⟨rfl,P,hu,V,v⟩ hI;simp only at P V v;refine aG (fun hle=>?_) fun hgt=>?_
 ·have hle:a≤s.size:=by omega
  obtain⟨n,y,hn,_⟩:=v.resolve_right fun h=>by omega
  refine LoopP.ghost (fun(j:Nat) (t:Int×Int) x=>t=(((hv s (a+(8-j)) j:Nat):Int),(7:Int)-(j:Int))∧j≤8∧x=B) (fun j=>8-j) 0 ⟨rfl,by omega,rfl⟩ ?_
  rintro I2 j t x ⟨rfl,hj,rfl⟩ hI2;refine aG (fun hge=>?_) fun hlt=>?_
  ·have hj7:j≤7:=by have:(7:Int)-(j:Int)≥0:=hge;omega
   have ei:IntKind.wrap .i64 ((a:Int)+(7-(j:Int)))=((a+(7-j):Nat):Int):=by rw[oq (by omega)];omega
   have C:=Fi s (j+1) (a+(8-(j+1)));have hp:256^(j+1)≤256^8:=eI (by omega) (by omega);have D:hv s (a+(8-(j+1))) (j+1)=hv s (a+(8-j)) j*256+D4 s (a+(7-j)):=by
    rw[show a+(8-(j+1))=a+(7-j) by omega]
    show hv s (a+(7-j)+1) j*256+_=_
    rw[show a+(7-j)+1=a+(8-j) by omega]
   rw[D]at C;refine Join.intro (fun t L=>t=((hv s (a+(8-(j+1))) (j+1):Nat):Int)∧L=x) (fun R Q=>?_) ?_
   ·simp only
    rw[ei];refine aG (fun k=>?_) fun M=>?_
    ·have k:a+(7-j)<s.size:=by omega
     obtain⟨b,hb1,N⟩:=SY k;refine⟨b,by omega,by rw[aH];exact hb1,Q _ _ ⟨?_,rfl⟩⟩
     rw[D,N,IntKind.wrap_u64,IntKind.wrap_u64,IntKind.wrap_u64];rw[N]at C;omega
    ·have hz:D4 s (a+(7-j))=0:=Dr (by omega)
     refine Q _ _ ⟨?_,rfl⟩;rw[hz]at C;rw[D,hz,IntKind.wrap_u64];omega
   ·rintro t L ⟨rfl,rfl⟩
    simp only;have e7:IntKind.wrap .i64 ((7:Int)-(j:Int)-1)=(7:Int)-((j+1:Nat):Int):=by rw[oq (by omega)];omega
    rw[e7];exact hI2 (j+1) _ _ ⟨rfl,by omega,rfl⟩ (by omega)
  ·obtain rfl:j=8:=by have:¬(7:Int)-(j:Int)≥0:=hlt;omega
   simp only[Nat.sub_self,cZ];have h8:=Fi s 8 a;have e8:IntKind.wrap .i64 ((a:Int)+8)=((a+8:Nat):Int):=by rw[oq (by omega)];omega
   rw[e8];refine Join.intro (fun(t:Int) L=>L=x∧∃m:Nat,t=(m:Int)∧((a+8≤s.size∧m=hv s a 8)∨(s.size<a+8∧m=hv s a 8+s.size%256*72057594037927936))) (fun R Q=>?_) ?_
   ·refine aG (fun k=>?_) fun M=>?_
    ·have k:s.size<a+8:=by omega
     have hc:hv s a 8<2^56:=by
      have e:=Gx (s:=s) (d:=1) (c:=7) (p:=a) (by omega);rw[show(7+1:Nat)=8 from rfl]at e
      rw[e];exact Fi s 7 a
     refine⟨by decide,Q _ _ ⟨rfl,_,?_,.inr ⟨k,rfl⟩⟩⟩;rw[iq (by omega),IntKind.wrap_u64,IntKind.wrap_u64,IntKind.wrap_u64];omega
    ·exact Q _ _ ⟨rfl,_,rfl,.inl ⟨by omega,rfl⟩⟩
   ·rintro t L ⟨rfl,m,rfl,hm⟩
    refine⟨by decide,_,vc P 3,by decide,?_⟩
    refine pB (i:=3) (c':=q4 (q.1,q.2.1,q.2.2.1,df q.2.2.2 (m:Int))) P (show 3<4 by decide) rfl fun h4 u u4=>?_
    refine⟨_,vc u 0,_,vc u 1,_,vc u 2,_,vc u 3,?_⟩;refine sJ (s:=(q.1,q.2.1,q.2.2.1,df q.2.2.2 (m:Int))) V.2.1 (rZ _ _) fun h5 S=>?_
    have f:=uV (q.1,q.2.1,q.2.2.1,df q.2.2.2 (m:Int));have et:pN (m:Int) q=(df (jO (jO (q.1,q.2.1,q.2.2.1,df q.2.2.2 (m:Int)))).1 m,(jO (jO (q.1,q.2.1,q.2.2.1,df q.2.2.2 (m:Int)))).2):=rfl;refine sJ f.2.1 f.2.2.2 fun h6 T=>?_
    obtain⟨r,W⟩:∃r,r=jO (jO (q.1,q.2.1,q.2.2.1,df q.2.2.2 (m:Int))):=⟨_,rfl⟩;rw[←W]at et⊢;have b6:=T.get0 (S.get0 u);have z6:=aD b6;refine dd (vs:=(q4 r).toList) b6 rfl fun h7 b7 u7=>?_
    have H:h7[h.size]? =some (.cells (q4 r) tH (0,0)):=b7;refine⟨by decide,_,vc H 0,by decide,?_⟩
    refine pB (i:=0) (c':=q4 (df r.1 m,r.2)) H (show 0<4 by decide) rfl fun Z Y u8=>?_
    have uu:Upd No h Z:=((((hu.own u4 (ao _)).tr S).tr T).own u7 (ao _)).own u8 (ao _);rw[←et]at Y;refine hI (a+8,pN m q) _ _ ⟨rfl,Y,uu,Oi _ _,?_⟩ (by simp only;omega);rcases hm with⟨hc,rfl⟩|⟨hc,rfl⟩
    ·obtain⟨n',hd,hn'⟩:=Py hn hc
     exact .inl ⟨n',hd.symm.trans y,hn',hc⟩
    ·refine .inr ⟨by simp only;omega,?_⟩
     have:=KF (n:=n) (q:=q) hc;rw[y]at this;rw[this]
 ·obtain⟨_,eq⟩:=v.resolve_left fun⟨_,_,_,h⟩=>by omega
  rw[←eq]at o;clear eq v;refine⟨by decide,_,vc P 2,by decide,?_⟩
  refine pB (i:=2) (c':=q4 (q.1,q.2.1,df q.2.2.1 255,q.2.2.2)) P (show 2<4 by decide) rfl fun h4 u u4=>?_
  refine⟨_,vc u 0,_,vc u 1,_,vc u 2,_,vc u 3,?_⟩;have ef:Q8 q=SE (jO (jO (jO (jO (q.1,q.2.1,df q.2.2.1 255,q.2.2.2))))):=rfl;rw[ef]at o;refine sJ (s:=(q.1,q.2.1,df q.2.2.1 255,q.2.2.2)) V.2.1 V.2.2.2 fun h5 S=>?_
  have f:=uV (q.1,q.2.1,df q.2.2.1 255,q.2.2.2);obtain⟨r1,J⟩:∃r,r=jO (q.1,q.2.1,df q.2.2.1 255,q.2.2.2):=⟨_,rfl⟩;rw[←J]at o f⊢;clear J;refine sJ f.2.1 f.2.2.2 fun h6 T=>?_
  have A:=uV r1;obtain⟨r2,O⟩:∃r,r=jO r1:=⟨_,rfl⟩;rw[←O]at o A⊢;clear O;refine sJ A.2.1 A.2.2.2 fun h7 k7=>?_
  have z:=uV r2;obtain⟨r3,F⟩:∃r,r=jO r2:=⟨_,rfl⟩;rw[←F]at o z⊢;clear F;refine sJ z.2.1 z.2.2.2 fun h8 k8=>?_
  obtain⟨r,W⟩:∃r,r=jO r3:=⟨_,rfl⟩;rw[←W]at o⊢;clear W;have Y:=k8.get0 (k7.get0 (T.get0 (S.get0 u)));refine dd (vs:=(q4 r).toList) Y rfl fun h9 b9 u9=>?_
  have w:h9[h.size]? =some (.cells (q4 r) tH (0,0)):=b9;refine⟨by decide,_,vc w 0,by decide,_,vc w 1,by decide,_,vc w 2,by decide,_,vc w 3,?_⟩
  exact o h9 ((((((hu.own u4 (ao _)).tr S).tr T).tr k7).tr k8).own u9 (ao _))
theorem OG{x:Hs}{s:ByteArray}(d:s.size≤1000000000){h:ad}{K:Int→ad→Prop}(b:∀h',Upd No h h'→K (kX x s) h'):HC PG xC [.agg #[.int .u64 x.k0,.int .u64 x.k1,.int .u64 x.mask],.string s] [.c (.int .u64)] K h:=by
 refine La (x.k0,x.k1,x.mask) s ?_;unfold DP ag Ae RM;refine aO fun e b1 k1=>⟨_,vc b1 0,_,vc b1 1,_,vc b1 2,QG d fun c a=>⟨vc (a.get0 b1) 2,?_⟩⟩
 exact b c (k1.tr a)
theorem Si{hv:Int}(f:0≤hv∧hv<18446744073709551616){lev:Nat}(m:lev<13){h:ad}{K:Int→ad→Prop}(c:K (((hv.toNat>>>(5*lev))%32:Nat):Int) h):HC PG yN [.int .u64 hv,.int .i64 lev] [.c (.int .i64)] K h:=by
 obtain⟨n,rfl⟩:=nu f.1;rw[aH]at c;refine P5 n lev ?_;unfold IW;refine Join.plain (aG (fun h=>by omega) fun _=>?_)
 rw[decide_eq_false (by omega)];refine aj.2 ?_;refine LoopP.ghost (fun(i:Nat) (t:Int×Int) g=>t=(((n>>>(5*i):Nat):Int),(i:Int))∧i≤lev∧g=h) (fun i=>lev-i) 0 ⟨rfl,aU _,rfl⟩ ?_
 rintro I i t g ⟨rfl,hi,rfl⟩ j;refine aG (fun a=>?_) fun d=>?_
 ·have a:i<lev:=by have:(i:Int)<(lev:Int):=a;omega
  have b:n>>>(5*i)≤n:=Nat.shiftRight_le _ _;have e:n>>>(5*(i+1))=n>>>(5*i)/32:=by rw[Nat.mul_add,Nat.shiftRight_add,Nat.shiftRight_eq_div_pow _ (5*1)]
  have o:n<18446744073709551616:=by have:=f.2;omega
  have k:IntKind.wrap .u64 (lq ((n>>>(5*i):Nat):Int) 32)=((n>>>(5*(i+1)):Nat):Int):=by
   rw[e];generalize n>>>(5*i)=y at b;rw[eJ (by omega),IntKind.wrap_u64];omega
  refine⟨by decide,?_⟩;simp only;rw[k,cz a (by omega)];exact j (i+1) _ _ ⟨rfl,a,rfl⟩ (by omega)
 ·obtain rfl:i=lev:=by have:¬(i:Int)<(lev:Int):=d;omega
  refine⟨by decide,?_⟩;simp only;generalize n>>>(5*i)=y at c;rw[iq (by omega),oq (by omega)];exact_mod_cast c
theorem TF{x:Hs}{k:ByteArray}{lev:Nat}(b:lev<13){h:ad}{K:Int→ad→Prop}(a:K (ck x lev k:Int) h):HC PG yN [.int .u64 (kX x k),.int .i64 lev] [.c (.int .i64)] K h:=Si (Be x k) b a
end Go.Proofs
