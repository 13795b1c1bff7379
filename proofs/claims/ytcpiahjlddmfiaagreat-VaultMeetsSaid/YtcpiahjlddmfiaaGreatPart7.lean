/- A part of the proof that the named laws of this program answer true, whatever the input. -/
import Derived.Test.YtcpiahjlddmfiaaGreatPart6
import Derived.Test.YtcpiahjlddmfiaaGreatPart4
import Derived.Test.YtcpiahjlddmfiaaGreatPart5
open Array renaming length_toList→ix
open Bool renaming and_eq_true→aR
open Iff renaming rfl→wI
open List renaming length_cons→ao,map_nil→iC,append_nil→aX,length_append→ad,append_assoc→ax,length_nil→aS,not_mem_nil→dZ,getElem_cons_zero→eI,mem_cons_self→au,mem_cons→aq,pairwise_cons→aB,flatMap_cons→aK,sublist_cons_self→kN,mem_cons_of_mem→az,getElem_of_mem→bA,pairwise_iff_getElem→bZ,cons_append→fy,pairwise_append→bT,mem_append_left→bU,mem_append_right→cD,pairwise_singleton→cd,mem_append→aN,mem_singleton→av,find?_cons→ll,nodup_nil→pT
open List.Pairwise renaming nil→db
open Nat renaming le_trans→bI,succ_pos→mV,zero_le→bS,mul_comm→wG,le_refl→al,lt_of_lt_of_le→aC
open Prod renaming mk→qC
namespace Go.Proofs
open Go Go.Lift
theorem RA{α:Type}{f:α→List Value}{a:Nat}{W:Nat→Prop}{h:ac}{s:SliceV}{p:α}{l:List α}(b:Sl f a W h s (p::l))(hc:s.len≤s.cap):Sl f a W h ⟨aJ s.a 1 s.cap a,s.len-1,s.cap-1⟩ l:=by
 have d:=b.len;rw[ao]at d;have:=Sl.sub b (l:=1) (hi:=s.len) (m:=s.cap) (c:=s.cap-1) (by omega) (by rw[ao];omega) hc;rw[show((p::l).drop 1).take (s.len-1)=l by rw[List.drop_succ_cons,List.drop_zero];exact List.take_of_length_le (by omega)]at this
 exact this
theorem RE{W W':Nat→Prop}{h:ac}{b:Nat}{sl a:ByteArray}{w e:Option ByteArray}{F F':Fo}(r:RxN W h b sl w F)(f:RxN W' h b a e F'):sl=a∧w=e∧F=F':=by
 obtain⟨val,s,ow,ks,q,m,g,x,p⟩:=r;obtain⟨d,s',i,j,c,o,n,v,k⟩:=f;rw[q]at c;simp only[Option.some.injEq,Obj.cells.injEq,and_true]at c;obtain⟨t,u,rfl,rfl⟩:=Ng c;have:=Sl.det Nf g n;subst this;exact⟨t,Nq u m o,LA p k⟩
theorem RxN.plain{W:Nat→Prop}{h:ac}{b:Nat}{sl:ByteArray}{w:Option ByteArray}{F:Fo}(r:RxN W h b sl w F):fa h ⟨b,0,none⟩:=by
 obtain⟨val,s,ow,ks,a,_⟩:=r;exact LQ a (by simp[De])
def NdO(W:Nat→Prop)(h:ac)(pre:List UInt8)(r:Option Addr)(A:List Pr):Prop:=(r=none∧A= [])∨∃b sl n,r=some ⟨b,0,none⟩∧RxN W h b sl n.2.1 n.2.2∧sl.data.toList=n.1∧NodeK n pre∧A=pp pre n
theorem NdO.upd0{W:Nat→Prop}{h h':ac}{pre:List UInt8}{r:Option Addr}{A:List Pr}(k:Upd No h h')(o:NdO W h pre r A):NdO W h' pre r A:=o.imp id fun⟨b,sl,n,c,a,d⟩=>⟨b,sl,n,c,a.upd0 k,d⟩
theorem JD{W:Nat→Prop}{h:ac}{ahead:ByteArray}{r:Option Addr}{A:List Pr}(o:NdO W h ahead.data.toList r A)(c:A.length≤1000000){K:SliceV→ac→Prop}(a:∀s' h',OwnS eJ 2 ag (fun y=>h.size≤y) h' s' A→Upd No h h'→K s' h'):HC PG jA [.pointer r,.string ahead] [.c .slice] K h:=by
 rcases o with⟨rfl,rfl⟩|⟨b,sl,n,rfl,r,e,nk,rfl⟩
 ·refine Dx none ahead ?_
  unfold xZ aZ cp sx rp m8;exact ar.2 (a _ h (OwnS.nil gS) (Upd.refl _ _))
 ·exact PI r e nk c a
theorem Ap{W C:Nat→Prop}{h:ac}{ahead:ByteArray}{r s:Option Addr}{A B:List Pr}{L:List Ch}{sb:Nat}{z:Hs}(o:NdO W h ahead.data.toList r A)(D:NdO W h ahead.data.toList s B)(st:SetAt C h sb z L)(w:A.length≤1000000)(t:B.length≤1000000)(P:L.length+A.length+B.length≤10000000){G:Unit→ac→Prop}(I:OV C h sb z (L++im A B) (G ())):
  HC PG jA [.pointer r,.string ahead] [.c .slice] (fun(g:SliceV) x=>HC PG jA [.pointer s,.string ahead] [.c .slice] (fun(a:SliceV) j=>HC PG gE [.pointer (some ⟨sb,0,none⟩),.slice g.a g.len g.cap,.slice a.a a.len a.cap] [] (fun(_:Unit) p=>G () p) j) x) h:=by
 refine JD o w fun N J d k1=>JD (D.upd0 k1) t fun K O c e=>?_
 have H:=k1.size;obtain⟨_,i,_⟩:=st.ex;have v:=bo i;have b:=d.upd e fun _ _ h=>h
 refine AE (st.upd0 (k1.tr e)) (b.sl fun y m _ f=>?_) (c.sl fun y m _ f=>?_) d.cap c.cap (by omega) fun u E n k q=>?_
 ·rcases f with h|h
  ·have:=st.lt y h;omega
  ·omega
 ·rcases f with h|h
  ·have:=st.lt y h;omega
  ·omega
 ·have F:=e.size
  exact I u E n (fun y m=>(k y m).imp id fun h=>by omega) ((k1.tr e).wide.tr q)
theorem GK{W C:Nat→Prop}{h:ac}{ahead:ByteArray}{r b:Option Addr}{A B:List Pr}{L:List Ch}{sb:Nat}{z:Hs}(o:NdO W h ahead.data.toList r A)(g:NdO W h ahead.data.toList b B)(d:r=none∨b=none)(st:SetAt C h sb z L)(i:A.length≤1000000)(k:B.length≤1000000)(m:L.length+A.length+B.length≤10000000){K:Unit→ac→Prop}(f:OV C h sb z (L++im A B) (K ())):
  HC PG gD [.pointer (some ⟨sb,0,none⟩),.pointer r,.pointer b,.string ahead] [] K h:=by
 refine vo _ r b ahead ?_;unfold qo aZ cp sx Jt HR;refine⟨trivial,fun a a' e n=>by rcases d with h|h<;>simp_all,CondP.intro (fun e=>?_) fun e=>?_⟩
 ·have p:r=b:=by simpa using e
  have j:r=none∧b=none:=by rcases d with h|h<;>simp_all
  obtain⟨rfl,rfl⟩:=j;obtain rfl:A= []:=by rcases o with⟨_,h⟩|⟨_,_,_,h,_⟩;exact h;cases h
  obtain rfl:B= []:=by rcases g with⟨_,h⟩|⟨_,_,_,h,_⟩;exact h;cases h
  exact f h C (by rw[iY,iC,aX];exact st) (fun _ h=>.inl h) (Upd.refl _ _)
 ·refine Join.intro (fun t h'=>t=true∧h'=h) (fun R c=>?_) ?_
  ·rcases d with rfl|rfl
   ·exact ar.2 (c _ _ ⟨rfl,rfl⟩)
   ·exact CondP.intro (fun _=>c _ _ ⟨rfl,rfl⟩) fun _=>ar.2 (c _ _ ⟨rfl,rfl⟩)
  ·rintro t h' ⟨rfl,rfl⟩
   exact ar.2 (Ap o g st i k m f)
theorem R8{sl:ByteArray}{l:List UInt8}(e:sl.data.toList=l)(b:l≠[]):∃c:UInt8,(0:Int)≤0∧sl[(0:Int).toNat]? =some c∧c.toNat=hd l:=by
 match l,b with
 |c::l,_=>
  refine⟨c,Int.le_refl _,?_,rfl⟩;have a:0<sl.size:=by
   have:sl.data.toList.length=sl.size:=ix;rw[←this,e];simp
  have:sl.data[0]? =some c:=by rw[←Array.getElem?_toList,e];rfl
  rw[show(0:Int).toNat=0 from rfl]
  rw[getElem?_pos sl 0 a];rw[Array.getElem?_eq_getElem a]at this;exact this
def ME(n:Bn):Prop:=∀{W C:Nat→Prop} {h:ac} {b b':Nat} {sl sl' ahead:ByteArray} {n':Bn} {L:List Ch} {sb:Nat} {z:Hs},RxN W h b sl n.2.1 n.2.2→sl.data.toList=n.1→RxN W h b' sl' n'.2.1 n'.2.2→sl'.data.toList=n'.1→NodeK n ahead.data.toList→NodeK n' ahead.data.toList→SetAt C h sb z L→
 (∀y,C y∨y=sb→W y)→(∀y,h.size≤y→W y)→(pp ahead.data.toList n).length≤1000000→(pp ahead.data.toList n').length≤1000000→L.length+(pp ahead.data.toList n).length+(pp ahead.data.toList n').length≤10000000→
 ∀{K:Unit→ac→Prop},OV C h sb z (L++im (pp ahead.data.toList n) (pp ahead.data.toList n')) (K ())→HC PG gD [.pointer (some ⟨sb,0,none⟩),.pointer (some ⟨b,0,none⟩),.pointer (some ⟨b',0,none⟩),.string ahead] [] K h
theorem kT{key:List UInt8}{P:List Pr}{L:List Bn}(h:∀n∈L,∀p∈P,∀q∈pp key n,kl p.1 q.1):∀p∈P,∀q∈L.flatMap (pp key),kl p.1 q.1:=by
 intro p c q a;obtain⟨n,b,a⟩:=List.mem_flatMap.1 a;exact h n b p c q a
set_option maxHeartbeats 1000000 in
theorem GL{lab:List UInt8}{w:Option ByteArray}{F:Fo}(ih:∀n∈F.toL,ME n):ME (lab,w,F):=by
 intro W C h b b' sl sl' ahead n' L sb z r e r' e' nk nk' st hCW hWn hA hB hL K hk;obtain⟨lab',w',F'⟩:=n';simp only at r e r' e';refine vo _ _ _ ahead ?_;unfold qo aZ cp sx Jt HR;refine⟨trivial,fun a a' e1 e2=>by cases e1;cases e2;exact⟨r.plain,r'.plain⟩,CondP.intro (fun e1=>?_) fun e1=>?_⟩
 ·obtain rfl:b=b':=by simpa using e1
  obtain⟨rfl,rfl,rfl⟩:=RE r r';subst e e';exact hk h C (by rw[AR,aX];exact st) (fun _ h=>.inl h) (Upd.refl _ _)
 clear e1;refine Join.intro (fun t h'=>h'=h∧t= !(decide (sl=sl'))) (fun R hR=>?_) ?_
 ·refine ai.2 (ai.2 (l8 r (l8 r' (hR _ _ ⟨rfl,?_⟩))))
  have eb:(sl.toList==sl'.toList)=decide (sl=sl'):=fw;rw[eb]
 rintro t h0 ⟨rfl,et⟩;by_cases hsl:sl=sl'
 rotate_left
 ·rw[decide_eq_false hsl]at et
  subst et;refine ar.2 ?_;exact Ap (.inr ⟨b,sl,(lab,w,F),rfl,r,e,nk,rfl⟩) (.inr ⟨b',sl',(lab',w',F'),rfl,r',e',nk',rfl⟩) st hA hB hL hk
 rw[decide_eq_true hsl]at et;subst et hsl;obtain rfl:lab=lab':=by rw[←e,←e']
 refine ai.2 (l8 r ?_);have hkl:=nk.len;simp only at hkl;have esz:∀k:ByteArray,k.size=k.data.toList.length:=fun k=>by rw[ix];rfl
 have e1:=esz ahead;have e2:=esz sl;rw[e]at e2;refine⟨by omega,?_⟩;have S:(ahead++sl).data.toList=ahead.data.toList++lab:=by rw[←T7,e]
 rw[G3,ad]at hA hB;rw[G3,G3,ad,ad]at hL;rw[G3,G3]at hk;have hcF:=dM.1 nk.can;have H:=dM.1 nk'.can;have hkid:∀m∈F.toL,NodeK m (ahead++sl).data.toList:=fun m hm=>by rw[S];exact nk.kid hm
 have N:∀m∈F'.toL,NodeK m (ahead++sl).data.toList:=fun m hm=>by rw[S];exact nk'.kid hm
 rw[←S]at hA hB hL hk;generalize ahead++sl=key at S hkid N hA hB hL hk⊢;have U:∀{u:Option ByteArray},bV (uX key.data.toList u):=fun{u}=>by cases u<;>simp[uX,bV]
 rw[Ej U U (kT fun m hm=>Ic (hcF.2 m hm).1) (kT fun m hm=>Ic (H.2 m hm).1) (kT fun m hm=>Ic (hcF.2 m hm).1) (kT fun m hm=>Ic (H.2 m hm).1),←ax]at hk
 refine Dk r fun s1 h1 ho1 k1=>Dk (r'.upd0 k1) fun s2 h2 ho2 k2=>?_
 have k12:=k1.tr k2;have s1z:=k1.size;have s2z:=k2.size;obtain⟨_,hsb,_⟩:=st.ex;have zsb:=bo hsb;refine AE (st.upd0 k12) ((ho1.upd k2 fun _ _ h=>h).sl fun y d _ hw=>?_) (ho2.sl fun y d _ hw=>?_) ho1.cap ho2.cap (by omega) fun h3 T st3 hC3 hu3=>?_
 ·rcases hw with h|h
  ·have:=st.lt y h;omega
  ·omega
 ·rcases hw with h|h
  ·have:=st.lt y h;omega
  ·omega
 have hlo:∀u v:Option ByteArray,(im (uX key.data.toList u) (uX key.data.toList v)).length≤(uX key.data.toList u).length+(uX key.data.toList v).length:=fun u v=>tT U U
 have hlo:=hlo w w';generalize im (uX key.data.toList w) (uX key.data.toList w')=X at st3 hk hlo;generalize (uX key.data.toList w).length=x1 at hA hL hlo;generalize (uX key.data.toList w').length=x2 at hB hL hlo;have hM3:∀y,C y∨y=sb→W y∨h2.size≤y:=fun y d=>.inl (hCW y d)
 have s3z:=hu3.size;refine BW ((r.upd0 k12).updM hu3 hM3) (qA nk.can) fun s4 h4 ks ho4 hL4 k4=>?_
 refine BW (((r'.upd0 k12).updM hu3 hM3).upd0 k4) (qA nk'.can) fun s5 O ks' ho5 hL5 k5=>?_
 have s4z:=k4.size;have s5z:=k5.size;obtain⟨_,hsb3,_⟩:=st3.ex;have zsb3:=bo hsb3;have st5:=st3.upd0 (k4.tr k5);have hW5:∀y,O.size≤y→W y:=fun y d=>hWn y (by omega)
 have hC3W:∀y,T y∨y=sb→W y:=fun y d=>d.elim (fun h=>(hC3 y h).elim (fun h=>hCW y (.inl h)) fun h=>hWn y (by omega)) fun h=>hCW y (.inr h)
 have hv4:Sl rq 1 (fun y=>T y∨y=sb∨O.size≤y) O s4 ks:=(ho4.sl (W:=fun y=>T y∨y=sb∨O.size≤y) fun y d hl hw=>by
  rcases hw with h|h|h
  ·have:=st3.lt y h;omega
  ·omega
  ·omega).upd k5 fun _ h=>h.elim
 have hv5:Sl rq 1 (fun y=>T y∨y=sb∨O.size≤y) O s5 ks':=ho5.sl (W:=fun y=>T y∨y=sb∨O.size≤y) fun y d hl hw=>by
  rcases hw with h|h|h
  ·have:=st3.lt y h;omega
  ·omega
  ·omega
 have hku:Upd (fun y=>C y∨y=sb) h0 O:=(k12.wide.tr hu3).tr (k4.tr k5).wide
 have hC5:∀y,T y→C y∨h0.size≤y:=fun y d=>(hC3 y d).imp id fun h=>by omega
 refine LoopP.ghost (fun(g:(List (Option Addr)×List Bn)×(List (Option Addr)×List Bn)×List Ch×(Nat→Prop)) (t:SliceV×SliceV) h'=>SetAt g.2.2.2 h' sb z g.2.2.1∧(∀y,g.2.2.2 y→T y∨O.size≤y)∧Upd (fun y=>T y∨y=sb) O h'∧Sl rq 1 (fun y=>T y∨y=sb∨O.size≤y) h' t.1 g.1.1∧Sl rq 1 (fun y=>T y∨y=sb∨O.size≤y) h' t.2 g.2.1.1∧t.1.len≤t.1.cap∧t.2.len≤t.2.cap∧
   RxL W h' g.1.1 g.1.2∧RxL W h' g.2.1.1 g.2.1.2∧(∀m∈g.1.2,m∈F.toL)∧(∀m∈g.2.1.2,m∈F'.toL)∧g.1.2.Pairwise (fun m n=>hd m.1<hd n.1)∧g.2.1.2.Pairwise (fun m n=>hd m.1<hd n.1)∧
   g.2.2.1++im (g.1.2.flatMap (pp key.data.toList)) (g.2.1.2.flatMap (pp key.data.toList))=(L++X)++im (F.toL.flatMap (pp key.data.toList)) (F'.toL.flatMap (pp key.data.toList))∧
   g.2.2.1.length+(g.1.2.flatMap (pp key.data.toList)).length+(g.2.1.2.flatMap (pp key.data.toList)).length≤10000000∧(g.1.2.flatMap (pp key.data.toList)).length≤1000000∧(g.2.1.2.flatMap (pp key.data.toList)).length≤1000000)
  (fun g=>g.1.2.length+g.2.1.2.length) ((ks,F.toL),(ks',F'.toL),L++X,T)
  ⟨st5,fun _ h=>.inl h,Upd.refl _ _,hv4,hv5,ho4.cap,ho5.cap,hL4.upd0 k5,hL5,fun _ h=>h,fun _ h=>h,hcF.1,H.1,rfl,by rw[ad];simp only;omega,by(try simp only);omega,by(try simp only);omega⟩ ?_
 rintro I ⟨⟨ka,La⟩,⟨kb,Lb⟩,L1,C1⟩ ⟨t1,t2⟩ j ⟨st1,Y,hu1,D,J,hc1,hc2,s,Q,E,Z,hpa,hpb,he,hl1,hl2,hl3⟩ hI;simp only at st1 Y D J hc1 hc2 s Q E Z hpa hpb he hl1 hl2 hl3;have z1:t1.len=La.length:=D.len.trans s.1;have z2:t2.len=Lb.length:=J.len.trans Q.1;have hC1W:∀y,C1 y∨y=sb→W y:=fun y d=>d.elim (fun h=>(Y y h).elim (fun h=>hC3W y (.inl h)) (hW5 y)) fun h=>hC3W y (.inr h)
 have hW1:∀y,j.size≤y→W y:=fun y d=>hW5 y (bI hu1.size d)
 have go:∀(c:List Ch) (u1 u2:SliceV) (ka2 kb2:List (Option Addr)) (A2 B2:List Bn) (h2:ac) (C2:Nat→Prop),SetAt C2 h2 sb z (L1++c)→(∀y,C2 y→C1 y∨j.size≤y)→Upd (fun y=>C1 y∨y=sb) j h2→im (La.flatMap (pp key.data.toList)) (Lb.flatMap (pp key.data.toList))=c++im (A2.flatMap (pp key.data.toList)) (B2.flatMap (pp key.data.toList))→
   c.length+(A2.flatMap (pp key.data.toList)).length+(B2.flatMap (pp key.data.toList)).length≤(La.flatMap (pp key.data.toList)).length+(Lb.flatMap (pp key.data.toList)).length→(A2.flatMap (pp key.data.toList)).length≤1000000→(B2.flatMap (pp key.data.toList)).length≤1000000→
   Sl rq 1 (fun y=>T y∨y=sb∨O.size≤y) j u1 ka2→Sl rq 1 (fun y=>T y∨y=sb∨O.size≤y) j u2 kb2→u1.len≤u1.cap→u2.len≤u2.cap→RxL W j ka2 A2→RxL W j kb2 B2→A2.Sublist La→B2.Sublist Lb→A2.length+B2.length<La.length+Lb.length→I (u1,u2) h2:=by
  intro c u1 u2 ka2 kb2 A2 B2 h2 C2 st2 hC2 hu2 ec hlc hlA hlB v1 v2 w1 w2 ra rb sa sb' G;have hm:∀y,C1 y∨y=sb→(T y∨y=sb∨O.size≤y)∨j.size≤y:=fun y d=>.inl (d.elim (fun h=>(Y y h).imp id .inr) fun h=>.inr (.inl h))
  have hmW:∀y,C1 y∨y=sb→W y∨j.size≤y:=fun y d=>.inl (hC1W y d)
  refine hI ((ka2,A2),(kb2,B2),L1++c,C2) (u1,u2) h2 ⟨st2,fun y d=>?_,?_,v1.upd hu2 hm,v2.upd hu2 hm,w1,w2,ra.updN hu2 hmW,rb.updN hu2 hmW,fun m hm=>E m (sa.subset hm),fun m hm=>Z m (sb'.subset hm),hpa.sublist sa,hpb.sublist sb',?_,?_,hlA,hlB⟩ G
  ·rcases hC2 y d with h|h
   ·exact Y y h
   ·exact .inr (bI hu1.size h)
  ·exact hu1.trans hu2 fun y d=>d.elim (fun h=>(Y y h).imp .inl id) fun h=>.inl (.inr h)
  ·show(L1++c)++_=_
   rw[ax,←ec,he]
  ·show(L1++c).length+(A2.flatMap (pp key.data.toList)).length+(B2.flatMap (pp key.data.toList)).length≤10000000
   rw[ad];omega
 refine Join.intro (fun t h'=>h'=j∧(t=true↔La≠[]∨Lb≠[])) (fun R hR=>?_) ?_
 ·refine aD (fun o=>hR _ _ ⟨rfl,?_⟩) fun o=>hR _ _ ⟨rfl,?_⟩
  ·have o:(t1.len:Int)>0:=o
   simp only[true_iff];left;intro e;rw[e]at z1;simp only[aS]at z1;omega
  ·have o:¬(t1.len:Int)>0:=o
   have e1:La= []:=List.length_eq_zero_iff.1 (by omega);show decide ((t2.len:Int)>0)=true↔_
   rw[decide_eq_true_iff];constructor
   ·intro h;right;intro e;rw[e]at z2;simp only[aS]at z2;omega
   ·intro h
    rcases h with h|h
    ·exact absurd e1 h
    ·have:=List.length_pos_iff.2 h;omega
 rintro t h6 ⟨rfl,ht⟩;refine CondP.intro (fun et=>?_) fun et=>?_
 rotate_left
 ·have hn:La= []∧Lb= []:=by
   rw[et]at ht;constructor
   ·exact Decidable.byContradiction fun h=>absurd (ht.2 (.inl h)) (by simp)
   ·exact Decidable.byContradiction fun h=>absurd (ht.2 (.inr h)) (by simp)
  obtain⟨rfl,rfl⟩:=hn;rw[List.flatMap_nil,iY,iC,aX]at he;subst he;exact hk h6 C1 st1 (fun y d=>(Y y d).elim (hC5 y) fun h=>.inr (by omega)) (hku.trans hu1 fun y d=>d.elim (fun h=>(hC5 y h).imp .inl id) fun h=>.inl (.inr h))
 have hne:=ht.1 et;clear ht et;have V:∀m∈La,m.1≠[]:=fun m hm=>(hcF.2 m (E m hm)).1
 have hnb:∀m∈Lb,m.1≠[]:=fun m hm=>(H.2 m (Z m hm)).1
 refine Join.intro (fun t h'=>h'=h6∧((t=true∧∃a A',La=a::A'∧∀q∈Lb,hd a.1<hd q.1)∨(t=false∧∃b B',Lb=b::B'∧(La= []∨∃a A',La=a::A'∧¬hd a.1<hd b.1)))) (fun R hR=>?_) ?_
 ·rcases Lb with _|⟨q,B'⟩
  ·rcases La with _|⟨a,A'⟩
   ·exact absurd hne (by simp)
   rw[show(((t2.len:Nat):Int)==0)=true by rw[z2];rfl]
   exact ar.2 (hR _ _ ⟨rfl,.inl ⟨rfl,a,A',rfl,fun q hq=>absurd hq dZ⟩⟩)
  ·rw[ao]at z2
   rw[show(((t2.len:Nat):Int)==0)=false by rw[beq_eq_false_iff_ne];omega]
   refine ai.2 ?_;rcases La with _|⟨a,A'⟩
   ·rw[aS]at z1
    rw[decide_eq_false (show ¬((t1.len:Int)>0) by omega)]
    exact ai.2 (hR _ _ ⟨rfl,.inr ⟨rfl,q,B',rfl,.inl rfl⟩⟩)
   ·rw[ao]at z1
    rw[decide_eq_true (show((t1.len:Int)>0) by omega)]
    obtain⟨b1,l1,g1,g2,g3⟩:=s.at (i:=0) (mV _);obtain⟨b2,l2,f1,f2,f3⟩:=Q.at (i:=0) (mV _);simp only[eI]at g2 g3 f2 f3;obtain⟨a1,P,_,v1⟩:=D.at0 g1;obtain⟨a2,ha2,_,v2⟩:=J.at0 f1;obtain⟨c1,cc1,cd1,ce1⟩:=R8 g2 (V a (au ..));obtain⟨c2,cc2,cd2,ce2⟩:=R8 f2 (hnb q (au ..));refine ar.2 ⟨⟨by(try simp only);omega,by(try simp only);omega⟩,a1,P,_,v1,⟨by(try simp only);omega,by(try simp only);omega⟩,a2,ha2,_,v2,l8 g3 ⟨v2,c1,cc1,cd1,l8 f3 ⟨c2,cc2,cd2,hR _ _ ⟨rfl,?_⟩⟩⟩⟩
    rw[ce1,ce2];by_cases G:hd a.1<hd q.1
    ·refine .inl ⟨decide_eq_true (by omega),a,A',rfl,fun m hm=>?_⟩
     rcases aq.1 hm with rfl|hm
     ·exact G
     ·exact Nat.lt_trans G ((aB.1 hpb).1 m hm)
    ·exact .inr ⟨decide_eq_false (by omega),q,B',rfl,.inr ⟨a,A',rfl,G⟩⟩
 rintro t h7 ⟨rfl,⟨rfl,a,A',rfl,hlow⟩|⟨rfl,q,B',rfl,hor⟩⟩
 ·
  rw[ao]at z1;obtain⟨b1,l1,g1,g2,g3⟩:=s.at (i:=0) (mV _);simp only[eI]at g2 g3;obtain⟨a1,P,_,v1⟩:=D.at0 g1;rw[aK,ad]at hl1 hl2;refine ar.2 ⟨⟨by(try simp only);omega,by(try simp only);omega⟩,a1,P,_,v1,?_⟩
  refine GK (A:=pp key.data.toList a) (B:= []) (.inr ⟨b1,l1,a,rfl,g3,g2,hkid a (E a (au ..)),rfl⟩) (.inl ⟨rfl,rfl⟩) (.inr rfl) st1 (by omega) (bS _) (by rw[aS];omega) fun h8 C8 st8 hC8 hu8=>?_
  refine⟨⟨by(try simp only);omega,by(try simp only);omega⟩,?_⟩
  simp only[Bd];rcases ka with _|⟨k0,ka⟩
  ·simp at g1
  have ca:=hcF.2 a (E a (au ..));have o:=aB.1 hpa;refine go (im (pp key.data.toList a) []) _ t2 ka kb A' Lb h8 C8 st8 hC8 hu8 ?_ ?_ (by omega) hl3 (RA D hc1) J (by show t1.len-1≤t1.cap-1;omega) hc2 (s.drop 1) Q (kN ..) (.refl _) (by rw[ao];omega)
  ·rw[aK]
   exact Ej (B1:= []) (qG ca.2.2) .nil (kT fun m hm=>Di ca.1 (V m (az _ hm)) (o.1 m hm)) (kT fun m hm=>Di ca.1 (hnb m hm) (hlow m hm)) (fun p o=>absurd o dZ) (fun p o=>absurd o dZ)
  ·have:=tT (qG (pre:=key.data.toList) ca.2.2) (B:= []) .nil
   rw[aK,ad];rw[aS]at this;omega
 refine ai.2 ?_;rw[ao]at z2;obtain⟨b2,l2,f1,f2,f3⟩:=Q.at (i:=0) (mV _);simp only[eI]at f2 f3;obtain⟨a2,ha2,_,v2⟩:=J.at0 f1;obtain⟨c2,cc2,cd2,ce2⟩:=R8 f2 (hnb q (au ..));rcases kb with _|⟨k0',kb⟩
 ·simp at f1
 have cb:=H.2 q (Z q (au ..));have hpq:=aB.1 hpb;rw[aK (f:=pp key.data.toList),ad]at hl3;rw[aK (f:=pp key.data.toList) (x:=q),ad]at hl1;refine Join.intro (fun t h'=>h'=h7∧((t=true∧∀p∈La,hd q.1<hd p.1)∨(t=false∧∃a A',La=a::A'∧hd a.1=hd q.1))) (fun R hR=>?_) ?_
 ·rcases hor with rfl|⟨a,A',rfl,hnl⟩
  ·rw[show(((t1.len:Nat):Int)==0)=true by rw[z1];rfl]
   exact ar.2 (hR _ _ ⟨rfl,.inl ⟨rfl,fun p o=>absurd o dZ⟩⟩)
  ·rw[ao]at z1
   rw[show(((t1.len:Nat):Int)==0)=false by rw[beq_eq_false_iff_ne];omega]
   obtain⟨b1,l1,g1,g2,g3⟩:=s.at (i:=0) (mV _);simp only[eI]at g2 g3;obtain⟨a1,P,_,v1⟩:=D.at0 g1;obtain⟨c1,cc1,cd1,ce1⟩:=R8 g2 (V a (au ..));refine ai.2 ⟨⟨by(try simp only);omega,by(try simp only);omega⟩,a2,ha2,_,v2,⟨by(try simp only);omega,by(try simp only);omega⟩,a1,P,_,v1,l8 f3 ⟨v1,c2,cc2,cd2,l8 g3 ⟨c1,cc1,cd1,hR _ _ ⟨rfl,?_⟩⟩⟩⟩
   rw[ce1,ce2];by_cases G:hd q.1<hd a.1
   ·refine .inl ⟨decide_eq_true (by omega),fun m hm=>?_⟩
    rcases aq.1 hm with rfl|hm
    ·exact G
    ·exact Nat.lt_trans G ((aB.1 hpa).1 m hm)
   ·exact .inr ⟨decide_eq_false (by omega),a,A',rfl,by omega⟩
 rintro t h8 ⟨rfl,⟨rfl,hlow⟩|⟨rfl,a,A',rfl,heq⟩⟩
 ·
  refine ar.2 ⟨⟨by(try simp only);omega,by(try simp only);omega⟩,a2,ha2,_,v2,?_⟩
  refine GK (A:= []) (B:=pp key.data.toList q) (.inl ⟨rfl,rfl⟩) (.inr ⟨b2,l2,q,rfl,f3,f2,N q (Z q (au ..)),rfl⟩) (.inl rfl) st1 (bS _) (by omega) (by rw[aS];omega) fun h9 C9 st9 hC9 hu9=>?_
  refine⟨⟨by(try simp only);omega,by(try simp only);omega⟩,?_⟩
  simp only[Bd];refine go (im [] (pp key.data.toList q)) t1 _ ka kb La B' h9 C9 st9 hC9 hu9 ?_ ?_ hl2 (by omega) D (RA J hc2) hc1 (by show t2.len-1≤t2.cap-1;omega) s (Q.drop 1) (.refl _) (kN ..) (by rw[ao];omega)
  ·rw[aK]
   exact Ej (A1:= []) .nil (qG cb.2.2) (fun p o=>absurd o dZ) (fun p o=>absurd o dZ) (kT fun m hm=>Di cb.1 (V m hm) (hlow m hm)) (kT fun m hm=>Di cb.1 (hnb m (az _ hm)) (hpq.1 m hm))
  ·have:=tT (A:= []) (B:=pp key.data.toList q) .nil (qG cb.2.2)
   rw[aK,ad];rw[aS]at this;omega
 ·
  rw[ao]at z1;obtain⟨b1,l1,g1,g2,g3⟩:=s.at (i:=0) (mV _);simp only[eI]at g2 g3;obtain⟨a1,P,_,v1⟩:=D.at0 g1;rcases ka with _|⟨k0,ka⟩
  ·simp at g1
  have ca:=hcF.2 a (E a (au ..));have o:=aB.1 hpa;rw[aK,ad]at hl1 hl2;refine ai.2 ⟨⟨by(try simp only);omega,by(try simp only);omega⟩,a1,P,_,v1,⟨by(try simp only);omega,by(try simp only);omega⟩,a2,ha2,_,v2,?_⟩
  refine ih a (E a (au ..)) (n':=q) g3 g2 f3 f2 (hkid a (E a (au ..))) (N q (Z q (au ..))) st1 hC1W hW1 (by omega) (by omega) (by omega) fun h9 C9 st9 hC9 hu9=>?_
  refine⟨⟨by(try simp only);omega,by(try simp only);omega⟩,?_⟩
  simp only[Bd];refine⟨⟨by(try simp only);omega,by(try simp only);omega⟩,?_⟩
  refine go (im (pp key.data.toList a) (pp key.data.toList q)) _ _ ka kb A' B' h9 C9 st9 hC9 hu9 ?_ ?_ (by omega) (by omega) (RA D hc1) (RA J hc2) (by show t1.len-1≤t1.cap-1;omega) (by show t2.len-1≤t2.cap-1;omega) (s.drop 1) (Q.drop 1) (kN ..) (kN ..) (by rw[ao,ao];omega)
  ·rw[aK,aK]
   exact Ej (qG ca.2.2) (qG cb.2.2) (kT fun m hm=>Di ca.1 (V m (az _ hm)) (o.1 m hm)) (kT fun m hm=>Di ca.1 (hnb m (az _ hm)) (by rw[heq];exact hpq.1 m hm)) (kT fun m hm=>Di cb.1 (V m (az _ hm)) (by rw[←heq];exact o.1 m hm)) (kT fun m hm=>Di cb.1 (hnb m (az _ hm)) (hpq.1 m hm))
  ·have:=tT (qG (pre:=key.data.toList) ca.2.2) (qG (pre:=key.data.toList) cb.2.2)
   rw[aK,aK,ad,ad];omega
theorem ze:∀{F:Fo},g8 F→∀n∈F.toL,ME n
 | .nil,_,n,a=>by simp[Fo.toL]at a
 | .cons lab w kids rest,h,n,a=>by
  rcases aq.1 a with rfl|a
  ·exact GL (ze h.2.2.1)
  ·exact ze h.2.2.2.2 n a
end Go.Proofs
namespace Go.Proofs
open Go Go.Lift
end Go.Proofs
namespace Go.Proofs
open Go Go.Lift
abbrev RZ:ByteArray:=⟨#[0,1,2,2,3,3,3,3,4,4,4,4,4,4,4,4,5,5,5,5,5,5,5,5,5,5,5,5,5,5,5,5,6,6,6,6,6,6,6,6,6,6,6,6,6,6,6,6,6,6,6,6,6,6,6,6,6,6,6,6,6,6,6,6,7,7,7,7,7,7,7,7,7,7,7,7,7,7,7,7,7,7,7,7,7,7,7,7,7,7,7,7,7,7,7,7,7,7,7,7,7,7,7,7,7,7,7,7,7,7,7,7,7,7,7,7,7,7,7,7,7,7,7,7,7,7,7,7,8,8,8,8,8,8,8,8,8,8,8,8,8,8,8,8,8,8,8,8,8,8,8,8,8,8,8,8,8,8,8,8,8,8,8,8,8,8,8,8,8,8,8,8,8,8,8,8,8,8,8,8,8,8,8,8,8,8,8,8,8,8,8,8,8,8,8,8,8,8,8,8,8,8,8,8,8,8,8,8,8,8,8,8,8,8,8,8,8,8,8,8,8,8,8,8,8,8,8,8,8,8,8,8,8,8,8,8,8,8,8,8,8,8,8,8,8,8,8,8,8,8,8,8,8,8,8,8]⟩
theorem RY:∀x:Nat,x<256→∃c:UInt8,RZ[x]? =some c∧c.toNat≤8∧(1≤x→2^c.toNat≤2*x)∧(x=0→c.toNat=0):=by
 have key:∀x:Fin 256,∃c:UInt8,RZ[x.val]? =some c∧c.toNat≤8∧(1≤x.val→2^c.toNat≤2*x.val)∧(x.val=0→c.toNat=0):=by
  intro x;have:∀x:Fin 256,(match RZ[x.val]? with|some c=>decide (c.toNat≤8∧(1≤x.val→2^c.toNat≤2*x.val)∧(x.val=0→c.toNat=0))|none=>false)=true:=by decide+kernel
  have hx:=this x;split at hx
  ·rename_i c hc
   exact⟨c,hc,of_decide_eq_true hx⟩
  ·cases hx
 exact fun x hx=>key ⟨x,hx⟩
theorem P3{h:ac}{n:Nat}(w:n<4294967296){K:Int→ac→Prop}(u:∀L:Nat,L≤64→(1≤n→2^L≤2*n)→K (L:Int) h):HC PG py [.int .u64 n] [.c (.int .i64)] K h:=by
 refine Bh n ?_;unfold uo;have fd:∀(x k:Nat),Int.fdiv (x:Int) (2^k)=((x/2^k:Nat):Int):=fun x k=>by
  rw[Int.fdiv_eq_ediv_of_nonneg _ (Int.pow_nonneg (by omega))];rw[Int.natCast_ediv,Int.natCast_pow];rfl
 refine Join.intro (fun t h'=>h'=h∧t=((n:Int),(0:Int))) (fun R d=>?_) ?_
 ·exact aD (fun a=>by omega) fun a=>d _ _ ⟨rfl,rfl⟩
 ·rintro t h' ⟨rfl,rfl⟩
  refine Join.intro (fun t f=>f=h'∧∃x s:Nat,t=((x:Int),(s:Int))∧x*2^s≤n∧(1≤n→1≤x)∧x<65536∧s≤16) (fun R d=>?_) ?_
  ·refine aD (fun a=>?_) fun a=>d _ _ ⟨rfl,n,0,rfl,by simp,fun h=>h,by have a:¬(n:Int)≥65536:=a;omega,by omega⟩
   have a:65536≤n:=by have a:(n:Int)≥65536:=a;omega
   refine⟨by omega,d _ _ ⟨rfl,n/2^16,16,?_,Nat.div_mul_le_self ..,fun _=>by omega,by omega,by omega⟩⟩
   simp only[qC.injEq];exact⟨fd n 16,by decide⟩
  ·rintro t f ⟨rfl,x,s,rfl,hx,b,e,g⟩
   refine Join.intro (fun t i=>i=f∧∃x s:Nat,t=((x:Int),(s:Int))∧x*2^s≤n∧(1≤n→1≤x)∧x<256∧s≤24) (fun R d=>?_) ?_
   ·refine aD (fun a=>?_) fun a=>d _ _ ⟨rfl,x,s,rfl,hx,b,by have a:¬(x:Int)≥256:=a;omega,by omega⟩
    have a:256≤x:=by have a:(x:Int)≥256:=a;omega
    refine⟨by omega,d _ _ ⟨rfl,x/2^8,s+8,?_,?_,fun _=>by omega,by omega,by omega⟩⟩
    ·simp only[qC.injEq]
     exact⟨fd x 8,by rw[d8 (by omega)];omega⟩
    ·rw[Nat.pow_add,wG (2^s),←Nat.mul_assoc]
     exact bI (Nat.mul_le_mul_right _ (Nat.div_mul_le_self ..)) hx
   ·rintro t i ⟨rfl,x,s,rfl,hx,b,e,g⟩
    obtain⟨c,hc,o,j,m⟩:=RY x e;have p:IntKind.wrap .u8 (x:Int)=(x:Int):=by
     simp[IntKind.wrap,IntKind.bits,IntKind.signed];omega
    show∃b10:UInt8,(0:Int)≤IntKind.wrap .u8 (x:Int)∧RZ[(IntKind.wrap .u8 (x:Int)).toNat]? =some b10∧_
    rw[p];refine⟨c,by omega,by simpa using hc,?_⟩
    have q:IntKind.wrap .i64 (c.toNat:Int)=(c.toNat:Int):=d8 (by omega);have v:IntKind.wrap .i64 ((s:Int)+IntKind.wrap .i64 (c.toNat:Int))=((s+c.toNat:Nat):Int):=by rw[q,d8 (by omega)];omega
    show K (IntKind.wrap .i64 ((s:Int)+IntKind.wrap .i64 (c.toNat:Int))) i
    rw[v];refine u _ (by omega) fun a=>?_
    have:=j (b a);rw[Nat.pow_add];calc 2^s*2^c.toNat≤2^s*(2*x):=Nat.mul_le_mul_left _ this
     _=2*(x*2^s):=by rw[wG (2^s),Nat.mul_assoc]
     _≤2*n:=Nat.mul_le_mul_left _ hx
theorem P2{h:ac}{n:Nat}(a:n<4294967296){K:Int→ac→Prop}(b:∀L:Nat,L≤64→(1≤n→2^L≤2*n)→K (L:Int) h):HC PG om [.int .u64 n] [.c (.int .i64)] K h:=by
 refine D4 n ?_;unfold wX;exact P3 a b
def RW(a b:Ch):Bool:=decide (kl a.1 b.1)
theorem woG:WO RW:=by
 refine⟨fun a=>decide_eq_false (cn _),fun a b h=>decide_eq_false (E4 (of_decide_eq_true h)),fun a b c f d=>decide_eq_false fun h=>?_⟩
 have f:¬kl a.1 b.1:=of_decide_eq_false f;have d:¬kl b.1 c.1:=of_decide_eq_false d;by_cases e:a.1=b.1
 ·rw[e]at h;exact d h
 ·exact d (gU (rB f e) h)
theorem UM(M:Nat→Prop):Cmp RW Jm M (fun _=>True) (.func (.func o8) #[] #[]):=by
 refine⟨fun a b h K _ d=>HV.mk' (KV a b ?_),fun _ h=>h⟩
 unfold DK ay m8 Tl;refine bi fun f b1 k1=>bi fun e b2 c=>?_
 refine⟨a.1,vc (c.get0 b1) 0,b.1,vc b2 0,Fv (d e _ (k1.tr c) ?_)⟩;unfold Gl RW;split
 ·rename_i h;rw[decide_eq_true h];rfl
 ·rename_i h
  rw[decide_eq_false h];split<;>rfl
theorem Eqf.perm{α:Type}[DecidableEq α]{lt:α→α→Bool}(w:WO lt){l l':List α}(h:Eqf lt l l'):l'.Perm l:=by
 rw[List.perm_iff_count];intro a;have e:∀m:List α,m.count a=(m.filter (Ky lt a)).count a:=fun m=>(List.count_filter (Fw w a)).symm
 rw[e l',e l,h.flt a]
theorem PE{R X:List Ch}(n:R.Perm X)(o:Srt RW R)(g:FJ X):R=X:=by
 have p:X.Pairwise fun a b=>RW b a=false:=g.imp fun h=>decide_eq_false (E4 h)
 refine n.eq_of_pairwise (fun a b f q k d=>?_) o p
 have k:¬kl b.1 a.1:=of_decide_eq_false k;have d:¬kl a.1 b.1:=of_decide_eq_false d;have f:=n.mem_iff.1 f;have e:a.1=b.1:=Decidable.byContradiction fun c=>k (rB d c)
 refine Decidable.byContradiction fun c=>?_
 obtain⟨i,hi,rfl⟩:=bA f;obtain⟨j,m,rfl⟩:=bA q;rcases Nat.lt_trichotomy i j with h|h|h
 ·have:=bZ.1 g i j hi m h
  rw[e]at this;exact cn _ this
 ·subst h;exact c rfl
 ·have:=bZ.1 g j i m hi h
  rw[e]at this;exact cn _ this
theorem Lq{t:Tr}{h:ac}{K:Int×Int×Int→ac→Prop}(d:∀h',Upd No h h'→K (t.2.1,t.2.2.1,t.2.2.2.1) h'):HC PG oB [Aj t] [.agg [.int .u64,.int .u64,.int .u64]] K h:=by
 refine zP t ?_;unfold tc ae dY qH eE UQ US;refine bi fun g b1 k1=>bi fun f b2 b=>?_
 have c1:=b.get0 b1;refine⟨_,tH c1 1 0,_,tH c1 1 1,_,tH c1 1 2,?_⟩;refine cO (c:= [.int .u64 0,.int .u64 0,.int .u64 0]) (vs:= [.int .u64 t.2.1,.int .u64 t.2.2.1,.int .u64 t.2.2.2.1]) b2 rfl fun e b3 a=>?_
 exact⟨_,vc b3 0,_,vc b3 1,_,vc b3 2,d e ((k1.tr b).own a k1.size)⟩
theorem GO{t:Tr}{h:ac}{K:Option Addr→ac→Prop}(a:∀h',Upd No h h'→K t.2.2.2.2.2 h'):HC PG lK [Aj t] [.c .ptr] K h:=by
 refine A4 t ?_;unfold uc af qH;exact bi fun b b1 k1=>⟨_,vc b1 5,a b k1⟩
theorem PO{W:Nat→Prop}{h:ac}{b:Nat}{l:List Pr}(t:RadAt W h b l)(j:bV l)(i:Fit l):∃n:Bn,n.1= []∧RxN W h b ⟨#[]⟩ n.2.1 n.2.2∧NodeK n []∧pp [] n=l:=by
 obtain⟨w,F,g,d,c⟩:=t.ex;have a:=RF d j c;refine⟨([],w,F),rfl,g,⟨d,by simp,fun p a=>?_⟩,?_⟩
 ·obtain⟨q,f,e,_⟩:=(c p.1 p.2).1 a
  have:=(i q f).1;rw[←e];have k:q.1.data.toList.length=q.1.size:=ix;simp only[aS];omega
 ·unfold pp
  show(zo w F).map (AK ([]++ []))=l
  rw[a];unfold T0;rw[List.map_map];conv=>rhs;rw[←List.map_id l]
  exact List.map_congr_left fun p _=>by unfold AK;simp[LY]
theorem Mr{W W':Nat→Prop}{x x':Hs}{h:ac}{kind J:Int}{t u:Tr}{l l':List Pr}(i:TreeIs W h kind x t l)(i':TreeIs W' h J x' u l')(hr:bV l)(hf:Fit l)(hn:l.length≤60000)(V:bV l')(hf':Fit l')(hn':l'.length≤60000)(E:qN t u=true→∀{M:Nat→Prop} {h':ac} {s:SliceV} {L:List Ch} {K':Unit→ac→Prop},OwnS Jm 5 co M h' s L→(∀b,M b→b<h'.size)→L.Perm (im l l')→(∀h2,OwnS Jm 5 co M h2 s (im l l')→Upd M h' h2→K' () h2)→HC PG cN [.slice s.a s.len s.cap,.func (.func o8) #[] #[]] [] K' h'){K:SliceV×Int→ac→Prop}
  (h0:qN t u=false→∀h',Upd No h h'→K (⟨none,0,0⟩,11) h')(hk:qN t u=true→∀h' s',OwnS Jm 5 co (fun y=>h.size≤y) h' s' (im l l')→Upd No h h'→K (s',0) h'):HC PG vd [Aj t,Aj u] [.c .slice,.c (.int .i64)] K h:=by
 refine O1 t u ?_;unfold HM ae aA af qH uB bR Jt NT;refine bi fun h1 b1 k1=>bi fun h2 b2 k2=>?_
 have c1:=k2.get0 b1;refine⟨_,vc c1 0,_,vc c1 1,_,vc c1 2,_,vc c1 3,_,vc c1 4,_,vc c1 5,_,vc b2 0,_,vc b2 1,_,vc b2 2,_,vc b2 3,_,vc b2 4,_,vc b2 5,?_⟩;refine An fun h3 k3=>?_
 have G:=(k1.tr k2).tr k3;have I:=k3.get0 c1;have b3:=k3.get0 b2;rcases hl:qN t u with _|_
 ·exact ar.2 (h0 hl h3 G)
 refine ai.2 ⟨_,vc I 0,_,vc I 1,_,vc I 2,_,vc I 3,_,vc I 4,_,vc I 5,?_⟩;refine Lq fun v k4=>?_
 refine bi fun P b5 k5=>?_
 have B:=(G.tr k4).tr k5;have O:=k5.get0 (k4.get0 I);have d5:=k5.get0 (k4.get0 b3);have z5:=bo b5;have s4:=(G.tr k4).size;have s5:=k5.size;obtain⟨rfl,hx⟩:=Oo i i' hl;let z:Hs:=⟨t.2.1,t.2.2.1,t.2.2.2.1⟩
 have st:SetAt No P v.size z []:=⟨⟨⟨none,0,0⟩,b5,OwnS.nil QE⟩,fun _ h=>h.elim,id⟩
 have U:∀Q,Upd No P Q→∀h' m ys,SetAt m h' v.size z ([]++ys)→(∀b,m b→No b∨Q.size≤b)→Upd (fun b=>No b∨b=v.size) Q h'→ys.Perm (im l l')→∃m ys,SetAt m h' v.size z ys∧(∀y,m y→P.size≤y)∧Upd (fun y=>y=v.size) P h'∧ys.Perm (im l l'):=
  fun Q o h' m ys st' hC' hu' q=>⟨m,ys,st',fun y k=>(hC' y k).elim (fun h=>h.elim) fun h=>bI o.size h,o.wide.trans hu' fun b hb=>hb.elim (fun h=>h.elim) fun h=>.inl h,q⟩
 refine Join.intro (fun _ h'=>∃m ys,SetAt m h' v.size z ys∧(∀y,m y→P.size≤y)∧Upd (fun y=>y=v.size) P h'∧ys.Perm (im l l')) (fun R hR=>?_) ?_
 ·refine⟨_,vc O 0,_,vc O 1,_,vc O 2,_,vc O 3,_,vc O 4,_,vc O 5,?_⟩
  refine PB fun Q o=>?_
  have g:=o.get0 O;have c:=o.get0 d5;have i6:=(i.less (W':=fun y=>h.size≤y) fun _ h=>.inr h).upd0 (B.tr o)
  have T:=(i'.less (W':=fun y=>h.size≤y) fun _ h=>.inr h).upd0 (B.tr o)
  have X:∀y,No y∨y=v.size→h.size≤y:=fun y k=>k.elim (fun h=>h.elim) fun e=>by omega
  rcases i6 with⟨rfl,b,rfl,tt⟩|⟨rfl,b,rfl,tt⟩
  ·rcases T with⟨_,b',rfl,p⟩|⟨e,_⟩
   ·obtain rfl:=hx rfl
    refine ai.2 ⟨_,vc g 0,_,vc g 1,_,vc g 2,_,vc g 3,_,vc g 4,_,vc g 5,_,vc c 0,_,vc c 1,_,vc c 2,_,vc c 3,_,vc c 4,_,vc c 5,?_⟩;refine GP tt fun h7 j=>?_
    have d:=j.get0 c;refine⟨⟨vc d 0,vc d 1,vc d 2,vc d 3,vc d 4,vc d 5⟩,?_⟩;refine GP (TrieAt.upd0 j p) fun h8 N=>?_
    have a:=(o.tr j).tr N;refine Pw 13 (al _) (TrieAt.upd0 (j.tr N) tt) (TrieAt.upd0 (j.tr N) p) (st.upd0 a) X (fun y k=>by have:=a.size;omega) hr V (by omega) (by omega) (by simp) fun ys q h9 Z f H C=>?_
    exact hR _ _ (U h8 a h9 Z ys f H C q)
   ·cases e
  ·rcases T with⟨e,_⟩|⟨_,b',rfl,p⟩
   ·cases e
   ·refine ar.2 ⟨_,vc g 0,_,vc g 1,_,vc g 2,_,vc g 3,_,vc g 4,_,vc g 5,_,vc c 0,_,vc c 1,_,vc c 2,_,vc c 3,_,vc c 4,_,vc c 5,?_⟩
    refine GO fun h7 j=>?_
    have d:=j.get0 c;refine⟨⟨vc d 0,vc d 1,vc d 2,vc d 3,vc d 4,vc d 5⟩,?_⟩;refine GO fun h8 N=>?_
    have a:=(o.tr j).tr N;obtain⟨n,e1,r1,nk,q⟩:=PO (tt.upd0 (j.tr N)) hr hf;obtain⟨n',e1',r1',nk',A⟩:=PO (p.upd0 (j.tr N)) V hf';obtain⟨lab,w,F⟩:=n;simp only at e1;subst e1;refine GL (ze nk.can) (sl:=⟨#[]⟩) (ahead:=⟨#[]⟩) r1 rfl r1' (by rw[e1']) nk nk' (st.upd0 a) X (fun y k=>by have:=a.size;omega) (by show(pp [] _).length≤_;rw[q];omega) (by show(pp [] _).length≤_;rw[A];omega) (by show 0+(pp [] _).length+(pp [] _).length≤_;rw[q,A];omega) fun h9 Z f H C=>?_
    have f:SetAt Z h9 v.size z ([]++im (pp [] ([],w,F)) (pp [] n')):=f;rw[q,A]at f;exact hR _ _ (U h8 a h9 Z _ f H C (.refl _))
 ·rintro _ Q ⟨C6,ys,D,Y,hu6,q⟩
  obtain⟨s,e6,ho6⟩:=D.ex;refine⟨_,rfl,s,vc e6 3,?_⟩;refine E hl ho6 D.lt q fun h7 ho7 S=>?_
  have e7:=S.get e6 D.ne;refine⟨_,rfl,s,vc e7 3,hk hl h7 s (ho7.more fun y k=>by have:=Y y k;omega) ?_⟩
  exact(B.trans hu6 fun y k=>.inr (by omega)).trans S fun y k=>.inr (by have:=Y y k;omega)
end Go.Proofs
namespace Go.Proofs
open Go Go.Lift
end Go.Proofs
namespace Go.Proofs
open Go Go.Lift
end Go.Proofs
namespace Go.Proofs
open Go Go.Lift
theorem StP.less{N M:Nat}(h:StP N)(hm:M≤N):StP M:=fun w _ _ _ hc _ _ _ a hi b _ c=>h w hc a hi (bI b hm) c
end Go.Proofs
namespace Go.Proofs
open Go Go.Lift
theorem R9{a b:ByteArray}:kl a b↔Op.bytesLess a.data.toList b.data.toList=true:=by unfold kl;rw[ByteArray.toList_eq,ByteArray.toList_eq]
theorem NL{a b:UInt8}{x y:List UInt8}:Op.bytesLess (a::x) (b::y)=true↔a.toNat<b.toNat∨(a=b∧Op.bytesLess x y=true):=by
 simp only[Op.bytesLess,Bool.or_eq_true,decide_eq_true_iff,aR,beq_iff_eq,UInt8.lt_iff_toNat_lt]
theorem QM{x y:List UInt8}:∀pre:List UInt8,Op.bytesLess (pre++x) (pre++y)=true↔Op.bytesLess x y=true
 | []=>wI
 |a::pre=>by rw[fy,fy,NL,QM pre];simp
theorem UO{x y:List UInt8}(h:Op.bytesLess x y=true)(hx:x≠[])(c:y≠[]):hd x≤hd y:=by
 match x,y,hx,c with
 |a::x,b::y,_,_=>
  show a.toNat≤b.toNat
  rcases NL.1 h with h|⟨rfl,_⟩<;>omega
abbrev ky(p:Pr):List UInt8:=p.1.data.toList
def VG(l:List Pr)(pre k:List UInt8)(v:ByteArray):Prop:=∃p∈l,ky p=pre++k∧p.2=v
structure Beg(l:List Pr)(pre:List UInt8):Prop where
 up:bV l
 at_:∀p∈l,(ky p).take pre.length=pre∧pre.length<(ky p).length
theorem Beg.sub{l l':List Pr}{pre:List UInt8}(b:Beg l pre)(h:l'.Sublist l):Beg l' pre:=⟨b.up.sublist h,fun p a=>b.at_ p (h.subset a)⟩
theorem Beg.split{l:List Pr}{pre:List UInt8}(b:Beg l pre){p:Pr}(a:p∈l):ky p=pre++(ky p).drop pre.length∧(ky p).drop pre.length≠[]:=by
 obtain⟨c,d⟩:=b.at_ p a;refine⟨?_,fun e=>?_⟩
 ·conv=>lhs;rw[←List.take_append_drop pre.length (ky p),c]
 ·have:=congrArg List.length e
  rw[List.length_drop,aS]at this;omega
def bt(n:Nat)(p:Pr):Nat:=hd ((ky p).drop n)
theorem Beg.mono{A B:List Pr}{pre:List UInt8}(b:Beg (A++B) pre){x y:Pr}(hx:x∈A)(a:y∈B):bt pre.length x≤bt pre.length y:=by
 have h:=(bT.1 b.up).2.2 x hx y a;rw[R9]at h;obtain⟨d,c⟩:=b.split (bU B hx);obtain⟨e,f⟩:=b.split (cD A a);change Op.bytesLess (ky x) (ky y)=true at h;rw[d,e,QM]at h;exact UO h c f
structure Row(L:List Bn)(D T:List Pr)(pre:List UInt8):Prop where
 can:∀n∈L,O2 n
 up:L.Pairwise fun m n=>hd m.1<hd n.1
 lo:∀n∈L,∀p∈T,hd n.1<bt pre.length p
 got:∀k v,(∃n∈L,w9 n k v)↔VG D pre k v
theorem Row.nil(T:List Pr)(pre:List UInt8):Row [] [] T pre:=⟨fun n h=>(by cases h),db,fun n h=>(by cases h),fun k v=>⟨fun⟨n,h,_⟩=>(by cases h),fun⟨p,h,_⟩=>(by cases h)⟩⟩
theorem Row.more{L:List Bn}{D A B:List Pr}{pre:List UInt8}{n:Bn}{p:Pr}(r:Row L D (A++B) pre)(j:Beg (A++B) pre)(i:p∈A)(y:∀a∈A,bt pre.length a=bt pre.length p)(w:∀b d,B=b::d→bt pre.length b≠bt pre.length p)(hc:O2 n)(o:hd n.1=bt pre.length p)(s:∀k v,w9 n k v↔VG A pre k v):Row (L++ [n]) (D++A) B pre:=by
 refine⟨fun m hm=>?_,bT.2 ⟨r.up,cd ..,fun a t b u=>?_⟩,fun m hm q c=>?_,fun k v=>?_⟩
 ·rcases aN.1 hm with hm|hm
  ·exact r.can m hm
  ·rw[av.1 hm];exact hc
 ·rw[av.1 u,o]
  exact r.lo a t p (bU _ i)
 ·rcases aN.1 hm with hm|hm
  ·exact r.lo m hm q (cD _ c)
  ·rw[av.1 hm,o]
   rcases B with _|⟨g,d⟩
   ·cases c
   have z:=w g d rfl;have x:=j.mono i (au (a:=g) (l:=d));rcases aq.1 c with rfl|c
   ·omega
   ·have f:Beg ([g]++d) pre:=j.sub (List.sublist_append_right A _)
    have:=f.mono (av.2 rfl) c;omega
 ·constructor
  ·rintro⟨m,hm,hi⟩
   rcases aN.1 hm with hm|hm
   ·obtain⟨q,c,e⟩:=(r.got k v).1 ⟨m,hm,hi⟩
    exact⟨q,bU _ c,e⟩
   ·rw[av.1 hm]at hi
    obtain⟨q,c,e⟩:=(s k v).1 hi;exact⟨q,cD _ c,e⟩
  ·rintro⟨q,c,e⟩
   rcases aN.1 c with c|c
   ·obtain⟨m,hm,hi⟩:=(r.got k v).2 ⟨q,c,e⟩
    exact⟨m,bU _ hm,hi⟩
   ·exact⟨n,cD _ (av.2 rfl),(s k v).2 ⟨q,c,e⟩⟩
theorem Row.done{L:List Bn}{D:List Pr}{pre:List UInt8}(r:Row L D [] pre):g8 (.ofL L)∧∀k v,tG (.ofL L) k v↔VG D pre k v:=by
 refine⟨dM.2 ?_,fun k v=>?_⟩
 ·rw[Fo.to_of];exact⟨r.up,r.can⟩
 ·rw[hE,Fo.to_of];exact r.got k v
end Go.Proofs
namespace Go.Proofs
open Go Go.Lift
theorem Kid.less{W W':Nat→Prop}{h:ac}(hm:∀b,W' b→W b∨h.size≤b){a:Option Addr}{n:Bn}:Kid W h a n→Kid W' h a n
 |⟨b,sl,e1,e2,e3⟩=>⟨b,sl,e1,e2,e3.less hm⟩
theorem Kid.updM{W M:Nat→Prop}{h h':ac}(k:Upd M h h')(hm:∀b,M b→W b∨h.size≤b){a:Option Addr}{n:Bn}:Kid W h a n→Kid W h' a n
 |⟨b,sl,e1,e2,e3⟩=>⟨b,sl,e1,e2,e3.updM k hm⟩
theorem RxL.less{W W':Nat→Prop}{h:ac}(hm:∀b,W' b→W b∨h.size≤b){ks:List (Option Addr)}{L:List Bn}(r:RxL W h ks L):RxL W' h ks L:=⟨r.1,fun p a=>(r.2 p a).less hm⟩
theorem RxL.updM{W M:Nat→Prop}{h h':ac}(k:Upd M h h')(hm:∀b,M b→W b∨h.size≤b){ks:List (Option Addr)}{L:List Bn}(r:RxL W h ks L):RxL W h' ks L:=⟨r.1,fun p a=>(r.2 p a).updM k hm⟩
end Go.Proofs
namespace Go.Proofs
open Go Go.Lift
theorem To{h:ac}{t:Tr}{k:ac→Prop}(d:∀h',h'[h.size]? =some (.cells (jN t).toArray aV (0,0))→Upd No h h'→k h'):
  At (hnew h (jN vH) aV) (fun a=>sw a (some (aO h)) 0 (jN t)∧At (hH a (aO h) 0 (jN t)) k):=
 bi fun a b1 k1=>cO (c:=jN vH) (vs:=jN t) b1 rfl fun e b2 b=>d e b2 (k1.own b (al _))
end Go.Proofs
namespace Go.Proofs
open Go Go.Lift
end Go.Proofs
namespace Go.Proofs
open Go Go.Lift
abbrev TU:List Value:= [.string (⟨#[]⟩:ByteArray),.string (⟨#[]⟩:ByteArray),.string (⟨#[]⟩:ByteArray),.bool false,.bool false]
theorem Ug{h:ac}{t:TypeId}{c:Ch}{k:ac→Prop}(e:∀h',h'[h.size]? =some (.cells (Jm c).toArray t (0,0))→Upd No h h'→k h'):
  At (hnew h TU t) fun b=>sw b (some (aO h)) 0 (Jm c)∧At (hH b (aO h) 0 (Jm c)) k:=
 bi fun f b1 k1=>cO (c:=TU) (vs:=Jm c) b1 rfl fun d b2 a=>e d b2 (k1.own a (al _))
end Go.Proofs
namespace Go.Proofs
open Go Go.Lift
end Go.Proofs
namespace Go.Proofs
open Go Go.Lift
abbrev b1:ByteArray:=⟨#[49]⟩
abbrev b2:ByteArray:=⟨#[50]⟩
abbrev b3:ByteArray:=⟨#[51]⟩
end Go.Proofs
namespace Go.Proofs
open Go Go.Lift
def look(l:List Pr)(k:ByteArray):Option ByteArray:=(l.find? fun p=>decide (p.1=k)).map (·.2)
theorem Hf{l:List Pr}{k:ByteArray}(h:cq l k=false):look l k=none:=by
 unfold look;rw[Option.map_eq_none_iff,List.find?_eq_none];intro p a;unfold cq at h;rw[List.any_eq_false]at h;exact h p a
theorem Cb:∀{l:List Pr} {k v:ByteArray},bV l→(k,v)∈l→look l k=some v
 |p::l,k,v,a,h=>by
  have a:=aB.1 a;unfold look;rw[ll];rcases aq.1 h with e|h
  ·subst e;simp
  ·have b:p.1≠k:=fun e=>by
    have:=a.1 _ h;simp only at this;rw[e]at this;exact cn _ this
   rw[decide_eq_false b];exact Cb a.2 h
theorem RX{l:List Pr}(c:bV l){k v:ByteArray}(b:cq l k=true→(k,v)∈l)(a:cq l k=false→v=⟨#[]⟩):((look l k).getD ⟨#[]⟩,(look l k).isSome)=(v,cq l k):=by
 cases ht:cq l k with
 |true=>rw[Cb c (b ht)];rfl
 |false=>rw[Hf ht,a ht];rfl
theorem On{x:Hs}{lev:Nat}{l:List Pr}{k:ByteArray}:look (part x lev (ck x lev k) l) k=look l k:=by
 unfold look part;congr 1
 rw[List.find?_filter];congr 1
 funext p;by_cases e:p.1=k
 ·rw[e];simp
 ·simp[e]
theorem KB{W:Nat→Prop}{x:Hs}{h:ac}{b:Nat}{l:List Pr}(t:TrieAt W x h 13 b l)(hW:∀y,W y→y<h.size)(hr:bV l)(X:l.length≤1000000)(k:ByteArray){K:ByteArray×Bool→ac→Prop}
  (Q:∀h',Upd No h h'→K ((look l k).getD ⟨#[]⟩,(look l k).isSome) h'):HC PG xJ [.agg #[.int .u64 x.k0,.int .u64 x.k1,.int .u64 x.mask],.pointer (some ⟨b,0,none⟩),.string k] [.c .str,.c .bool] K h:=by
 refine KY (x.k0,x.k1,x.mask) (some ⟨b,0,none⟩) k ?_;unfold DN ae D9 BN sx nv ay rp vR uA kq;refine bi fun h1 b1 k1=>⟨_,vc b1 0,_,vc b1 1,_,vc b1 2,?_⟩
 refine AH fun h2 Y=>?_
 have u:=k1.tr Y;refine H0 (.inr ⟨b,rfl,TrieAt.upd0 u t⟩) (fun y hy=>aC (hW y hy) u.size) fun h3 b3 t3 k3 _=>?_
 have N:=u.tr k3;refine LoopP.ghost (fun(g:Nat×Nat×List Pr) (t:Option Addr×Int) h'=>t=(some ⟨g.2.1,0,none⟩,((13-g.1:Nat):Int))∧g.1≤13∧TrieAt W x h' g.1 g.2.1 g.2.2∧bV g.2.2∧g.2.2.length≤1000000∧look g.2.2 k=look l k∧Upd No h h') (fun g=>g.1) (13,b3,l)
  ⟨rfl,al _,t3,hr,X,rfl,N⟩ ?_
 rintro I ⟨m,c,C⟩ t Z ⟨rfl,hm,tm,f,D,o,F⟩ U;simp only at hm tm f D o;rcases m with _|m
 ·obtain⟨sp,sk,ow,J,_⟩:=BuckAt.ex tm
  refine iI J (ar.2 (P6 tm f (by omega) k fun R v L w z=>?_))
  have:=Q R (F.tr L);rw[←o,RX f w z]at this;exact this
 ·obtain⟨s,nd,O⟩:=tm
  have O:∀c,c<32→SlotIs W x Z m s c (part x (12-m) c C):=O;obtain⟨d,n,sp,sk,ow,J,_⟩:=nd.ex;refine iI J (ai.2 ?_);refine QC (by omega) ?_;rw[show 13-(m+1)=12-m by omega]
  have hi:=yR x (12-m) k;have q:=O _ hi;have j:look (part x (12-m) (ck x (12-m) k) C) k=look l k:=by rw[On,o]
  have A:bV (part x (12-m) (ck x (12-m) k) C):=kz f;have B:(part x (12-m) (ck x (12-m) k) C).length≤1000000:=bI qI D;generalize part x (12-m) (ck x (12-m) k) C=lp at q j A B;generalize ck x (12-m) k=i at hi q;refine Ay nd hi fun R L=>?_
  refine EZ fun E H V=>?_
  have a:=L.tr V;rcases q with⟨G,w,z⟩|⟨p,G,w,z⟩|⟨_,w,T,z,tk⟩
  ·rw[w]
   refine ai.2 (vV (nd.upd a fun _ h=>h.elim) hi ?_)
   rw[z];refine ar.2 ?_;have:=Q E (F.tr a);rw[←j,G]at this;exact this
  ·rw[w]at H⊢
   refine ar.2 ⟨p.1,vc H 0,?_⟩;rw[fw];have:=Q E (F.tr a);rw[←j,G]at this;by_cases e:p.1=k
   ·rw[decide_eq_true e]
    refine ai.2 ⟨p.2,vc H 1,?_⟩;have P:look [p] k=some p.2:=by unfold look;rw[ll,decide_eq_true e];rfl
    rw[P]at this;exact this
   ·rw[decide_eq_false e]
    have P:look [p] k=none:=by unfold look;rw[ll,decide_eq_false e];rfl
    rw[P]at this;exact ar.2 this
  ·rw[w]
   refine ai.2 (vV (nd.upd a fun _ h=>h.elim) hi ?_)
   rw[z];refine ai.2 ?_;have S:IntKind.wrap .i64 (((13-(m+1):Nat):Int)+1)=((13-m:Nat):Int):=by rw[d8 (by omega)];omega
   rw[show 13-(m+1)=12-m by omega]at S
   show I (some ⟨T,0,none⟩,IntKind.wrap .i64 (((12-m:Nat):Int)+1)) E
   rw[S];exact U (m,T,lp) _ E ⟨rfl,by simp only;omega,TrieAt.upd0 a tk,A,B,j,F.tr a⟩ (by simp only;omega)
abbrev Sd:=ByteArray×Bool
abbrev TO(s:Sd):List Value:= [.string s.1,.bool s.2]
theorem Tb(a b:Sd):((a.1.toList==b.1.toList)&&((a.2==b.2)&&true))=decide (a=b):=by
 rw[fw];by_cases e:a=b
 ·subst e;simp
 ·rw[decide_eq_false e]
  obtain⟨d,c⟩:=a;obtain⟨b1,b2⟩:=b;simp only[qC.injEq]at e;rw[Bool.eq_false_iff];intro h;simp only[aR,decide_eq_true_iff,beq_iff_eq,and_true]at h;exact e h
theorem Uf{h:ac}{t:TypeId}{s:Sd}{k:ac→Prop}(e:∀h',h'[h.size]? =some (.cells (TO s).toArray t (0,0))→Upd No h h'→k h'):
  At (hnew h [.string (⟨#[]⟩:ByteArray),.bool false] t) fun b=>sw b (some (aO h)) 0 (TO s)∧At (hH b (aO h) 0 (TO s)) k:=
 bi fun f b1 k1=>cO (c:= [.string (⟨#[]⟩:ByteArray),.bool false]) (vs:=TO s) b1 rfl fun d b2 a=>e d b2 (k1.own a (al _))
def EC(b o t:Sd)(p:Int):Sd×Bool:=if o=t∨t=b then(o,true)else if o=b then(t,true)else if p=1 then(o,false)else if p=2 then(t,false)else(b,false)
theorem J9{h:ac}{b:Nat}{t:TypeId}{c:List Value}{s:Sd}{g:Bool}{K:Sd×Bool→ac→Prop}(e:h[b]? =some (.cells c.toArray t (0,0))) (hc:c.length=2) (d:∀h',Upd (· =b) h h'→K (s,g) h'):
  sw h (some ⟨b,0,none⟩) 0 [.string s.1,.bool s.2]∧At (hH h ⟨b,0,none⟩ 0 [.string s.1,.bool s.2]) (fun h'=>∃v1:ByteArray,aI h' (adr ⟨b,0,none⟩ 0)=some (.string v1)∧∃v2:Bool,aI h' (adr ⟨b,0,none⟩ 1)=some (.bool v2)∧K ((v1,v2),g) h'):=
 cO (c:=c) (vs:=TO s) e (by rw[hc];rfl) fun f b2 a=>⟨s.1,vc b2 0,s.2,vc b2 1,d f a⟩
theorem P0{b o t:Sd}{p:Int}{h:ac}{K:Sd×Bool→ac→Prop}(y:∀h',Upd No h h'→K (EC b o t p) h'):HC PG ws [.agg #[.string b.1,.bool b.2],.agg #[.string o.1,.bool o.2],.agg #[.string t.1,.bool t.2],.int .i64 p] [.agg [.str,.bool],.c .bool] K h:=by
 refine Jd b o t p ?_;unfold Bx dY ay eO NP Gd NU;refine bi fun B b1 k1=>bi fun A b2 n=>bi fun x b3 j=>bi fun q i m=>?_
 have c1:=m.get0 (j.get0 (n.get0 b1));have d:=m.get0 (j.get0 b2);have f:=m.get0 b3;have z:h.size≤x.size:=((k1.tr n).tr j).size;have u:Upd No h q:=((k1.tr n).tr j).tr m;have a:∀{h'} (s:Sd) (g:Bool),EC b o t p=(s,g)→Upd (· =x.size) q h'→K (s,g) h':=fun s g e c=>by rw[←e];exact y _ (u.own c z)
 unfold EC at a;refine Join.intro (fun w h'=>h'=q∧w=decide (o=t∨t=b)) (fun R v=>?_) ?_
 ·refine⟨o.1,vc d 0,o.2,vc d 1,t.1,vc f 0,t.2,vc f 1,?_⟩
  rw[Tb o t];by_cases e:o=t
  ·rw[decide_eq_true e]
   exact ar.2 (v _ _ ⟨rfl,(decide_eq_true (.inl e)).symm⟩)
  ·rw[decide_eq_false e]
   refine ai.2 ⟨t.1,vc f 0,t.2,vc f 1,b.1,vc c1 0,b.2,vc c1 1,v _ _ ⟨rfl,?_⟩⟩;rw[Tb t b,decide_eq_decide];exact⟨.inr,fun h=>h.elim (fun h=>absurd h e) id⟩
 rintro w h' ⟨rfl,rfl⟩;refine aD (fun e=>?_) fun e=>?_
 ·rw[if_pos e]at a
  exact⟨o.1,vc d 0,o.2,vc d 1,J9 (s:=o) i rfl fun k c=>a _ _ rfl c⟩
 rw[if_neg e]at a;refine⟨o.1,vc d 0,o.2,vc d 1,b.1,vc c1 0,b.2,vc c1 1,?_⟩;rw[Tb o b];refine aD (fun e=>?_) fun e=>?_
 ·rw[if_pos e]at a
  exact⟨t.1,vc f 0,t.2,vc f 1,J9 (s:=t) i rfl fun k c=>a _ _ rfl c⟩
 rw[if_neg e]at a;refine CondP.intro (fun e=>?_) fun e=>?_
 ·rw[if_pos (by simpa using e)]at a
  exact⟨o.1,vc d 0,o.2,vc d 1,J9 (s:=o) i rfl fun k c=>a _ _ rfl c⟩
 rw[if_neg (by simpa using e)]at a;refine CondP.intro (fun e=>?_) fun e=>?_
 ·rw[if_pos (by simpa using e)]at a
  exact⟨t.1,vc f 0,t.2,vc f 1,J9 (s:=t) i rfl fun k c=>a _ _ rfl c⟩
 ·rw[if_neg (by simpa using e)]at a
  exact⟨b.1,vc c1 0,b.2,vc c1 1,J9 (s:=b) i rfl fun k c=>a _ _ rfl c⟩
abbrev Uj:ByteArray:=⟨#[102,97,105,108]⟩
abbrev Uh:ByteArray:=⟨#[111,117,114,115]⟩
abbrev RQ:ByteArray:=⟨#[116,104,101,105,114,115]⟩
abbrev Ui:ByteArray:=⟨#[107,101,101,112]⟩
def Ha(p:Int):ByteArray:=if p=0 then Uj else if p=1 then Uh else if p=2 then RQ else if p=3 then Ui else⟨#[]⟩
theorem E2{p:Int}{h:ac}{K:ByteArray→ac→Prop}(a:K (Ha p) h):HC PG sh [.int .i64 p] [.c .str] K h:=by
 refine Je p ?_;unfold Bz;unfold Ha at a;refine CondP.intro (fun e=>?_) fun e=>?_
 ·rw[if_pos (by simpa using e)]at a;exact a
 rw[if_neg (by simpa using e)]at a;refine CondP.intro (fun e=>?_) fun e=>?_
 ·rw[if_pos (by simpa using e)]at a;exact a
 rw[if_neg (by simpa using e)]at a;refine CondP.intro (fun e=>?_) fun e=>?_
 ·rw[if_pos (by simpa using e)]at a;exact a
 rw[if_neg (by simpa using e)]at a;refine CondP.intro (fun e=>?_) fun e=>?_
 ·rw[if_pos (by simpa using e)]at a;exact a
 ·rw[if_neg (by simpa using e)]at a;exact a
end Go.Proofs
namespace Go.Proofs
open Go Go.Lift
section
variable {W:Nat→Prop} {h:ac} {vp:Nat} {s:VS}
theorem za(v:VaultAt W h vp s){n m:ByteArray}{a b:Int}(x:bQ s.B n=some a)(E:bQ s.B m=some b){p:Int}(z:((Ha p).toList==(⟨#[]⟩:ByteArray).toList)=false)(D:(b=0∨UpG s.L a b)∨(a=0∨UpG s.L b a))
  {K:Int×SliceV×Int→ac→Prop}(g:(b=0∨UpG s.L a b)→∀h',Upd No h h'→K (a,⟨none,0,0⟩,0) h')(i:¬(b=0∨UpG s.L a b)→∀h',Upd s.M h h'→VaultAt W h' vp {s with B:=pC s.B n b}→K (b,⟨none,0,0⟩,0) h'):
  HC PG eP [pV vp,.string n,.string m,.int .i64 p] [.c (.int .u32),.c .slice,.c (.int .i64)] K h:=by
 refine rP (some ⟨vp,0,none⟩) n m p ?_;unfold ns aZ ae eZ sx aA af dY nv yO w6 qH uB K7 SD F7 Ri;refine qF v n (qF v m ?_);rw[x,E];refine Join.plain (ai.2 (ai.2 (E2 ?_)));rw[z];refine ai.2 (x8 v b a fun c A hc k1=>CondP.intro (fun e=>g (hc.1 e) A k1) fun e=>?_)
 have q:¬(b=0∨UpG s.L a b):=fun F=>by rw[hc.2 F]at e;cases e
 have u:=v.upd0 k1;refine x8 u a b fun G o k t=>?_
 rw[k.2 (D.resolve_left q)];have d:=u.upd0 t;refine ar.2 ⟨_,rfl,_,vc d.blk 8,_,rfl,d.b.isMap,Mz fun j f=>?_⟩
 have f:j=oz o s.bm (kStr.enc n) (Ra b):=f;have w:Upd (· =s.bm) o j:=by rw[f];exact sy o _ _ rfl
 exact i q j ((k1.tr t).wide.tr (w.mono fun y C=>.inl (.inr (.inr (.inr (.inl C)))))) (d.setB w (by rw[f];exact d.b.put n b))
end
end Go.Proofs
namespace Go.Proofs
open Go Go.Lift
structure NSt(h8:ac)(b:Nat)(t:Tr)(h:ac)(ps ms:List Nat):Prop where
 k:Upd No h8 h
 blk:h[b]? =some (.cells (jN t).toArray aV (0,0))
 gs:∀p∈ps,GraphAt (FI (p+1) p) h (p+1) p [] 1∧h8.size≤p
 mp:∀m∈ms,h[m]? =some (.map #[] 0)∧h8.size≤m
section
variable {h8 h h':ac} {b:Nat} {t:Tr} {ps ms:List Nat}
theorem NSt.upd(n:NSt h8 b t h ps ms)(k:Upd No h h'):NSt h8 b t h' ps ms:=
 ⟨n.k.tr k,k.get0 n.blk,fun p a=>⟨(n.gs p a).1.upd0 k,(n.gs p a).2⟩,fun m hm=>⟨k.get0 (n.mp m hm).1,(n.mp m hm).2⟩⟩
theorem NSt.rds(n:NSt h8 b t h ps ms):aI h (adr ⟨b,0,none⟩ 0)=some (.int .i64 t.1)∧aI h (adr ⟨b,0,none⟩ 1)=some (.int .u64 t.2.1)∧aI h (adr ⟨b,0,none⟩ 2)=some (.int .u64 t.2.2.1)∧aI h (adr ⟨b,0,none⟩ 3)=some (.int .u64 t.2.2.2.1)∧aI h (adr ⟨b,0,none⟩ 4)=some (.pointer t.2.2.2.2.1)∧aI h (adr ⟨b,0,none⟩ 5)=some (.pointer t.2.2.2.2.2):=
 ⟨vc n.blk 0,vc n.blk 1,vc n.blk 2,vc n.blk 3,vc n.blk 4,vc n.blk 5⟩
theorem NSt.map(n:NSt h8 b t h ps ms){k:ac→Prop}(a:∀h',NSt h8 b t h' ps (h.size::ms)→h.size<h'.size→k h'):At (Array.push h (.map #[] 0)) k:=by
 have c:=Upd.push No h (.map #[] 0);have n':=n.upd c;refine bw (a _ ⟨n'.k,n'.blk,n'.gs,fun m hm=>?_⟩ (by simp))
 rcases aq.1 hm with rfl|hm
 ·exact⟨sD h _,n.k.size⟩
 ·exact n'.mp m hm
theorem NSt.graph(n:NSt h8 b t h ps ms){K:Option Addr→ac→Prop}(c:∀h',NSt h8 b t h' (h.size::ps) ms→h.size+1<h'.size→K (some ⟨h.size+1,0,none⟩) h'):HC PG dx [] [.c .ptr] K h:=by
 refine Se fun h' d g=>?_
 have n':=n.upd d;refine c h' ⟨n'.k,n'.blk,fun p a=>?_,n'.mp⟩ (g.lt _ (.inl rfl))
 rcases aq.1 a with rfl|a
 ·exact⟨g,n.k.size⟩
 ·exact n'.gs p a
theorem NSt.put(n:NSt h8 b t h ps ms){cs:List Value}{ty:TypeId}{k:ac→Prop}(a:∀h',NSt h8 b t h' ps ms→h'[h.size]? =some (.cells cs.toArray ty (0,0))→h8.size≤h.size→k h'):At (hnew h cs ty) k:=
 bi fun h' b' k'=>a h' (n.upd k') b' n.k.size
theorem NSt.done{W:Nat→Prop}{kind:Int}{x:Hs}(n:NSt h8 b t h ps ms)(A:∀y,W y→y<h8.size)(i:TreeIs W h8 kind x t [])(w:kind=0∨kind=1){c p j f o:Nat}{K:Option Addr×Int→ac→Prop}
  (C:∀h' vp gp gm tm bm nm,VaultAt (fun y=>W y∨VS.M ⟨gp,gm,tm,bm,nm,kind,x,t,[],1,[],[],[]⟩ y) h' vp ⟨gp,gm,tm,bm,nm,kind,x,t,[],1,[],[],[]⟩→h8.size≤vp→(∀y,VS.M ⟨gp,gm,tm,bm,nm,kind,x,t,[],1,[],[],[]⟩ y→h8.size≤y)→Upd No h8 h'→K (some ⟨vp,0,none⟩,0) h')
  (B:h[c]? =some (.cells (jN t++ [Value.pointer (some ⟨p+1,0,none⟩),Value.map (some j),Value.map (some f),Value.map (some o)]).toArray bO (0,0)))
  (D:h8.size≤c) (k:∀m∈(p+1)::p::ms,c≠m) (F:p∈ps) (v:j∈ms) (q:f∈ms) (u:o∈ms) (ne: [p+1,p,j,f,o].Nodup):K (some ⟨c,0,none⟩,0) h:=by
 obtain⟨g,G⟩:=n.gs p F;have s:∀y,VS.M ⟨p+1,p,j,f,o,kind,x,t,[],1,[],[],[]⟩ y→h8.size≤y∧y<h.size∧c≠y:=fun y a=>by
  rcases a with e|e|e|e|e<;>(simp only at e;subst e)
  ·exact⟨by omega,g.lt _ (.inl rfl),k _ (by simp)⟩
  ·exact⟨G,g.lt _ (.inr rfl),k _ (by simp)⟩
  ·exact⟨(n.mp _ v).2,bo (n.mp _ v).1,k _ (by simp[v])⟩
  ·exact⟨(n.mp _ q).2,bo (n.mp _ q).1,k _ (by simp[q])⟩
  ·exact⟨(n.mp _ u).2,bo (n.mp _ u).1,k _ (by simp[u])⟩
 obtain⟨m,hm,z⟩:=g.map;have em:∀{κ β:Type} {E:KeyE κ} {g:β→Value} {r:Nat},h[r]? =some (.map #[] 0)→MapAt E g h r []:=fun z=>⟨[],0,⟨z,pT,pT,fun _ h=>by cases h⟩,rfl⟩
 refine C h c (p+1) p j f o ⟨B,⟨g.blk,⟨m,hm,fun id=>(z id).elim (fun⟨_,_,_,e,_⟩=>by cases e) .inr⟩,.inr (.inl rfl),.inr (.inr (.inl rfl)),fun y a=>a.elim (fun e=>aC (A y e) n.k.size) fun e=>(s y e).2.1,g.nd⟩,em (n.mp _ v).1,em (n.mp _ q).1,em (n.mp _ u).1,fun y a=>.inr a,fun a=>a.elim (fun e=>by have:=A _ e;omega) fun e=>(s _ e).2.2 rfl,ne,?_,fun d hd=>(by cases hd),fun id=>wI,Inv.nil,w⟩ D (fun y a=>(s y a).1) n.k
 exact(i.less fun y a=>a.imp id fun e=>(s y e).1).upd0 n.k
end
theorem M3{W:Nat→Prop}{h:ac}(p:∀y,W y→y<h.size){kind:Int}(m:kind=0∨kind=1){x:Hs}{K:Option Addr×Int→ac→Prop}
  (B:∀h' d gp gm tm bm nm t,VaultAt (fun y=>W y∨VS.M ⟨gp,gm,tm,bm,nm,kind,x,t,[],1,[],[],[]⟩ y) h' d ⟨gp,gm,tm,bm,nm,kind,x,t,[],1,[],[],[]⟩→h.size≤d→(∀y,VS.M ⟨gp,gm,tm,bm,nm,kind,x,t,[],1,[],[],[]⟩ y→h.size≤y)→Upd No h h'→K (some ⟨d,0,none⟩,0) h'):
  HC PG tN [.int .i64 kind,.agg #[.int .u64 x.k0,.int .u64 x.k1,.int .u64 x.mask]] [.c .ptr,.c (.int .i64)] K h:=by
 refine KI kind (x.k0,x.k1,x.mask) ?_;unfold Dy ae D9 BN aA af nv w6 qH;refine bi fun I b1 k1=>⟨_,vc b1 0,_,vc b1 1,_,vc b1 2,?_⟩
 refine Rx (W:=W) (x:=x) (fun y b=>aC (p y b) k1.size) m fun A t i u=>?_
 have j:=k1.tr u;refine bi fun J w o=>cO (c:=jN vH) (vs:=jN t) w rfl fun g f k=>ai.2 ?_
 have a:Upd No h g:=(j.tr o).own k j.size;have C:TreeIs W g kind x t []:=((i.less (W':=fun y=>W y∨y=A.size) fun y b=>b.imp id fun e=>Nat.le_of_eq e.symm).updM (o.wide.tr (k.mono fun _ e=>.inl (.inr e))) fun y b=>.inl b).less fun y b=>.inl (.inl b)
 have s:∀y,W y→y<g.size:=fun y b=>aC (p y b) a.size
 have q:∀h' d gp gm tm bm nm,VaultAt (fun y=>W y∨VS.M ⟨gp,gm,tm,bm,nm,kind,x,t,[],1,[],[],[]⟩ y) h' d ⟨gp,gm,tm,bm,nm,kind,x,t,[],1,[],[],[]⟩→g.size≤d→(∀y,VS.M ⟨gp,gm,tm,bm,nm,kind,x,t,[],1,[],[],[]⟩ y→g.size≤y)→Upd No g h'→K (some ⟨d,0,none⟩,0) h':=
  fun h' d gp gm tm bm nm v E H F=>B h' d gp gm tm bm nm t v (bI a.size E) (fun y b=>bI a.size (H y b)) (a.tr F)
 have n:NSt g A.size t g [] []:=⟨Upd.refl _ _,f,fun _ h=>(by cases h),fun _ h=>(by cases h)⟩
 refine⟨_,vc f 0,_,vc f 1,_,vc f 2,_,vc f 3,_,vc f 4,_,vc f 5,?_⟩;clear B a p f k j i u o w b1 k1;repeat' first
  |refine⟨n.rds,?_⟩
  |refine n.graph fun _ n z=>?_
  |refine n.map fun _ n z=>?_
  |refine n.put fun _ n D G=>?_
  |exact n.done s C m q D G (by simp;omega) (by simp) (by simp) (by simp) (by simp) (by simp;omega)
  |refine And.intro ?_ ?_
end Go.Proofs
namespace Go.Proofs
open Go Go.Lift
theorem PU{x:Hs}{h:ac}{K:Int×Int×Int→ac→Prop}(f:∀h',Upd No h h'→K (x.k0,x.k1,x.mask) h'):HC PG Cn [.agg #[.int .u64 x.k0,.int .u64 x.k1,.int .u64 x.mask]] [.agg [.int .u64,.int .u64,.int .u64]] K h:=by
 refine OZ (x.k0,x.k1,x.mask) ?_;unfold HK ae D9 dY eE UQ US;refine bi fun i b1 k1=>bi fun g b2 d=>?_
 have c1:=d.get0 b1;refine⟨_,tH c1 0 0,_,tH c1 0 1,_,vc c1 2,?_⟩;refine cO (c:= [.int .u64 0,.int .u64 0,.int .u64 0]) (vs:= [.int .u64 x.k0,.int .u64 x.k1,.int .u64 x.mask]) b2 rfl fun e a b=>?_
 exact⟨_,vc a 0,_,vc a 1,_,vc a 2,f e ((k1.tr d).own b k1.size)⟩
theorem Qv(s:ByteArray):s.extract 0 ((if 30<(s.size:Int)then 30 else(s.size:Int)).toNat)=Hx s:=by
 unfold Hx;rw[show((if 30<(s.size:Int)then(30:Int)else(s.size:Int)).toNat)=min s.size 30 from by split<;>omega]
theorem Qm{p:Pr}{h:ac}{K:ByteArray×ByteArray→ac→Prop}(f:∀h',Upd No h h'→K (Qx p) h'):HC PG Co [.agg #[.string p.1,.string p.2]] [.agg [.str,.str]] K h:=by
 refine O0 p ?_;unfold HL dY ay rp m8 vR;refine bi fun i b1 k1=>bi fun g b2 d=>?_
 have c1:=d.get0 b1;refine⟨_,vc c1 0,_,vc c1 0,⟨by split<;>omega,by split<;>omega⟩,_,vc c1 1,_,vc c1 1,⟨by split<;>omega,by split<;>omega⟩,?_⟩
 refine cO (c:= [.string ⟨#[]⟩,.string ⟨#[]⟩]) (vs:= [.string (p.1.extract 0 ((if 30<(p.1.size:Int)then 30 else(p.1.size:Int)).toNat)),.string (p.2.extract 0 ((if 30<(p.2.size:Int)then 30 else(p.2.size:Int)).toNat))]) b2 rfl fun e a b=>?_
 rw[Qv,Qv]at a;exact⟨_,vc a 0,_,vc a 1,f e ((k1.tr d).own b k1.size)⟩
theorem _root_.Go.Lift.Upd.fresh{M:Nat→Prop}{h b a:ac}(k:Upd No h b)(u:Upd M b a)(d:∀y,M y→h.size≤y):Upd No h a:=k.trans u fun y c=>.inr (d y c)
abbrev mY:ByteArray:=⟨#[109,97,105,110]⟩
abbrev qL:ByteArray:=⟨#[115,105,100,101]⟩
end Go.Proofs
namespace Go.Proofs
open Go Go.Lift
theorem My{h:ac}{K:Bool→ac→Prop}(hk:∀h',Upd No h h'→K true h'):HC PG xH [] [.c .bool] K h:=by
 refine KS ?_;unfold DH ae S0 SY aA af nv zg0 yO ru w6 qH uB;refine M3 (W:=No) (x:=⟨0,0,0⟩) (fun _ h=>h.elim) (.inr rfl) fun h1 vp gp gm tm bm nm t v zv F k1=>?_
 refine Join.plain (ai.2 (ai.2 (vK v mY 0 fun h2 u2 V=>?_)))
 have e1:zK [] [] mY 0 false=0:=by decide
 simp only[e1,if_true]at V⊢;have k2:=k1.fresh u2 fun y g=>F y (.inr (.inr (.inr (.inl g))))
 refine ai.2 (NX V fun h3 k3=>?_)
 have G:=V.upd0 k3;refine Am G.em G.g.lt db (by simp) (⟨#[97]⟩,⟨#[]⟩) (by decide) (by decide) fun h4 D i4 _ O=>?_
 refine bi fun h5 b5 k5=>cO (c:=jN vH) (vs:=jN D) b5 rfl fun h6 s C=>⟨_,vc s 0,_,vc s 1,_,vc s 2,_,vc s 3,_,vc s 4,_,vc s 5,?_⟩
 have B:Upd No h3 h6:=(O.tr k5).own C O.size;have v6:=G.upd0 B;have i6:=i4.upd0 (k5.own C (al _));refine zd v6 mY (hd:=0) rfl (d:=(D,[(⟨#[97]⟩,⟨#[]⟩)])) i6 (cd _ _) (fun q E=>by rw[av.1 E];decide) fun L Z w=>?_
 have w:VaultAt _ L vp ⟨gp,gm,tm,bm,nm,1,⟨0,0,0⟩,t,[(1,[])],2,[(1,(D,[(⟨#[97]⟩,⟨#[]⟩)]))],[(mY,1)],[]⟩:=w;have i7:=w.ts (1,(D,[(⟨#[97]⟩,⟨#[]⟩)])) (av.2 rfl);have u:=Z.get s fun hm=>by have:=G.size hm;have:=O.size;omega
 have k7:Upd No h L:=((k2.tr k3).tr B).fresh Z fun y g=>F y g
 refine⟨_,vc u 0,_,vc u 1,_,vc u 2,_,vc u 3,_,vc u 4,_,vc u 5,?_⟩;refine Am i7.1 w.g.lt i7.2.1 (by simp) (⟨#[98]⟩,⟨#[]⟩) (by decide) (by decide) fun h8 R i8 _ S=>?_
 refine bi fun h9 b9 Y=>cO (c:=jN vH) (vs:=jN R) b9 rfl fun H I j=>?_
 have k:Upd No L H:=(S.tr Y).own j S.size;have z:=w.upd0 k;have P:=i8.upd0 (Y.own j (al _));refine Join.plain (ai.2 (ai.2 (vK z qL 1 fun h11 o A=>?_)))
 have e2:zK [(mY,1)] [(1,[])] qL 1 false=0:=by decide
 simp only[e2,if_true]at A⊢;have f:=o.get I fun e=>by have:=w.size (y:=bm) (.inr (.inr (.inr (.inl rfl))));have:=S.size;have e:h8.size=bm:=e;omega
 have N:=P.updM o fun y g=>.inl (z.w y (.inr (.inr (.inr (.inl g)))))
 refine ai.2 ⟨_,vc f 0,_,vc f 1,_,vc f 2,_,vc f 3,_,vc f 4,_,vc f 5,?_⟩;refine zd A qL (hd:=1) rfl (d:=(R,jZ (⟨#[98]⟩,⟨#[]⟩) [(⟨#[97]⟩,⟨#[]⟩)])) N (yc _ (cd _ _)) (fun q E=>(xn E).elim (fun e=>by rw[e];decide) fun E=>by rw[av.1 E];decide) fun Q U i=>?_
 have i:VaultAt _ Q vp ⟨gp,gm,tm,bm,nm,1,⟨0,0,0⟩,t,[(1,[]),(2,[1])],3,[(1,(D,[(⟨#[97]⟩,⟨#[]⟩)])),(2,(R,jZ (⟨#[98]⟩,⟨#[]⟩) [(⟨#[97]⟩,⟨#[]⟩)]))],[(mY,1),(qL,2)],[]⟩:=i;have X:UpG [(1,[]),(2,[1])] 2 1:=.step (p:=1) (by decide) (by decide) (.refl (by decide));have hn:¬((2:Int)=0∨UpG [(1,[]),(2,[1])] 1 2):=fun hh=>hh.elim (fun e=>by cases e) fun e=>absurd (UpG.le i.inv.good e) (by decide)
 refine za i (n:=mY) (m:=qL) (a:=1) (b:=2) rfl rfl (p:=0) (by rw[fw];decide) (.inr (.inr X)) (fun e=>absurd e hn) fun _ T J v13=>?_
 refine ar.2 (ar.2 (ar.2 (hk T ?_)));exact(((k7.tr k).fresh o fun y g=>F y (.inr (.inr (.inr (.inl g))))).fresh U fun y g=>F y g).fresh J fun y g=>F y g
end Go.Proofs
namespace Go.Proofs
open Go Go.Lift
def sb(s:SliceV)(y:Nat):Prop:=s.cap≠0∧∃a,s.a=some a∧y=a.block
section
variable {α:Type} {f:α→List Value} {sz:Nat} {ty:TypeId} {M:Nat→Prop} {h:ac} {s so:SliceV} {xs out:List α}
theorem _root_.Go.Lift.OwnS.sub(o:OwnS f sz ty M h s xs):∀y,sb s y→M y∧y<h.size:=fun y ⟨hc,a,g,c⟩=>by
 rcases o.blk with j|⟨b,e,d,hm,i,_⟩
 ·exact absurd j hc
 ·rw[g]at d
  cases d;exact⟨c▸hm,c▸bo i⟩
theorem _root_.Go.Lift.OwnS.one{x:α}{b:Nat}(a:∀x,(f x).length=sz∧0<sz)(c:h[b]? =some (.cells (f x).toArray ty (0,0))):OwnS f sz ty (sb ⟨some ⟨b,0,none⟩,1,1⟩) h ⟨some ⟨b,0,none⟩,1,1⟩ [x]:=
 ⟨rfl,a,al _,.inr ⟨b,[],rfl,⟨by simp,_,rfl,rfl⟩,by simpa using c,by simp⟩⟩
end
structure Sp where
 T:Nat→Prop
 Q:ac→Prop
 loc:∀{M:Nat→Prop} {h h':ac},Q h→Upd M h h'→(∀y,T y→¬M y)→Q h'
section
variable {Ss:List Sp} {h h':ac} {M:Nat→Prop} {s s':Sp} {i:Nat}
end
theorem GraphAt.re{W W' M:Nat→Prop}{h h':ac}{gp gm:Nat}{L:fp}{nx:Int}(g:GraphAt W h gp gm L nx)(k:Upd M h h')(hm:∀b,M b→(W b∧b≠gp∧b≠gm)∨h.size≤b)(i:∀b,W' b→(W b∨h.size≤b)∧b<h'.size)(f:W' gp)(c:W' gm):GraphAt W' h' gp gm L nx:=by
 have n:=g.upd k hm;obtain⟨m,d,o⟩:=g.map;refine⟨n.blk,⟨m,d.upd k fun e=>(hm _ e).elim (fun e=>e.2.2 rfl) fun e=>absurd (g.lt _ g.wm) (Nat.not_lt.2 e),fun j=>?_⟩,f,c,fun b a=>(i b a).2,g.nd⟩
 rcases o j with⟨s,ps,f,c,q⟩|p
 ·exact .inl ⟨s,ps,f,c,((q.less (W':=fun b=>W b∨h.size≤b) fun b a=>a).upd k fun b a=>.inl ((hm b a).imp (·.1) id)).less fun b a=>.inl (i b a).1⟩
 ·exact .inr p
theorem TreeIs.re{W W' M:Nat→Prop}{h h':ac}{kind:Int}{x:Hs}{t:Tr}{l:List Pr}(i:TreeIs W h kind x t l)(k:Upd M h h')(hm:∀b,M b→W b∨h.size≤b)(c:∀b,W' b→W b∨h.size≤b):TreeIs W' h' kind x t l:=
 ((i.less (W':=fun b=>W b∨h.size≤b) fun b a=>a).updM k fun b a=>.inl (hm b a)).less fun b a=>.inl (c b a)
theorem VaultAt.re{W W' M:Nat→Prop}{h h':ac}{n:Nat}{s:VS}(v:VaultAt W h n s)(k:Upd M h h')(hm:∀b,M b→(W b∧¬s.M b)∨h.size≤b)(m:∀b,W' b→(W b∨h.size≤b)∧b<h'.size)(i:∀y,s.M y→W' y):VaultAt W' h' n s:=by
 have g:=v.upd k hm;have f:∀b,M b→W b∨h.size≤b:=fun b c=>(hm b c).imp (·.1) id
 have a:∀b,W' b→W b∨h.size≤b:=fun b c=>(m b c).1
 exact⟨g.blk,v.g.re k (fun b c=>(hm b c).imp (fun e=>⟨e.1,fun j=>e.2 (.inl j),fun j=>e.2 (.inr (.inl j))⟩) id) m (i _ (.inl rfl)) (i _ (.inr (.inl rfl))),g.t,g.b,g.n,i,fun o=>(a _ o).elim v.wv fun e=>absurd (bo v.blk) (by omega),v.ne,v.em.re k f a,fun d hd=>⟨(v.ts d hd).1.re k f a,(v.ts d hd).2⟩,v.sub,v.inv,v.kd⟩
section
variable {Ss:List Sp} {h h':ac} {vp:Nat} {s:VS} {p p':Sp} {i:Nat} {M:Nat→Prop}
end
end Go.Proofs
