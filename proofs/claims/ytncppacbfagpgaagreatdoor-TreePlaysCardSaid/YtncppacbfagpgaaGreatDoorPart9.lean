/- A part of the proof that the named laws of this program answer true, whatever the input. -/
import Derived.Test.YtncppacbfagpgaaGreatDoorPart8
import Derived.Test.YtncppacbfagpgaaGreatDoorPart4
import Derived.Test.YtncppacbfagpgaaGreatDoorPart2
import Derived.Test.YtncppacbfagpgaaGreatDoorPart6
import Derived.Test.YtncppacbfagpgaaGreatDoorPart7
import Derived.Test.YtncppacbfagpgaaGreatDoorPart5
import Derived.Test.YtncppacbfagpgaaGreatDoorPart0
open Iff renaming rfl→uZ
open Int renaming toNat_natCast→aJ
open List renaming getElem_mem→aU,mem_cons→aC,getElem?_cons_zero→cB,getElem?_eq_getElem→af,length_filter_le→fH,length_take→aK,take_succ_eq_append_getElem→bH,filter_cons→cC,append_nil→aZ,take_of_length_le→bA,mem_filter→d8,length_append→ae,length_singleton→aD,mem_singleton→ax,mem_append→bL,length_cons→az,filter_eq_self→fA,any_eq_true→cp,pairwise_cons→aW,any_cons→pU,mem_range→fP,length_drop→aM,getElem_of_mem→bM,getElem_take→o8,getElem_drop→o9,mem_of_getElem→mO
open Nat renaming zero_le→aP,le_refl→al,le_trans→aY,mul_le_mul_right→ce,zero_testBit→fX,lt_of_lt_of_le→aR
open Option renaming some→bK
namespace Go.Proofs
open Go Go.Lift
theorem Dj{W:Nat→Prop}{h:ad}{b:Nat}{sl val:ByteArray}{has:Bool}{s:SliceV}{ow:Option Addr}{ks:List (Option Addr)}{F:Fo}(hb:h[b]? =some (.cells (Ci sl has val s ow) bT (0,0))) (hs:Sl qB 1 W h s ks) (hL:RxL W h ks F.toL) (hc:fx F) {K:Bool→ad→Prop} (hk:K true h):HC PG kr [.pointer (some ⟨b,0,none⟩)] [.c .bool] K h:=by
 refine yx (some ⟨b,0,none⟩) ?_;unfold rC bl cD aQ bC;refine⟨_,rfl,s,dA (i:=3) hb,?_⟩;have hlen:=hs.len;rw[hL.1]at hlen;have h256:=ju hc;have hcF:=eC.1 hc;refine LoopP.ghost (fun(i:Nat) (t:Int) h'=>t=(i:Int)∧i≤F.toL.length∧h'=h) (fun i=>F.toL.length-i) 0 ⟨rfl,aP _,rfl⟩ ?_
 rintro I i t h' ⟨rfl,hi,rfl⟩ hI;refine ay (fun hlt=>?_) fun _=>hk
 have hlt:i<F.toL.length:=by omega
 obtain⟨kb,ksl,hki,hkl,kv,kval,ks',kk,kb1,_⟩:=hL.at hlt;obtain⟨a,ha,_,hv⟩:=hs.at0 hki;have hne:ksl.data.toList≠[]:=by rw[hkl];exact(hcF.2 _ (aU hlt)).1
 have e0:(ksl.toList==(⟨#[]⟩:ByteArray).toList)=false:=by
  rw[beq_eq_false_iff_ne,ByteArray.toList_eq,ByteArray.toList_eq];exact hne
 obtain⟨c,hc0,hc1⟩:=AV hne;refine⟨⟨by omega,by omega⟩,a,ha,_,hv,Join.intro (fun t h2=>t=false∧h2=h') (fun R hR=>?_) ?_⟩
 ·refine⟨_,rfl,ksl,dA (i:=0) kb1,?_⟩
  rw[e0];refine ag.2 (ay (fun hgt=>?_) fun _=>hR _ _ ⟨rfl,rfl⟩)
  have hpos:0<i:=by have:(i:Int)>0:=hgt;omega
  have e1:IntKind.wrap .i64 ((i:Int)-1)=((i-1:Nat):Int):=by rw[gr (by omega)];omega
  rw[e1];have hlt2:i-1<F.toL.length:=by omega
  obtain⟨jb,jsl,hji,hjl,jv,jval,js',jk,jb1,_⟩:=hL.at hlt2;obtain⟨a',ha',_,hv'⟩:=hs.at0 hji;have hne2:jsl.data.toList≠[]:=by rw[hjl];exact(hcF.2 _ (aU hlt2)).1
  obtain⟨d,hd0,hd1⟩:=AV hne2;refine⟨_,rfl,s,dA (i:=3) hb,⟨by omega,by omega⟩,a',ha',_,hv',_,rfl,jsl,dA (i:=0) jb1,d,by decide,hd0,_,rfl,ksl,dA (i:=0) kb1,c,by decide,hc0,hR _ _ ⟨?_,rfl⟩⟩
  have:=List.pairwise_iff_getElem.1 hcF.1 (i-1) i hlt2 hlt (by omega);rw[hkl]at hc1;rw[hjl]at hd1;exact decide_eq_false (by omega)
 ·rintro t h2 ⟨rfl,rfl⟩
  refine ag.2 ?_;rw[co hlt (by omega)];exact hI (i+1) _ _ ⟨rfl,hlt,rfl⟩ (by omega)
theorem GA{W:Nat→Prop}{h:ad}{s:SliceV}{ks:List (Option Addr)}{L:List Bn}{f:FuncId}(hs:Sl qB 1 W h s ks)(hL:RxL W h ks L)(hn:L.length≤256)(hf:∀i (hi:i<L.length) {b:Nat} {sl:ByteArray},RxN W h b sl L[i].2.1 L[i].2.2→∀{K:Bool→ad→Prop},K false h→HC PG f [.pointer (some ⟨b,0,none⟩)] [.c .bool] K h){K:Bool→ad→Prop}(hk:K false h):
  HC PG cI [.slice s.a s.len s.cap,.func (.func f) #[] #[]] [.c .bool] K h:=by
 refine ja s _ ?_;unfold fk cd;refine jD s _ ?_;unfold fM bl cD;have hlen:=hs.len;rw[hL.1]at hlen;refine LoopP.ghost (fun(i:Nat) (t:Int) h'=>t=(i:Int)∧i≤L.length∧h'=h) (fun i=>L.length-i) 0 ⟨rfl,aP _,rfl⟩ ?_
 rintro I i t h' ⟨rfl,hi,rfl⟩ hI;refine ay (fun hlt=>?_) fun _=>hk
 have hlt:i<L.length:=by omega
 obtain⟨kb,ksl,hki,hkl,kn⟩:=hL.at hlt;obtain⟨a,ha,_,hv⟩:=hs.at0 hki;refine⟨⟨by omega,by omega⟩,a,ha,_,hv,HV.mk' (hf i hlt kn (ag.2 ?_))⟩
 rw[co hlt (by omega)];exact hI (i+1) _ _ ⟨rfl,hlt,rfl⟩ (by omega)
def VC(n:Bn):Prop:=∀{W:Nat→Prop} {h:ad} {b:Nat} {sl:ByteArray},RxN W h b sl n.2.1 n.2.2→∀{K:Bool→ad→Prop},K true h→HC PG jL [.pointer (some ⟨b,0,none⟩)] [.c .bool] K h
theorem T4{lab:List UInt8}{w:Option ByteArray}{F:Fo}(hc:fx F)(hw:w.isSome∨2≤F.toL.length)(ih:∀n∈F.toL,VC n):VC (lab,w,F):=by
 intro W h b sl r K hk;simp only at r;obtain⟨val,s,ow,ks,hb,hv,hs,hcp,hF⟩:=r;have hL:=jm.1 hF;have hlen:=hs.len;rw[hL.1]at hlen;refine wZ (some ⟨b,0,none⟩) ?_;unfold qJ bC dT;refine Join.intro (fun t h'=>t=false∧h'=h) (fun R hR=>?_) ?_
 ·refine Dj hb hs hL hc (ag.2 ⟨_,rfl,w.isSome,dA (i:=1) hb,?_⟩)
  cases hwS:w.isSome with
  |true=>exact ag.2 (hR _ _ ⟨rfl,rfl⟩)
  |false=>
   refine au.2 ⟨_,rfl,s,dA (i:=3) hb,hR _ _ ⟨decide_eq_false ?_,rfl⟩⟩;rw[hwS]at hw;rcases hw with hw|hw
   ·cases hw
   ·omega
 ·rintro t h' ⟨rfl,rfl⟩
  refine ag.2 ⟨_,rfl,s,dA (i:=3) hb,GA hs hL (ju hc) (fun i hi b sl kn K' hk'=>?_) hk⟩
  refine vx _ ?_;unfold ph;exact ih _ (aU hi) kn hk'
theorem HL:∀{F:Fo},fx F→∀n∈F.toL,VC n
 | .nil,_,n,hn=>by simp[Fo.toL]at hn
 | .cons lab w kids rest,h,n,hn=>by
  rcases aC.1 hn with rfl|hn
  ·exact T4 h.2.2.1 h.2.1 (HL h.2.2.1)
  ·exact HL h.2.2.2.2 n hn
theorem Ld{W:Nat→Prop}{h:ad}{b:Nat}{l:List Pr}(t:RadAt W h b l){K:Bool→ad→Prop}(hk:K true h):HC PG tu [.pointer (some ⟨b,0,none⟩)] [.c .bool] K h:=by
 obtain⟨w,F,r,hc,_⟩:=t.ex;obtain⟨val,s,ow,ks,hb,hv,hs,hcp,hF⟩:=r;have hL:=jm.1 hF;refine Fm (some ⟨b,0,none⟩) ?_;unfold xE aQ bC;refine au.2 ⟨_,rfl,_,dA (i:=0) hb,?_⟩;rw[beq_self_eq_true];refine au.2 (Dj hb hs hL hc (au.2 ⟨_,rfl,s,dA (i:=3) hb,GA hs hL (ju hc) (fun i hi b sl kn K' hk'=>?_) hk⟩))
 refine Cq _ ?_;unfold vn;exact HL hc _ (aU hi) kn hk'
theorem Oa{W:Nat→Prop}{x:Hs}{h:ad}{kind:Int}{t:Tr}{l:List Pr}(i:TreeIs W h kind x t l)(tb:Tab h)(hr:cl l)(hn:l.length≤60000){K:Bool→ad→Prop}(hk:∀h',Upd No h h'→K true h'):HC PG lj [Av t] [.c .bool] K h:=by
 refine sq t ?_;unfold oL bj ao cP aI tK qY As;refine aL fun h1 b1 k1=>⟨_,vc b1 0,?_⟩
 rcases i with⟨_,b,rfl,t⟩|⟨_,b,rfl,t⟩
 ·refine ag.2 ⟨_,mP b1 1 0,_,mP b1 1 1,_,mP b1 1 2,_,vc b1 0,_,vc b1 1,_,vc b1 2,_,vc b1 3,_,vc b1 4,_,vc b1 5,?_⟩
  refine AD (TrieAt.upd0 k1 t) fun h2 k2=>⟨⟨mP (k2.get0 b1) 1 0,mP (k2.get0 b1) 1 1,mP (k2.get0 b1) 1 2⟩,?_⟩
  refine xt (x.k0,x.k1,x.mask) _ ?_;unfold tH ao yM tK kW;refine aL fun h3 b3 k3=>ag.2 ⟨_,vc b3 0,_,vc b3 1,_,vc b3 2,?_⟩
  have k03:=(k1.tr k2).tr k3;refine JY 13 (al _) (sw:=⟨none,0,0⟩) (way:= []) (TrieAt.upd0 k03 t) (tb.upd k03 id) (Sl.nil Qn) (al _) rfl (fun p _ i c hc=>by simp at hc) hr hn fun h4 k4=>?_
  exact hk h4 (k03.tr k4)
 ·refine au.2 ⟨_,vc b1 5,Ld (t.upd0 k1) (hk h1 k1)⟩
end Go.Proofs
namespace Go.Proofs
open Go Go.Lift
theorem F9:∀{x y:List UInt8} {i:Nat} {a b:UInt8},(∀j,j<i→x[j]? =y[j]?)→x[i]? =some a→y[i]? =some b→a≠b→Op.bytesLess x y=decide (a.toNat<b.toNat)
 | [],_,_,_,_,_,h,_,_=>by simp at h
 |_::_,[],_,_,_,_,_,h,_=>by simp at h
 |c::x,d::y,0,a,b,_,h1,h2,hne=>by
  simp only[cB,bK.injEq]at h1 h2;subst h1 h2;simp only[Op.bytesLess];rw[beq_false_of_ne hne];simp[UInt8.lt_iff_toNat_lt]
 |c::x,d::y,i+1,a,b,he,h1,h2,hne=>by
  have e:=he 0 (by omega);simp only[cB,bK.injEq]at e;subst e;simp only[List.getElem?_cons_succ]at h1 h2;simp only[Op.bytesLess];rw[F9 (i:=i) (fun j hj=>by simpa using he (j+1) (by omega)) h1 h2 hne]
  simp[UInt8.lt_irrefl]
theorem F8:∀{x y:List UInt8} {i:Nat},(∀j,j<i→x[j]? =y[j]?)→i≤x.length→i≤y.length→(i=x.length∨i=y.length)→Op.bytesLess x y=decide (x.length<y.length)
 | [],[],_,_,_,_,_=>by simp[Op.bytesLess]
 | [],_::_,_,_,_,_,_=>by simp[Op.bytesLess]
 |_::_,[],_,_,_,_,_=>by simp[Op.bytesLess]
 |c::x,d::y,0,_,_,_,h=>by simp at h
 |c::x,d::y,i+1,he,h1,h2,h3=>by
  have e:=he 0 (by omega);simp only[cB,bK.injEq]at e;subst e;simp only[Op.bytesLess];rw[F8 (i:=i) (fun j hj=>by simpa using he (j+1) (by omega)) (by simpa using h1) (by simpa using h2) (by simpa using h3)]
  simp[UInt8.lt_irrefl]
theorem Ja{a b:ByteArray}(ha:a.size≤1000000){h:ad}{K:Bool→ad→Prop}(hk:K (decide (kl a b)) h):HC PG uJ [.string a,.string b] [.c .bool] K h:=by
 refine MD a b ?_;unfold ED;have la:a.data.toList.length=a.size:=by simp
 have lb:b.data.toList.length=b.size:=by simp
 have hkl:∀{p:Prop} [Decidable p],Op.bytesLess a.data.toList b.data.toList=decide p→K (decide p) h:=fun{p} _ e=>by
  have:decide (kl a b)=decide p:=by
   rw[←e,←ByteArray.toList_eq,←ByteArray.toList_eq];exact Bool.eq_iff_iff.2 (by rw[decide_eq_true_iff];exact uZ)
  rw[←this];exact hk
 refine LoopP.ghost (fun(i:Nat) (t:Int) h'=>t=(i:Int)∧i≤a.size∧i≤b.size∧h'=h∧∀j,j<i→a.data.toList[j]? =b.data.toList[j]?) (fun i=>a.size-i) 0 ⟨rfl,aP _,aP _,rfl,fun j hj=>absurd hj (Nat.not_lt_zero _)⟩ ?_
 rintro I i t h' ⟨rfl,hia,hib,rfl,he⟩ hI;refine Join.intro (fun t h2=>t=decide (i<a.size∧i<b.size)∧h2=h') (fun R hR=>?_) ?_
 ·refine ay (fun hlt=>hR _ _ ⟨?_,rfl⟩) fun hge=>hR _ _ ⟨?_,rfl⟩
  ·rw[decide_eq_decide];omega
  ·rw[eq_comm,decide_eq_false_iff_not];omega
 ·rintro t h2 ⟨rfl,rfl⟩
  refine ay (fun hlt=>?_) fun hge=>?_
  ·have e1:a.data.toList[i]? =some a[i]:=by rw[←JH,getElem?_pos a i hlt.1]
   have e2:b.data.toList[i]? =some b[i]:=by rw[←JH,getElem?_pos b i hlt.2]
   refine⟨a[i],by omega,by rw[aJ,getElem?_pos a i hlt.1],b[i],by omega,by rw[aJ,getElem?_pos b i hlt.2],?_⟩
   refine CondP.intro (fun hne=>?_) fun heq=>?_
   ·refine⟨a[i],by omega,by rw[aJ,getElem?_pos a i hlt.1],b[i],by omega,by rw[aJ,getElem?_pos b i hlt.2],?_⟩
    refine hkl ?_;rw[F9 he e1 e2 fun e=>by rw[e]at hne;simp at hne]
    rw[decide_eq_decide];omega
   ·have heq:a[i]=b[i]:=by
     have:((a[i].toNat:Int))=(b[i].toNat:Int):=by simpa using heq
     exact UInt8.toNat_inj.1 (by omega)
    rw[co hlt.1 (by omega)];refine hI (i+1) _ _ ⟨rfl,by omega,by omega,rfl,fun j hj=>?_⟩ (by omega)
    rcases Nat.lt_or_ge j i with hl|hl
    ·exact he j hl
    ·have:j=i:=by omega
     subst this;rw[e1,e2,heq]
  ·refine hkl ?_
   rw[F8 he (by omega) (by omega) (by omega),decide_eq_decide];omega
theorem Jc{W:Nat→Prop}{h:ad}{s:SliceV}{l:List Pr}(hs:Sl eJ 2 W h s l)(hn:l.length≤1000000)(k:ByteArray){K:SliceV→ad→Prop}
  (hk:∀s' h',OwnS eJ 2 bU (fun y=>h.size≤y) h' s' (l.filter fun p=>decide (p.1≠k))→Upd No h h'→K s' h'):HC PG uK [.slice s.a s.len s.cap,.string k] [.c .slice] K h:=by
 refine MF s k ?_;unfold EF cD aQ nv jN gZ aw;have hlen:=hs.len;refine LoopP.ghost (fun(i:Nat) (t:SliceV×Int) h'=>t.2=(i:Int)∧i≤l.length∧OwnS eJ 2 bU (fun y=>h.size≤y) h' t.1 ((l.take i).filter fun p=>decide (p.1≠k))∧Upd No h h') (fun i=>l.length-i) 0 ⟨rfl,aP _,by simpa using OwnS.nil ig,Upd.refl _ _⟩ ?_
 rintro I i ⟨so,ti⟩ h' ⟨e1,hi,ho,hu⟩ hI;simp only at e1 ho;subst e1;refine ay (fun hlt=>?_) fun hge=>?_
 ·have hlt:i<l.length:=by have:(i:Int)<(s.len:Int):=hlt;omega
  obtain⟨a,ha,_,hv⟩:=(hs.upd hu fun _ h=>h.elim).at (af hlt)
  have htl:((l.take i).filter fun p=>decide (p.1≠k)).length≤l.length:=aY (fH ..) (by rw[aK];omega)
  refine Join.intro (fun t h2=>OwnS eJ 2 bU (fun y=>h.size≤y) h2 t ((l.take (i+1)).filter fun p=>decide (p.1≠k))∧Upd No h h2) (fun R hR=>⟨⟨by simp only;omega,by simp only;omega⟩,a,ha,l[i].1,hv 0 _ rfl,l[i].2,hv 1 _ rfl,?_⟩) ?_
  ·refine qD (p:=l[i]) fun h2 b2 k2=>⟨_,vc b2 0,?_⟩
   have ho2:=ho.upd k2 fun _ _ h=>h
   rw[bH hlt,List.filter_append,cC,List.filter_nil]at hR;rw[iv];by_cases e:l[i].1=k
   ·rw[decide_eq_true e]
    rw[decide_eq_false (not_not_intro e)]at hR;rw[if_neg (by simp),aZ]at hR;exact ag.2 (hR _ _ ⟨ho2,hu.tr k2⟩)
   ·rw[decide_eq_false e]
    rw[decide_eq_true e,if_pos rfl]at hR;refine au.2 ⟨_,vc b2 0,_,vc b2 1,bo ?_⟩;refine wg (p:=l[i]) ho2 (fun y hy=>aY (hu.tr k2).size hy) (aY (Nat.add_le_add_right htl 1) (by omega)) fun s3 h3 ho3 hu3=>hR _ _ ⟨ho3,(hu.tr k2).trans hu3 fun y hy=>.inr hy⟩
  ·rintro t h2 ⟨ho2,hu2⟩
   rw[co hlt (by omega)];exact hI (i+1) _ _ ⟨rfl,hlt,ho2,hu2⟩ (by omega)
 ·have hil:i=l.length:=by have:¬(i:Int)<(s.len:Int):=hge;omega
  rw[bA (by omega)]at ho;exact hk _ _ ho hu
theorem Sc{W:Nat→Prop}{h:ad}{s:SliceV}{l:List Pr}(hs:Sl eJ 2 W h s l)(hr:cl l)(hn:l.length≤1000000)(p:Pr)(hp:p.1.size≤1000000){K:SliceV→ad→Prop}
  (hk:∀s' h',OwnS eJ 2 bU (fun y=>h.size≤y) h' s' (is p l)→Upd No h h'→K s' h'):HC PG A4 [.slice s.a s.len s.cap,.agg #[.string p.1,.string p.2]] [.c .slice] K h:=by
 refine Pf s p ?_;unfold GF cD aQ nv yR jN gZ aw rM;refine aL fun h1 b1 k1=>⟨p.1,vc b1 0,?_⟩
 refine Jc (hs.upd k1 fun _ h=>h.elim) hn p.1 fun s4 h4 ho4 k4=>?_
 rw[←Gh hr]at hk;have hrf:cl (l.filter fun q=>decide (q.1≠p.1)):=hr.sublist List.filter_sublist
 have hnl:(l.filter fun q=>decide (q.1≠p.1)).length≤1000000:=aY (fH ..) hn
 have hne:∀q∈l.filter fun q=>decide (q.1≠p.1),q.1≠p.1:=fun q hq=>of_decide_eq_true (d8.1 hq).2
 generalize l.filter (fun q=>decide (q.1≠p.1))=L at hk ho4 hrf hnl hne
 have k04:=k1.tr k4;have hs4:Sl eJ 2 No h4 s4 L:=ho4.sl fun _ _ _ h=>h
 have hlen:=hs4.len;have z4:=k04.size;refine LoopP.ghost (fun(g:Nat×Bool) (t:SliceV×Bool×Int) h'=>t.2.2=(g.1:Int)∧t.2.1=g.2∧g.1≤L.length∧(∃out,OwnS eJ 2 bU (fun y=>h4.size≤y) h' t.1 out∧out.length≤g.1+1∧(g.2=false→out=L.take g.1∧∀q∈L.take g.1,kl q.1 p.1)∧(g.2=true→out=is p (L.take g.1)∧∃q∈L.take g.1,kl p.1 q.1))∧Upd No h4 h') (fun g=>L.length-g.1) (0,false) ⟨rfl,rfl,aP _,⟨[],OwnS.nil ig,by simp,fun _=>⟨by simp,by simp⟩,fun h=>by cases h⟩,Upd.refl _ _⟩ ?_
 rintro I ⟨i,pl⟩ ⟨so,tp,ti⟩ h' ⟨e1,e2,hi,⟨out,ho,hol,hf,ht⟩,hu⟩ hI;simp only at e1 e2 hi ho hol hf ht;subst e1 e2;have b':=hu.get0 (k4.get0 b1);refine ay (fun hlt=>?_) fun hge=>?_
 ·have hlt:i<L.length:=by have:(i:Int)<(s4.len:Int):=hlt;omega
  obtain⟨a,ha,_,hv⟩:=(hs4.upd hu fun _ h=>h.elim).at (af hlt)
  have etake:=bH hlt;have hmem:L[i]∈L:=aU hlt;refine Join.intro (fun t h2=>(∃out,OwnS eJ 2 bU (fun y=>h4.size≤y) h2 t.1 out∧out.length≤i+1+1∧(t.2=false→out=L.take (i+1)∧∀q∈L.take (i+1),kl q.1 p.1)∧(t.2=true→out=is p (L.take (i+1))∧∃q∈L.take (i+1),kl p.1 q.1))∧Upd No h4 h2) (fun R hR=>⟨⟨by simp only;omega,by simp only;omega⟩,a,ha,L[i].1,hv 0 _ rfl,L[i].2,hv 1 _ rfl,?_⟩) ?_
  ·refine qD (p:=L[i]) fun h2 b2 k2=>?_
   have ho2:=ho.upd k2 fun _ _ h=>h
   have hu2:=hu.tr k2;have zb:=bh b2;have z2:=hu.size;have hoM:=(ho.within.upd k2 fun _ _ h=>h).more (M':=fun y=>(h4.size≤y∧y<h'.size)∨h2.size≤y) fun y hy=>.inl hy
   have c2:=k2.get0 b';refine Join.intro (fun t h3=>(∃out,OwnS eJ 2 bU (fun y=>h4.size≤y) h3 t.1 out∧out.length≤i+1∧(t.2=false→out=L.take i∧∀q∈L.take (i+1),kl q.1 p.1)∧(t.2=true→out++ [L[i]]=is p (L.take (i+1))∧∃q∈L.take (i+1),kl p.1 q.1))∧h3[h'.size]? =some (.cells #[.string L[i].1,.string L[i].2] bU (0,0))∧Upd No h4 h3) (fun R2 hR2=>?_) ?_
   ·refine Join.intro (fun t h3=>t=(!tp&&decide (kl p.1 L[i].1))∧h3=h2) (fun R3 hR3=>?_) ?_
    ·cases tp with
     |false=>exact au.2 ⟨p.1,vc c2 0,L[i].1,vc b2 0,Ja hp (hR3 _ _ ⟨by simp,rfl⟩)⟩
     |true=>exact ag.2 (hR3 _ _ ⟨by simp,rfl⟩)
    ·rintro t h3 ⟨rfl,rfl⟩
     cases tp with
     |true=>
      obtain⟨e,q,hq,hkq⟩:=ht rfl;refine ag.2 (hR2 _ _ ⟨⟨out,ho2,hol,fun h=>(by cases h),fun _=>?_⟩,b2,hu2⟩)
      rw[etake,e];exact⟨(JD ⟨q,hq,hkq⟩).symm,q,List.mem_append_left _ hq,hkq⟩
     |false=>
      obtain⟨e,hall⟩:=hf rfl;subst e;by_cases hkl:kl p.1 L[i].1
      ·rw[decide_eq_true hkl]
       refine au.2 ⟨p.1,vc c2 0,p.2,vc c2 1,bo ?_⟩;refine wg (p:=p) hoM (fun y hy=>.inr hy) (by rw[aK];omega) fun s5 h5 ho5 hu5=>hR2 _ _ ⟨⟨_,ho5.more (fun y hy=>by rcases hy with hy|hy<;>omega),by rw[ae,aK,aD];omega,fun h=>(by cases h),fun _=>?_⟩,hu5.get b2 (by rintro(hx|hx)<;>omega),hu2.trans hu5 fun y hy=>.inr (by rcases hy with hy|hy<;>omega)⟩
       ·rw[etake,DL hall]
        refine⟨?_,L[i],List.mem_append_right _ (ax.2 rfl),hkl⟩;rw[List.append_assoc,JB (l:= [L[i]]) fun q hq=>by rw[ax.1 hq];exact hkl]
        rfl
      ·rw[decide_eq_false hkl]
       have hq:kl L[i].1 p.1:=qn hkl fun e=>hne _ hmem e.symm
       refine ag.2 (hR2 _ _ ⟨⟨_,ho2,by rw[aK];omega,fun _=>⟨rfl,fun q hq'=>?_⟩,fun h=>(by cases h)⟩,b2,hu2⟩)
       rw[etake]at hq';rcases bL.1 hq' with h|h
       ·exact hall q h
       ·rw[ax.1 h];exact hq
   ·rintro⟨t1,t2⟩ h3 ⟨⟨out3,ho3,hol3,hf3,ht3⟩,b3,hu3⟩
    simp only at ho3 hf3 ht3;refine⟨_,vc b3 0,_,vc b3 1,bo ?_⟩;refine wg (p:=L[i]) ho3 (fun y hy=>aY hu3.size hy) (by omega) fun s5 h5 ho5 hu5=>hR _ _ ⟨⟨_,ho5,by rw[ae,aD];omega,fun h=>?_,fun h=>ht3 h⟩,hu3.trans hu5 fun y hy=>.inr hy⟩
    obtain⟨e,hall⟩:=hf3 h;exact⟨by rw[e,etake],hall⟩
  ·rintro⟨t1,t2⟩ h2 ⟨ho2,hu2⟩
   rw[co hlt (by omega)];exact hI (i+1,t2) _ _ ⟨rfl,rfl,hlt,ho2,hu2⟩ (by simp only;omega)
 ·have hil:i=L.length:=by have:¬(i:Int)<(s4.len:Int):=hge;omega
  subst hil;rw[List.take_length]at hf ht;cases tp with
  |true=>
   obtain⟨e,_⟩:=ht rfl;subst e;exact ag.2 (hk _ _ (ho.more fun y hy=>aY z4 hy) (k04.tr hu))
  |false=>
   obtain⟨e,hall⟩:=hf rfl;subst e;refine au.2 ⟨p.1,vc b' 0,p.2,vc b' 1,bo ?_⟩;refine wg (p:=p) ho (fun y hy=>aY hu.size hy) (by omega) fun s5 h5 ho5 hu5=>hk _ _ ?_ ((k04.tr hu).trans hu5 fun y hy=>.inr (aY z4 hy))
   have:=DL (p:=p) (A:=out) (B:= []) hall;rw[aZ]at this;rw[this];exact ho5.more fun y hy=>aY z4 hy
end Go.Proofs
namespace Go.Proofs
open Go Go.Lift
abbrev Rt:=Int×Int×Int×Int×SliceV
abbrev tf(r:Rt):List Value:= [.int .i64 r.1,.int .u64 r.2.1,.int .u64 r.2.2.1,.int .u64 r.2.2.2.1,.slice r.2.2.2.2.a r.2.2.2.2.len r.2.2.2.2.cap]
abbrev Uh(r:Rt):Value:=.agg #[.int .i64 r.1,.int .u64 r.2.1,.int .u64 r.2.2.1,.int .u64 r.2.2.2.1,.slice r.2.2.2.2.a r.2.2.2.2.len r.2.2.2.2.cap]
abbrev Lh:Rt:=(0,0,0,0,⟨none,0,0⟩)
def hx(kind v:Int):Int:=if kind=0 then v else 0
def RefIs(W:Nat→Prop)(h:ad)(kind:Int)(x:Hs)(r:Rt)(l:List Pr):Prop:=∃s,r=(kind,hx kind x.k0,hx kind x.k1,hx kind x.mask,s)∧Sl eJ 2 W h s l∧s.len≤s.cap
theorem RefIs.upd0{W:Nat→Prop}{h h':ad}{kind:Int}{x:Hs}{r:Rt}{l:List Pr}(k:Upd No h h')(i:RefIs W h kind x r l):RefIs W h' kind x r l:=
 let⟨s,e,hs⟩:=i;⟨s,e,hs.1.upd k fun _ h=>h.elim,hs.2⟩
theorem RefIs.less{W W':Nat→Prop}{h:ad}(hm:∀b,W' b→W b∨h.size≤b){kind:Int}{x:Hs}{r:Rt}{l:List Pr}(i:RefIs W h kind x r l):RefIs W' h kind x r l:=
 let⟨s,e,hs⟩:=i;⟨s,e,hs.1.less hm,hs.2⟩
theorem RefIs.updM{W M:Nat→Prop}{h h':ad}(k:Upd M h h')(hm:∀b,M b→W b∨h.size≤b){kind:Int}{x:Hs}{r:Rt}{l:List Pr}(i:RefIs W h kind x r l):RefIs W h' kind x r l:=
 let⟨s,e,hs⟩:=i;⟨s,e,hs.1.upd k hm,hs.2⟩
theorem Se{W:Nat→Prop}{x:Hs}{h:ad}{kind:Int}(hkd:kind=0∨kind=1){K:Rt×Int→ad→Prop}(hk:∀h' r,RefIs W h' kind x r []→Upd No h h'→K (r,0) h'):HC PG wN [.int .i64 kind,.agg #[.int .u64 x.k0,.int .u64 x.k1,.int .u64 x.mask]] [.agg [.int .i64,.int .u64,.int .u64,.int .u64,.slice],.c (.int .i64)] K h:=by
 refine GC kind (x.k0,x.k1,x.mask) ?_;unfold Bs bj ao dI fj yM Ik;refine aL fun h1 b1 k1=>aL fun h2 b2 k2=>?_
 have c1:=k2.get0 b1;have s1:=k1.size;have k02:=k1.tr k2;rcases hkd with rfl|rfl
 ·refine au.2 ⟨_,vc c1 0,_,vc c1 1,_,vc c1 2,?_⟩
  refine db (c:=tf Lh) (vs:=tf (0,x.k0,x.k1,x.mask,⟨none,0,0⟩)) b2 rfl fun h4 b4 hu4=>?_
  exact⟨_,vc b4 0,_,vc b4 1,_,vc b4 2,_,vc b4 3,⟨none,0,0⟩,vc b4 4,hk h4 (0,x.k0,x.k1,x.mask,⟨none,0,0⟩) ⟨_,rfl,Sl.nil ig,al _⟩ (k02.own hu4 s1)⟩
 ·refine ag.2 (au.2 ?_)
  refine db (c:=tf Lh) (vs:=tf (1,0,0,0,⟨none,0,0⟩)) b2 rfl fun h4 b4 hu4=>?_
  exact⟨_,vc b4 0,_,vc b4 1,_,vc b4 2,_,vc b4 3,⟨none,0,0⟩,vc b4 4,hk h4 (1,0,0,0,⟨none,0,0⟩) ⟨_,rfl,Sl.nil ig,al _⟩ (k02.own hu4 s1)⟩
theorem Ox{k v:ByteArray}(h1:k.size≤256)(h2:v.size≤4096){h:ad}{K:Int→ad→Prop}(hk:K 0 h):HC PG r7 [.string k,.string v] [.c (.int .i64)] K h:=by
 refine BX k v ?_;unfold ww;refine ay (fun h=>absurd h (by omega)) fun _=>ay (fun h=>absurd h (by omega)) fun _=>hk
theorem Qa{W:Nat→Prop}{x:Hs}{h:ad}{kind:Int}{r:Rt}{l:List Pr}(i:RefIs W h kind x r l)(hW:∀y,W y→y<h.size)(hr:cl l)(hn:l.length≤1000000)(p:Pr)(hp1:p.1.size≤256)(hp2:p.2.size≤4096){K:Rt×Int→ad→Prop}
  (hk:∀h' r',RefIs W h' kind x r' (is p l)→Upd No h h'→K (r',0) h'):HC PG uF [Uh r,.agg #[.string p.1,.string p.2]] [.agg [.int .i64,.int .u64,.int .u64,.int .u64,.slice],.c (.int .i64)] K h:=by
 refine El r p ?_;unfold yE bj ao dI fj Ik OD M4 pn gZ cd aw cT rM;refine aL fun h1 b1 k1=>aL fun h2 b2 k2=>aL fun h3 b3 k3=>?_
 have z1:=bh b1;have z2:=bh b2;have z3:=bh b3;have s1:h.size≤h1.size:=k1.size;have s2:h1.size≤h2.size:=k2.size;have s3:=k3.size;have k03:=(k1.tr k2).tr k3;have v1:=k3.get0 (k2.get0 b1);have v2:=k3.get0 b2;obtain⟨s,rfl,hs,_⟩:=i;refine⟨_,vc v2 0,_,vc v2 1,Ox hp1 hp2 (ag.2 ?_)⟩;refine⟨s,vc v1 4,p.1,vc v2 0,p.2,vc v2 1,?_⟩;refine Sc (hs.upd k03 fun _ h=>h.elim) hr hn p (by omega) fun s4 h4 ho4 hu4=>?_
 refine rO (i:=4) (c':=(tf (kind,hx kind x.k0,hx kind x.k1,hx kind x.mask,s4)).toArray) (hu4.get0 v1) (show 4<5 by decide) rfl fun h5 v5 hu5=>?_
 refine⟨_,vc v5 0,_,vc v5 1,_,vc v5 2,_,vc v5 3,s4,vc v5 4,?_⟩;refine db (c:=tf Lh) (vs:=tf (kind,hx kind x.k0,hx kind x.k1,hx kind x.mask,s4)) (hu5.oth (hu4.get0 b3) (by omega)) rfl fun h6 v6 hu6=>?_
 refine⟨_,vc v6 0,_,vc v6 1,_,vc v6 2,_,vc v6 3,s4,vc v6 4,?_⟩;have ho6:=(ho4.upd hu5 fun y hy e=>by have e:y=h.size:=e;omega).upd hu6 fun y hy e=>by have e:y=h2.size:=e;omega
 refine hk h6 (kind,hx kind x.k0,hx kind x.k1,hx kind x.mask,s4) ⟨s4,rfl,ho6.sl fun y hy _ hw=>by have:=hW y hw;omega,ho6.cap⟩ (((k03.tr hu4).own hu5 (al _)).own hu6 (by omega))
theorem Ho{x:Hs}{h:ad}{K:Int×Int×Int→ad→Prop}(hk:∀h',Upd No h h'→K (x.k0,x.k1,x.mask) h'):HC PG wP [.agg #[.int .u64 x.k0,.int .u64 x.k1,.int .u64 x.mask]] [.agg [.int .u64,.int .u64,.int .u64]] K h:=by
 refine Pi (x.k0,x.k1,x.mask) ?_;unfold GI ao cP fj yM U0 U3;refine aL fun h1 b1 k1=>aL fun h2 b2 k2=>?_
 have c1:=k2.get0 b1;refine⟨_,mP c1 0 0,_,mP c1 0 1,_,vc c1 2,?_⟩;refine db (c:= [.int .u64 0,.int .u64 0,.int .u64 0]) (vs:= [.int .u64 x.k0,.int .u64 x.k1,.int .u64 x.mask]) b2 rfl fun h4 b4 hu4=>?_
 exact⟨_,vc b4 0,_,vc b4 1,_,vc b4 2,hk h4 ((k1.tr k2).own hu4 k1.size)⟩
end Go.Proofs
namespace Go.Proofs
open Go Go.Lift
theorem N5{kind:Int}{x:Hs}{l:List Pr}{xs:List UInt8}(hv:Eh kind x l xs)(hf:Fit l)(hn:l.length≤60000):xs.length≤100000000000:=by
 rcases hv with⟨_,rfl⟩|⟨_,ys,hr,rfl⟩
 ·have h1:=lL (x:=x) 13 hf
  have h2:l.length*(20004+9*(13+1))≤60000*(20004+9*(13+1)):=ce _ hn;rw[az];omega
 ·have h1:=y4 hr hf
  rw[az];omega
theorem Ow{W:Nat→Prop}{x:Hs}{h:ad}{kind:Int}{r:Rt}{l:List Pr}(hkd:kind=0∨kind=1)(i:RefIs W h kind x r l)(hr:cl l)(hf:Fit l)(hn:l.length≤60000){K:SliceV→ad→Prop}
  (hk:∀s' h' xs,OwnS nf 1 cy (fun y=>h.size≤y) h' s' xs→Eh kind x l xs→Upd No h h'→K s' h'):HC PG vV [Uh r] [.c .slice] K h:=by
 refine Kf r ?_;unfold B6 bj cP dI tK OD un;obtain⟨s,rfl,hs,hc⟩:=i;have hs:=hs.less (W':=No) fun _ h=>h.elim
 refine aL fun h1 b1 k1=>⟨_,vc b1 0,?_⟩
 have s1:=k1.size;rcases hkd with rfl|rfl
 ·refine ag.2 (aL fun h3 b3 k3=>⟨_,mP (k3.get0 b1) 1 0,_,mP (k3.get0 b1) 1 1,_,mP (k3.get0 b1) 1 2,s,vc (k3.get0 b1) 4,?_⟩)
  have ob:=uP (b:=0) b3;have u3:=k1.tr k3;have e0:∀v,hx 0 v=v:=fun v=>if_pos rfl
  simp only[e0];refine Qb (x:=x) (hs.upd u3 fun _ h=>h.elim) hn (fun p hp=>by have:=hf p hp;omega) fun h4 b td k4=>?_
  have s3:=k3.size;have s4:=k4.size;refine Sf 13 (al _) td hf hn fun s5 h5 ho5 k5=>?_
  have s5':=k5.size;have hlen:=lL (x:=x) 13 hf;have h2:l.length*(20004+9*(13+1))≤60000*(20004+9*(13+1)):=ce _ hn;refine wh (M:=fun y=>h1.size≤y) ((ob.upd k4 fun _ _ h=>h).upd k5 fun _ _ h=>h) (ho5.sl (W:=No) fun _ _ _ h=>h) (fun y hy=>by show h1.size≤y;omega) (by simp;omega) fun s6 h6 ho6 k6=>?_
  exact hk s6 h6 _ (ho6.more fun y hy=>aY s1 hy) (.inl ⟨rfl,rfl⟩) (((u3.tr k4).tr k5).trans k6 fun y hy=>.inr (aY s1 hy))
 ·refine au.2 (aL fun h3 b3 k3=>⟨s,vc (k3.get0 b1) 4,?_⟩)
  have ob:=uP (b:=1) b3;have u3:=k1.tr k3;refine Sb (hs.upd u3 fun _ h=>h.elim) hc hr hn (fun p hp=>by have:=hf p hp;have:=LR p.1;show(ky p).length≤_;unfold ky;omega) fun h4 b w F dx hcF hpr k4=>?_
  have s3:=k3.size;have s4:=k4.size;obtain⟨hfit,hw⟩:=vO hcF hpr hf;have hrv:Mm l (ie ([],w,F)):=⟨w,F,hcF,hpr,rfl⟩;have hlen:=y4 hrv hf;refine NH (lab:= []) (by simp) hw (ju hcF) (D1 hfit) dx rfl (by omega) fun s5 h5 ho5 k5=>?_
  have s5':=k5.size;refine wh (M:=fun y=>h1.size≤y) ((ob.upd k4 fun _ _ h=>h).upd k5 fun _ _ h=>h) (ho5.sl (W:=No) fun _ _ _ h=>h) (fun y hy=>by show h1.size≤y;omega) (by simp;omega) fun s6 h6 ho6 k6=>?_
  exact hk s6 h6 _ (ho6.more fun y hy=>aY s1 hy) (.inr ⟨rfl,_,hrv,rfl⟩) (((u3.tr k4).tr k5).trans k6 fun y hy=>.inr (aY s1 hy))
end Go.Proofs
namespace Go.Proofs
open Go.Lift
abbrev Ch:=ByteArray×ByteArray×ByteArray×Bool×Bool
abbrev Vw(c:Ch):List Value:= [.string c.1,.string c.2.1,.string c.2.2.1,.bool c.2.2.2.1,.bool c.2.2.2.2]
end Go.Proofs
namespace Go.Proofs
open Go Go.Lift
end Go.Proofs
namespace Go.Proofs
open Go Go.Lift
end Go.Proofs
namespace Go.Proofs
open Go Go.Lift
end Go.Proofs
namespace Go.Proofs
open Go Go.Lift
theorem Lz{h:ad}{b:Nat}{c:Array Value}{t:TypeId}(hb:h[b]? =some (.cells c t (0,0))) (hc:0<c.size):gS h ⟨b,0,none⟩:=⟨c,t,hb,hc⟩
theorem TrieAt.plain{W:Nat→Prop}{x:Hs}{h:ad}:∀{m b:Nat} {l:List Pr},TrieAt W x h m b l→gS h ⟨b,0,none⟩
 |0,_,_,t=>by obtain⟨_,_,_,hb,_⟩:=BuckAt.ex t;exact Lz hb (by simp[ft])
 |m+1,_,_,⟨s,nd,_⟩=>by obtain⟨_,_,_,_,_,hb,_⟩:=nd.ex;exact Lz hb (by simp[ft])
end Go.Proofs
namespace Go.Proofs
open Go Go.Lift
end Go.Proofs
namespace Go.Proofs
open Go Go.Lift
theorem RxN.plain{W:Nat→Prop}{h:ad}{b:Nat}{sl:ByteArray}{w:Option ByteArray}{F:Fo}(r:RxN W h b sl w F):gS h ⟨b,0,none⟩:=by
 obtain⟨val,s,ow,ks,hb,_⟩:=r;exact Lz hb (by simp[Ci])
end Go.Proofs
namespace Go.Proofs
open Go Go.Lift
end Go.Proofs
namespace Go.Proofs
open Go Go.Lift
def Vo(a b:Ch):Bool:=decide (kl a.1 b.1)
theorem UT(M:Nat→Prop):Cmp Vo Vw M (fun _=>True) (.func (.func vY) #[] #[]):=by
 refine⟨fun a b h K _ hk=>HV.mk' (Kp a b ?_),fun _ h=>h⟩
 unfold Cd gZ cd aw TM;refine aL fun h1 b1 k1=>aL fun h2 b2 k2=>?_
 refine⟨a.1,vc (k2.get0 b1) 0,b.1,vc b2 0,D3 (hk h2 _ (k1.tr k2) ?_)⟩;unfold E5 Vo;split
 ·rename_i h;rw[decide_eq_true h];rfl
 ·rename_i h
  rw[decide_eq_false h];split<;>rfl
theorem KZ{t:Tr}{h:ad}{K:Int×Int×Int→ad→Prop}(hk:∀h',Upd No h h'→K (t.2.1,t.2.2.1,t.2.2.2.1) h'):HC PG ny [Av t] [.agg [.int .u64,.int .u64,.int .u64]] K h:=by
 refine yp t ?_;unfold rv ao cP fj qY U0 U3;refine aL fun h1 b1 k1=>aL fun h2 b2 k2=>?_
 have c1:=k2.get0 b1;refine⟨_,mP c1 1 0,_,mP c1 1 1,_,mP c1 1 2,?_⟩;refine db (c:= [.int .u64 0,.int .u64 0,.int .u64 0]) (vs:= [.int .u64 t.2.1,.int .u64 t.2.2.1,.int .u64 t.2.2.2.1]) b2 rfl fun h3 b3 hu3=>?_
 exact⟨_,vc b3 0,_,vc b3 1,_,vc b3 2,hk h3 ((k1.tr k2).own hu3 k1.size)⟩
theorem N8{t:Tr}{h:ad}{K:Option Addr→ad→Prop}(hk:∀h',Upd No h h'→K t.2.2.2.2.2 h'):HC PG ot [Av t] [.c .ptr] K h:=by
 refine zM t ?_;unfold sA aI qY;exact aL fun h1 b1 k1=>⟨_,vc b1 5,hk h1 k1⟩
end Go.Proofs
namespace Go.Proofs
open Go Go.Lift
theorem K2{W:Nat→Prop}{x:Hs}{h:ad}{kind:Int}{t:Tr}{l:List Pr}(i:TreeIs W h kind x t l){K:Option Addr→ad→Prop}(hk:∀h' c,Upd No h h'→(!(Option.isNone c))=(kind==0)→K c h'):HC PG fC [Av t] [.c .ptr] K h:=by
 rcases i with⟨rfl,b,rfl,tt⟩|⟨rfl,b,rfl,_⟩
 ·exact AD tt fun h' k=>hk h' _ k rfl
 ·refine oG _ ?_
  unfold lz bj aI qY;exact aL fun h2 b2 k2=>Join.plain ⟨_,vc b2 0,ag.2 (ag.2 ⟨_,vc b2 4,hk h2 _ k2 rfl⟩)⟩
structure TreeC(h:ad)(kind:Int)(x:Hs)(t:Tr)(l:List Pr):Prop where
 kd:kind=0∨kind=1
 f:t.1=kind∧t.2.1=hx kind x.k0∧t.2.2.1=hx kind x.k1∧t.2.2.2.1=hx kind x.mask
 radix:(!(Option.isNone t.2.2.2.2.2))=(kind==1)
 pairs:∀{h':ad},Upd No h h'→∀{K:SliceV→ad→Prop},(∀s' h2,Sl eJ 2 No h2 s' l→Upd No h' h2→K s' h2)→HC PG f9 [Av t] [.c .slice] K h'
 len:∀{h':ad},Upd No h h'→∀{K:Int→ad→Prop},(∀h2,Upd No h' h2→K (l.length:Int) h2)→HC PG ii [Av t] [.c (.int .i64)] K h'
 shape:∀{h':ad},Upd No h h'→∀{K:SliceV→ad→Prop},(∀s' h2 xs,Eh kind x l xs→OwnS nf 1 cy (fun y=>h'.size≤y) h2 s' xs→Upd No h' h2→K s' h2)→HC PG li [Av t] [.c .slice] K h'
 canon:∀{h':ad},Upd No h h'→∀{K:Bool→ad→Prop},(∀h2,Upd No h' h2→K true h2)→HC PG lj [Av t] [.c .bool] K h'
 champ:∀{h':ad},Upd No h h'→∀{K:Option Addr→ad→Prop},(∀h2 c,Upd No h' h2→(!(Option.isNone c))=(kind==0)→K c h2)→HC PG fC [Av t] [.c .ptr] K h'
theorem PO{W:Nat→Prop}{x:Hs}{h:ad}{kind:Int}{t:Tr}{l:List Pr}(tb:Tab h)(i:TreeIs W h kind x t l)(hr:cl l)(hf:Fit l)(hn:l.length≤60000):TreeC h kind x t l where
 kd:=i.imp (fun h=>h.1) fun h=>h.1
 f:=by rcases i with⟨rfl,b,rfl,_⟩|⟨rfl,b,rfl,_⟩<;>simp[hx]
 radix:=by rcases i with⟨rfl,b,rfl,_⟩|⟨rfl,b,rfl,_⟩<;>rfl
 pairs k _ hk:=N9 (W':=No) (i.upd0 k) hr hf hn (fun _ h=>h.elim) hk
 len k _ hk:=RR (i.upd0 k) hr hn hk
 shape k _ hk:=N7 (i.upd0 k) hr hf hn hk
 canon k _ hk:=Oa (i.upd0 k) (tb.upd k id) hr hn hk
 champ k _ hk:=K2 (i.upd0 k) hk
set_option maxHeartbeats 1000000 in
theorem DC{W':Nat→Prop}{x:Hs}{h:ad}{kind:Int}{t:Tr}{r:Rt}{l:List Pr}(i:TreeC h kind x t l)(j:RefIs W' h kind x r l)(hr:cl l)(hf:Fit l)(hn:l.length≤60000){K:Bool→ad→Prop}(hk:∀h',Upd No h h'→K true h'):HC PG rl [Av t,Uh r] [.c .bool] K h:=by
 refine MJ t r ?_;unfold EJ cD bj ao cP aI aQ dI qY Jj OD As Tu Hq cd PH;have hkd:=i.kd;have ht:=i.f;obtain⟨s,er,hs,hc⟩:=j;refine aL fun h1 b1 k1=>aL fun h2 b2 k2=>?_
 have u2:=k1.tr k2;have c1:=k2.get0 b1;rw[er]at b2;have j:RefIs W' h kind x r l:=⟨s,er,hs,hc⟩;subst er;obtain⟨t1,t2,t3,t4⟩:=ht;refine⟨_,vc c1 0,_,vc c1 1,_,vc c1 2,_,vc c1 3,_,vc c1 4,_,vc c1 5,?_⟩;refine i.pairs u2 fun s9 h10 S9 k10=>?_
 have u10:=u2.tr k10;have a10:=k10.get0 c1;have r10:=k10.get0 b2;have l9:=S9.len;have lS:=hs.len;refine Join.intro (fun b h'=>b=false∧Upd No h10 h') (fun R hR'=>?_) ?_
 ·refine⟨_,vc a10 0,_,vc a10 1,_,vc a10 2,_,vc a10 3,_,vc a10 4,_,vc a10 5,_,vc r10 0,?_⟩
  refine IH (t:=t) fun h20 k20=>⟨vc (k20.get0 r10) 0,?_⟩
  have a20:=k20.get0 a10;have r20:=k20.get0 r10;rw[show(t.1 !=kind)=false by rw[t1];simp]
  refine ag.2 ⟨_,vc a20 0,_,vc a20 1,_,vc a20 2,_,vc a20 3,_,vc a20 4,_,vc a20 5,_,mP r20 1 0,_,mP r20 1 1,_,mP r20 1 2,?_⟩;refine KZ (t:=t) fun h31 k31=>?_
  have r31:=k31.get0 r20;refine⟨⟨mP r31 1 0,mP r31 1 1,mP r31 1 2⟩,vc r31 0,?_⟩;refine Ho (x:=⟨t.2.1,t.2.2.1,t.2.2.2.1⟩) fun h33 k33=>?_
  have r33:=k33.get0 r31;have a33:=k33.get0 (k31.get0 a20);refine⟨⟨mP r33 1 0,mP r33 1 1,mP r33 1 2⟩,vc r33 0,?_⟩;rw[t2,t3,t4,show(!((hx kind x.k0==hx kind x.k0)&&((hx kind x.k1==hx kind x.k1)&&((hx kind x.mask==hx kind x.mask)&&true))))=false by simp]
  refine ag.2 ⟨s,vc r33 4,?_⟩;rw[l9,lS,show((l.length:Int) !=(l.length:Int))=false by simp]
  refine ag.2 ⟨_,vc a33 0,_,vc a33 1,_,vc a33 2,_,vc a33 3,_,vc a33 4,_,vc a33 5,?_⟩;have k33':=(k20.tr k31).tr k33;refine i.len (u10.tr k33') fun h42 k42=>?_
  have r42:=k42.get0 r33;have a42:=k42.get0 a33;refine⟨by rw[←lS];exact vc r42 4,⟨mP r42 1 0,mP r42 1 1,mP r42 1 2⟩,vc r42 0,?_⟩;rw[show((l.length:Int) !=(l.length:Int))=false by simp]
  refine ag.2 ⟨_,vc a42 0,_,vc a42 1,_,vc a42 2,_,vc a42 3,_,vc a42 4,_,vc a42 5,_,vc r42 0,_,vc r42 1,_,vc r42 2,_,vc r42 3,s,vc r42 4,?_⟩;have u42:=(u10.tr k33').tr k42;refine i.shape u42 fun s3 h55 xs hv3 ho3 k55=>?_
  have r55:=k55.get0 r42;refine⟨⟨vc r55 0,vc r55 1,vc r55 2,vc r55 3,vc r55 4⟩,by rw[←lS];exact vc r55 4,⟨mP r55 1 0,mP r55 1 1,mP r55 1 2⟩,vc r55 0,?_⟩
  refine Ow hkd (j.upd0 (u42.tr k55)) hr hf hn fun s4 h57 ys ho4 hv4 k57=>?_
  have r57:=k57.get0 r55;refine⟨by rw[←lS];exact vc r57 4,⟨mP r57 1 0,mP r57 1 1,mP r57 1 2⟩,vc r57 0,?_⟩;have exy:xs=ys:=(PN (fun _=>rfl) hv3 hv4 hf hf hn hn hr hr).2 rfl
  subst exy;have hlx:=N5 hv3 hf hn;refine Oy ((ho3.upd k57 fun _ _ h=>h).sl (W:=No) fun _ _ _ h=>h) (ho4.sl (W:=No) fun _ _ _ h=>h) (by omega) ?_
  have a57:=(k55.tr k57).get0 a42;refine⟨by rw[←lS];exact vc r57 4,⟨mP r57 1 0,mP r57 1 1,mP r57 1 2⟩,vc r57 0,ag.2 ⟨_,vc a57 0,_,vc a57 1,_,vc a57 2,_,vc a57 3,_,vc a57 4,_,vc a57 5,?_⟩⟩;have u57:=(u42.tr k55).tr k57;refine i.canon u57 fun h67 k67=>?_
  have r67:=k67.get0 r57;exact⟨by rw[←lS];exact vc r67 4,⟨mP r67 1 0,mP r67 1 1,mP r67 1 2⟩,vc r67 0,hR' _ _ ⟨rfl,((k33'.tr k42).tr (k55.tr k57)).tr k67⟩⟩
 rintro _ h69 ⟨rfl,k69⟩;refine ag.2 ?_;have S69:=S9.upd k69 fun _ h=>h.elim
 have hs69:=hs.upd (u10.tr k69) fun _ h=>h.elim
 refine LoopP.ghost (fun(i:Nat) (t:Int) h'=>t=(i:Int)∧i≤l.length∧Upd No h69 h') (fun i=>l.length-i) 0 ⟨rfl,aP _,Upd.refl _ _⟩ ?_
 rintro I n tn h72 ⟨rfl,hi,hu⟩ hI;have a72:=hu.get0 (k69.get0 a10);have r72:=hu.get0 (k69.get0 r10);refine ay (fun hlt=>?_) fun hge=>?_
 ·have hlt:n<l.length:=by omega
  obtain⟨a,ha,_,hv⟩:=(S69.upd hu fun _ h=>h.elim).at (af hlt)
  obtain⟨a',ha',_,hw⟩:=(hs69.upd hu fun _ h=>h.elim).at (af hlt)
  refine⟨⟨by omega,by omega⟩,a,ha,l[n].1,hv 0 _ rfl,l[n].2,hv 1 _ rfl,s,vc r72 4,⟨by omega,by omega⟩,a',ha',l[n].1,hw 0 _ rfl,l[n].2,hw 1 _ rfl,?_⟩
  rw[show(!((l[n].1.toList==l[n].1.toList)&&((l[n].2.toList==l[n].2.toList)&&true)))=false by simp]
  refine ag.2 ?_;rw[co hlt (by omega)];exact hI (n+1) _ _ ⟨rfl,hlt,hu⟩ (by omega)
 ·have u72:=(u10.tr k69).tr hu
  refine⟨_,vc a72 0,_,vc a72 1,_,vc a72 2,_,vc a72 3,_,vc a72 4,_,vc a72 5,_,vc r72 0,?_⟩;refine i.champ u72 fun h88 c k88 e=>⟨vc (k88.get0 r72) 0,?_⟩
  have a88:=k88.get0 a72;have r88:=k88.get0 r72;rw[e,show((kind==(0:Int))==(kind==(0:Int)))=true by simp]
  refine au.2 ⟨_,vc a88 0,_,vc a88 1,_,vc a88 2,_,vc a88 3,_,vc a88 4,_,vc a88 5,_,vc r88 0,?_⟩;refine N8 (t:=t) fun h97 k97=>⟨vc (k97.get0 r88) 0,vc (k97.get0 r88) 0,?_⟩
  rw[i.radix,show((kind==(1:Int))==(kind==(1:Int)))=true by simp]
  exact hk h97 ((u72.tr k88).tr k97)
theorem OO{W W':Nat→Prop}{x:Hs}{h:ad}{kind:Int}{t:Tr}{r:Rt}{l:List Pr}(tb:Tab h)(i:TreeIs W h kind x t l)(j:RefIs W' h kind x r l)(hr:cl l)(hf:Fit l)(hn:l.length≤60000){K:Bool→ad→Prop}(hk:∀h',Upd No h h'→K true h'):HC PG rl [Av t,Uh r] [.c .bool] K h:=DC (PO tb i hr hf hn) j hr hf hn hk
end Go.Proofs
namespace Go.Proofs
open Go Go.Lift
end Go.Proofs
namespace Go.Proofs
open Go Go.Lift
def nG(k:ByteArray)(l:List Pr):List Pr:=l.filter fun q=>decide (q.1≠k)
theorem wQ(k:ByteArray)(q:Pr)(l:List Pr):nG k (q::l)=if q.1=k then nG k l else q::nG k l:=by
 unfold nG;rw[cC];by_cases h:q.1=k
 ·rw[if_pos h,if_neg (by simpa using h)]
 ·rw[if_neg h,if_pos (by simpa using h)]
theorem wc{k:ByteArray}{l:List Pr}(h:∀q∈l,q.1≠k):nG k l=l:=fA.2 fun q hq=>decide_eq_true (h q hq)
theorem yV{k:ByteArray}{l:List Pr}(h:cg l k=false):∀q∈l,q.1≠k:=fun q hq e=>by
 have:cg l k=true:=cp.2 ⟨q,hq,decide_eq_true e⟩;rw[h]at this;cases this
theorem y9{k:ByteArray}{l:List Pr}(h:∀q∈l,q.1≠k):cg l k=false:=by
 rcases ht:cg l k with _|_
 ·rfl
 ·obtain⟨q,hq,e⟩:=cp.1 ht
  exact absurd (of_decide_eq_true e) (h q hq)
theorem On{k:ByteArray}{l:List Pr}(hr:cl l):cl (nG k l):=hr.sublist List.filter_sublist
theorem Hn{k:ByteArray}{l:List Pr}{p:Pr}:p∈nG k l↔p∈l∧p.1≠k:=by unfold nG;rw[d8,decide_eq_true_iff]
theorem QN{k:ByteArray}{l:List Pr}:(nG k l).length≤l.length:=fH ..
theorem NF{k:ByteArray}:∀{l:List Pr},cl l→l.length≤(nG k l).length+1
 | [],_=>aP _
 |q::l,hr=>by
  have hr:=aW.1 hr;rw[wQ];by_cases h:q.1=k
  ·rw[if_pos h,wc fun r hm e=>by have:=hr.1 r hm;rw[h,e]at this;exact cx _ this];exact al _
  ·rw[if_neg h]
   have:=NF (k:=k) hr.2;simp only[az];omega
theorem NG(k:ByteArray):∀{l:List Pr},cl l→O0 l k=nG k l
 | [],_=>by simp[O0,nG,cg]
 |q::l,hr=>by
  have hr':=hr;have hr:=aW.1 hr;have hpos:ns (q::l) k=if kl q.1 k then ns l k+1 else 0:=by
   unfold ns;rw[List.takeWhile_cons];by_cases h:kl q.1 k
   ·rw[if_pos (by simpa using h),if_pos h];rfl
   ·rw[if_neg (by simpa using h),if_neg h];rfl
  have hth:cg (q::l) k=(decide (q.1=k)||cg l k):=by unfold cg;rw[pU]
  by_cases h:kl q.1 k
  ·have hne:q.1≠k:=fun e=>by rw[e]at h;exact cx _ h
   rw[wQ,if_neg hne,←NG k hr.2];unfold O0;rw[hth,hpos,if_pos h,decide_eq_false hne,Bool.false_or];by_cases ht:cg l k=true
   ·rw[if_pos ht,if_pos ht];rfl
   ·rw[if_neg ht,if_neg ht]
  ·by_cases e:q.1=k
   ·have hno:∀r∈l,r.1≠k:=fun r hm e2=>by have:=hr.1 r hm;rw[e,e2]at this;exact cx _ this
    rw[wQ,if_pos e,wc hno];unfold O0;rw[hth,hpos,if_neg h,decide_eq_true e,Bool.true_or,if_pos rfl];rfl
   ·have hgt:=qn h e
    have hno:∀r∈q::l,r.1≠k:=fun r hm e2=>by
     rcases aC.1 hm with rfl|hm
     ·exact e e2
     ·have:=hr.1 r hm
      rw[e2]at this;exact cx _ (ir hgt this)
    rw[wc hno];unfold O0;rw[y9 hno];rfl
theorem Jl{x:Hs}{lev c:Nat}{k:ByteArray}{l:List Pr}:part x lev c (nG k l)=nG k (part x lev c l):=by
 unfold part nG;rw[List.filter_filter,List.filter_filter];exact List.filter_congr fun p _=>Bool.and_comm ..
theorem OG{x:Hs}{lev c:Nat}{k:ByteArray}{l:List Pr}(h:c≠ck x lev k):part x lev c (nG k l)=part x lev c l:=by
 rw[Jl];exact wc fun q hq e=>h (by rw[←e];exact(kH.1 hq).2.symm)
theorem KS{W:Nat→Prop}{x:Hs}{h h':ad}{m b':Nat}{s s':Slots}{l:List Pr}{k:ByteArray}(hu:Upd No h h')(nd:NodeAt W h' b' s')(hs:∀c,c<32→SlotIs W x h m s c (part x (12-m) c l))
  (hp:∀c,c≠ck x (12-m) k→s'.p c=s.p c∧s'.k c=s.k c)(hi:SlotIs W x h' m s' (ck x (12-m) k) (nG k (part x (12-m) (ck x (12-m) k) l))):TrieAt W x h' (m+1) b' (nG k l):=by
 refine⟨s',nd,fun c hc=>?_⟩
 by_cases e:ck x (12-m) k=c
 ·rw[Jl];subst e;exact hi
 ·rw[OG fun h=>e h.symm]
  have t:=SlotIs.upd0 hu (hs c hc);obtain⟨e1,e2⟩:=hp c fun h=>e h.symm
  unfold SlotIs at t;rw[←e1,←e2]at t;exact t
theorem NC{β:Type}(g:Nat→Option β):∀n,(fm g n).length=((List.range n).map fun c=>(g c).toList.length).sum
 |0=>rfl
 |n+1=>by
  rw[f8,ae,NC g n,List.range_succ,List.map_append,List.sum_append];simp
theorem IM{x:Hs}{lev:Nat}{l:List Pr}(h:∀c,c<32→(part x lev c l).length≤1):(fJ x lev l).length=l.length:=by
 unfold fJ;rw[NC];have e:=qZ x lev l 32;have e2:(l.filter fun p=>decide (ck x lev p.1<32))=l:=fA.2 fun p _=>decide_eq_true (wd x lev p.1)
 rw[e2]at e;rw[←e];refine congrArg List.sum (List.map_congr_left fun c hc=>?_)
 have:=h c (fP.1 hc);match hp:part x lev c l with
 | []=>rfl
 | [p]=>rfl
 |a::b::r=>rw[hp]at this;simp at this
theorem KT{W:Nat→Prop}{x:Hs}{h:ad}{m b:Nat}{l:List Pr}(t:TrieAt W x h m b l)(hn:l.length≤1000000):
  ∃d n sp sk bu ow lp lk,h[b]? =some (.cells (ft d n sp sk bu ow) bD (0,0))∧Sl eJ 2 W h sp lp∧Sl qf 1 W h sk lk∧lp.length≤1000000∧lk.length≤32∧(lp.length+lk.length=1∧n=0↔l.length=1)∧∀p,l= [p]→lp= [p]:=by
 cases m with
 |zero=>
  obtain⟨sp,sk,ow,hb,hsp,hsk,_⟩:=BuckAt.ex t;exact⟨0,0,sp,sk,true,ow,l,[],hb,hsp,hsk,hn,by simp,by simp,fun p e=>e⟩
 |succ m=>
  obtain⟨s,nd,hs⟩:=t;have hs:∀c,c<32→SlotIs W x h m s c (part x (12-m) c l):=hs;obtain⟨d,n,sp,sk,ow,hb,bits,hsp,hsk,_⟩:=nd.ex;have hso:=yX hs;have hl32:=vd (g:=s.p);refine⟨d,n,sp,sk,false,ow,_,_,hb,hsp,hsk,by omega,vd,?_,?_⟩
  ·by_cases hk:∀c,c<32→s.k c=none
   ·have e0:n=0:=Nat.eq_of_testBit_eq fun c=>by
     rw[fX];by_cases hc:c<32
     ·rw[bits.nk c hc,hk c hc];rfl
     ·exact Nat.testBit_lt_two_pow (aR bits.n32 (Nat.pow_le_pow_right (n:=2) (by omega) (by omega:32≤c)))
    have ek:fm s.k 32= []:=by
     unfold fm;rw[List.filterMap_eq_nil_iff];exact fun c hc=>hk c (fP.1 hc)
    have el:(fm s.p 32).length=l.length:=by
     rw[hso];refine IM fun c hc=>?_
     rcases hs c hc with⟨h0,_⟩|⟨p,h0,_⟩|⟨_,_,kb,h2,_⟩
     ·rw[h0];simp
     ·rw[h0];simp
     ·rw[hk c hc]at h2;cases h2
    rw[ek,el,e0];simp
   ·obtain⟨c,hc⟩:=Classical.not_forall.1 hk
    obtain⟨hc,hkc⟩:=Classical.not_imp.1 hc;have hne:n≠0:=fun e0=>by
     have:=bits.nk c hc;rw[e0,fX]at this;cases hkk:s.k c with
     |none=>exact hkc hkk
     |some y=>rw[hkk]at this;cases this
    rcases hs c hc with⟨_,_,h0⟩|⟨p,_,_,h0⟩|⟨h2,_⟩
    ·exact absurd h0 hkc
    ·exact absurd h0 hkc
    ·have:=jn (x:=x) (lev:=12-m) (c:=c) (l:=l)
     constructor
     ·rintro⟨_,e⟩;exact absurd e hne
     ·intro e;omega
  ·rintro p rfl
   rw[hso];have hc:=wd x (12-m) p.1;have el:(fJ x (12-m) [p]).length=1:=IM fun c _=>aY jn (by simp)
   match hq:fJ x (12-m) [p],el with
   | [q],_=>
    have:q∈fJ x (12-m) [p]:=by rw[hq];exact ax.2 rfl
    rw[ax.1 (pv this)]
theorem Sp{h:ad}{b d n:Nat}{sp sk:SliceV}{bu:Bool}{ow:Option Addr}(hb:h[b]? =some (.cells (ft d n sp sk bu ow) bD (0,0))) (hl:sp.len+sk.len≤1000000000) {K:Int→ad→Prop} (hk:K ((sp.len+sk.len:Nat):Int) h):HC PG kI [.pointer (some ⟨b,0,none⟩)] [.c (.int .i64)] K h:=by
 refine vj _ ?_;unfold qw bC;refine ag.2 ⟨_,rfl,sp,eK (i:=2) hb,_,rfl,sk,eK (i:=3) hb,?_⟩;have e:IntKind.wrap .i64 ((sp.len:Int)+(sk.len:Int))=((sp.len+sk.len:Nat):Int):=by rw[gr (by omega)];omega
 rw[e];exact hk
theorem Q9{W:Nat→Prop}{x:Hs}{h:ad}{m b:Nat}{l:List Pr}(t:TrieAt W x h m b l)(hn:l.length≤1000000){K:Pr×Bool→ad→Prop}
  (hk:∀h' p,Upd No h h'→(l.length=1→l= [p])→K (p,decide (l.length=1)) h'):HC PG tA [.pointer (some ⟨b,0,none⟩)] [.agg [.str,.str],.c .bool] K h:=by
 refine Fv _ ?_;unfold xJ cD aQ fj jN gZ cd aw iG;refine aL fun h1 b1 k1=>?_
 have t1:=TrieAt.upd0 k1 t;obtain⟨d,n,sp,sk,bu,ow,lp,lk,hb,hsp,hsk,h1l,h2l,hiff,hone⟩:=KT t1 hn;have l1:=hsp.len;have l2:=hsk.len;refine Join.intro (fun t h'=>t= !decide (l.length=1)∧h'=h1) (fun R hR=>?_) ?_
 ·refine Sp hb (by omega) ?_
  by_cases e:sp.len+sk.len=1
  ·have e2:((sp.len+sk.len:Nat):Int)=1:=by omega
   rw[e2];refine ag.2 (y8 hb (hR _ _ ⟨?_,rfl⟩));by_cases e0:n=0
   ·rw[decide_eq_true (hiff.1 ⟨by omega,e0⟩),e0];rfl
   ·rw[decide_eq_false fun h=>e0 (hiff.2 h).2]
    exact bne_iff_ne.2 (by omega)
  ·have e2:(((sp.len+sk.len:Nat):Int) !=(1:Int))=true:=bne_iff_ne.2 (by omega)
   rw[e2];refine au.2 (hR _ _ ⟨?_,rfl⟩);rw[decide_eq_false fun h=>e (by have:=(hiff.2 h).1;omega)];rfl
 ·rintro _ h' ⟨rfl,rfl⟩
  have b1':h'[h.size]? =some (.cells #[.string GJ.1,.string GJ.2] aj (0,0)):=b1;by_cases e:l.length=1
  ·rw[decide_eq_true e]
   refine ag.2 ?_;refine oo hb hsp (by omega) fun s2 h2 ho2 hu2=>?_
   match l,e,hone with
   | [p],e,hone=>
    have hlp:=hone p rfl;subst hlp;have hlen:=ho2.len;obtain⟨a,ha,_,hv⟩:=(ho2.sl (W:=No) fun _ _ _ h=>h).at (i:=0) (x:=p) rfl
    refine⟨⟨by omega,by simp at hlen;omega⟩,a,ha,p.1,hv 0 _ rfl,p.2,hv 1 _ rfl,?_⟩
    refine BH (p:=p) (hu2.get0 b1') fun h3 b3 hu3=>⟨_,vc b3 0,_,vc b3 1,?_⟩
    have:=hk h3 p ((k1.tr hu2).own hu3 (al _)) fun _=>rfl
    exact this
  ·have:=hk
   rw[decide_eq_false e];rw[decide_eq_false e]at hk;refine au.2 (BH (p:=GJ) b1' fun h3 b3 hu3=>⟨_,vc b3 0,_,vc b3 1,?_⟩)
   exact hk h3 _ (k1.own hu3 (al _)) fun h=>absurd h e
end Go.Proofs
namespace Go.Proofs
open Go Go.Lift
theorem Jo{h:ad}{s:SliceV}{l:List Pr}(hs:Sl eJ 2 No h s l)(hc:s.len≤s.cap)(hr:cl l)(hn:l.length≤1000000000)(k:ByteArray)
  {K:SliceV→ad→Prop}(hk:∀s' h',OwnS eJ 2 aj (fun b=>h.size≤b) h' s' (nG k l)→Upd No h h'→K s' h'):HC PG vW [.slice s.a s.len s.cap,.string k] [.c .slice] K h:=by
 refine Km s k ?_;unfold Cb yR kW;have hlen:=hs.len;refine Hy hs hr hn k fun h2 hu2=>?_
 have hp:=Qi l k;cases ht:cg l k with
 |false=>
  refine au.2 (tT (hs.upd hu2 fun _ h=>h.elim) (by omega) fun s3 h3 ho3 hu3=>?_)
  rw[wc (yV ht)]at hk;exact hk _ _ (ho3.more fun b hb=>aY hu2.size hb) (hu2.tr hu3)
 |true=>
  obtain⟨hlt,_⟩:=Hf hr ht;have ew:IntKind.wrap .i64 ((ns l k:Int)+1)=((ns l k+1:Nat):Int):=by rw[gr (by omega)];omega
  refine ag.2 ?_;simp only;rw[ew];refine⟨by omega,by omega,?_⟩
  simp only[Bd,aJ];refine bo ?_;have hs2:=hs.upd hu2 fun _ h=>h.elim
  have k4:=Upd.hnew No h2 [.slice (aV s.a 0 s.cap 2) (ns l k-0) (s.cap-0),.slice (aV s.a (ns l k+1) s.cap 2) (s.len-(ns l k+1)) (s.cap-(ns l k+1))] dh;have b4:=bW h2 [.slice (aV s.a 0 s.cap 2) (ns l k-0) (s.cap-0),.slice (aV s.a (ns l k+1) s.cap 2) (s.len-(ns l k+1)) (s.cap-(ns l k+1))] dh;have hA:=G4 hs2 (i:=0) (j:=ns l k) (m:=s.cap) (aP _) hp (by omega) (s.cap-0)
  have hC:=G4 hs2 (i:=ns l k+1) (j:=l.length) (m:=s.cap) (by omega) (al _) (by omega) (s.cap-(ns l k+1));rw[←hlen]at hC;rw[List.drop_zero]at hA;rw[bA (by rw[aM];omega)]at hC;have e0:nG k l= [l.take (ns l k-0),l.drop (ns l k+1)].flatten:=by rw[←NG k hr];unfold O0;rw[if_pos ht];simp
  refine Gv (s:=⟨some (aA h2),2,2⟩) (vs:= [⟨aV s.a 0 s.cap 2,ns l k-0,s.cap-0⟩,⟨aV s.a (ns l k+1) s.cap 2,s.len-(ns l k+1),s.cap-(ns l k+1)⟩]) (ls:= [l.take (ns l k-0),l.drop (ns l k+1)])
   ⟨rfl,fun x=>⟨rfl,Nat.one_pos⟩,fun _=>⟨_,rfl,fun h=>h.elim,od b4 fun i v hv=>by simpa[Vh]using hv⟩⟩ ⟨hA.upd k4 fun _ h=>h.elim,hC.upd k4 fun _ h=>h.elim,trivial⟩ ?_ (by simp) fun s5 h5 ho5 hu5=>?_
  ·simp only[List.flatten_cons,List.flatten_nil,ae,aK,aM,List.length_nil];omega
  ·rw[←e0]at ho5
   have hu:=hu2.tr k4;exact hk _ _ (ho5.more fun b hb=>aY hu.size hb) (hu.tr hu5)
theorem Q0{W:Nat→Prop}{h:ad}{b:Nat}{l:List Pr}(bk:BuckAt W h b l)(hW:∀x,W x→x<h.size)(hr:cl l)(hn:l.length≤1000000000)(k:ByteArray){K:Option Addr→ad→Prop}
  (hk:∀h' b',BuckAt W h' b' (nG k l)→Upd No h h'→K (some ⟨b',0,none⟩) h'):
  HC PG pA [.pointer (some ⟨b,0,none⟩),.pointer none,.string k] [.c .ptr] K h:=by
 refine Bm _ none k ?_;unfold uj bC yR cT lI;obtain⟨sp,sk,ow,hb,hsp,hsk,hcp,hck⟩:=bk.ex;refine gi hb (ag.2 ?_);refine Nn bk hn fun h2 s2 t2 b2 hA hB hu2=>?_
 refine⟨_,rfl,s2,eK (i:=2) b2,?_⟩;refine Jo (hA.sl fun _ _ _ h=>h) hA.cap hr hn k fun s3 h3 ho3 hu3=>?_
 have b3:=hu3.get0 b2;refine⟨_,rfl,RB (i:=2) b3 (show 2<6 by decide),E0 (i:=2) (c':=ft 0 0 s3 t2 true none) b3 rfl fun h4 b4 hu4=>?_⟩
 have z2:=bh b2;have ho4:=ho3.upd hu4 fun x hx e=>by have e:x=h.size:=e;omega
 have hB4:=(hB.upd hu3 fun _ _ h=>h).upd hu4 fun x hx e=>by have e:x=h.size:=e;omega
 refine hk h4 h.size ⟨⟨s3,t2,none,b4,ho4.sl fun x hx _ hw=>?_,hB4.sl fun x hx _ hw=>?_,ho3.cap,hB.cap⟩,fun hw=>?_⟩ ((hu2.tr hu3).trans hu4 fun x hx=>.inr ?_)
 ·have:=hW x hw;have:=hu2.size;omega
 ·have:=hW x hw;omega
 ·have:=hW _ hw;omega
 ·have hx:x=h.size:=hx
  omega
theorem JX{W:Nat→Prop}{x:Hs}:∀(m:Nat),m≤13→∀{b:Nat} {l:List Pr} (k:ByteArray) {h:ad},TrieAt W x h m b l→(∀y,W y→y<h.size)→cl l→l.length≤1000000→∀{K:(Option Addr)×Bool→ad→Prop},
  (∀h' b',Upd No h h'→TrieAt W x h' m b' (nG k l)→(cg l k=false→b'=b)→K (some ⟨b',0,none⟩,cg l k) h')→
  HC PG lw [PA x k,.pointer (some ⟨b,0,none⟩),.int .i64 ((13-m:Nat):Int)] [.c .ptr,.c .bool] K h:=by
 intro m;induction m with
 |zero=>
  intro _ b l k h t hW hr hn K hk;have gW:∀{h'},Upd No h h'→∀y,W y→y<h'.size:=fun k y hy=>aR (hW y hy) k.size
  refine su (x.k0,x.k1,x.mask,none,k,g9 x k) (some ⟨b,0,none⟩) ((13-0:Nat):Int) ?_;unfold oM ao aI nv pn jN kq cd un aw rM jR NZ qL xM lJ lh GQ Hg CZ;refine aL fun h1 b1 k1=>?_
  have bk:BuckAt W h1 b l:=BuckAt.upd t k1 fun _ h=>h.elim
  obtain⟨sp,sk,ow,hb,_⟩:=bk.ex;refine gi hb (au.2 ⟨_,vc b1 4,Tc bk hr (by omega) k fun h3 v hu3 hv=>?_⟩)
  have b3:=hu3.get0 b1;cases ht:cg l k with
  |false=>
   rw[ht]at hk;exact au.2 (hk h3 b (k1.tr hu3) (by rw[wc (yV ht)];exact bk.upd hu3 fun _ h=>h.elim) fun _=>rfl)
  |true=>
   rw[ht]at hk;refine ag.2 ⟨none,vc b3 3,_,vc b3 4,?_⟩;refine Q0 (bk.upd hu3 fun _ h=>h.elim) (gW (k1.tr hu3)) hr (by omega) k fun h5 b5 bk5 hu5=>?_
   exact hk h5 b5 ((k1.tr hu3).tr hu5) bk5 fun h=>by cases h
 |succ m ih=>
  intro hm b l k h t hW hr hn K hk;have gW:∀{h'},Upd No h h'→∀y,W y→y<h'.size:=fun k y hy=>aR (hW y hy) k.size
  have hl:13-(m+1)<13:=by omega
  have hlev:13-(m+1)=12-m:=by omega
  refine su (x.k0,x.k1,x.mask,none,k,g9 x k) (some ⟨b,0,none⟩) ((13-(m+1):Nat):Int) ?_;unfold oM ao aI nv pn jN kq cd un aw rM jR NZ qL xM lJ lh GQ Hg CZ;refine aL fun h1 b1 k1=>?_
  have t1:=TrieAt.upd0 k1 t;obtain⟨s,nd1,hs⟩:=t1;have hs:∀c,c<32→SlotIs W x h1 m s c (part x (12-m) c l):=hs;obtain⟨d,n,sp,sk,ow,hb,_⟩:=nd1.ex;refine gi hb (ag.2 ⟨_,vc b1 5,O6 hl ?_⟩);rw[hlev];have hi:=wd x (12-m) k;have hsi:=hs _ hi;have htp:cg (part x (12-m) (ck x (12-m) k) l) k=cg l k:=C5;have hrp:cl (part x (12-m) (ck x (12-m) k) l):=pq hr;have hnp:(part x (12-m) (ck x (12-m) k) l).length≤1000000:=aY jn hn
  have hturn:∀{h':ad} {b':Nat} {s':Slots},Upd No h1 h'→NodeAt W h' b' s'→(∀c,c≠ck x (12-m) k→s'.p c=s.p c∧s'.k c=s.k c)→SlotIs W x h' m s' (ck x (12-m) k) (nG k (part x (12-m) (ck x (12-m) k) l))→TrieAt W x h' (m+1) b' (nG k l):=fun hu nd hp hi=>KS hu nd hs hp hi
  have tt:∀{h':ad},Upd No h1 h'→TrieAt W x h' (m+1) b l:=fun hu=>TrieAt.upd0 (k1.tr hu) t
  generalize hc:ck x (12-m) k=c at*;generalize hlc:part x (12-m) c l=lc at*;refine ze nd1 hi fun h3 hu3=>?_
  refine aL fun h4 b4 k4=>?_
  have b4':h4[h3.size]? =some (.cells #[.string GJ.1,.string GJ.2] aj (0,0)):=b4;refine BH (p:=AX (s.p c)) b4' fun h5 b5 hu5=>?_
  have hu15:Upd No h1 h5:=(hu3.tr k4).own hu5 hu3.size;have c1:=hu15.get0 b1;have nd5:=nd1.upd hu15 fun _ h=>h.elim
  have same:∀{h':ad},Upd No h1 h'→cg l k=false→K (some ⟨b,0,none⟩,false) h':=fun hu ht=>by
   have:=hk _ b (k1.tr hu) (by rw[wc (yV ht)];exact tt hu) fun _=>rfl
   rw[ht]at this;exact this
  cases hsp:s.p c with
  |some y=>
   rw[hsp]at b5;obtain⟨hone,hk0⟩:lc= [y]∧s.k c=none:=by
    rcases hsi with⟨_,h2,_⟩|⟨q,h1,h2,h3⟩|⟨_,h2,_⟩
    ·rw[hsp]at h2;cases h2
    ·rw[hsp]at h2;cases h2;exact⟨h1,h3⟩
    ·rw[hsp]at h2;cases h2
   refine au.2 ⟨y.1,vc b5 0,k,vc c1 4,?_⟩;rw[iv];by_cases e1:y.1=k
   ·have ht:cg l k=true:=by rw[←htp,hone];exact cp.2 ⟨y,ax.2 rfl,decide_eq_true e1⟩
    rw[decide_eq_true e1];rw[ht]at hk;refine ag.2 ⟨none,vc c1 3,QT nd5 (gW (k1.tr hu15)) hi fun h6 b6 nd6 hu6=>?_⟩
    refine hk h6 b6 ((k1.tr hu15).tr hu6) (hturn (hu15.tr hu6) nd6 (fun c' hc'=>⟨gA hc',gA hc'⟩) ?_) fun h=>by cases h
    refine .inl ⟨?_,gR,gR⟩;rw[hone,wQ,if_pos e1];rfl
   ·rw[decide_eq_false e1]
    have ht:cg l k=false:=by
     rw[←htp,hone];unfold cg;rw[pU,decide_eq_false e1];rfl
    exact au.2 (same hu15 ht)
  |none=>
   refine ag.2 (zg nd5 hi ?_);cases hsk:s.k c with
   |none=>
    have hlc0:lc= []:=by
     rcases hsi with⟨h1,_⟩|⟨q,_,h2,_⟩|⟨_,_,kb,h2,_⟩
     ·exact h1
     ·rw[hsp]at h2;cases h2
     ·rw[hsk]at h2;cases h2
    exact au.2 (same hu15 (by rw[←htp,hlc0];rfl))
   |some kp=>
    obtain⟨h2l,kb,rfl,tk⟩:2≤lc.length∧∃kb,kp=some ⟨kb,0,none⟩∧TrieAt W x h1 m kb lc:=by
     rcases hsi with⟨_,_,h2⟩|⟨q,_,h2,_⟩|⟨h1,_,kb,h2,h3⟩
     ·rw[hsk]at h2;cases h2
     ·rw[hsp]at h2;cases h2
     ·rw[hsk]at h2;cases h2;exact⟨h1,kb,rfl,h3⟩
    refine ag.2 ⟨_,vc c1 0,_,vc c1 1,_,vc c1 2,_,vc c1 3,_,vc c1 4,_,vc c1 5,?_⟩;have ew:IntKind.wrap .i64 (((12-m:Nat):Int)+1)=((13-m:Nat):Int):=by rw[gr (by omega)];omega
    rw[ew];refine ih (by omega) k (TrieAt.upd0 hu15 tk) (gW (k1.tr hu15)) hrp hnp fun h6 b6 hu6 t6 hsame=>?_
    have hu16:=hu15.tr hu6;rw[htp];cases ht:cg l k with
    |false=>exact au.2 (same hu16 ht)
    |true=>
     rw[ht]at hk;have hdl:=NF (k:=k) hrp;have hdn:(nG k lc).length≤1000000:=aY QN hnp;refine ag.2 (Q9 t6 hdn fun h7 p hu7 hp=>?_)
     refine aL fun h8 b8 k8=>?_
     have b8':h8[h7.size]? =some (.cells #[.string GJ.1,.string GJ.2] aj (0,0)):=b8;refine BH (p:=p) b8' fun h9 b9 hu9=>?_
     have hu19:Upd No h1 h9:=((hu16.tr hu7).tr k8).own hu9 (hu16.tr hu7).size;have c9:=hu19.get0 b1;have nd9:=nd1.upd hu19 fun _ h=>h.elim
     refine ay (fun e=>?_) fun e=>?_
     ·refine⟨none,vc c9 3,p.1,vc b9 0,p.2,vc b9 1,ra nd9 (gW (k1.tr hu19)) hi (fun y hy=>by rw[hsp]at hy;cases hy) p fun h10 b10 nd10 hu10=>?_⟩
      refine hk h10 b10 ((k1.tr hu19).tr hu10) (hturn (hu19.tr hu10) nd10 (fun c' hc'=>⟨gA hc',gA hc'⟩) ?_) fun h=>by cases h
      exact .inr (.inl ⟨p,hp e,gR,gR⟩)
     ·refine⟨none,vc c9 3,wC nd9 (gW (k1.tr hu19)) hi (fun _ _=>hsp) ⟨b6,0,none⟩ fun h10 b10 nd10 hu10=>?_⟩
      refine hk h10 b10 ((k1.tr hu19).tr hu10) (hturn (hu19.tr hu10) nd10 (fun c' hc'=>⟨gA hc',gA hc'⟩) ?_) fun h=>by cases h
      exact .inr (.inr ⟨by omega,gR,b6,gR,TrieAt.upd0 ((hu7.tr k8).own hu9 hu7.size|>.tr hu10) t6⟩)
theorem HJ{W:Nat→Prop}{x:Hs}{h:ad}{b:Nat}{l:List Pr}(t:TrieAt W x h 13 b l)(hW:∀y,W y→y<h.size)(hr:cl l)(hn:l.length≤1000000)(k:ByteArray){K:Option Addr×Bool→ad→Prop}
  (hk:∀h' b',Upd No h h'→TrieAt W x h' 13 b' (nG k l)→(cg l k=false→b'=b)→K (some ⟨b',0,none⟩,cg l k) h'):
  HC PG uM [.agg #[.int .u64 x.k0,.int .u64 x.k1,.int .u64 x.mask],.pointer none,.pointer (some ⟨b,0,none⟩),.string k] [.c .ptr,.c .bool] K h:=by
 refine Ib (x.k0,x.k1,x.mask) none (some ⟨b,0,none⟩) k ?_;unfold An ao yM tK jR g5 xM;refine aL fun h1 b1 k1=>?_
 refine G3 (.inr ⟨b,rfl,TrieAt.upd0 k1 t⟩) (fun y hy=>aR (hW y hy) k1.size) fun h2 b2 t2 hu2 hb2=>?_
 have c2:=hu2.get0 b1;refine⟨_,vc c2 0,_,vc c2 1,_,vc c2 2,_,vc c2 0,_,vc c2 1,_,vc c2 2,?_⟩;refine rW fun h3 hu3=>?_
 have c3:=hu3.get0 c2;refine⟨⟨vc c3 0,vc c3 1,vc c3 2⟩,?_⟩;have hu03:=(k1.tr hu2).tr hu3;refine JX 13 (al _) k (TrieAt.upd0 hu3 t2) (fun y hy=>aR (hW y hy) hu03.size) hr hn fun h4 b4 hu4 t4 hs4=>?_
 refine hk h4 b4 (hu03.tr hu4) t4 fun ht=>?_
 rw[hs4 ht];rcases hb2 with e|e
 ·cases e;rfl
 ·cases e
end Go.Proofs
namespace Go.Proofs
def sQ(P P':List UInt8→ByteArray→Prop)(k:List UInt8):Prop:=∀k' v',P' k' v'↔k'≠k∧P k' v'
theorem L7{P:List UInt8→ByteArray→Prop}{k:List UInt8}(h:∀v,¬P k v):sQ P P k:=fun k' v'=>⟨fun hp=>⟨fun e=>h v' (e▸hp),hp⟩,fun h=>h.2⟩
theorem L6{w:Option ByteArray}{F:Fo}(h:fx F):sQ (qg w F) (qg none F) []:=by
 intro k' v';unfold qg;constructor
 ·rintro(⟨_,f⟩|hi)
  ·cases f
  ·exact⟨nu h hi,.inr hi⟩
 ·rintro⟨e,⟨f,_⟩|hi⟩
  ·exact absurd f e
  ·exact .inr hi
theorem D0{w:Option ByteArray}{F F':Fo}{k:List UInt8}(hk:k≠[])(h:sQ (pe F) (pe F') k):sQ (qg w F) (qg w F') k:=by
 intro k' v';unfold qg;rw[h k' v'];constructor
 ·rintro(⟨e,f⟩|hi)
  ·exact⟨fun e'=>hk (e'.symm.trans e),.inl ⟨e,f⟩⟩
  ·exact⟨hi.1,.inr hi.2⟩
 ·rintro⟨e,hi|hi⟩
  ·exact .inl hi
  ·exact .inr ⟨e,hi⟩
theorem L8{lab r:List UInt8}{w w':Option ByteArray}{F F':Fo}(h:sQ (qg w F) (qg w' F') r):sQ (rN (lab,w,F)) (rN (lab,w',F')) (lab++r):=by
 intro k' v';constructor
 ·rintro⟨s,e,hs⟩
  obtain⟨h1,h2⟩:=(h s v').1 hs;exact⟨fun e'=>h1 (List.append_cancel_left (e.symm.trans e')),s,e,h2⟩
 ·rintro⟨h1,s,e,hs⟩
  exact⟨s,e,(h s v').2 ⟨fun e'=>h1 (by rw[e,e']),hs⟩⟩
theorem OY{F:Fo}{i:Nat}{m:Bn}{k:List UInt8}(h:fx F)(hi:i<F.toL.length)(ek:hd F.toL[i].1=hd k)(hp:sQ (rN F.toL[i]) (rN m) k):sQ (pe F) (pe (.ofL (F.toL.set i m))) k:=by
 intro k' v';have hc:=eC.1 h;rw[fB,fB,Fo.to_of];constructor
 ·rintro⟨n,hn,hr⟩
  rcases(lR hi (ux h hi)).1 hn with rfl|⟨hn,hne⟩
  ·obtain⟨h1,h2⟩:=(hp k' v').1 hr
   exact⟨h1,_,aU hi,h2⟩
  ·refine⟨fun e=>hne ?_,n,hn,hr⟩
   obtain⟨r,e',_⟩:=hr;refine uO h hn (aU hi) ?_;rw[ek,←e,e',oq (hc.2 n hn).1]
 ·rintro⟨h1,n,hn,hr⟩
  by_cases e:n=F.toL[i]
  ·exact⟨m,(lR hi (ux h hi)).2 (.inl rfl),(hp k' v').2 ⟨h1,by rw[←e];exact hr⟩⟩
  ·exact⟨n,(lR hi (ux h hi)).2 (.inr ⟨hn,e⟩),hr⟩
theorem BL{α:Type}{l:List α}{i:Nat}(hi:i<l.length){x:α}(nd:∀j (hj:j<l.length),j≠i→l[j]≠l[i]):x∈l.take i++l.drop (i+1)↔x∈l∧x≠l[i]:=by
 constructor
 ·intro h
  rcases bL.1 h with h|h
  ·obtain⟨j,hj,e⟩:=bM h
   rw[aK]at hj;rw[o8]at e;exact⟨List.mem_of_mem_take h,by rw[←e];exact nd j (by omega) (by omega)⟩
  ·obtain⟨j,hj,e⟩:=bM h
   rw[aM]at hj;rw[o9]at e;exact⟨List.mem_of_mem_drop h,by rw[←e];exact nd (i+1+j) (by omega) (by omega)⟩
 ·rintro⟨h,hne⟩
  obtain⟨j,hj,e⟩:=bM h;rcases Nat.lt_trichotomy j i with hl|hl|hl
  ·exact bL.2 (.inl (mO (i:=j) (h:=by rw[aK];omega) (by rw[o8];exact e)))
  ·subst hl;exact absurd e.symm hne
  ·refine bL.2 (.inr (mO (i:=j-(i+1)) (h:=by rw[aM];omega) ?_))
   rw[o9];have:i+1+(j-(i+1))=j:=by omega
   simp only[this];exact e
theorem SK{F:Fo}{i:Nat}(h:fx F):fx (.ofL (F.toL.take i++F.toL.drop (i+1))):=by
 have hc:=eC.1 h;rw[eC,Fo.to_of];have hs:(F.toL.take i++F.toL.drop (i+1)).Sublist F.toL:=by rw[←List.eraseIdx_eq_take_drop_succ];exact List.eraseIdx_sublist ..
 exact⟨hc.1.sublist hs,fun n hn=>hc.2 n (hs.subset hn)⟩
theorem OZ{F:Fo}{i:Nat}{k:List UInt8}(h:fx F)(hi:i<F.toL.length)(ek:hd F.toL[i].1=hd k)(hp:∀k' v',rN F.toL[i] k' v'→k'=k):sQ (pe F) (pe (.ofL (F.toL.take i++F.toL.drop (i+1)))) k:=by
 intro k' v';have hc:=eC.1 h;rw[fB,fB,Fo.to_of];constructor
 ·rintro⟨n,hn,hr⟩
  obtain⟨hn,hne⟩:=(BL hi (ux h hi)).1 hn;refine⟨fun e=>hne ?_,n,hn,hr⟩
  obtain⟨r,e',_⟩:=hr;refine uO h hn (aU hi) ?_;rw[ek,←e,e',oq (hc.2 n hn).1]
 ·rintro⟨h1,n,hn,hr⟩
  by_cases e:n=F.toL[i]
  ·exact absurd (hp k' v' (by rw[←e];exact hr)) h1
  ·exact⟨n,(BL hi (ux h hi)).2 ⟨hn,e⟩,hr⟩
def SR(n:Bn)(o:Option Bn):Prop:=(o=none∧∀k v,¬rN n k v)∨∃m,o=some m∧Kv m∧hd m.1=hd n.1∧∀k v,rN m k v↔rN n k v
theorem OJ{lab:List UInt8}{w:Option ByteArray}{F:Fo}(hl:lab≠[])(hc:fx F)(h:w.isSome∨2≤F.toL.length):SR (lab,w,F) (some (lab,w,F)):=.inr ⟨_,rfl,⟨hl,h,hc⟩,rfl,fun _ _=>uZ⟩
theorem OK{lab:List UInt8}{F:Fo}(h:F.toL= []):SR (lab,none,F) none:=by
 refine .inl ⟨rfl,fun k v hi=>?_⟩
 obtain⟨r,_,⟨_,h'⟩|h'⟩:=hi
 ·cases h'
 ·obtain⟨n,hn,_⟩:=fB.1 h'
  simp only at hn;rw[h]at hn;cases hn
theorem Qq{lab lk:List UInt8}{wk:Option ByteArray}{F Fk:Fo}(hl:lab≠[])(hc:fx F)(h:F.toL= [(lk,wk,Fk)]):SR (lab,none,F) (some (lab++lk,wk,Fk)):=by
 have eF:F=.cons lk wk Fk .nil:=by
  rw[←Fo.of_to F,h];rfl
 have hn:=(eC.1 hc).2 (lk,wk,Fk) (by rw[h];exact ax.2 rfl);refine .inr ⟨_,rfl,⟨fun e=>hl (List.append_eq_nil_iff.1 e).1,hn.2.1,hn.2.2⟩,oq hl,fun k v=>?_⟩
 have:=Gi (lab:=lab++lk) (w:=wk) (F:=Fk) lab.length k v;rw[List.take_left,List.drop_left]at this;rw[eF];exact this.symm
end Go.Proofs
