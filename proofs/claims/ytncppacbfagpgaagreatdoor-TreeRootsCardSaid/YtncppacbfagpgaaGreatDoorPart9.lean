/- A part of the proof that the named laws of this program answer true, whatever the input. -/
import Derived.Test.YtncppacbfagpgaaGreatDoorPart8
import Derived.Test.YtncppacbfagpgaaGreatDoorPart4
import Derived.Test.YtncppacbfagpgaaGreatDoorPart2
import Derived.Test.YtncppacbfagpgaaGreatDoorPart6
import Derived.Test.YtncppacbfagpgaaGreatDoorPart7
import Derived.Test.YtncppacbfagpgaaGreatDoorPart5
import Derived.Test.YtncppacbfagpgaaGreatDoorPart0
open ByteArray renaming size_extract→fc
open Int renaming toNat_natCast→aP
open List renaming getElem_mem→bI,getElem?_cons_zero→cB,getElem?_eq_getElem→af,length_filter_le→gj,length_take→aK,take_succ_eq_append_getElem→bv,append_nil→aW,length_append→ac,length_singleton→aC,mem_singleton→aB,take_length→bW,length_cons→ax,take_take→lC
open List.Pairwise renaming nil→cE
open Nat renaming zero_le→aR,le_refl→ao,le_trans→bh,mul_le_mul_right→cg,min_eq_right→jF,min_eq_left→bA,lt_of_lt_of_le→bB
open Option renaming some→bH
namespace Go.Proofs
open Go Go.Lift
theorem Bq{W:Nat→Prop}{h:ad}{b:Nat}{sl val:ByteArray}{has:Bool}{s:SliceV}{ow:Option Addr}{ks:List (Option Addr)}{F:Fo}(hb:h[b]? =some (.cells (CT sl has val s ow) bU (0,0))) (hs:Sl ul 1 W h s ks) (hL:RxL W h ks F.toL) (hc:gi F) {K:Bool→ad→Prop} (hk:K true h):HC PG jU [.pointer (some ⟨b,0,none⟩)] [.c .bool] K h:=by
 refine w8 (some ⟨b,0,none⟩) ?_;unfold qx cf dd bC bG;refine⟨_,rfl,s,eH (i:=3) hb,?_⟩;have hlen:=hs.len;rw[hL.1]at hlen;have h256:=kM hc;have hcF:=gf.1 hc;refine LoopP.ghost (fun(i:Nat) (t:Int) h'=>t=(i:Int)∧i≤F.toL.length∧h'=h) (fun i=>F.toL.length-i) 0 ⟨rfl,aR _,rfl⟩ ?_
 rintro I i t h' ⟨rfl,hi,rfl⟩ hI;refine aE (fun hlt=>?_) fun _=>hk
 have hlt:i<F.toL.length:=by omega
 obtain⟨kb,ksl,hki,hkl,kv,kval,ks',kk,kb1,_⟩:=hL.at hlt;obtain⟨a,ha,_,hv⟩:=hs.at0 hki;have hne:ksl.data.toList≠[]:=by rw[hkl];exact(hcF.2 _ (bI hlt)).1
 have e0:(ksl.toList==(⟨#[]⟩:ByteArray).toList)=false:=by
  rw[beq_eq_false_iff_ne,ByteArray.toList_eq,ByteArray.toList_eq];exact hne
 obtain⟨c,hc0,hc1⟩:=Fb hne;refine⟨⟨by omega,by omega⟩,a,ha,_,hv,Join.intro (fun t h2=>t=false∧h2=h') (fun R hR=>?_) ?_⟩
 ·refine⟨_,rfl,ksl,eH (i:=0) kb1,?_⟩
  rw[e0];refine al.2 (aE (fun hgt=>?_) fun _=>hR _ _ ⟨rfl,rfl⟩)
  have hpos:0<i:=by have:(i:Int)>0:=hgt;omega
  have e1:IntKind.wrap .i64 ((i:Int)-1)=((i-1:Nat):Int):=by rw[jm (by omega)];omega
  rw[e1];have hlt2:i-1<F.toL.length:=by omega
  obtain⟨jb,jsl,hji,hjl,jv,jval,js',jk,jb1,_⟩:=hL.at hlt2;obtain⟨a',ha',_,hv'⟩:=hs.at0 hji;have hne2:jsl.data.toList≠[]:=by rw[hjl];exact(hcF.2 _ (bI hlt2)).1
  obtain⟨d,hd0,hd1⟩:=Fb hne2;refine⟨_,rfl,s,eH (i:=3) hb,⟨by omega,by omega⟩,a',ha',_,hv',_,rfl,jsl,eH (i:=0) jb1,d,by decide,hd0,_,rfl,ksl,eH (i:=0) kb1,c,by decide,hc0,hR _ _ ⟨?_,rfl⟩⟩
  have:=List.pairwise_iff_getElem.1 hcF.1 (i-1) i hlt2 hlt (by omega);rw[hkl]at hc1;rw[hjl]at hd1;exact decide_eq_false (by omega)
 ·rintro t h2 ⟨rfl,rfl⟩
  refine al.2 ?_;rw[cp hlt (by omega)];exact hI (i+1) _ _ ⟨rfl,hlt,rfl⟩ (by omega)
theorem Eo{W:Nat→Prop}{h:ad}{s:SliceV}{ks:List (Option Addr)}{L:List Bn}{f:FuncId}(hs:Sl ul 1 W h s ks)(hL:RxL W h ks L)(hn:L.length≤256)(hf:∀i (hi:i<L.length) {b:Nat} {sl:ByteArray},RxN W h b sl L[i].2.1 L[i].2.2→∀{K:Bool→ad→Prop},K false h→HC PG f [.pointer (some ⟨b,0,none⟩)] [.c .bool] K h){K:Bool→ad→Prop}(hk:K false h):
  HC PG cI [.slice s.a s.len s.cap,.func (.func f) #[] #[]] [.c .bool] K h:=by
 refine iJ s _ ?_;unfold eY cy;refine jh s _ ?_;unfold fx cf dd;have hlen:=hs.len;rw[hL.1]at hlen;refine LoopP.ghost (fun(i:Nat) (t:Int) h'=>t=(i:Int)∧i≤L.length∧h'=h) (fun i=>L.length-i) 0 ⟨rfl,aR _,rfl⟩ ?_
 rintro I i t h' ⟨rfl,hi,rfl⟩ hI;refine aE (fun hlt=>?_) fun _=>hk
 have hlt:i<L.length:=by omega
 obtain⟨kb,ksl,hki,hkl,kn⟩:=hL.at hlt;obtain⟨a,ha,_,hv⟩:=hs.at0 hki;refine⟨⟨by omega,by omega⟩,a,ha,_,hv,HV.mk' (hf i hlt kn (al.2 ?_))⟩
 rw[cp hlt (by omega)];exact hI (i+1) _ _ ⟨rfl,hlt,rfl⟩ (by omega)
def RR(n:Bn):Prop:=∀{W:Nat→Prop} {h:ad} {b:Nat} {sl:ByteArray},RxN W h b sl n.2.1 n.2.2→∀{K:Bool→ad→Prop},K true h→HC PG js [.pointer (some ⟨b,0,none⟩)] [.c .bool] K h
theorem Qu{lab:List UInt8}{w:Option ByteArray}{F:Fo}(hc:gi F)(hw:w.isSome∨2≤F.toL.length)(ih:∀n∈F.toL,RR n):RR (lab,w,F):=by
 intro W h b sl r K hk;simp only at r;obtain⟨val,s,ow,ks,hb,hv,hs,hcp,hF⟩:=r;have hL:=nr.1 hF;have hlen:=hs.len;rw[hL.1]at hlen;refine vz (some ⟨b,0,none⟩) ?_;unfold pT ge bG;refine Join.intro (fun t h'=>t=false∧h'=h) (fun R hR=>?_) ?_
 ·refine Bq hb hs hL hc (al.2 ⟨_,rfl,w.isSome,eH (i:=1) hb,?_⟩)
  cases hwS:w.isSome with
  |true=>exact al.2 (hR _ _ ⟨rfl,rfl⟩)
  |false=>
   refine aw.2 ⟨_,rfl,s,eH (i:=3) hb,hR _ _ ⟨decide_eq_false ?_,rfl⟩⟩;rw[hwS]at hw;rcases hw with hw|hw
   ·cases hw
   ·omega
 ·rintro t h' ⟨rfl,rfl⟩
  refine al.2 ⟨_,rfl,s,eH (i:=3) hb,Eo hs hL (kM hc) (fun i hi b sl kn K' hk'=>?_) hk⟩
  refine ud _ ?_;unfold oo;exact ih _ (bI hi) kn hk'
theorem Fs:∀{F:Fo},gi F→∀n∈F.toL,RR n
 | .nil,_,n,hn=>by simp[Fo.toL]at hn
 | .cons lab w kids rest,h,n,hn=>by
  rcases List.mem_cons.1 hn with rfl|hn
  ·exact Qu h.2.2.1 h.2.1 (Fs h.2.2.1)
  ·exact Fs h.2.2.2.2 n hn
theorem Ib{W:Nat→Prop}{h:ad}{b:Nat}{l:List Pr}(t:RadAt W h b l){K:Bool→ad→Prop}(hk:K true h):HC PG rF [.pointer (some ⟨b,0,none⟩)] [.c .bool] K h:=by
 obtain⟨w,F,r,hc,_⟩:=t.ex;obtain⟨val,s,ow,ks,hb,hv,hs,hcp,hF⟩:=r;have hL:=nr.1 hF;refine Dm (some ⟨b,0,none⟩) ?_;unfold wd bC bG;refine aw.2 ⟨_,rfl,_,eH (i:=0) hb,?_⟩;rw[beq_self_eq_true];refine aw.2 (Bq hb hs hL hc (aw.2 ⟨_,rfl,s,eH (i:=3) hb,Eo hs hL (kM hc) (fun i hi b sl kn K' hk'=>?_) hk⟩))
 refine Ax _ ?_;unfold tS;exact Fs hc _ (bI hi) kn hk'
theorem Lm{W:Nat→Prop}{x:Hs}{h:ad}{kind:Int}{t:Tr}{l:List Pr}(i:TreeIs W h kind x t l)(tb:Tab h)(hr:dD l)(hn:l.length≤60000){K:Bool→ad→Prop}(hk:∀h',Upd No h h'→K true h'):HC PG kG [An t] [.c .bool] K h:=by
 refine q9 t ?_;unfold nR aM ae au pW gB oe dQ;refine aG fun h1 b1 k1=>⟨_,vc b1 0,?_⟩
 rcases i with⟨_,b,rfl,t⟩|⟨_,b,rfl,t⟩
 ·refine al.2 ⟨_,oh b1 1 0,_,oh b1 1 1,_,oh b1 1 2,_,vc b1 0,_,vc b1 1,_,vc b1 2,_,vc b1 3,_,vc b1 4,_,vc b1 5,?_⟩
  refine nb (TrieAt.upd0 k1 t) fun h2 k2=>⟨⟨oh (k2.get0 b1) 1 0,oh (k2.get0 b1) 1 1,oh (k2.get0 b1) 1 2⟩,?_⟩
  refine vU (x.k0,x.k1,x.mask) _ ?_;unfold rN ae yE pW jz;refine aG fun h3 b3 k3=>al.2 ⟨_,vc b3 0,_,vc b3 1,_,vc b3 2,?_⟩
  have k03:=(k1.tr k2).tr k3;refine He 13 (ao _) (sw:=⟨none,0,0⟩) (way:= []) (TrieAt.upd0 k03 t) (tb.upd k03 id) (Sl.nil Nk) (ao _) rfl (fun p _ i c hc=>by simp at hc) hr hn fun h4 k4=>?_
  exact hk h4 (k03.tr k4)
 ·refine aw.2 ⟨_,vc b1 5,Ib (t.upd0 k1) (hk h1 k1)⟩
end Go.Proofs
namespace Go.Proofs
open Go Go.Lift
theorem D0:∀{x y:List UInt8} {i:Nat} {a b:UInt8},(∀j,j<i→x[j]? =y[j]?)→x[i]? =some a→y[i]? =some b→a≠b→Op.bytesLess x y=decide (a.toNat<b.toNat)
 | [],_,_,_,_,_,h,_,_=>by simp at h
 |_::_,[],_,_,_,_,_,h,_=>by simp at h
 |c::x,d::y,0,a,b,_,h1,h2,hne=>by
  simp only[cB,bH.injEq]at h1 h2;subst h1 h2;simp only[Op.bytesLess];rw[beq_false_of_ne hne];simp[UInt8.lt_iff_toNat_lt]
 |c::x,d::y,i+1,a,b,he,h1,h2,hne=>by
  have e:=he 0 (by omega);simp only[cB,bH.injEq]at e;subst e;simp only[List.getElem?_cons_succ]at h1 h2;simp only[Op.bytesLess];rw[D0 (i:=i) (fun j hj=>by simpa using he (j+1) (by omega)) h1 h2 hne]
  simp[UInt8.lt_irrefl]
theorem DZ:∀{x y:List UInt8} {i:Nat},(∀j,j<i→x[j]? =y[j]?)→i≤x.length→i≤y.length→(i=x.length∨i=y.length)→Op.bytesLess x y=decide (x.length<y.length)
 | [],[],_,_,_,_,_=>by simp[Op.bytesLess]
 | [],_::_,_,_,_,_,_=>by simp[Op.bytesLess]
 |_::_,[],_,_,_,_,_=>by simp[Op.bytesLess]
 |c::x,d::y,0,_,_,_,h=>by simp at h
 |c::x,d::y,i+1,he,h1,h2,h3=>by
  have e:=he 0 (by omega);simp only[cB,bH.injEq]at e;subst e;simp only[Op.bytesLess];rw[DZ (i:=i) (fun j hj=>by simpa using he (j+1) (by omega)) (by simpa using h1) (by simpa using h2) (by simpa using h3)]
  simp[UInt8.lt_irrefl]
theorem M8{a b:ByteArray}(ha:a.size≤1000000){h:ad}{K:Bool→ad→Prop}(hk:K (decide (kl a b)) h):HC PG wN [.string a,.string b] [.c .bool] K h:=by
 refine JG a b ?_;unfold CH;have la:a.data.toList.length=a.size:=by simp
 have lb:b.data.toList.length=b.size:=by simp
 have hkl:∀{p:Prop} [Decidable p],Op.bytesLess a.data.toList b.data.toList=decide p→K (decide p) h:=fun{p} _ e=>by
  have:decide (kl a b)=decide p:=by
   rw[←e,←ByteArray.toList_eq,←ByteArray.toList_eq];exact Bool.eq_iff_iff.2 (by rw[decide_eq_true_iff];exact Iff.rfl)
  rw[←this];exact hk
 refine LoopP.ghost (fun(i:Nat) (t:Int) h'=>t=(i:Int)∧i≤a.size∧i≤b.size∧h'=h∧∀j,j<i→a.data.toList[j]? =b.data.toList[j]?) (fun i=>a.size-i) 0 ⟨rfl,aR _,aR _,rfl,fun j hj=>absurd hj (Nat.not_lt_zero _)⟩ ?_
 rintro I i t h' ⟨rfl,hia,hib,rfl,he⟩ hI;refine Join.intro (fun t h2=>t=decide (i<a.size∧i<b.size)∧h2=h') (fun R hR=>?_) ?_
 ·refine aE (fun hlt=>hR _ _ ⟨?_,rfl⟩) fun hge=>hR _ _ ⟨?_,rfl⟩
  ·rw[decide_eq_decide];omega
  ·rw[eq_comm,decide_eq_false_iff_not];omega
 ·rintro t h2 ⟨rfl,rfl⟩
  refine aE (fun hlt=>?_) fun hge=>?_
  ·have e1:a.data.toList[i]? =some a[i]:=by rw[←GV,getElem?_pos a i hlt.1]
   have e2:b.data.toList[i]? =some b[i]:=by rw[←GV,getElem?_pos b i hlt.2]
   refine⟨a[i],by omega,by rw[aP,getElem?_pos a i hlt.1],b[i],by omega,by rw[aP,getElem?_pos b i hlt.2],?_⟩
   refine CondP.intro (fun hne=>?_) fun heq=>?_
   ·refine⟨a[i],by omega,by rw[aP,getElem?_pos a i hlt.1],b[i],by omega,by rw[aP,getElem?_pos b i hlt.2],?_⟩
    refine hkl ?_;rw[D0 he e1 e2 fun e=>by rw[e]at hne;simp at hne]
    rw[decide_eq_decide];omega
   ·have heq:a[i]=b[i]:=by
     have:((a[i].toNat:Int))=(b[i].toNat:Int):=by simpa using heq
     exact UInt8.toNat_inj.1 (by omega)
    rw[cp hlt.1 (by omega)];refine hI (i+1) _ _ ⟨rfl,by omega,by omega,rfl,fun j hj=>?_⟩ (by omega)
    rcases Nat.lt_or_ge j i with hl|hl
    ·exact he j hl
    ·have:j=i:=by omega
     subst this;rw[e1,e2,heq]
  ·refine hkl ?_
   rw[DZ he (by omega) (by omega) (by omega),decide_eq_decide];omega
theorem Na{W:Nat→Prop}{h:ad}{s:SliceV}{l:List Pr}(hs:Sl eC 2 W h s l)(hn:l.length≤1000000)(k:ByteArray){K:SliceV→ad→Prop}
  (hk:∀s' h',OwnS eC 2 bS (fun y=>h.size≤y) h' s' (l.filter fun p=>decide (p.1≠k))→Upd No h h'→K s' h'):HC PG wO [.slice s.a s.len s.cap,.string k] [.c .slice] K h:=by
 refine JH s k ?_;unfold CI dd nv jx bC av kU;have hlen:=hs.len;refine LoopP.ghost (fun(i:Nat) (t:SliceV×Int) h'=>t.2=(i:Int)∧i≤l.length∧OwnS eC 2 bS (fun y=>h.size≤y) h' t.1 ((l.take i).filter fun p=>decide (p.1≠k))∧Upd No h h') (fun i=>l.length-i) 0 ⟨rfl,aR _,by simpa using OwnS.nil fO,Upd.refl _ _⟩ ?_
 rintro I i ⟨so,ti⟩ h' ⟨e1,hi,ho,hu⟩ hI;simp only at e1 ho;subst e1;refine aE (fun hlt=>?_) fun hge=>?_
 ·have hlt:i<l.length:=by have:(i:Int)<(s.len:Int):=hlt;omega
  obtain⟨a,ha,_,hv⟩:=(hs.upd hu fun _ h=>h.elim).at (af hlt)
  have htl:((l.take i).filter fun p=>decide (p.1≠k)).length≤l.length:=bh (gj ..) (by rw[aK];omega)
  refine Join.intro (fun t h2=>OwnS eC 2 bS (fun y=>h.size≤y) h2 t ((l.take (i+1)).filter fun p=>decide (p.1≠k))∧Upd No h h2) (fun R hR=>⟨⟨by simp only;omega,by simp only;omega⟩,a,ha,l[i].1,hv 0 _ rfl,l[i].2,hv 1 _ rfl,?_⟩) ?_
  ·refine pN (p:=l[i]) fun h2 b2 k2=>⟨_,vc b2 0,?_⟩
   have ho2:=ho.upd k2 fun _ _ h=>h
   rw[bv hlt,List.filter_append,List.filter_cons,List.filter_nil]at hR;rw[mB];by_cases e:l[i].1=k
   ·rw[decide_eq_true e]
    rw[decide_eq_false (not_not_intro e)]at hR;rw[if_neg (by simp),aW]at hR;exact al.2 (hR _ _ ⟨ho2,hu.tr k2⟩)
   ·rw[decide_eq_false e]
    rw[decide_eq_true e,if_pos rfl]at hR;refine aw.2 ⟨_,vc b2 0,_,vc b2 1,bj ?_⟩;refine uL (p:=l[i]) ho2 (fun y hy=>bh (hu.tr k2).size hy) (bh (Nat.add_le_add_right htl 1) (by omega)) fun s3 h3 ho3 hu3=>hR _ _ ⟨ho3,(hu.tr k2).trans hu3 fun y hy=>.inr hy⟩
  ·rintro t h2 ⟨ho2,hu2⟩
   rw[cp hlt (by omega)];exact hI (i+1) _ _ ⟨rfl,hlt,ho2,hu2⟩ (by omega)
 ·have hil:i=l.length:=by have:¬(i:Int)<(s.len:Int):=hge;omega
  rw[List.take_of_length_le (by omega)]at ho;exact hk _ _ ho hu
theorem OL{W:Nat→Prop}{h:ad}{s:SliceV}{l:List Pr}(hs:Sl eC 2 W h s l)(hr:dD l)(hn:l.length≤1000000)(p:Pr)(hp:p.1.size≤1000000){K:SliceV→ad→Prop}
  (hk:∀s' h',OwnS eC 2 bS (fun y=>h.size≤y) h' s' (gD p l)→Upd No h h'→K s' h'):HC PG y7 [.slice s.a s.len s.cap,.agg #[.string p.1,.string p.2]] [.c .slice] K h:=by
 refine Md s p ?_;unfold Eu dd nv jx bC av kU sP wi;refine aG fun h1 b1 k1=>⟨p.1,vc b1 0,?_⟩
 refine Na (hs.upd k1 fun _ h=>h.elim) hn p.1 fun s4 h4 ho4 k4=>?_
 rw[←D8 hr]at hk;have hrf:dD (l.filter fun q=>decide (q.1≠p.1)):=hr.sublist List.filter_sublist
 have hnl:(l.filter fun q=>decide (q.1≠p.1)).length≤1000000:=bh (gj ..) hn
 have hne:∀q∈l.filter fun q=>decide (q.1≠p.1),q.1≠p.1:=fun q hq=>of_decide_eq_true (List.mem_filter.1 hq).2
 generalize l.filter (fun q=>decide (q.1≠p.1))=L at hk ho4 hrf hnl hne
 have k04:=k1.tr k4;have hs4:Sl eC 2 No h4 s4 L:=ho4.sl fun _ _ _ h=>h
 have hlen:=hs4.len;have z4:=k04.size;refine LoopP.ghost (fun(g:Nat×Bool) (t:SliceV×Bool×Int) h'=>t.2.2=(g.1:Int)∧t.2.1=g.2∧g.1≤L.length∧(∃out,OwnS eC 2 bS (fun y=>h4.size≤y) h' t.1 out∧out.length≤g.1+1∧(g.2=false→out=L.take g.1∧∀q∈L.take g.1,kl q.1 p.1)∧(g.2=true→out=gD p (L.take g.1)∧∃q∈L.take g.1,kl p.1 q.1))∧Upd No h4 h') (fun g=>L.length-g.1) (0,false) ⟨rfl,rfl,aR _,⟨[],OwnS.nil fO,by simp,fun _=>⟨by simp,by simp⟩,fun h=>by cases h⟩,Upd.refl _ _⟩ ?_
 rintro I ⟨i,pl⟩ ⟨so,tp,ti⟩ h' ⟨e1,e2,hi,⟨out,ho,hol,hf,ht⟩,hu⟩ hI;simp only at e1 e2 hi ho hol hf ht;subst e1 e2;have b':=hu.get0 (k4.get0 b1);refine aE (fun hlt=>?_) fun hge=>?_
 ·have hlt:i<L.length:=by have:(i:Int)<(s4.len:Int):=hlt;omega
  obtain⟨a,ha,_,hv⟩:=(hs4.upd hu fun _ h=>h.elim).at (af hlt)
  have etake:=bv hlt;have hmem:L[i]∈L:=bI hlt;refine Join.intro (fun t h2=>(∃out,OwnS eC 2 bS (fun y=>h4.size≤y) h2 t.1 out∧out.length≤i+1+1∧(t.2=false→out=L.take (i+1)∧∀q∈L.take (i+1),kl q.1 p.1)∧(t.2=true→out=gD p (L.take (i+1))∧∃q∈L.take (i+1),kl p.1 q.1))∧Upd No h4 h2) (fun R hR=>⟨⟨by simp only;omega,by simp only;omega⟩,a,ha,L[i].1,hv 0 _ rfl,L[i].2,hv 1 _ rfl,?_⟩) ?_
  ·refine pN (p:=L[i]) fun h2 b2 k2=>?_
   have ho2:=ho.upd k2 fun _ _ h=>h
   have hu2:=hu.tr k2;have zb:=aJ b2;have z2:=hu.size;have hoM:=(ho.within.upd k2 fun _ _ h=>h).more (M':=fun y=>(h4.size≤y∧y<h'.size)∨h2.size≤y) fun y hy=>.inl hy
   have c2:=k2.get0 b';refine Join.intro (fun t h3=>(∃out,OwnS eC 2 bS (fun y=>h4.size≤y) h3 t.1 out∧out.length≤i+1∧(t.2=false→out=L.take i∧∀q∈L.take (i+1),kl q.1 p.1)∧(t.2=true→out++ [L[i]]=gD p (L.take (i+1))∧∃q∈L.take (i+1),kl p.1 q.1))∧h3[h'.size]? =some (.cells #[.string L[i].1,.string L[i].2] bS (0,0))∧Upd No h4 h3) (fun R2 hR2=>?_) ?_
   ·refine Join.intro (fun t h3=>t=(!tp&&decide (kl p.1 L[i].1))∧h3=h2) (fun R3 hR3=>?_) ?_
    ·cases tp with
     |false=>exact aw.2 ⟨p.1,vc c2 0,L[i].1,vc b2 0,M8 hp (hR3 _ _ ⟨by simp,rfl⟩)⟩
     |true=>exact al.2 (hR3 _ _ ⟨by simp,rfl⟩)
    ·rintro t h3 ⟨rfl,rfl⟩
     cases tp with
     |true=>
      obtain⟨e,q,hq,hkq⟩:=ht rfl;refine al.2 (hR2 _ _ ⟨⟨out,ho2,hol,fun h=>(by cases h),fun _=>?_⟩,b2,hu2⟩)
      rw[etake,e];exact⟨(GQ ⟨q,hq,hkq⟩).symm,q,List.mem_append_left _ hq,hkq⟩
     |false=>
      obtain⟨e,hall⟩:=hf rfl;subst e;by_cases hkl:kl p.1 L[i].1
      ·rw[decide_eq_true hkl]
       refine aw.2 ⟨p.1,vc c2 0,p.2,vc c2 1,bj ?_⟩;refine uL (p:=p) hoM (fun y hy=>.inr hy) (by rw[aK];omega) fun s5 h5 ho5 hu5=>hR2 _ _ ⟨⟨_,ho5.more (fun y hy=>by rcases hy with hy|hy<;>omega),by rw[ac,aK,aC];omega,fun h=>(by cases h),fun _=>?_⟩,hu5.get b2 (by rintro(hx|hx)<;>omega),hu2.trans hu5 fun y hy=>.inr (by rcases hy with hy|hy<;>omega)⟩
       ·rw[etake,BV hall]
        refine⟨?_,L[i],List.mem_append_right _ (aB.2 rfl),hkl⟩;rw[List.append_assoc,GO (l:= [L[i]]) fun q hq=>by rw[aB.1 hq];exact hkl]
        rfl
      ·rw[decide_eq_false hkl]
       have hq:kl L[i].1 p.1:=rA hkl fun e=>hne _ hmem e.symm
       refine al.2 (hR2 _ _ ⟨⟨_,ho2,by rw[aK];omega,fun _=>⟨rfl,fun q hq'=>?_⟩,fun h=>(by cases h)⟩,b2,hu2⟩)
       rw[etake]at hq';rcases List.mem_append.1 hq' with h|h
       ·exact hall q h
       ·rw[aB.1 h];exact hq
   ·rintro⟨t1,t2⟩ h3 ⟨⟨out3,ho3,hol3,hf3,ht3⟩,b3,hu3⟩
    simp only at ho3 hf3 ht3;refine⟨_,vc b3 0,_,vc b3 1,bj ?_⟩;refine uL (p:=L[i]) ho3 (fun y hy=>bh hu3.size hy) (by omega) fun s5 h5 ho5 hu5=>hR _ _ ⟨⟨_,ho5,by rw[ac,aC];omega,fun h=>?_,fun h=>ht3 h⟩,hu3.trans hu5 fun y hy=>.inr hy⟩
    obtain⟨e,hall⟩:=hf3 h;exact⟨by rw[e,etake],hall⟩
  ·rintro⟨t1,t2⟩ h2 ⟨ho2,hu2⟩
   rw[cp hlt (by omega)];exact hI (i+1,t2) _ _ ⟨rfl,rfl,hlt,ho2,hu2⟩ (by simp only;omega)
 ·have hil:i=L.length:=by have:¬(i:Int)<(s4.len:Int):=hge;omega
  subst hil;rw[bW]at hf ht;cases tp with
  |true=>
   obtain⟨e,_⟩:=ht rfl;subst e;exact al.2 (hk _ _ (ho.more fun y hy=>bh z4 hy) (k04.tr hu))
  |false=>
   obtain⟨e,hall⟩:=hf rfl;subst e;refine aw.2 ⟨p.1,vc b' 0,p.2,vc b' 1,bj ?_⟩;refine uL (p:=p) ho (fun y hy=>bh hu.size hy) (by omega) fun s5 h5 ho5 hu5=>hk _ _ ?_ ((k04.tr hu).trans hu5 fun y hy=>.inr (bh z4 hy))
   have:=BV (p:=p) (A:=out) (B:= []) hall;rw[aW]at this;rw[this];exact ho5.more fun y hy=>bh z4 hy
end Go.Proofs
namespace Go.Proofs
open Go Go.Lift
abbrev Rt:=Int×Int×Int×Int×SliceV
abbrev ER(r:Rt):List Value:= [.int .i64 r.1,.int .u64 r.2.1,.int .u64 r.2.2.1,.int .u64 r.2.2.2.1,.slice r.2.2.2.2.a r.2.2.2.2.len r.2.2.2.2.cap]
abbrev Rn(r:Rt):Value:=.agg #[.int .i64 r.1,.int .u64 r.2.1,.int .u64 r.2.2.1,.int .u64 r.2.2.2.1,.slice r.2.2.2.2.a r.2.2.2.2.len r.2.2.2.2.cap]
abbrev PF:Rt:=(0,0,0,0,⟨none,0,0⟩)
def hx(kind v:Int):Int:=if kind=0 then v else 0
def RefIs(W:Nat→Prop)(h:ad)(kind:Int)(x:Hs)(r:Rt)(l:List Pr):Prop:=∃s,r=(kind,hx kind x.k0,hx kind x.k1,hx kind x.mask,s)∧Sl eC 2 W h s l∧s.len≤s.cap
theorem RefIs.upd0{W:Nat→Prop}{h h':ad}{kind:Int}{x:Hs}{r:Rt}{l:List Pr}(k:Upd No h h')(i:RefIs W h kind x r l):RefIs W h' kind x r l:=
 let⟨s,e,hs⟩:=i;⟨s,e,hs.1.upd k fun _ h=>h.elim,hs.2⟩
theorem RefIs.less{W W':Nat→Prop}{h:ad}(hm:∀b,W' b→W b∨h.size≤b){kind:Int}{x:Hs}{r:Rt}{l:List Pr}(i:RefIs W h kind x r l):RefIs W' h kind x r l:=
 let⟨s,e,hs⟩:=i;⟨s,e,hs.1.less hm,hs.2⟩
theorem RefIs.updM{W M:Nat→Prop}{h h':ad}(k:Upd M h h')(hm:∀b,M b→W b∨h.size≤b){kind:Int}{x:Hs}{r:Rt}{l:List Pr}(i:RefIs W h kind x r l):RefIs W h' kind x r l:=
 let⟨s,e,hs⟩:=i;⟨s,e,hs.1.upd k hm,hs.2⟩
theorem OM{W:Nat→Prop}{x:Hs}{h:ad}{kind:Int}(hkd:kind=0∨kind=1){K:Rt×Int→ad→Prop}(hk:∀h' r,RefIs W h' kind x r []→Upd No h h'→K (r,0) h'):HC PG y6 [.int .i64 kind,.agg #[.int .u64 x.k0,.int .u64 x.k1,.int .u64 x.mask]] [.agg [.int .i64,.int .u64,.int .u64,.int .u64,.slice],.c (.int .i64)] K h:=by
 refine Mb kind (x.k0,x.k1,x.mask) ?_;unfold Es aM ae eP cJ yE Mw;refine aG fun h1 b1 k1=>aG fun h2 b2 k2=>?_
 have c1:=k2.get0 b1;have s1:=k1.size;have k02:=k1.tr k2;rcases hkd with rfl|rfl
 ·refine aw.2 ⟨_,vc c1 0,_,vc c1 1,_,vc c1 2,?_⟩
  refine bo (c:=ER PF) (vs:=ER (0,x.k0,x.k1,x.mask,⟨none,0,0⟩)) b2 rfl fun h4 b4 hu4=>?_
  exact⟨_,vc b4 0,_,vc b4 1,_,vc b4 2,_,vc b4 3,⟨none,0,0⟩,vc b4 4,hk h4 (0,x.k0,x.k1,x.mask,⟨none,0,0⟩) ⟨_,rfl,Sl.nil fO,ao _⟩ (k02.own hu4 s1)⟩
 ·refine al.2 (aw.2 ?_)
  refine bo (c:=ER PF) (vs:=ER (1,0,0,0,⟨none,0,0⟩)) b2 rfl fun h4 b4 hu4=>?_
  exact⟨_,vc b4 0,_,vc b4 1,_,vc b4 2,_,vc b4 3,⟨none,0,0⟩,vc b4 4,hk h4 (1,0,0,0,⟨none,0,0⟩) ⟨_,rfl,Sl.nil fO,ao _⟩ (k02.own hu4 s1)⟩
theorem LF{k v:ByteArray}(h1:k.size≤256)(h2:v.size≤4096){h:ad}{K:Int→ad→Prop}(hk:K 0 h):HC PG uG [.string k,.string v] [.c (.int .i64)] K h:=by
 refine Hr k v ?_;unfold Ai;refine aE (fun h=>absurd h (by omega)) fun _=>aE (fun h=>absurd h (by omega)) fun _=>hk
theorem M6{W:Nat→Prop}{x:Hs}{h:ad}{kind:Int}{r:Rt}{l:List Pr}(i:RefIs W h kind x r l)(hW:∀y,W y→y<h.size)(hr:dD l)(hn:l.length≤1000000)(p:Pr)(hp1:p.1.size≤256)(hp2:p.2.size≤4096){K:Rt×Int→ad→Prop}
  (hk:∀h' r',RefIs W h' kind x r' (gD p l)→Upd No h h'→K (r',0) h'):HC PG wK [Rn r,.agg #[.string p.1,.string p.2]] [.agg [.int .i64,.int .u64,.int .u64,.int .u64,.slice],.c (.int .i64)] K h:=by
 refine JB r p ?_;unfold CA aM ae eP cJ Mw Ms o9 jx cy av QI dL sP;refine aG fun h1 b1 k1=>aG fun h2 b2 k2=>aG fun h3 b3 k3=>?_
 have z1:=aJ b1;have z2:=aJ b2;have z3:=aJ b3;have s1:h.size≤h1.size:=k1.size;have s2:h1.size≤h2.size:=k2.size;have s3:=k3.size;have k03:=(k1.tr k2).tr k3;have v1:=k3.get0 (k2.get0 b1);have v2:=k3.get0 b2;obtain⟨s,rfl,hs,_⟩:=i;refine⟨_,vc v2 0,_,vc v2 1,LF hp1 hp2 (al.2 ?_)⟩;refine⟨s,vc v1 4,p.1,vc v2 0,p.2,vc v2 1,?_⟩;refine OL (hs.upd k03 fun _ h=>h.elim) hr hn p (by omega) fun s4 h4 ho4 hu4=>?_
 refine rQ (i:=4) (c':=(ER (kind,hx kind x.k0,hx kind x.k1,hx kind x.mask,s4)).toArray) (hu4.get0 v1) (show 4<5 by decide) rfl fun h5 v5 hu5=>?_
 refine⟨_,vc v5 0,_,vc v5 1,_,vc v5 2,_,vc v5 3,s4,vc v5 4,?_⟩;refine bo (c:=ER PF) (vs:=ER (kind,hx kind x.k0,hx kind x.k1,hx kind x.mask,s4)) (hu5.oth (hu4.get0 b3) (by omega)) rfl fun h6 v6 hu6=>?_
 refine⟨_,vc v6 0,_,vc v6 1,_,vc v6 2,_,vc v6 3,s4,vc v6 4,?_⟩;have ho6:=(ho4.upd hu5 fun y hy e=>by have e:y=h.size:=e;omega).upd hu6 fun y hy e=>by have e:y=h2.size:=e;omega
 refine hk h6 (kind,hx kind x.k0,hx kind x.k1,hx kind x.mask,s4) ⟨s4,rfl,ho6.sl fun y hy _ hw=>by have:=hW y hw;omega,ho6.cap⟩ (((k03.tr hu4).own hu5 (ao _)).own hu6 (by omega))
def Ha(s:ByteArray):ByteArray:=s.extract 0 (min s.size 30)
theorem tx(s:ByteArray):(Ha s).size≤30:=by unfold Ha;rw[fc];omega
theorem KD{s:ByteArray}{h:ad}{K:ByteArray→ad→Prop}(hk:K (Ha s) h):HC PG tq [.string s,.int .i64 0] [.c .str] K h:=by
 refine JL s 0 ?_;unfold CN;have e:(if 30<(s.size:Int)then(30:Int)else(s.size:Int))=((min s.size 30:Nat):Int):=by split<;>omega
 rw[e];refine⟨⟨by omega,by omega⟩,?_⟩
 simp only[Bd];rw[aP];exact aE (fun h=>absurd h (by omega)) fun _=>hk
theorem E4{x:Hs}{h:ad}{K:Int×Int×Int→ad→Prop}(hk:∀h',Upd No h h'→K (x.k0,x.k1,x.mask) h'):HC PG r6 [.agg #[.int .u64 x.k0,.int .u64 x.k1,.int .u64 x.mask]] [.agg [.int .u64,.int .u64,.int .u64]] K h:=by
 refine Mf (x.k0,x.k1,x.mask) ?_;unfold Ew ae cJ yE dQ Re Ri;refine aG fun h1 b1 k1=>aG fun h2 b2 k2=>?_
 have c1:=k2.get0 b1;refine⟨_,oh c1 0 0,_,oh c1 0 1,_,vc c1 2,?_⟩;refine bo (c:= [.int .u64 0,.int .u64 0,.int .u64 0]) (vs:= [.int .u64 x.k0,.int .u64 x.k1,.int .u64 x.mask]) b2 rfl fun h4 b4 hu4=>?_
 exact⟨_,vc b4 0,_,vc b4 1,_,vc b4 2,hk h4 ((k1.tr k2).own hu4 k1.size)⟩
end Go.Proofs
namespace Go.Proofs
open Go Go.Lift
theorem Li{kind:Int}{x:Hs}{l:List Pr}{xs:List UInt8}(hv:Cq kind x l xs)(hf:Fit l)(hn:l.length≤60000):xs.length≤100000000000:=by
 rcases hv with⟨_,rfl⟩|⟨_,ys,hr,rfl⟩
 ·have h1:=kZ (x:=x) 13 hf
  have h2:l.length*(20004+9*(13+1))≤60000*(20004+9*(13+1)):=cg _ hn;rw[ax];omega
 ·have h1:=xD hr hf
  rw[ax];omega
theorem LD{W:Nat→Prop}{x:Hs}{h:ad}{kind:Int}{r:Rt}{l:List Pr}(hkd:kind=0∨kind=1)(i:RefIs W h kind x r l)(hr:dD l)(hf:Fit l)(hn:l.length≤60000){K:SliceV→ad→Prop}
  (hk:∀s' h' xs,OwnS nh 1 cD (fun y=>h.size≤y) h' s' xs→Cq kind x l xs→Upd No h h'→K s' h'):HC PG uF [Rn r] [.c .slice] K h:=by
 refine Hm r ?_;unfold Af aM eP pW Ms dQ xo;obtain⟨s,rfl,hs,hc⟩:=i;have hs:=hs.less (W':=No) fun _ h=>h.elim
 refine aG fun h1 b1 k1=>⟨_,vc b1 0,?_⟩
 have s1:=k1.size;rcases hkd with rfl|rfl
 ·refine al.2 (aG fun h3 b3 k3=>⟨_,oh (k3.get0 b1) 1 0,_,oh (k3.get0 b1) 1 1,_,oh (k3.get0 b1) 1 2,s,vc (k3.get0 b1) 4,?_⟩)
  have ob:=tA (b:=0) b3;have u3:=k1.tr k3;have e0:∀v,hx 0 v=v:=fun v=>if_pos rfl
  simp only[e0];refine M7 (x:=x) (hs.upd u3 fun _ h=>h.elim) hn (fun p hp=>by have:=hf p hp;omega) fun h4 b td k4=>?_
  have s3:=k3.size;have s4:=k4.size;refine ON 13 (ao _) td hf hn fun s5 h5 ho5 k5=>?_
  have s5':=k5.size;have hlen:=kZ (x:=x) 13 hf;have h2:l.length*(20004+9*(13+1))≤60000*(20004+9*(13+1)):=cg _ hn;refine uM (M:=fun y=>h1.size≤y) ((ob.upd k4 fun _ _ h=>h).upd k5 fun _ _ h=>h) (ho5.sl (W:=No) fun _ _ _ h=>h) (fun y hy=>by show h1.size≤y;omega) (by simp;omega) fun s6 h6 ho6 k6=>?_
  exact hk s6 h6 _ (ho6.more fun y hy=>bh s1 hy) (.inl ⟨rfl,rfl⟩) (((u3.tr k4).tr k5).trans k6 fun y hy=>.inr (bh s1 hy))
 ·refine aw.2 (aG fun h3 b3 k3=>⟨s,vc (k3.get0 b1) 4,?_⟩)
  have ob:=tA (b:=1) b3;have u3:=k1.tr k3;refine OK (hs.upd u3 fun _ h=>h.elim) hc hr hn (fun p hp=>by have:=hf p hp;have:=IU p.1;show(ky p).length≤_;unfold ky;omega) fun h4 b w F dx hcF hpr k4=>?_
  have s3:=k3.size;have s4:=k4.size;obtain⟨hfit,hw⟩:=uz hcF hpr hf;have hrv:Jr l (gU ([],w,F)):=⟨w,F,hcF,hpr,rfl⟩;have hlen:=xD hrv hf;refine KQ (lab:= []) (by simp) hw (kM hcF) (Cb hfit) dx rfl (by omega) fun s5 h5 ho5 k5=>?_
  have s5':=k5.size;refine uM (M:=fun y=>h1.size≤y) ((ob.upd k4 fun _ _ h=>h).upd k5 fun _ _ h=>h) (ho5.sl (W:=No) fun _ _ _ h=>h) (fun y hy=>by show h1.size≤y;omega) (by simp;omega) fun s6 h6 ho6 k6=>?_
  exact hk s6 h6 _ (ho6.more fun y hy=>bh s1 hy) (.inr ⟨rfl,_,hrv,rfl⟩) (((u3.tr k4).tr k5).trans k6 fun y hy=>.inr (bh s1 hy))
end Go.Proofs
namespace Go.Proofs
open Go.Lift
abbrev Ch:=ByteArray×ByteArray×ByteArray×Bool×Bool
end Go.Proofs
namespace Go.Proofs
open Go Go.Lift
end Go.Proofs
namespace Go.Proofs
open Go Go.Lift
def Au(p:Pr):Pr:=(Ha p.1,Ha p.2)
def nf(l:List Pr):List Pr:=(l.take 25).foldl (fun acc p=>gD (Au p) acc) []
theorem Np{l:List Pr}{i:Nat}(hi:i<l.length)(h25:i<25):nf (l.take (i+1))=gD (Au l[i]) (nf (l.take i)):=by
 unfold nf;rw[lC,lC,jF (by omega),jF (by omega),bv hi,List.foldl_append];rfl
theorem Nq{l:List Pr}{i:Nat}(h25:25≤i):nf (l.take (i+1))=nf (l.take i):=by
 unfold nf;rw[lC,lC,bA (by omega),bA (by omega)]
structure Few(n:Nat)(L:List Pr):Prop where
 up:dD L
 len:L.length≤n
 fit:∀p∈L,p.1.size≤30∧p.2.size≤30
theorem Few.ins{n:Nat}{L:List Pr}(f:Few n L)(p:Pr)(h1:p.1.size≤30)(h2:p.2.size≤30):Few (n+1) (gD p L):=
 ⟨yQ p f.up,bh (D7 p) (by have:=f.len;omega),fun q hq=>(xI hq).elim (fun e=>by rw[e];exact⟨h1,h2⟩) fun h=>f.fit q h⟩
theorem G3(l:List Pr):Few 25 (nf l):=by
 unfold nf;have:∀(m:List Pr) (n:Nat) (acc:List Pr),Few n acc→Few (n+m.length) (m.foldl (fun acc p=>gD (Au p) acc) acc):=by
  intro m;induction m with
  |nil=>intro n acc h;exact h
  |cons p m ih=>
   intro n acc h;have:=ih (n+1) _ (h.ins (Au p) (tx _) (tx _));rw[List.foldl_cons,ax];rw[Nat.add_assoc,Nat.add_comm 1]at this;exact this
 have h:=this (l.take 25) 0 [] ⟨cE,aR _,fun p hp=>by simp at hp⟩
 exact⟨h.up,bh h.len (by rw[aK];omega),h.fit⟩
theorem Few.fits{n:Nat}{L:List Pr}(f:Few n L):Fit L:=fun p hp=>by have:=f.fit p hp;omega
set_option maxHeartbeats 1000000 in
theorem KC{W:Nat→Prop}{x:Hs}{h:ad}{s:SliceV}{l:List Pr}{kind:Int}(hs:Sl eC 2 W h s l)(hW:∀y,W y→y<h.size)(hkd:kind=0∨kind=1)(hn:l.length≤9223372036854775807){K:Tr×Rt→ad→Prop}
  (hk:∀h' t r,TreeIs W h' kind x t (nf l)→RefIs W h' kind x r (nf l)→Upd No h h'→K (t,r) h'):
  HC PG tm [.int .i64 kind,.agg #[.int .u64 x.k0,.int .u64 x.k1,.int .u64 x.mask],.slice s.a s.len s.cap] [.agg [.int .i64,.int .u64,.int .u64,.int .u64,.ptr,.ptr],.agg [.int .i64,.int .u64,.int .u64,.int .u64,.slice]] K h:=by
 refine JK kind (x.k0,x.k1,x.mask) s ?_;unfold CM dd aM ae au eP cJ nv yE pW ml Mw gB Ms oe o9 PX jx yX BS HJ bC av kU Rh Lg QI IV;refine aG fun h1 b1 k1=>aG fun h2 b2 k2=>aG fun h3 b3 k3=>?_
 have z1:=aJ b1;have z2:=aJ b2;have z3:=aJ b3;have s1:h.size≤h1.size:=k1.size;have s2:h1.size≤h2.size:=k2.size;have k03:=(k1.tr k2).tr k3;have c1:=k3.get0 (k2.get0 b1);have c2:=k3.get0 b2;have s3:=k3.size;refine⟨_,vc c1 0,_,vc c1 1,_,vc c1 2,?_⟩;refine EK (W:=Pro W h h3) (x:=x) (Pro.lt hW k03) hkd fun h8 t i8 k8=>?_
 refine aG fun h9 b9 k9=>?_
 have s8:=k8.size;have z9:=aJ b9;refine bo (c:=dZ iP) (vs:=dZ t) b9 rfl fun h10 b10 hu10=>?_
 have k810:Upd No h8 h10:=k9.own hu10 (ao _);have s10:=k810.size;have z10:=aJ b10;have d1:=k810.get0 (k8.get0 c1);refine⟨_,vc d1 0,_,vc d1 1,_,vc d1 2,?_⟩;refine E4 (x:=x) fun h15 k15=>?_
 have s15:=k15.size;refine OM (x:=x) (W:=fun y=>Pro W h h3 y∨y=h8.size∨y=h15.size) hkd fun h17 r j17 k17=>?_
 have s17:=k17.size;refine aG fun h18 b18 k18=>?_
 have z18:=aJ b18;refine bo (c:=ER PF) (vs:=ER r) b18 rfl fun hL bL huL=>?_
 have k17L:Upd No h17 hL:=k18.own huL (ao _);have sL:=k17L.size;have zL:=aJ bL;have k8L:Upd No h8 hL:=((k810.tr k15).tr k17).tr k17L;have kL:Upd No h hL:=(k03.tr k8).tr k8L;obtain⟨rs,rfl,hrs,hrc⟩:=j17;have iL:TreeIs (fun y=>Pro W h h3 y∨y=h8.size∨y=h17.size) hL kind x t []:=(i8.less fun y hy=>by
  rcases hy with hy|hy|hy
  ·exact .inl hy
  ·exact .inr (by omega)
  ·exact .inr (by omega)).upd0 k8L
 have jL:RefIs (fun y=>Pro W h h3 y∨y=h8.size∨y=h17.size) hL kind x (kind,hx kind x.k0,hx kind x.k1,hx kind x.mask,rs) []:=⟨rs,rfl,⟨hrs.len,fO,fun h=>absurd rfl h⟩,hrc⟩
 have tL:=k17L.get0 ((k15.tr k17).get0 b10);have rL1:=k8L.get0 (k8.get0 c2);have rL2:=k8L.get0 (k8.get0 b3);have hWL:∀y,(Pro W h h3 y∨y=h8.size∨y=h17.size)→y<hL.size:=fun y hy=>by
  rcases hy with hy|hy|hy
  ·have:=Pro.lt hW k03 y hy;omega
  ·omega
  ·omega
 have hsL:=hs.upd kL fun _ h=>h.elim
 have hlen:=hs.len;generalize (kind,hx kind x.k0,hx kind x.k1,hx kind x.mask,rs)=rv at jL bL;have hPW:∀y,W y→(Pro W h h3 y∨y=h8.size∨y=h17.size):=fun y hy=>.inl (.inl hy)
 have hP1:(Pro W h h3 h1.size∨h1.size=h8.size∨h1.size=h17.size):=.inl (.inr (by omega));have hP2:(Pro W h h3 h2.size∨h2.size=h8.size∨h2.size=h17.size):=.inl (.inr (by omega));have hPt:(Pro W h h3 h8.size∨h8.size=h8.size∨h8.size=h17.size):=.inr (.inl rfl);have hPx:(Pro W h h3 h17.size∨h17.size=h8.size∨h17.size=h17.size):=.inr (.inr rfl);generalize hWe:(fun y=>Pro W h h3 y∨y=h8.size∨y=h17.size)=W' at iL jL
 have eW:∀y,(Pro W h h3 y∨y=h8.size∨y=h17.size)=W' y:=fun y=>by rw[←hWe]
 rw[eW]at hP1 hP2 hPt hPx;simp only[eW]at hWL hPW;have n1:h1.size≠h8.size:=by omega
 have n1':h1.size≠h17.size:=by omega
 have n2:h2.size≠h8.size:=by omega
 have n2':h2.size≠h17.size:=by omega
 have n3:h8.size≠h17.size:=by omega
 have n4:h2.size≠h1.size:=by omega
 have hr1:h.size≤h1.size:=s1;have hr2:h.size≤h2.size:=by omega
 have hrt:h.size≤h8.size:=by omega
 have hrx:h.size≤h17.size:=by omega
 have htL:h8.size<hL.size:=by omega
 have hxL:h17.size<hL.size:=by omega
 have h1L:h1.size<hL.size:=by omega
 have h2L:h2.size<hL.size:=by omega
 refine LoopP.ghost (fun(i:Nat) (ti:Int) h'=>ti=(i:Int)∧i≤l.length∧(∃tv rv,TreeIs W' h' kind x tv (nf (l.take i))∧RefIs W' h' kind x rv (nf (l.take i))∧h'[h8.size]? =some (.cells (dZ tv).toArray aI (0,0))∧h'[h17.size]? =some (.cells (ER rv).toArray iq (0,0)))∧Upd (fun y=>y=h8.size∨y=h17.size) hL h') (fun i=>l.length-i) 0 ⟨rfl,aR _,⟨t,rv,by simpa[nf]using iL,by simpa[nf]using jL,tL,bL⟩,Upd.refl _ _⟩ ?_
 rintro I i ti h' ⟨rfl,hi,⟨tv,rv,it,jr,bt,bx⟩,hu⟩ hI;have hus:=hu.size;have hu0:Upd No h h':=kL.trans hu fun y hy=>.inr (by rcases hy with rfl|rfl<;>assumption)
 refine aE (fun hlt=>?_) fun hge=>?_
 ·have hlt:i<l.length:=by omega
  obtain⟨a,ha,_,hv⟩:=(hs.upd hu0 fun _ h=>h.elim).at (af hlt)
  refine Join.intro (fun _ h2=>(∃tv rv,TreeIs W' h2 kind x tv (nf (l.take (i+1)))∧RefIs W' h2 kind x rv (nf (l.take (i+1)))∧h2[h8.size]? =some (.cells (dZ tv).toArray aI (0,0))∧h2[h17.size]? =some (.cells (ER rv).toArray iq (0,0)))∧Upd (fun y=>y=h8.size∨y=h17.size) hL h2) (fun R hR=>⟨⟨by omega,by omega⟩,a,ha,l[i].1,hv 0 _ rfl,l[i].2,hv 1 _ rfl,?_⟩) ?_
  ·refine pN (p:=l[i]) fun h28 b28 k28=>?_
   have z28:=aJ b28;have nt:h'.size≠h8.size:=by omega
   have nx:h'.size≠h17.size:=by omega
   refine aE (fun h25=>?_) fun h25=>?_
   ·have h25:i<25:=by omega
    rw[Np hlt h25]at hR;refine⟨_,vc b28 0,_,vc b28 1,KD ⟨vc b28 1,KD ?_⟩⟩;refine bo (c:= [.string l[i].1,.string l[i].2]) (vs:= [.string (Au l[i]).1,.string (Au l[i]).2]) b28 rfl fun h35 b35 hu35=>?_
    have k35:Upd No h' h35:=k28.own hu35 (ao _);have t35:=k35.get0 bt;have x35:=k35.get0 bx;have s35:=k35.size;have fw:=G3 (l.take i);have fl:=fw.len;have q1:=tx l[i].1;have q2:=tx l[i].2;refine⟨_,vc t35 0,_,vc t35 1,_,vc t35 2,_,vc t35 3,_,vc t35 4,_,vc t35 5,_,vc b35 0,_,vc b35 1,?_⟩;refine Ga (it.upd0 k35) (fun y hy=>bB (hWL y hy) (by omega)) fw.up (by omega) (Au l[i]) (by unfold Au;simp only;omega) (by unfold Au;simp only;omega) fun h45 t' i45 _ k45=>?_
    refine bo (c:=dZ tv) (vs:=dZ t') (k45.get0 t35) rfl fun h46 t46 hu46=>?_
    have x46:=hu46.oth (k45.get0 x35) n3.symm;have p46:=hu46.oth (k45.get0 b35) nt;have j46:=((jr.upd0 k35).upd0 k45).updM hu46 fun y hy=>.inl (by have hy:y=h8.size:=hy;rw[hy];exact hPt)
    have s45:=k45.size;have s46:=hu46.size;refine⟨_,vc x46 0,_,vc x46 1,_,vc x46 2,_,vc x46 3,rv.2.2.2.2,vc x46 4,_,vc p46 0,_,vc p46 1,?_⟩;refine M6 j46 (fun y hy=>bB (hWL y hy) (by omega)) fw.up (by omega) (Au l[i]) (by unfold Au;simp only;omega) (by unfold Au;simp only;omega) fun h55 r' j55 k55=>?_
    refine bo (c:=ER rv) (vs:=ER r') (k55.get0 x46) rfl fun h56 x56 hu56=>hR _ _ ⟨⟨t',r',?_,j55.updM hu56 fun y hy=>.inl (by have hy:y=h17.size:=hy;rw[hy];exact hPx),hu56.oth (k55.get0 t46) n3,x56⟩,?_⟩
    ·exact((i45.updM hu46 fun y hy=>.inl (by have hy:y=h8.size:=hy;rw[hy];exact hPt)).upd0 k55).updM hu56 fun y hy=>.inl (by have hy:y=h17.size:=hy;rw[hy];exact hPx)
    ·exact((((hu.tr k35.wide).tr k45.wide).trans hu46 fun y hy=>.inl (.inl hy)).tr k55.wide).trans hu56 fun y hy=>.inl (.inr hy)
   ·have h25:25≤i:=by omega
    rw[Nq h25]at hR;exact hR _ _ ⟨⟨tv,rv,it.upd0 k28,jr.upd0 k28,k28.get0 bt,k28.get0 bx⟩,hu.tr k28.wide⟩
  ·rintro _ h2 ⟨hex,hu2⟩
   rw[AZ hlt hn];exact hI (i+1) _ _ ⟨rfl,hlt,hex,hu2⟩ (by omega)
 ·have hil:i=l.length:=by omega
  subst hil;rw[bW]at it jr;have y1:=hu.get rL1 (by rintro(e|e)<;>omega)
  have y2:=hu.get rL2 (by rintro(e|e)<;>omega)
  refine⟨_,vc bt 0,_,vc bt 1,_,vc bt 2,_,vc bt 3,_,vc bt 4,_,vc bt 5,_,vc bx 0,_,vc bx 1,_,vc bx 2,_,vc bx 3,rv.2.2.2.2,vc bx 4,?_⟩;refine bo (c:=dZ iP) (vs:=dZ tv) y1 rfl fun h70 b70 hu70=>?_
  have x70:=hu70.oth bx (by omega);refine⟨⟨vc x70 0,vc x70 1,vc x70 2,vc x70 3,vc x70 4⟩,?_⟩;refine bo (c:=ER PF) (vs:=ER rv) (hu70.oth y2 n4) rfl fun h71 b71 hu71=>?_
  have t71:=hu71.oth b70 n4.symm;refine⟨_,vc t71 0,_,vc t71 1,_,vc t71 2,_,vc t71 3,_,vc t71 4,_,vc t71 5,_,vc b71 0,_,vc b71 1,_,vc b71 2,_,vc b71 3,rv.2.2.2.2,vc b71 4,?_⟩;refine hk h71 tv rv (((it.updM hu70 fun y hy=>.inl (by have hy:y=h1.size:=hy;rw[hy];exact hP1)).updM hu71 fun y hy=>.inl (by have hy:y=h2.size:=hy;rw[hy];exact hP2)).less fun y hy=>.inl (hPW y hy)) (((jr.updM hu70 fun y hy=>.inl (by have hy:y=h1.size:=hy;rw[hy];exact hP1)).updM hu71 fun y hy=>.inl (by have hy:y=h2.size:=hy;rw[hy];exact hP2)).less fun y hy=>.inl (hPW y hy)) ((hu0.own hu70 hr1).own hu71 hr2)
end Go.Proofs
namespace Go.Proofs
open Go Go.Lift
end Go.Proofs
namespace Go.Proofs
open Go Go.Lift
theorem Iz{h:ad}{b:Nat}{c:Array Value}{t:TypeId}(hb:h[b]? =some (.cells c t (0,0))) (hc:0<c.size):gA h ⟨b,0,none⟩:=⟨c,t,hb,hc⟩
theorem TrieAt.plain{W:Nat→Prop}{x:Hs}{h:ad}:∀{m b:Nat} {l:List Pr},TrieAt W x h m b l→gA h ⟨b,0,none⟩
 |0,_,_,t=>by obtain⟨_,_,_,hb,_⟩:=BuckAt.ex t;exact Iz hb (by simp[fA])
 |m+1,_,_,⟨s,nd,_⟩=>by obtain⟨_,_,_,_,_,hb,_⟩:=nd.ex;exact Iz hb (by simp[fA])
end Go.Proofs
namespace Go.Proofs
open Go Go.Lift
end Go.Proofs
namespace Go.Proofs
open Go Go.Lift
theorem RxN.plain{W:Nat→Prop}{h:ad}{b:Nat}{sl:ByteArray}{w:Option ByteArray}{F:Fo}(r:RxN W h b sl w F):gA h ⟨b,0,none⟩:=by
 obtain⟨val,s,ow,ks,hb,_⟩:=r;exact Iz hb (by simp[CT])
end Go.Proofs
namespace Go.Proofs
open Go Go.Lift
end Go.Proofs
namespace Go.Proofs
open Go Go.Lift
theorem HZ{t:Tr}{h:ad}{K:Int×Int×Int→ad→Prop}(hk:∀h',Upd No h h'→K (t.2.1,t.2.2.1,t.2.2.2.1) h'):HC PG mR [An t] [.agg [.int .u64,.int .u64,.int .u64]] K h:=by
 refine wW t ?_;unfold qp ae cJ gB dQ Re Ri;refine aG fun h1 b1 k1=>aG fun h2 b2 k2=>?_
 have c1:=k2.get0 b1;refine⟨_,oh c1 1 0,_,oh c1 1 1,_,oh c1 1 2,?_⟩;refine bo (c:= [.int .u64 0,.int .u64 0,.int .u64 0]) (vs:= [.int .u64 t.2.1,.int .u64 t.2.2.1,.int .u64 t.2.2.2.1]) b2 rfl fun h3 b3 hu3=>?_
 exact⟨_,vc b3 0,_,vc b3 1,_,vc b3 2,hk h3 ((k1.tr k2).own hu3 k1.size)⟩
theorem eF{t:Tr}{h:ad}{K:Option Addr→ad→Prop}(hk:∀h',Upd No h h'→K t.2.2.2.2.2 h'):HC PG bR [An t] [.c .ptr] K h:=by
 refine yc t ?_;unfold rb au gB;exact aG fun h1 b1 k1=>⟨_,vc b1 5,hk h1 k1⟩
end Go.Proofs
namespace Go.Proofs
open Go Go.Lift
theorem H0{W:Nat→Prop}{x:Hs}{h:ad}{kind:Int}{t:Tr}{l:List Pr}(i:TreeIs W h kind x t l){K:Option Addr→ad→Prop}(hk:∀h' c,Upd No h h'→(!(Option.isNone c))=(kind==0)→K c h'):HC PG cR [An t] [.c .ptr] K h:=by
 rcases i with⟨rfl,b,rfl,tt⟩|⟨rfl,b,rfl,_⟩
 ·exact nb tt fun h' k=>hk h' _ k rfl
 ·refine nM _ ?_
  unfold kO aM au gB;exact aG fun h2 b2 k2=>Join.plain ⟨_,vc b2 0,al.2 (al.2 ⟨_,vc b2 4,hk h2 _ k2 rfl⟩)⟩
structure TreeC(h:ad)(kind:Int)(x:Hs)(t:Tr)(l:List Pr):Prop where
 kd:kind=0∨kind=1
 f:t.1=kind∧t.2.1=hx kind x.k0∧t.2.2.1=hx kind x.k1∧t.2.2.2.1=hx kind x.mask
 radix:(!(Option.isNone t.2.2.2.2.2))=(kind==1)
 pairs:∀{h':ad},Upd No h h'→∀{K:SliceV→ad→Prop},(∀s' h2,Sl eC 2 No h2 s' l→Upd No h' h2→K s' h2)→HC PG fR [An t] [.c .slice] K h'
 len:∀{h':ad},Upd No h h'→∀{K:Int→ad→Prop},(∀h2,Upd No h' h2→K (l.length:Int) h2)→HC PG gX [An t] [.c (.int .i64)] K h'
 shape:∀{h':ad},Upd No h h'→∀{K:SliceV→ad→Prop},(∀s' h2 xs,Cq kind x l xs→OwnS nh 1 cD (fun y=>h'.size≤y) h2 s' xs→Upd No h' h2→K s' h2)→HC PG kF [An t] [.c .slice] K h'
 canon:∀{h':ad},Upd No h h'→∀{K:Bool→ad→Prop},(∀h2,Upd No h' h2→K true h2)→HC PG kG [An t] [.c .bool] K h'
 champ:∀{h':ad},Upd No h h'→∀{K:Option Addr→ad→Prop},(∀h2 c,Upd No h' h2→(!(Option.isNone c))=(kind==0)→K c h2)→HC PG cR [An t] [.c .ptr] K h'
theorem ML{W:Nat→Prop}{x:Hs}{h:ad}{kind:Int}{t:Tr}{l:List Pr}(tb:Tab h)(i:TreeIs W h kind x t l)(hr:dD l)(hf:Fit l)(hn:l.length≤60000):TreeC h kind x t l where
 kd:=i.imp (fun h=>h.1) fun h=>h.1
 f:=by rcases i with⟨rfl,b,rfl,_⟩|⟨rfl,b,rfl,_⟩<;>simp[hx]
 radix:=by rcases i with⟨rfl,b,rfl,_⟩|⟨rfl,b,rfl,_⟩<;>rfl
 pairs k _ hk:=Ll (W':=No) (i.upd0 k) hr hf hn (fun _ h=>h.elim) hk
 len k _ hk:=OA (i.upd0 k) hr hn hk
 shape k _ hk:=Lk (i.upd0 k) hr hf hn hk
 canon k _ hk:=Lm (i.upd0 k) (tb.upd k id) hr hn hk
 champ k _ hk:=H0 (i.upd0 k) hk
set_option maxHeartbeats 1000000 in
theorem BK{W':Nat→Prop}{x:Hs}{h:ad}{kind:Int}{t:Tr}{r:Rt}{l:List Pr}(i:TreeC h kind x t l)(j:RefIs W' h kind x r l)(hr:dD l)(hf:Fit l)(hn:l.length≤60000){K:Bool→ad→Prop}(hk:∀h',Upd No h h'→K true h'):HC PG jX [An t,Rn r] [.c .bool] K h:=by
 refine JM t r ?_;unfold CO dd aM ae au eP gB Ms oe PX BS HJ cy MD dQ bC;have hkd:=i.kd;have ht:=i.f;obtain⟨s,er,hs,hc⟩:=j;refine aG fun h1 b1 k1=>aG fun h2 b2 k2=>?_
 have u2:=k1.tr k2;have c1:=k2.get0 b1;rw[er]at b2;have j:RefIs W' h kind x r l:=⟨s,er,hs,hc⟩;subst er;obtain⟨t1,t2,t3,t4⟩:=ht;refine⟨_,vc c1 0,_,vc c1 1,_,vc c1 2,_,vc c1 3,_,vc c1 4,_,vc c1 5,?_⟩;refine i.pairs u2 fun s9 h10 S9 k10=>?_
 have u10:=u2.tr k10;have a10:=k10.get0 c1;have r10:=k10.get0 b2;have l9:=S9.len;have lS:=hs.len;refine Join.intro (fun b h'=>b=false∧Upd No h10 h') (fun R hR'=>?_) ?_
 ·refine⟨_,vc a10 0,_,vc a10 1,_,vc a10 2,_,vc a10 3,_,vc a10 4,_,vc a10 5,_,vc r10 0,?_⟩
  refine Gc (t:=t) fun h20 k20=>⟨vc (k20.get0 r10) 0,?_⟩
  have a20:=k20.get0 a10;have r20:=k20.get0 r10;rw[show(t.1 !=kind)=false by rw[t1];simp]
  refine al.2 ⟨_,vc a20 0,_,vc a20 1,_,vc a20 2,_,vc a20 3,_,vc a20 4,_,vc a20 5,_,oh r20 1 0,_,oh r20 1 1,_,oh r20 1 2,?_⟩;refine HZ (t:=t) fun h31 k31=>?_
  have r31:=k31.get0 r20;refine⟨⟨oh r31 1 0,oh r31 1 1,oh r31 1 2⟩,vc r31 0,?_⟩;refine E4 (x:=⟨t.2.1,t.2.2.1,t.2.2.2.1⟩) fun h33 k33=>?_
  have r33:=k33.get0 r31;have a33:=k33.get0 (k31.get0 a20);refine⟨⟨oh r33 1 0,oh r33 1 1,oh r33 1 2⟩,vc r33 0,?_⟩;rw[t2,t3,t4,show(!((hx kind x.k0==hx kind x.k0)&&((hx kind x.k1==hx kind x.k1)&&((hx kind x.mask==hx kind x.mask)&&true))))=false by simp]
  refine al.2 ⟨s,vc r33 4,?_⟩;rw[l9,lS,show((l.length:Int) !=(l.length:Int))=false by simp]
  refine al.2 ⟨_,vc a33 0,_,vc a33 1,_,vc a33 2,_,vc a33 3,_,vc a33 4,_,vc a33 5,?_⟩;have k33':=(k20.tr k31).tr k33;refine i.len (u10.tr k33') fun h42 k42=>?_
  have r42:=k42.get0 r33;have a42:=k42.get0 a33;refine⟨by rw[←lS];exact vc r42 4,⟨oh r42 1 0,oh r42 1 1,oh r42 1 2⟩,vc r42 0,?_⟩;rw[show((l.length:Int) !=(l.length:Int))=false by simp]
  refine al.2 ⟨_,vc a42 0,_,vc a42 1,_,vc a42 2,_,vc a42 3,_,vc a42 4,_,vc a42 5,_,vc r42 0,_,vc r42 1,_,vc r42 2,_,vc r42 3,s,vc r42 4,?_⟩;have u42:=(u10.tr k33').tr k42;refine i.shape u42 fun s3 h55 xs hv3 ho3 k55=>?_
  have r55:=k55.get0 r42;refine⟨⟨vc r55 0,vc r55 1,vc r55 2,vc r55 3,vc r55 4⟩,by rw[←lS];exact vc r55 4,⟨oh r55 1 0,oh r55 1 1,oh r55 1 2⟩,vc r55 0,?_⟩
  refine LD hkd (j.upd0 (u42.tr k55)) hr hf hn fun s4 h57 ys ho4 hv4 k57=>?_
  have r57:=k57.get0 r55;refine⟨by rw[←lS];exact vc r57 4,⟨oh r57 1 0,oh r57 1 1,oh r57 1 2⟩,vc r57 0,?_⟩;have exy:xs=ys:=(MK (fun _=>rfl) hv3 hv4 hf hf hn hn hr hr).2 rfl
  subst exy;have hlx:=Li hv3 hf hn;refine LG ((ho3.upd k57 fun _ _ h=>h).sl (W:=No) fun _ _ _ h=>h) (ho4.sl (W:=No) fun _ _ _ h=>h) (by omega) ?_
  have a57:=(k55.tr k57).get0 a42;refine⟨by rw[←lS];exact vc r57 4,⟨oh r57 1 0,oh r57 1 1,oh r57 1 2⟩,vc r57 0,al.2 ⟨_,vc a57 0,_,vc a57 1,_,vc a57 2,_,vc a57 3,_,vc a57 4,_,vc a57 5,?_⟩⟩;have u57:=(u42.tr k55).tr k57;refine i.canon u57 fun h67 k67=>?_
  have r67:=k67.get0 r57;exact⟨by rw[←lS];exact vc r67 4,⟨oh r67 1 0,oh r67 1 1,oh r67 1 2⟩,vc r67 0,hR' _ _ ⟨rfl,((k33'.tr k42).tr (k55.tr k57)).tr k67⟩⟩
 rintro _ h69 ⟨rfl,k69⟩;refine al.2 ?_;have S69:=S9.upd k69 fun _ h=>h.elim
 have hs69:=hs.upd (u10.tr k69) fun _ h=>h.elim
 refine LoopP.ghost (fun(i:Nat) (t:Int) h'=>t=(i:Int)∧i≤l.length∧Upd No h69 h') (fun i=>l.length-i) 0 ⟨rfl,aR _,Upd.refl _ _⟩ ?_
 rintro I n tn h72 ⟨rfl,hi,hu⟩ hI;have a72:=hu.get0 (k69.get0 a10);have r72:=hu.get0 (k69.get0 r10);refine aE (fun hlt=>?_) fun hge=>?_
 ·have hlt:n<l.length:=by omega
  obtain⟨a,ha,_,hv⟩:=(S69.upd hu fun _ h=>h.elim).at (af hlt)
  obtain⟨a',ha',_,hw⟩:=(hs69.upd hu fun _ h=>h.elim).at (af hlt)
  refine⟨⟨by omega,by omega⟩,a,ha,l[n].1,hv 0 _ rfl,l[n].2,hv 1 _ rfl,s,vc r72 4,⟨by omega,by omega⟩,a',ha',l[n].1,hw 0 _ rfl,l[n].2,hw 1 _ rfl,?_⟩
  rw[show(!((l[n].1.toList==l[n].1.toList)&&((l[n].2.toList==l[n].2.toList)&&true)))=false by simp]
  refine al.2 ?_;rw[cp hlt (by omega)];exact hI (n+1) _ _ ⟨rfl,hlt,hu⟩ (by omega)
 ·have u72:=(u10.tr k69).tr hu
  refine⟨_,vc a72 0,_,vc a72 1,_,vc a72 2,_,vc a72 3,_,vc a72 4,_,vc a72 5,_,vc r72 0,?_⟩;refine i.champ u72 fun h88 c k88 e=>⟨vc (k88.get0 r72) 0,?_⟩
  have a88:=k88.get0 a72;have r88:=k88.get0 r72;rw[e,show((kind==(0:Int))==(kind==(0:Int)))=true by simp]
  refine aw.2 ⟨_,vc a88 0,_,vc a88 1,_,vc a88 2,_,vc a88 3,_,vc a88 4,_,vc a88 5,_,vc r88 0,?_⟩;refine eF (t:=t) fun h97 k97=>⟨vc (k97.get0 r88) 0,vc (k97.get0 r88) 0,?_⟩
  rw[i.radix,show((kind==(1:Int))==(kind==(1:Int)))=true by simp]
  exact hk h97 ((u72.tr k88).tr k97)
theorem rW{W W':Nat→Prop}{x:Hs}{h:ad}{kind:Int}{t:Tr}{r:Rt}{l:List Pr}(tb:Tab h)(i:TreeIs W h kind x t l)(j:RefIs W' h kind x r l)(hr:dD l)(hf:Fit l)(hn:l.length≤60000){K:Bool→ad→Prop}(hk:∀h',Upd No h h'→K true h'):HC PG jX [An t,Rn r] [.c .bool] K h:=BK (ML tb i hr hf hn) j hr hf hn hk
end Go.Proofs
namespace Go.Proofs
open Go Go.Lift
end Go.Proofs
namespace Go.Proofs
open Go Go.Lift
end Go.Proofs
namespace Go.Proofs
open Go Go.Lift
end Go.Proofs
namespace Go.Proofs
end Go.Proofs
namespace Go.Proofs
open Go Go.Lift
end Go.Proofs
namespace Go.Proofs
open Go Go.Lift
end Go.Proofs
namespace Go.Proofs
open Go Go.Lift
end Go.Proofs
namespace Go.Proofs
open Go Go.Lift
theorem HX{x:Hs}{h:ad}{kind:Int}(h0:kind≠0)(h1:kind≠1){K:Tr×Int→ad→Prop}(hk:∀h',Upd No h h'→K (iP,11) h'):HC PG mS [.int .i64 kind,.agg #[.int .u64 x.k0,.int .u64 x.k1,.int .u64 x.mask]] [.agg [.int .i64,.int .u64,.int .u64,.int .u64,.ptr,.ptr],.c (.int .i64)] K h:=by
 refine Cr kind (x.k0,x.k1,x.mask) ?_;unfold xg aM ae au cJ yE pW ml gB gV;refine aG fun h1' b1 k1=>aG fun h2 b2 k2=>?_
 rw[beq_eq_false_iff_ne.2 h0,beq_eq_false_iff_ne.2 h1];refine al.2 (al.2 ?_);refine bo (c:=dZ iP) (vs:=dZ iP) b2 rfl fun h4 b4 hu4=>?_
 exact⟨_,vc b4 0,_,vc b4 1,_,vc b4 2,_,vc b4 3,_,vc b4 4,_,vc b4 5,hk h4 ((k1.tr k2).own hu4 k1.size)⟩
end Go.Proofs
namespace Go.Proofs
open Go Go.Lift
end Go.Proofs
namespace Go.Proofs
open Go Go.Lift
end Go.Proofs
namespace Go.Proofs
open Go Go.Lift
theorem MS{h:ad}{K:Int→ad→Prop}(hk:∀h',Upd No h h'→K 0 h'):HC PG gX [An iP] [.c (.int .i64)] K h:=by
 refine pG iP ?_;unfold mL aM au gB cy;refine aG fun h1 b1 k1=>⟨_,vc b1 0,al.2 ⟨_,vc b1 4,?_⟩⟩
 refine uS _ ?_;unfold rp cf dd cy;refine nP _ ?_;unfold kP bG;refine aw.2 ?_;refine oG _ ?_;unfold lZ bG;refine aw.2 ?_;refine LoopP.ghost (fun(_:Unit) (t:Int×Int) h'=>t=(0,0)∧h'=h1) (fun _=>0) () ⟨rfl,rfl⟩ ?_
 rintro I _ t h3 ⟨rfl,e⟩ hI;rw[e];refine aE (fun hlt=>absurd hlt (by simp only;omega)) fun _=>hk h1 k1
end Go.Proofs
namespace Go.Proofs
open Go Go.Lift
theorem wn{x:Hs}{h:ad}{K:Option Addr→ad→Prop}(hk:∀h' b,TrieAt No x h' 13 b []→Upd No h h'→K (some ⟨b,0,none⟩) h'):HC PG cR [An iP] [.c .ptr] K h:=by
 refine nM iP ?_;unfold kO aM au gB;refine aG fun h1 b1 k1=>Join.plain ⟨_,vc b1 0,aw.2 ⟨_,vc b1 4,aw.2 ?_⟩⟩
 exact vR (x:=x) (fun _ h=>h.elim) fun h' b t k=>hk h' b t (k1.tr k)
theorem HT{h:ad}(tb:Tab h):TreeC h 0 ⟨0,0,0⟩ iP [] where
 kd:=.inl rfl
 f:=⟨rfl,rfl,rfl,rfl⟩
 radix:=rfl
 pairs k K hk:=by
  refine nL iP ?_;unfold kN aM au gB OT LQ;refine aG fun h1 b1 k1=>⟨_,vc b1 0,al.2 ⟨_,vc b1 4,?_⟩⟩
  exact vH (W:=No) (W':=No) (x:=⟨0,0,0⟩) (m:=13) (.inl ⟨rfl,rfl⟩) (ao _) cE (by simp) (fun _ h=>h.elim) fun s4 h4 hs4 _ k4=>hk s4 h4 hs4 (k1.tr k4)
 len k K hk:=MS hk
 shape {h'} k K hk:=by
  refine qZ iP ?_;unfold nQ aM ae au gB oe;refine aG fun h1 b1 k1=>⟨_,vc b1 0,al.2 (aG fun h2 b2 k2=>?_)⟩
  have z1:=k1.size;have c1:=k2.get0 b1;refine⟨_,vc c1 0,_,vc c1 1,_,vc c1 2,_,vc c1 3,_,vc c1 4,_,vc c1 5,?_⟩;refine wn (x:=⟨0,0,0⟩) fun h3 b t3 k3=>?_
  refine Kj t3 (fun p hp=>by cases hp) (by simp) fun s4 h4 ho4 k4=>?_
  have hlen:=kZ (x:=⟨0,0,0⟩) 13 (l:= []) (fun p hp=>by cases hp)
  have k24:=k3.tr k4;have hz:=aJ b2;have s24:=k24.size;have z3:=k3.size;refine⟨_,(ho4.sl (W:=No) fun _ _ _ h=>h).srow,?_⟩
  have o1:OwnS nh 1 cD (fun y=>h'.size≤y) h4 ⟨some ⟨h1.size,0,none⟩,1,1⟩ [(0:UInt8)]:=((tA (b:=0) b2).upd k24 fun _ _ h=>h).more fun y hy=>by omega
  refine AppP.own (ys:=eO ⟨0,0,0⟩ 13 []) o1 ho4.len rfl (vg _) rfl (by omega) (by simp only[aC];simp only[List.length_nil]at hlen;omega) (by omega) fun s' h5 ho' hu'=>?_
  exact hk s' h5 _ (.inl ⟨rfl,rfl⟩) ho' (((k1.tr k2).tr k24).trans hu' fun y hy=>.inr hy)
 canon k K hk:=by
  refine q9 iP ?_;unfold nR aM ae au pW gB oe dQ;refine aG fun h1 b1 k1=>⟨_,vc b1 0,al.2 ⟨_,oh b1 1 0,_,oh b1 1 1,_,oh b1 1 2,_,vc b1 0,_,vc b1 1,_,vc b1 2,_,vc b1 3,_,vc b1 4,_,vc b1 5,?_⟩⟩
  refine wn (x:=⟨0,0,0⟩) fun h2 b t2 k2=>⟨⟨oh (k2.get0 b1) 1 0,oh (k2.get0 b1) 1 1,oh (k2.get0 b1) 1 2⟩,?_⟩
  refine vU (0,0,0) _ ?_;unfold rN ae yE pW jz;refine aG fun h3 b3 k3=>al.2 ⟨_,vc b3 0,_,vc b3 1,_,vc b3 2,?_⟩
  have k03:=(k1.tr k2).tr k3;refine He (x:=⟨0,0,0⟩) 13 (ao _) (sw:=⟨none,0,0⟩) (way:= []) (TrieAt.upd0 k3 t2) (tb.upd (k.tr k03) id) (Sl.nil Nk) (ao _) rfl (fun p _ i c hc=>by simp at hc) cE (by simp) fun h4 k4=>?_
  exact hk h4 (k03.tr k4)
 champ k K hk:=wn (x:=⟨0,0,0⟩) fun h' b _ k'=>hk h' _ k' rfl
end Go.Proofs
namespace Go.Proofs
open Go Go.Lift
end Go.Proofs
namespace Go.Proofs
open Go Go.Lift
abbrev b1:ByteArray:=⟨#[49]⟩
abbrev b2:ByteArray:=⟨#[50]⟩
abbrev b3:ByteArray:=⟨#[51]⟩
end Go.Proofs
namespace Go.Proofs
open Go Go.Lift
def look(l:List Pr)(k:ByteArray):Option ByteArray:=(l.find? fun p=>decide (p.1=k)).map (·.2)
end Go.Proofs
namespace Go.Proofs
open Go Go.Lift
end Go.Proofs
namespace Go.Proofs
open Go Go.Lift
def P7(c:Ch):Bool:=(!((!c.2.2.2.1&& !c.2.2.2.2)||(c.2.2.2.1&&(c.2.2.2.2&&decide (c.2.1=c.2.2.1)))))&&((c.2.2.2.1||decide (c.2.1=⟨#[]⟩))&&(c.2.2.2.2||decide (c.2.2.1=⟨#[]⟩)))
def one(c:Ch):Option Ch:=if P7 c then some c else none
end Go.Proofs
namespace Go.Proofs
open Go Go.Lift
end Go.Proofs
namespace Go.Proofs
open Go Go.Lift
end Go.Proofs
namespace Go.Proofs
open Go Go.Lift
end Go.Proofs
namespace Go.Proofs
open Go Go.Lift
end Go.Proofs
namespace Go.Proofs
open Go Go.Lift
end Go.Proofs
