/- A part of the proof that the named laws of this program answer true, whatever the input. -/
import Derived.Test.YtajpljopgikpgaaGreatDoorPart0
import Derived.Test.YtajpljopgikpgaaGreatDoorLift3
import Derived.Lib.Overlaps
import Derived.Sort.Walk0
open BitVec renaming ofInt→aq,ofInt_natCast→eZ,getLsbD_ofNat→mu
open Bool renaming eq_iff_iff→lj
open Int renaming toNat_natCast→aO,fdiv→fH,fdiv_eq_ediv_of_nonneg→mq
open List renaming flatMap_cons→aY,take_length→cd,drop_length→pQ,length_take→aU,length_drop→aW,flatMap_append→bH,drop_zero→cT,append_assoc→aw,take_append_of_le_length→fw,take_of_length_le→bD,length_append→af,drop_left→gk,take_left→ja,size_toArray→cP,drop_eq_getElem_cons→eC,length_eq_zero_iff→bU,drop_left'→cG,take_left'→c5,drop_drop→dS,drop_append_of_le_length→fx,length_cons→aV,pairwise_iff_getElem→cF,getElem?_eq_getElem→ag,any_eq_true→cy,replicate→dQ,replicate_succ→iq,flatten_append→dW,flatten_cons→eN,flatten_nil→mY,length→f8,range→cQ,range_add→r6,mem_range→g6,filterMap_append→pq
open Nat renaming le_refl→ao,lt_or_ge→bK,min_eq_left→bC,sub_zero→fj,min→dV,zero_add→aL,add_one_mul→gy,one_mul→qr,le_mul_of_pos_left→pc,min_eq_right→pO,sub_self→o9,zero_mul→ri,zero_le→bo,testBit_shiftRight→o8,testBit_and→ii,testBit_two_pow_sub_one→lM,shiftRight_eq_div_pow→cE,lt_of_le_of_lt→fP,shiftRight_le→hP,mod_eq_of_lt→dw,testBit_two_pow→nf,testBit_lt_two_pow→gj,lt_of_lt_of_le→bP,pow_le_pow_right→eW
open UInt8 renaming ofNat→fV
namespace Go.Proofs
open Go Go.Lift
abbrev ge(x:ByteArray×ByteArray):List Value:= [.string x.1,.string x.2]
theorem jh(x:ByteArray×ByteArray):(ge x).length=2∧0<2:=⟨rfl,by omega⟩
theorem xx:∀xs:List (ByteArray×ByteArray),co (xs.flatMap ge)=true
 | []=>rfl
 |x::xs=>by rw[aY];exact kH rfl (xx xs)
theorem Il{h:ad}{a b o d f c cb:Nat}{j cw:Array Value}{g tb:TypeId}(hv:h[a]? =some (.cells j g (0,0))) (p:h[b]? =some (.cells cw tb (0,0))) (m:a≠b) (k:cw.size≠0) {K:Bool→ad→Prop} (n:K false h):
  HC PG iy [.slice (some ⟨a,0,none⟩) d f,.slice (some ⟨b,o,none⟩) c cb] [.c .bool] K h:=by
 refine⟨fun w i=>.inr ⟨.bool false,w,?_,Tame.refl w,false,rfl,i▸n⟩⟩
 subst i;rw[re];have:=Lib.run_overlaps_apart (P:=PG) w gV jF aB (by kernel_rfl) (bZ PG aB) (qh (by kernel_rfl)) ⟨a,0,none⟩ ⟨b,o,none⟩ d f c cb m g tb j.size cw.size
  (by simp[World.shape?,hv]) (by simp[World.shape?,p]) k (by simp[World.frozen?,hv]) (by simp[World.frozen?,hv])
 rw[show([Value.slice (some ⟨a,0,none⟩) d f,Value.slice (some ⟨b,o,none⟩) c cb]:List Value).toArray= #[.slice (some ⟨a,0,none⟩) d f,.slice (some ⟨b,o,none⟩) c cb]from rfl,this]
 rfl
set_option maxRecDepth 4000 in
theorem Mp{M:Nat→Prop}{h:ad}{s:SliceV}{xs:List (ByteArray×ByteArray)}(V:OwnS ge 2 aB M h s xs){k:Nat}(hkl:k≤xs.length)(hn:(xs.length+1)*32≤140737488355328){x:ByteArray×ByteArray}{m:Nat}(hv:h[m]? =some (.cells (ge x).toArray aB (0,0)))
  (hvM:¬M m) (hM:∀b,h.size≤b→M b) {K:SliceV→ad→Prop} (hK:∀s' J,OwnS ge 2 aB M J s' (xs.take k++x::xs.drop k)→Upd M h J→K s' J):
  HC PG cV [.slice s.a s.len s.cap,.int .i64 k,.slice (some ⟨m,0,none⟩) 1 1] [.c .slice] K h:=by
 refine mO s k ⟨some ⟨m,0,none⟩,1,1⟩ ?_;unfold hH my;have u:=V.len;have hcap:=V.cap;have N:SRow h (some ⟨m,0,none⟩) (1*2) (ge x):=⟨rfl,.inr ⟨_,rfl,pU hv fun i v hi=>by simpa using hi⟩⟩
 refine⟨by omega,aj.2 ?_⟩;refine CondP.intro (fun e=>?_) fun e=>?_
 ·have e:k=xs.length:=by have:=of_decide_eq_true (by simpa using e:decide ((k:Int)=(s.len:Int))=true);omega
  subst e;refine⟨_,N,AppP.own (ys:= [x]) V rfl (by simp) rfl rfl (by omega) (by simp;omega) (hM _ (ao _)) fun s' J ho hu=>hK s' J ?_ hu⟩
  rw[cd,pQ];exact ho
 have hlt:k<xs.length:=by
  rcases bK k xs.length with h|h
  ·exact h
  ·have:((k:Int)==(s.len:Int))=true:=by rw[beq_iff_eq];omega
   rw[this]at e;cases e
 rcases V.blk with h0|⟨b,d,ha,o,hc,hr⟩
 ·omega
 have j:((xs.take k).flatMap ge).length=k*2:=by rw[kM jh,aU,bC hkl]
 have p:((xs.drop k).flatMap ge).length=(xs.length-k)*2:=by rw[kM jh,aW]
 have P:m≠b:=fun e=>hvM (e▸o)
 rw[y2 (f:=ge) xs k]at hc;have a:(xs.take k++x::xs.drop k).flatMap ge=(xs.take k).flatMap ge++(ge x++(xs.drop k).flatMap ge):=by rw[bH,aY]
 have g:=xx (xs.drop k);have c:(ge x).length=2:=rfl;have y:co (ge x)=true:=rfl;generalize hAe:(xs.take k).flatMap ge=A at j hc a;generalize hBe:(xs.drop k).flatMap ge=B at p hc a g;generalize ge x=X at N c hv a y;rw[ha];have w1:IntKind.wrap .i64 ((xs.length:Int)+((1:Nat):Int))=((xs.length+1:Nat):Int):=by rw[oD (by omega)];omega
 have w2:IntKind.wrap .i64 ((k:Int)+((1:Nat):Int))=((k+1:Nat):Int):=by rw[oD (by omega)];omega
 have w3:IntKind.wrap .i64 (((xs.length+1:Nat):Int)-(k:Int))=((xs.length+1-k:Nat):Int):=by rw[oD (by omega)];omega
 simp only[w1,w2,w3,aO,u];refine aQ (fun hgt=>?_) fun hle=>?_
 ·
  have T:s.cap=xs.length:=by omega
  refine Join.plain ⟨by omega,⟨by omega,by omega,by omega,by omega⟩,fun hin=>?_,fun Q=>?_⟩
  ·omega
  ·refine⟨A,_,?_,rfl,by omega,Go.growslice_fits Q (by omega),fun E z=>?_⟩
   ·rw[sub_zero]
    exact lA hc (by rw[j];omega) (by simp only[cT,fj];rw[aw,←j,fw (ao _),cd])
   ·simp only[aO]at z⊢
    have W:=Upd.hnew No h (A++dE (xs.length+1-k) [.string (⟨#[]⟩:ByteArray),.string (⟨#[]⟩:ByteArray)]++dE (E-(k-0+(xs.length+1-k))) [.string (⟨#[]⟩:ByteArray),.string (⟨#[]⟩:ByteArray)]) aB;have bn:=db h (A++dE (xs.length+1-k) [.string (⟨#[]⟩:ByteArray),.string (⟨#[]⟩:ByteArray)]++dE (E-(k-0+(xs.length+1-k))) [.string (⟨#[]⟩:ByteArray),.string (⟨#[]⟩:ByteArray)]) aB
    have D:(dE (xs.length+1-k) [.string (⟨#[]⟩:ByteArray),.string (⟨#[]⟩:ByteArray)]).length=(xs.length+1-k)*2:=lO _ _;have Y:(dE (E-(k-0+(xs.length+1-k))) [.string (⟨#[]⟩:ByteArray),.string (⟨#[]⟩:ByteArray)]).length=(E-(k-0+(xs.length+1-k)))*2:=lO _ _;have w:k-0+(xs.length+1-k)=xs.length+1:=by omega
    rw[gf];have hsz:h.size≠m:=fun e=>by have:=aH hv;omega
    have H:h.size≠b:=fun e=>by have:=aH hc;omega
    have F:=W.get0 hc;have I:=W.get0 hv;generalize hnew h _ aB=h9 at W bn F I;rw[w]at z Y⊢;have m1:dV 1 (xs.length+1-k)=1:=bC (by omega);have m2:dV (xs.length-k) (xs.length+1-(k+1))=xs.length-k:=bC (by omega);rw[m1];have xr9:SRow h9 (some ⟨m,0,none⟩) (1*2) X:=lA I (by rw[c]) (by rw[cT,bD];rw[c];omega)
    refine⟨by omega,?_⟩;rw[jG (by omega)];refine kZ xr9 y bn (by simp only[af,j,D];omega) fun h11 O n=>⟨by omega,?_⟩
    simp only[Bd];rw[jG (by omega),jG (by omega),m2];refine⟨by omega,?_⟩;have C:=n.get F (fun e=>H e.symm)
    have br:SRow h11 (some ⟨b,0+k*2,none⟩) ((xs.length-k)*2) B:=lA C p (by
     rw[aL,aw,←j,gk,←p,ja])
    refine kZ br g O ?_ fun h16 L G=>?_
    ·simp only[af,aU,aW,j,D,c];omega
    ·refine hK _ _ ⟨by simp;omega,jh,z,.inr ⟨h.size,dE (E-(xs.length+1)) [.string (⟨#[]⟩:ByteArray),.string (⟨#[]⟩:ByteArray)],rfl,hM _ (ao _),?_,by rw[lO];rfl⟩⟩ ((W.wide.trans (M':=(· =h.size)) n fun b o=>.inl (o▸hM _ (ao _))).trans (M':=(· =h.size)) G fun b o=>.inl (o▸hM _ (ao _)))
     rw[L,a];have:=It (A:=A) (X:=X) (B:=B) (Z1:=dE (xs.length+1-k) [.string (⟨#[]⟩:ByteArray),.string (⟨#[]⟩:ByteArray)]) (Z2:=dE (E-(xs.length+1)) [.string (⟨#[]⟩:ByteArray),.string (⟨#[]⟩:ByteArray)]) (r:=(xs.length-k)*2) j c (by rw[D,←gy];congr 1;omega);rw[w,←this];simp only[aL,gy,qr]
 ·have T:xs.length+1≤s.cap:=by omega
  refine⟨by omega,?_⟩;simp only[Bd,fj];rw[sub_zero,jG (show s.cap≠k+1 by omega),jG (show s.cap≠k by omega)]
  refine⟨by omega,?_⟩;have hrl:2≤d.length:=by rw[hr];exact pc _ (by omega)
  refine Il hv hc P (by rw[cP,af];omega) ?_;refine ay.2 ⟨by omega,by omega,?_⟩
  have m1:dV 1 (xs.length+1-k)=1:=bC (by omega);have m2:dV (xs.length+1-k) (xs.length+1-(k+1))=xs.length-k:=by
   rw[show xs.length+1-(k+1)=xs.length-k by omega];exact pO (by omega)
  rw[m2];have br:SRow h (some ⟨b,0+k*2,none⟩) ((xs.length-k)*2) B:=lA hc p (by
   rw[aL,aw,←j,gk,←p,ja])
  refine kZ br g hc (by simp only[af,j,p];omega) fun h1 hb1 S=>⟨by omega,?_⟩
  rw[m1];have xr1:SRow h1 (some ⟨m,0,none⟩) (1*2) X:=lA (S.get hv P) (by rw[c]) (by rw[cT,bD];rw[c];omega);refine kZ xr1 y hb1 (by simp only[af,aU,aW,j,p];omega) fun h2 hb2 Z=>?_
  refine hK _ _ ⟨by simp;omega,jh,T,.inr ⟨b,d.drop 2,rfl,o,?_,?_⟩⟩ ((S.mono fun _ e=>.inl (e▸o)).tr (Z.mono fun _ e=>.inl (e▸o)))
  ·rw[hb2,a]
   have:=Mr (A:=A) (X:=X) (B:=B) (R:=d) (q:=2) (r:=(xs.length-k)*2) j p hrl;rw[←this];simp only[aL,gy,qr]
  ·rw[aW,hr]
   simp only;rw[u];omega
abbrev qu(x:Option Addr):List Value:= [.pointer x]
theorem rA(x:Option Addr):(qu x).length=1∧0<1:=⟨rfl,by omega⟩
theorem Dv:∀xs:List (Option Addr),co (xs.flatMap qu)=true
 | []=>rfl
 |x::xs=>by rw[aY];exact kH rfl (Dv xs)
theorem Im{h:ad}{a b o d f c cb:Nat}{j cw:Array Value}{g tb:TypeId}(hv:h[a]? =some (.cells j g (0,0))) (p:h[b]? =some (.cells cw tb (0,0))) (m:a≠b) (k:cw.size≠0) {K:Bool→ad→Prop} (n:K false h):
  HC PG gY [.slice (some ⟨a,0,none⟩) d f,.slice (some ⟨b,o,none⟩) c cb] [.c .bool] K h:=by
 refine⟨fun w i=>.inr ⟨.bool false,w,?_,Tame.refl w,false,rfl,i▸n⟩⟩
 subst i;rw[qn];have:=Lib.run_overlaps_apart (P:=PG) w qw jF bM (by kernel_rfl) (bZ PG bM) (qh (by kernel_rfl)) ⟨a,0,none⟩ ⟨b,o,none⟩ d f c cb m g tb j.size cw.size
  (by simp[World.shape?,hv]) (by simp[World.shape?,p]) k (by simp[World.frozen?,hv]) (by simp[World.frozen?,hv])
 rw[show([Value.slice (some ⟨a,0,none⟩) d f,Value.slice (some ⟨b,o,none⟩) c cb]:List Value).toArray= #[.slice (some ⟨a,0,none⟩) d f,.slice (some ⟨b,o,none⟩) c cb]from rfl,this]
 rfl
set_option maxRecDepth 4000 in
theorem Mq{M:Nat→Prop}{h:ad}{s:SliceV}{xs:List (Option Addr)}(V:OwnS qu 1 bM M h s xs){k:Nat}(hkl:k≤xs.length)(hn:(xs.length+1)*8≤140737488355328){x:Option Addr}{m:Nat}(hv:h[m]? =some (.cells (qu x).toArray bM (0,0)))
  (hvM:¬M m) (hM:∀b,h.size≤b→M b) {K:SliceV→ad→Prop} (hK:∀s' J,OwnS qu 1 bM M J s' (xs.take k++x::xs.drop k)→Upd M h J→K s' J):
  HC PG cM [.slice s.a s.len s.cap,.int .i64 k,.slice (some ⟨m,0,none⟩) 1 1] [.c .slice] K h:=by
 refine ld s k ⟨some ⟨m,0,none⟩,1,1⟩ ?_;unfold gu;have u:=V.len;have hcap:=V.cap;have N:SRow h (some ⟨m,0,none⟩) (1*1) (qu x):=⟨rfl,.inr ⟨_,rfl,pU hv fun i v hi=>by simpa using hi⟩⟩
 refine⟨by omega,aj.2 ?_⟩;refine CondP.intro (fun e=>?_) fun e=>?_
 ·have e:k=xs.length:=by have:=of_decide_eq_true (by simpa using e:decide ((k:Int)=(s.len:Int))=true);omega
  subst e;refine⟨_,N,AppP.own (ys:= [x]) V rfl (by simp) rfl rfl (by omega) (by simp;omega) (hM _ (ao _)) fun s' J ho hu=>hK s' J ?_ hu⟩
  rw[cd,pQ];exact ho
 have hlt:k<xs.length:=by
  rcases bK k xs.length with h|h
  ·exact h
  ·have:((k:Int)==(s.len:Int))=true:=by rw[beq_iff_eq];omega
   rw[this]at e;cases e
 rcases V.blk with h0|⟨b,d,ha,o,hc,hr⟩
 ·omega
 have j:((xs.take k).flatMap qu).length=k*1:=by rw[kM rA,aU,bC hkl]
 have p:((xs.drop k).flatMap qu).length=(xs.length-k)*1:=by rw[kM rA,aW]
 have P:m≠b:=fun e=>hvM (e▸o)
 rw[y2 (f:=qu) xs k]at hc;have a:(xs.take k++x::xs.drop k).flatMap qu=(xs.take k).flatMap qu++(qu x++(xs.drop k).flatMap qu):=by rw[bH,aY]
 have g:=Dv (xs.drop k);have c:(qu x).length=1:=rfl;have y:co (qu x)=true:=rfl;generalize hAe:(xs.take k).flatMap qu=A at j hc a;generalize hBe:(xs.drop k).flatMap qu=B at p hc a g;generalize qu x=X at N c hv a y;rw[ha];have w1:IntKind.wrap .i64 ((xs.length:Int)+((1:Nat):Int))=((xs.length+1:Nat):Int):=by rw[oD (by omega)];omega
 have w2:IntKind.wrap .i64 ((k:Int)+((1:Nat):Int))=((k+1:Nat):Int):=by rw[oD (by omega)];omega
 have w3:IntKind.wrap .i64 (((xs.length+1:Nat):Int)-(k:Int))=((xs.length+1-k:Nat):Int):=by rw[oD (by omega)];omega
 simp only[w1,w2,w3,aO,u];refine aQ (fun hgt=>?_) fun hle=>?_
 ·
  have T:s.cap=xs.length:=by omega
  refine Join.plain ⟨by omega,⟨by omega,by omega,by omega,by omega⟩,fun hin=>?_,fun Q=>?_⟩
  ·omega
  ·refine⟨A,_,?_,rfl,by omega,Go.growslice_fits Q (by omega),fun E z=>?_⟩
   ·rw[sub_zero]
    exact lA hc (by rw[j];omega) (by simp only[cT,fj];rw[aw,←j,fw (ao _),cd])
   ·simp only[aO]at z⊢
    have W:=Upd.hnew No h (A++dE (xs.length+1-k) [.pointer none]++dE (E-(k-0+(xs.length+1-k))) [.pointer none]) bM;have bn:=db h (A++dE (xs.length+1-k) [.pointer none]++dE (E-(k-0+(xs.length+1-k))) [.pointer none]) bM;have D:(dE (xs.length+1-k) [.pointer none]).length=(xs.length+1-k)*1:=lO _ _;have Y:(dE (E-(k-0+(xs.length+1-k))) [.pointer none]).length=(E-(k-0+(xs.length+1-k)))*1:=lO _ _
    have w:k-0+(xs.length+1-k)=xs.length+1:=by omega
    rw[gf];have hsz:h.size≠m:=fun e=>by have:=aH hv;omega
    have H:h.size≠b:=fun e=>by have:=aH hc;omega
    have F:=W.get0 hc;have I:=W.get0 hv;generalize hnew h _ bM=h9 at W bn F I;rw[w]at z Y⊢;have m1:dV 1 (xs.length+1-k)=1:=bC (by omega);have m2:dV (xs.length-k) (xs.length+1-(k+1))=xs.length-k:=bC (by omega);rw[m1];have xr9:SRow h9 (some ⟨m,0,none⟩) (1*1) X:=lA I (by rw[c]) (by rw[cT,bD];rw[c];omega)
    refine⟨by omega,?_⟩;rw[jG (by omega)];refine kZ xr9 y bn (by simp only[af,j,D];omega) fun h11 O n=>⟨by omega,?_⟩
    simp only[Bd];rw[jG (by omega),jG (by omega),m2];refine⟨by omega,?_⟩;have C:=n.get F (fun e=>H e.symm)
    have br:SRow h11 (some ⟨b,0+k*1,none⟩) ((xs.length-k)*1) B:=lA C p (by
     rw[aL,aw,←j,gk,←p,ja])
    refine kZ br g O ?_ fun h16 L G=>?_
    ·simp only[af,aU,aW,j,D,c];omega
    ·refine hK _ _ ⟨by simp;omega,rA,z,.inr ⟨h.size,dE (E-(xs.length+1)) [.pointer none],rfl,hM _ (ao _),?_,by rw[lO];rfl⟩⟩ ((W.wide.trans (M':=(· =h.size)) n fun b o=>.inl (o▸hM _ (ao _))).trans (M':=(· =h.size)) G fun b o=>.inl (o▸hM _ (ao _)))
     rw[L,a];have:=It (A:=A) (X:=X) (B:=B) (Z1:=dE (xs.length+1-k) [.pointer none]) (Z2:=dE (E-(xs.length+1)) [.pointer none]) (r:=(xs.length-k)*1) j c (by rw[D,←gy];congr 1;omega);rw[w,←this];simp only[aL,gy,qr]
 ·have T:xs.length+1≤s.cap:=by omega
  refine⟨by omega,?_⟩;simp only[Bd,fj];rw[sub_zero,jG (show s.cap≠k+1 by omega),jG (show s.cap≠k by omega)]
  refine⟨by omega,?_⟩;have hrl:1≤d.length:=by rw[hr];exact pc _ (by omega)
  refine Im hv hc P (by rw[cP,af];omega) ?_;refine ay.2 ⟨by omega,by omega,?_⟩
  have m1:dV 1 (xs.length+1-k)=1:=bC (by omega);have m2:dV (xs.length+1-k) (xs.length+1-(k+1))=xs.length-k:=by
   rw[show xs.length+1-(k+1)=xs.length-k by omega];exact pO (by omega)
  rw[m2];have br:SRow h (some ⟨b,0+k*1,none⟩) ((xs.length-k)*1) B:=lA hc p (by
   rw[aL,aw,←j,gk,←p,ja])
  refine kZ br g hc (by simp only[af,j,p];omega) fun h1 hb1 S=>⟨by omega,?_⟩
  rw[m1];have xr1:SRow h1 (some ⟨m,0,none⟩) (1*1) X:=lA (S.get hv P) (by rw[c]) (by rw[cT,bD];rw[c];omega);refine kZ xr1 y hb1 (by simp only[af,aU,aW,j,p];omega) fun h2 hb2 Z=>?_
  refine hK _ _ ⟨by simp;omega,rA,T,.inr ⟨b,d.drop 1,rfl,o,?_,?_⟩⟩ ((S.mono fun _ e=>.inl (e▸o)).tr (Z.mono fun _ e=>.inl (e▸o)))
  ·rw[hb2,a]
   have:=Mr (A:=A) (X:=X) (B:=B) (R:=d) (q:=1) (r:=(xs.length-k)*1) j p hrl;rw[←this];simp only[aL,gy,qr]
  ·rw[aW,hr]
   simp only;rw[u];omega
abbrev mw(x:Option Addr):List Value:= [.pointer x]
theorem oF(x:Option Addr):(mw x).length=1∧0<1:=⟨rfl,by omega⟩
theorem Du:∀xs:List (Option Addr),co (xs.flatMap mw)=true
 | []=>rfl
 |x::xs=>by rw[aY];exact kH rfl (Du xs)
theorem Ik{h:ad}{a b o d f c cb:Nat}{j cw:Array Value}{g tb:TypeId}(hv:h[a]? =some (.cells j g (0,0))) (p:h[b]? =some (.cells cw tb (0,0))) (m:a≠b) (k:cw.size≠0) {K:Bool→ad→Prop} (n:K false h):
  HC PG gK [.slice (some ⟨a,0,none⟩) d f,.slice (some ⟨b,o,none⟩) c cb] [.c .bool] K h:=by
 refine⟨fun w i=>.inr ⟨.bool false,w,?_,Tame.refl w,false,rfl,i▸n⟩⟩
 subst i;rw[pK];have:=Lib.run_overlaps_apart (P:=PG) w pt jF bj (by kernel_rfl) (bZ PG bj) (qh (by kernel_rfl)) ⟨a,0,none⟩ ⟨b,o,none⟩ d f c cb m g tb j.size cw.size
  (by simp[World.shape?,hv]) (by simp[World.shape?,p]) k (by simp[World.frozen?,hv]) (by simp[World.frozen?,hv])
 rw[show([Value.slice (some ⟨a,0,none⟩) d f,Value.slice (some ⟨b,o,none⟩) c cb]:List Value).toArray= #[.slice (some ⟨a,0,none⟩) d f,.slice (some ⟨b,o,none⟩) c cb]from rfl,this]
 rfl
set_option maxRecDepth 4000 in
theorem Mn{M:Nat→Prop}{h:ad}{s:SliceV}{xs:List (Option Addr)}(V:OwnS mw 1 bj M h s xs){k:Nat}(hkl:k≤xs.length)(hn:(xs.length+1)*8≤140737488355328){x:Option Addr}{m:Nat}(hv:h[m]? =some (.cells (mw x).toArray bj (0,0)))
  (hvM:¬M m) (hM:∀b,h.size≤b→M b) {K:SliceV→ad→Prop} (hK:∀s' J,OwnS mw 1 bj M J s' (xs.take k++x::xs.drop k)→Upd M h J→K s' J):
  HC PG ey [.slice s.a s.len s.cap,.int .i64 k,.slice (some ⟨m,0,none⟩) 1 1] [.c .slice] K h:=by
 refine j8 s k ⟨some ⟨m,0,none⟩,1,1⟩ ?_;unfold ga;have u:=V.len;have hcap:=V.cap;have N:SRow h (some ⟨m,0,none⟩) (1*1) (mw x):=⟨rfl,.inr ⟨_,rfl,pU hv fun i v hi=>by simpa using hi⟩⟩
 refine⟨by omega,aj.2 ?_⟩;refine CondP.intro (fun e=>?_) fun e=>?_
 ·have e:k=xs.length:=by have:=of_decide_eq_true (by simpa using e:decide ((k:Int)=(s.len:Int))=true);omega
  subst e;refine⟨_,N,AppP.own (ys:= [x]) V rfl (by simp) rfl rfl (by omega) (by simp;omega) (hM _ (ao _)) fun s' J ho hu=>hK s' J ?_ hu⟩
  rw[cd,pQ];exact ho
 have hlt:k<xs.length:=by
  rcases bK k xs.length with h|h
  ·exact h
  ·have:((k:Int)==(s.len:Int))=true:=by rw[beq_iff_eq];omega
   rw[this]at e;cases e
 rcases V.blk with h0|⟨b,d,ha,o,hc,hr⟩
 ·omega
 have j:((xs.take k).flatMap mw).length=k*1:=by rw[kM oF,aU,bC hkl]
 have p:((xs.drop k).flatMap mw).length=(xs.length-k)*1:=by rw[kM oF,aW]
 have P:m≠b:=fun e=>hvM (e▸o)
 rw[y2 (f:=mw) xs k]at hc;have a:(xs.take k++x::xs.drop k).flatMap mw=(xs.take k).flatMap mw++(mw x++(xs.drop k).flatMap mw):=by rw[bH,aY]
 have g:=Du (xs.drop k);have c:(mw x).length=1:=rfl;have y:co (mw x)=true:=rfl;generalize hAe:(xs.take k).flatMap mw=A at j hc a;generalize hBe:(xs.drop k).flatMap mw=B at p hc a g;generalize mw x=X at N c hv a y;rw[ha];have w1:IntKind.wrap .i64 ((xs.length:Int)+((1:Nat):Int))=((xs.length+1:Nat):Int):=by rw[oD (by omega)];omega
 have w2:IntKind.wrap .i64 ((k:Int)+((1:Nat):Int))=((k+1:Nat):Int):=by rw[oD (by omega)];omega
 have w3:IntKind.wrap .i64 (((xs.length+1:Nat):Int)-(k:Int))=((xs.length+1-k:Nat):Int):=by rw[oD (by omega)];omega
 simp only[w1,w2,w3,aO,u];refine aQ (fun hgt=>?_) fun hle=>?_
 ·
  have T:s.cap=xs.length:=by omega
  refine Join.plain ⟨by omega,⟨by omega,by omega,by omega,by omega⟩,fun hin=>?_,fun Q=>?_⟩
  ·omega
  ·refine⟨A,_,?_,rfl,by omega,Go.growslice_fits Q (by omega),fun E z=>?_⟩
   ·rw[sub_zero]
    exact lA hc (by rw[j];omega) (by simp only[cT,fj];rw[aw,←j,fw (ao _),cd])
   ·simp only[aO]at z⊢
    have W:=Upd.hnew No h (A++dE (xs.length+1-k) [.pointer none]++dE (E-(k-0+(xs.length+1-k))) [.pointer none]) bj;have bn:=db h (A++dE (xs.length+1-k) [.pointer none]++dE (E-(k-0+(xs.length+1-k))) [.pointer none]) bj;have D:(dE (xs.length+1-k) [.pointer none]).length=(xs.length+1-k)*1:=lO _ _;have Y:(dE (E-(k-0+(xs.length+1-k))) [.pointer none]).length=(E-(k-0+(xs.length+1-k)))*1:=lO _ _
    have w:k-0+(xs.length+1-k)=xs.length+1:=by omega
    rw[gf];have hsz:h.size≠m:=fun e=>by have:=aH hv;omega
    have H:h.size≠b:=fun e=>by have:=aH hc;omega
    have F:=W.get0 hc;have I:=W.get0 hv;generalize hnew h _ bj=h9 at W bn F I;rw[w]at z Y⊢;have m1:dV 1 (xs.length+1-k)=1:=bC (by omega);have m2:dV (xs.length-k) (xs.length+1-(k+1))=xs.length-k:=bC (by omega);rw[m1];have xr9:SRow h9 (some ⟨m,0,none⟩) (1*1) X:=lA I (by rw[c]) (by rw[cT,bD];rw[c];omega)
    refine⟨by omega,?_⟩;rw[jG (by omega)];refine kZ xr9 y bn (by simp only[af,j,D];omega) fun h11 O n=>⟨by omega,?_⟩
    simp only[Bd];rw[jG (by omega),jG (by omega),m2];refine⟨by omega,?_⟩;have C:=n.get F (fun e=>H e.symm)
    have br:SRow h11 (some ⟨b,0+k*1,none⟩) ((xs.length-k)*1) B:=lA C p (by
     rw[aL,aw,←j,gk,←p,ja])
    refine kZ br g O ?_ fun h16 L G=>?_
    ·simp only[af,aU,aW,j,D,c];omega
    ·refine hK _ _ ⟨by simp;omega,oF,z,.inr ⟨h.size,dE (E-(xs.length+1)) [.pointer none],rfl,hM _ (ao _),?_,by rw[lO];rfl⟩⟩ ((W.wide.trans (M':=(· =h.size)) n fun b o=>.inl (o▸hM _ (ao _))).trans (M':=(· =h.size)) G fun b o=>.inl (o▸hM _ (ao _)))
     rw[L,a];have:=It (A:=A) (X:=X) (B:=B) (Z1:=dE (xs.length+1-k) [.pointer none]) (Z2:=dE (E-(xs.length+1)) [.pointer none]) (r:=(xs.length-k)*1) j c (by rw[D,←gy];congr 1;omega);rw[w,←this];simp only[aL,gy,qr]
 ·have T:xs.length+1≤s.cap:=by omega
  refine⟨by omega,?_⟩;simp only[Bd,fj];rw[sub_zero,jG (show s.cap≠k+1 by omega),jG (show s.cap≠k by omega)]
  refine⟨by omega,?_⟩;have hrl:1≤d.length:=by rw[hr];exact pc _ (by omega)
  refine Ik hv hc P (by rw[cP,af];omega) ?_;refine ay.2 ⟨by omega,by omega,?_⟩
  have m1:dV 1 (xs.length+1-k)=1:=bC (by omega);have m2:dV (xs.length+1-k) (xs.length+1-(k+1))=xs.length-k:=by
   rw[show xs.length+1-(k+1)=xs.length-k by omega];exact pO (by omega)
  rw[m2];have br:SRow h (some ⟨b,0+k*1,none⟩) ((xs.length-k)*1) B:=lA hc p (by
   rw[aL,aw,←j,gk,←p,ja])
  refine kZ br g hc (by simp only[af,j,p];omega) fun h1 hb1 S=>⟨by omega,?_⟩
  rw[m1];have xr1:SRow h1 (some ⟨m,0,none⟩) (1*1) X:=lA (S.get hv P) (by rw[c]) (by rw[cT,bD];rw[c];omega);refine kZ xr1 y hb1 (by simp only[af,aU,aW,j,p];omega) fun h2 hb2 Z=>?_
  refine hK _ _ ⟨by simp;omega,oF,T,.inr ⟨b,d.drop 1,rfl,o,?_,?_⟩⟩ ((S.mono fun _ e=>.inl (e▸o)).tr (Z.mono fun _ e=>.inl (e▸o)))
  ·rw[hb2,a]
   have:=Mr (A:=A) (X:=X) (B:=B) (R:=d) (q:=1) (r:=(xs.length-k)*1) j p hrl;rw[←this];simp only[aL,gy,qr]
  ·rw[aW,hr]
   simp only;rw[u];omega
end Go.Proofs
namespace Go.Proofs
open Go Go.Lift
theorem BX{W:Nat→Prop}{h:ad}{s:SliceV}{xs:List (ByteArray×ByteArray)}(g:Sl ge 2 W h s xs)(n:xs.length*32≤140737488355328){K:SliceV→ad→Prop}
  (j:∀s' c,OwnS ge 2 aB (fun b=>h.size≤b) c s' xs→Upd No h c→K s' c):HC PG dd [.slice s.a s.len s.cap] [.c .slice] K h:=by
 refine na s ?_;unfold ip my;refine CondP.intro (fun d=>?_) (fun m=>?_)
 ·have d:s.a=none:=by simpa using d
  have hx:xs= []:=by
   by_cases hx:xs= []
   ·exact hx
   ·obtain⟨a,i,_⟩:=g.row hx
    rw[d]at i;cases i
  subst hx;exact j _ _ (OwnS.nil jh) (Upd.refl _ _)
 ·have q:=g.upd (Upd.hnew No h [] aB) (fun _ h=>h.elim)
  refine⟨_,q.srow,?_⟩;refine AppP.own (f:=ge) (M:=fun b=>h.size≤b) (xs:= []) (ys:=xs) ⟨rfl,jh,ao _,.inl rfl⟩ g.len rfl (xx xs) rfl (by omega) (by simpa using n) (by rw[ly];omega) fun s' c k o=>?_
  exact j _ _ k ((Upd.hnew No h [] aB).trans o fun b p=>.inr p)
theorem MJ{M:Nat→Prop}{h:ad}{s:SliceV}{xs:List (ByteArray×ByteArray)}(q:OwnS ge 2 aB M h s xs){k:Nat}(E:k<xs.length)(P:xs.length≤4398046511104)
  {K:SliceV→ad→Prop}(I:∀s' h',OwnS ge 2 aB M h' s' (xs.take k++xs.drop (k+1))→Upd M h h'→K s' h'):
  HC PG fh [.slice s.a s.len s.cap,.int .i64 k,.int .i64 ((k+1:Nat):Int)] [.c .slice] K h:=by
 refine mP s k ((k+1:Nat):Int) ?_;unfold hJ my;have d:=q.len;have F:=q.cap;rcases q.blk with O|⟨b,a,H,u,hc,J⟩
 ·omega
 have p:((xs.take k).flatMap ge).length=k*2:=by rw[kM jh,aU,bC (by omega)]
 have m:((xs.drop (k+1)).flatMap ge).length=(xs.length-(k+1))*2:=by rw[kM jh,aW]
 have N:xs.flatMap ge=(xs.take k).flatMap ge++(ge xs[k]++(xs.drop (k+1)).flatMap ge):=by
  rw[←aY,←eC E];exact y2 xs k
 rw[N]at hc;have f:=xx (xs.drop (k+1));have c:(xs.take k++xs.drop (k+1)).flatMap ge=(xs.take k).flatMap ge++(xs.drop (k+1)).flatMap ge:=bH;have G:(ge xs[k]).length=2:=rfl;generalize (xs.take k).flatMap ge=A at p hc c;generalize (xs.drop (k+1)).flatMap ge=B at m hc f c;generalize ge xs[k]=X at G hc;rw[H];simp only[d,aO];refine⟨by omega,by omega,by omega,CondP.intro (fun e=>?_) fun _=>?_⟩
 ·have:(k:Int)=((k+1:Nat):Int):=by simpa using e
  omega
 refine Join.plain ⟨by omega,by omega,B,?_,?_⟩
 ·by_cases g:xs.length=k+1
  ·exact⟨m,.inl (bU.1 (by rw[m,g,o9,ri]))⟩
  rw[jG (by omega)];refine lA hc m ?_;have:(A++X).length=0+(k+1)*2:=by rw[af];omega
  rw[show A++(X++B)++a=(A++X)++(B++a) by simp only[aw],cG this,c5 m]
 ·rw[sub_zero]
  refine MS hc (by simp only[af];omega) (by omega) f fun R j C=>?_
  have z:a.length=(s.cap-xs.length)*2:=by rw[J,d]
  refine⟨by dsimp only;omega,by dsimp only;omega,?_⟩
  simp only[Bd];rw[jG (by omega)];have L:xs.length-(k-0+(xs.length-(k+1)))=1:=by omega
  have y:(A++(X++B)++a).drop ((k-0)*2+B.length)=(X++B).drop B.length++a:=by
   rw[aw,←dS,cG (show A.length=(k-0)*2 by rw[p,fj]),fx (by rw[af];omega)]
  have v:(A++(X++B)++a).take ((k-0)*2)=A:=by rw[aw,c5 (show A.length=(k-0)*2 by rw[p,fj])]
  rw[y,v]at j;have o:((X++B).drop B.length).length=2:=by rw[aW,af];omega
  generalize (X++B).drop B.length=D at o j;rw[L];have hz:(dE 1 [.string (⟨#[]⟩:ByteArray),.string (⟨#[]⟩:ByteArray)]).length=2:=rfl;have i:(A++B).length=0+(k-0+(xs.length-(k+1)))*2:=by rw[af,p,m];omega
  refine Ig j (by simp only[af]at i⊢;omega) fun Q n w=>?_
  rw[c5 i,←dS,cG i]at n;refine I _ _ ⟨by simp;omega,jh,by simp only;omega,.inr ⟨b,dE 1 [.string (⟨#[]⟩:ByteArray),.string (⟨#[]⟩:ByteArray)]++(D++a).drop (dE 1 [.string (⟨#[]⟩:ByteArray),.string (⟨#[]⟩:ByteArray)]).length,rfl,u,?_,?_⟩⟩ ((C.mono fun _ e=>.inl (e▸u)).tr (w.mono fun _ e=>.inl (e▸u)))
  ·rw[n,c];simp only[aw]
  ·simp only[af,aW,hz,o,z]
   omega
theorem Hx{W:Nat→Prop}{h:ad}{s:SliceV}{xs:List (Option Addr)}(g:Sl qu 1 W h s xs)(n:xs.length*8≤140737488355328){K:SliceV→ad→Prop}
  (j:∀s' c,OwnS qu 1 bM (fun b=>h.size≤b) c s' xs→Upd No h c→K s' c):HC PG dB [.slice s.a s.len s.cap] [.c .slice] K h:=by
 refine lB s ?_;unfold gF;refine CondP.intro (fun d=>?_) (fun m=>?_)
 ·have d:s.a=none:=by simpa using d
  have hx:xs= []:=by
   by_cases hx:xs= []
   ·exact hx
   ·obtain⟨a,i,_⟩:=g.row hx
    rw[d]at i;cases i
  subst hx;exact j _ _ (OwnS.nil rA) (Upd.refl _ _)
 ·have q:=g.upd (Upd.hnew No h [] bM) (fun _ h=>h.elim)
  refine⟨_,q.srow,?_⟩;refine AppP.own (f:=qu) (M:=fun b=>h.size≤b) (xs:= []) (ys:=xs) ⟨rfl,rA,ao _,.inl rfl⟩ g.len rfl (Dv xs) rfl (by omega) (by simpa using n) (by rw[ly];omega) fun s' c k o=>?_
  exact j _ _ k ((Upd.hnew No h [] bM).trans o fun b p=>.inr p)
theorem MK{M:Nat→Prop}{h:ad}{s:SliceV}{xs:List (Option Addr)}(q:OwnS qu 1 bM M h s xs){k:Nat}(E:k<xs.length)(P:xs.length≤4398046511104)
  {K:SliceV→ad→Prop}(I:∀s' h',OwnS qu 1 bM M h' s' (xs.take k++xs.drop (k+1))→Upd M h h'→K s' h'):
  HC PG eH [.slice s.a s.len s.cap,.int .i64 k,.int .i64 ((k+1:Nat):Int)] [.c .slice] K h:=by
 refine lf s k ((k+1:Nat):Int) ?_;unfold gv;have d:=q.len;have F:=q.cap;rcases q.blk with O|⟨b,a,H,u,hc,J⟩
 ·omega
 have p:((xs.take k).flatMap qu).length=k*1:=by rw[kM rA,aU,bC (by omega)]
 have m:((xs.drop (k+1)).flatMap qu).length=(xs.length-(k+1))*1:=by rw[kM rA,aW]
 have N:xs.flatMap qu=(xs.take k).flatMap qu++(qu xs[k]++(xs.drop (k+1)).flatMap qu):=by
  rw[←aY,←eC E];exact y2 xs k
 rw[N]at hc;have f:=Dv (xs.drop (k+1));have c:(xs.take k++xs.drop (k+1)).flatMap qu=(xs.take k).flatMap qu++(xs.drop (k+1)).flatMap qu:=bH;have G:(qu xs[k]).length=1:=rfl;generalize (xs.take k).flatMap qu=A at p hc c;generalize (xs.drop (k+1)).flatMap qu=B at m hc f c;generalize qu xs[k]=X at G hc;rw[H];simp only[d,aO];refine⟨by omega,by omega,by omega,CondP.intro (fun e=>?_) fun _=>?_⟩
 ·have:(k:Int)=((k+1:Nat):Int):=by simpa using e
  omega
 refine Join.plain ⟨by omega,by omega,B,?_,?_⟩
 ·by_cases g:xs.length=k+1
  ·exact⟨m,.inl (bU.1 (by rw[m,g,o9,ri]))⟩
  rw[jG (by omega)];refine lA hc m ?_;have:(A++X).length=0+(k+1)*1:=by rw[af];omega
  rw[show A++(X++B)++a=(A++X)++(B++a) by simp only[aw],cG this,c5 m]
 ·rw[sub_zero]
  refine MS hc (by simp only[af];omega) (by omega) f fun R j C=>?_
  have z:a.length=(s.cap-xs.length)*1:=by rw[J,d]
  refine⟨by dsimp only;omega,by dsimp only;omega,?_⟩
  simp only[Bd];rw[jG (by omega)];have L:xs.length-(k-0+(xs.length-(k+1)))=1:=by omega
  have y:(A++(X++B)++a).drop ((k-0)*1+B.length)=(X++B).drop B.length++a:=by
   rw[aw,←dS,cG (show A.length=(k-0)*1 by rw[p,fj]),fx (by rw[af];omega)]
  have v:(A++(X++B)++a).take ((k-0)*1)=A:=by rw[aw,c5 (show A.length=(k-0)*1 by rw[p,fj])]
  rw[y,v]at j;have o:((X++B).drop B.length).length=1:=by rw[aW,af];omega
  generalize (X++B).drop B.length=D at o j;rw[L];have hz:(dE 1 [.pointer none]).length=1:=rfl;have i:(A++B).length=0+(k-0+(xs.length-(k+1)))*1:=by rw[af,p,m];omega
  refine Ig j (by simp only[af]at i⊢;omega) fun Q n w=>?_
  rw[c5 i,←dS,cG i]at n;refine I _ _ ⟨by simp;omega,rA,by simp only;omega,.inr ⟨b,dE 1 [.pointer none]++(D++a).drop (dE 1 [.pointer none]).length,rfl,u,?_,?_⟩⟩ ((C.mono fun _ e=>.inl (e▸u)).tr (w.mono fun _ e=>.inl (e▸u)))
  ·rw[n,c];simp only[aw]
  ·simp only[af,aW,hz,o,z]
   omega
theorem Hw{W:Nat→Prop}{h:ad}{s:SliceV}{xs:List (Option Addr)}(g:Sl mw 1 W h s xs)(n:xs.length*8≤140737488355328){K:SliceV→ad→Prop}
  (j:∀s' c,OwnS mw 1 bj (fun b=>h.size≤b) c s' xs→Upd No h c→K s' c):HC PG df [.slice s.a s.len s.cap] [.c .slice] K h:=by
 refine kN s ?_;unfold gi;refine CondP.intro (fun d=>?_) (fun m=>?_)
 ·have d:s.a=none:=by simpa using d
  have hx:xs= []:=by
   by_cases hx:xs= []
   ·exact hx
   ·obtain⟨a,i,_⟩:=g.row hx
    rw[d]at i;cases i
  subst hx;exact j _ _ (OwnS.nil oF) (Upd.refl _ _)
 ·have q:=g.upd (Upd.hnew No h [] bj) (fun _ h=>h.elim)
  refine⟨_,q.srow,?_⟩;refine AppP.own (f:=mw) (M:=fun b=>h.size≤b) (xs:= []) (ys:=xs) ⟨rfl,oF,ao _,.inl rfl⟩ g.len rfl (Du xs) rfl (by omega) (by simpa using n) (by rw[ly];omega) fun s' c k o=>?_
  exact j _ _ k ((Upd.hnew No h [] bj).trans o fun b p=>.inr p)
theorem MI{M:Nat→Prop}{h:ad}{s:SliceV}{xs:List (Option Addr)}(q:OwnS mw 1 bj M h s xs){k:Nat}(E:k<xs.length)(P:xs.length≤4398046511104)
  {K:SliceV→ad→Prop}(I:∀s' h',OwnS mw 1 bj M h' s' (xs.take k++xs.drop (k+1))→Upd M h h'→K s' h'):
  HC PG ez [.slice s.a s.len s.cap,.int .i64 k,.int .i64 ((k+1:Nat):Int)] [.c .slice] K h:=by
 refine j9 s k ((k+1:Nat):Int) ?_;unfold gb;have d:=q.len;have F:=q.cap;rcases q.blk with O|⟨b,a,H,u,hc,J⟩
 ·omega
 have p:((xs.take k).flatMap mw).length=k*1:=by rw[kM oF,aU,bC (by omega)]
 have m:((xs.drop (k+1)).flatMap mw).length=(xs.length-(k+1))*1:=by rw[kM oF,aW]
 have N:xs.flatMap mw=(xs.take k).flatMap mw++(mw xs[k]++(xs.drop (k+1)).flatMap mw):=by
  rw[←aY,←eC E];exact y2 xs k
 rw[N]at hc;have f:=Du (xs.drop (k+1));have c:(xs.take k++xs.drop (k+1)).flatMap mw=(xs.take k).flatMap mw++(xs.drop (k+1)).flatMap mw:=bH;have G:(mw xs[k]).length=1:=rfl;generalize (xs.take k).flatMap mw=A at p hc c;generalize (xs.drop (k+1)).flatMap mw=B at m hc f c;generalize mw xs[k]=X at G hc;rw[H];simp only[d,aO];refine⟨by omega,by omega,by omega,CondP.intro (fun e=>?_) fun _=>?_⟩
 ·have:(k:Int)=((k+1:Nat):Int):=by simpa using e
  omega
 refine Join.plain ⟨by omega,by omega,B,?_,?_⟩
 ·by_cases g:xs.length=k+1
  ·exact⟨m,.inl (bU.1 (by rw[m,g,o9,ri]))⟩
  rw[jG (by omega)];refine lA hc m ?_;have:(A++X).length=0+(k+1)*1:=by rw[af];omega
  rw[show A++(X++B)++a=(A++X)++(B++a) by simp only[aw],cG this,c5 m]
 ·rw[sub_zero]
  refine MS hc (by simp only[af];omega) (by omega) f fun R j C=>?_
  have z:a.length=(s.cap-xs.length)*1:=by rw[J,d]
  refine⟨by dsimp only;omega,by dsimp only;omega,?_⟩
  simp only[Bd];rw[jG (by omega)];have L:xs.length-(k-0+(xs.length-(k+1)))=1:=by omega
  have y:(A++(X++B)++a).drop ((k-0)*1+B.length)=(X++B).drop B.length++a:=by
   rw[aw,←dS,cG (show A.length=(k-0)*1 by rw[p,fj]),fx (by rw[af];omega)]
  have v:(A++(X++B)++a).take ((k-0)*1)=A:=by rw[aw,c5 (show A.length=(k-0)*1 by rw[p,fj])]
  rw[y,v]at j;have o:((X++B).drop B.length).length=1:=by rw[aW,af];omega
  generalize (X++B).drop B.length=D at o j;rw[L];have hz:(dE 1 [.pointer none]).length=1:=rfl;have i:(A++B).length=0+(k-0+(xs.length-(k+1)))*1:=by rw[af,p,m];omega
  refine Ig j (by simp only[af]at i⊢;omega) fun Q n w=>?_
  rw[c5 i,←dS,cG i]at n;refine I _ _ ⟨by simp;omega,oF,by simp only;omega,.inr ⟨b,dE 1 [.pointer none]++(D++a).drop (dE 1 [.pointer none]).length,rfl,u,?_,?_⟩⟩ ((C.mono fun _ e=>.inl (e▸u)).tr (w.mono fun _ e=>.inl (e▸u)))
  ·rw[n,c];simp only[aw]
  ·simp only[af,aW,hz,o,z]
   omega
end Go.Proofs
namespace Go.Proofs
open Go.Lift
abbrev Pr:=ByteArray×ByteArray
theorem BZ{a b:ByteArray}:a.toList=b.toList↔a=b:=by
 constructor
 ·intro h
  rw[ByteArray.toList_eq,ByteArray.toList_eq]at h;cases a;cases b;simp at h;subst h;rfl
 ·rintro rfl;rfl
def kl(a b:ByteArray):Prop:=Op.bytesLess a.toList b.toList=true
instance (a b:ByteArray):Decidable (kl a b):=inferInstanceAs (Decidable (_=true))
theorem Mb{a b:ByteArray}:kl a b↔a.toList<b.toList:=by unfold kl;rw[bytesLess_eq,decide_eq_true_iff]
theorem cO(a:ByteArray):¬kl a a:=by rw[Mb];exact List.lt_irrefl _
theorem jY{a b c:ByteArray}(h:kl a b)(k:kl b c):kl a c:=by rw[Mb]at*;exact List.lt_trans h k
theorem tri:∀x y:List UInt8,Op.bytesLess x y=false→x≠y→Op.bytesLess y x=true
 | [],[],_,h=>absurd rfl h
 | [],_::_,h,_=>by simp[Op.bytesLess]at h
 |_::_,[],_,_=>rfl
 |a::x,b::y,h,hn=>by
  simp only[Op.bytesLess,Bool.or_eq_false_iff,decide_eq_false_iff_not,Bool.and_eq_false_iff]at h;simp only[Op.bytesLess,Bool.or_eq_true,decide_eq_true_iff,Bool.and_eq_true];by_cases e:a=b
  ·subst e
   right;refine⟨by simp,tri x y ?_ fun e=>hn (by rw[e])⟩
   rcases h.2 with h|h
   ·simp at h
   ·exact h
  ·left
   have c:=h.1;rw[UInt8.lt_iff_toNat_lt]at c⊢;have:a.toNat≠b.toNat:=fun h=>e (UInt8.toNat_inj.1 h)
   omega
theorem wF{a b:ByteArray}(h:¬kl a b)(k:a≠b):kl b a:=tri _ _ (by unfold kl at h;simpa using h) fun e=>k (BZ.1 e)
def KG(a b:ByteArray):Int:=if kl a b then-1 else if a=b then 0 else 1
theorem Kj{x:ByteArray}{h:ad}{K:Bool→ad→Prop}(a:K false h):HC PG nJ [.string x] [.c .bool] K h:=by
 refine Dm x ?_;unfold vX;simpa using a
theorem MM{a b:ByteArray}{h:ad}{K:Int→ad→Prop}(c:K (KG a b) h):HC PG oW [.string a,.string b] [.c (.int .i64)] K h:=by
 refine AW a b ?_;unfold tw;refine Kj (Kj (aj.2 (aj.2 ?_)));unfold KG at c;refine CondP.intro (fun e=>?_) fun e=>?_
 ·rw[if_pos (show kl a b from e)]at c;exact c
 ·have f:¬kl a b:=fun h=>by rw[show Op.bytesLess a.toList b.toList=true from h]at e;cases e
  rw[if_neg f]at c;rw[e];refine CondP.intro (fun d=>?_) fun d=>?_
  ·rw[if_neg (fun h=>by subst h;simp at d)]at c;exact c
  ·have:a.toList=b.toList:=by simpa using d
   rw[if_pos (BZ.1 this)]at c;exact c
theorem QS{p:Pr}{k:ByteArray}{h:ad}{K:Int→ad→Prop}(a:∀h',Upd No h h'→K (KG p.1 k) h'):HC PG ra [.agg #[.string p.1,.string p.2],.string k] [.c (.int .i64)] K h:=by
 refine I6 p k ?_;unfold A9 aG jS tZ;have b1:=db h [.string p.1,.string p.2] aB;refine⟨p.1,by rw[gf,bO,bA b1];rfl,MM (a _ (Upd.hnew No h _ _))⟩
abbrev cA(l:List Pr):Prop:=l.Pairwise fun p q=>kl p.1 q.1
def nT(l:List Pr)(k:ByteArray):Nat:=(l.takeWhile fun p=>decide (kl p.1 k)).length
def cn(l:List Pr)(k:ByteArray):Bool:=l.any fun p=>decide (p.1=k)
theorem QN{l:List Pr}{k:ByteArray}{i:Nat}(hi:i≤l.length)(a:∀j (h:j<l.length),j<i→kl l[j].1 k)(b:∀(h:i<l.length),¬kl l[i].1 k):nT l k=i:=by
 unfold nT;induction l generalizing i with
 |nil=>simp at hi;simp[hi]
 |cons p l ih=>
  rw[List.takeWhile_cons];cases i with
  |zero=>
   have:=b (by simp);simp only[List.getElem_cons_zero]at this;rw[if_neg (by simpa using this)];rfl
  |succ i=>
   have:=a 0 (by simp) (by omega);simp only[List.getElem_cons_zero]at this;rw[if_pos (by simpa using this),aV];congr 1
   refine ih (by simpa using hi) (fun j d c=>?_) fun h=>?_
   ·have:=a (j+1) (by simpa using d) (by omega)
    simpa using this
   ·have:=b (by simpa using h)
    simpa using this
theorem QO(l:List Pr)(k:ByteArray):nT l k≤l.length:=by
 unfold nT;exact(List.takeWhile_prefix _).length_le
theorem Iy{W:Nat→Prop}{h:ad}{s:SliceV}{l:List Pr}(V:Sl ge 2 W h s l)(hr:cA l)(hn:l.length≤1000000000)(k:ByteArray){K:Int×Bool→ad→Prop}
  (F:∀y,Upd No h y→K ((nT l k:Int),cn l k) y):HC PG qk [.slice s.a s.len s.cap,.string k] [.c (.int .i64),.c .bool] K h:=by
 refine K4 s k ?_;unfold C1;refine iP s k _ ?_;unfold eP dH bw qK Da;have Z:=V.len;have L:∀{p:Pr} {h:ad} {K:Int→ad→Prop},(∀y,Upd No h y→K (KG p.1 k) y)→HV PG (.func (.func ra) #[] #[]) [.agg #[.string p.1,.string p.2],.string k] [.c (.int .i64)] K h:=fun F=>HV.mk' (QS F)
 refine LoopP.ghost (fun(g:Nat×Nat) (t:Int×Int) y=>t.1=(g.1:Int)∧t.2=(g.2:Int)∧g.1≤g.2∧g.2≤l.length∧Upd No h y∧(∀j (Q:j<l.length),j<g.1→kl l[j].1 k)∧(∀j (Q:j<l.length),g.2≤j→¬kl l[j].1 k)) (fun g=>g.2-g.1) (0,l.length)
  ⟨rfl,by simp only;omega,by simp,by simp,Upd.refl _ _,fun j Q h=>by omega,fun j Q h=>by simp only at h;omega⟩ ?_
 rintro I ⟨i,j⟩ ⟨ti,tj⟩ y ⟨e1,T,D,C,M,d,v⟩ Y;simp only at e1 T D C d v;subst e1 T;have N:=V.upd M fun _ h=>h.elim
 have mono:∀a b (E:a<l.length) (X:b<l.length),a<b→kl l[a].1 l[b].1:=fun a b E X P=>cF.1 hr a b E X P
 refine aQ (fun w=>?_) fun R=>?_
 ·have w:i<j:=by have:(i:Int)<(j:Int):=w;omega
  have em:IntKind.wrap .i64 (fH (IntKind.wrap .u64 (IntKind.wrap .i64 ((i:Int)+(j:Int)))) (2^(min (1:Int).toNat (IntKind.bits .u64))))=(((i+j)/2:Nat):Int):=by
   have e3:(2^(min (1:Int).toNat (IntKind.bits .u64)):Int)=2:=rfl;rw[e3,oD (x:=(i:Int)+(j:Int)) (by omega),Go.IntWalk.u64_in _ (by omega),mq _ (by omega),oD (by omega)];omega
  refine⟨by decide,?_⟩;simp only[Bd];rw[em];generalize hm:(i+j)/2=m;have A:m<l.length:=by omega
  obtain⟨a,E,_,hv⟩:=N.at (ag A);refine⟨by omega,a,E,l[m].1,hv 0 _ rfl,l[m].2,hv 1 _ rfl,L fun h2 u=>?_⟩
  refine aQ (fun n=>?_) fun J=>?_
  ·have c:kl l[m].1 k:=by
    unfold KG at n;by_cases c:kl l[m].1 k
    ·exact c
    ·rw[if_neg c]at n;split at n<;>omega
   refine Y (m+1,j) _ _ ⟨by simp only;rw[oD (by omega)];omega,rfl,by simp only;omega,C,M.tr u,fun q z B=>?_,v⟩ (by simp only;omega)
   simp only at B;rcases bK q m with h|h
   ·exact jY (mono q m z A h) c
   ·have:q=m:=by omega
    subst this;exact c
  ·have f:¬kl l[m].1 k:=fun c=>J (by unfold KG;rw[if_pos c];decide)
   refine Y (i,m) _ _ ⟨rfl,rfl,by simp only;omega,by simp only;omega,M.tr u,d,fun q z B H=>?_⟩ (by simp only;omega)
   simp only at B;rcases bK m q with h|h
   ·exact f (jY (mono m q A z h) H)
   ·have:q=m:=by omega
    subst this;exact f H
 ·have D:i=j:=by have:¬(i:Int)<(j:Int):=R;omega
  subst D;have G:nT l k=i:=QN C d fun hi=>v i hi (ao _)
  rw[G]at F;refine aQ (fun w=>?_) fun S=>?_
  ·have o:i<l.length:=by have:(i:Int)<(s.len:Int):=w;omega
   obtain⟨a,E,_,hv⟩:=N.at (ag o);refine⟨by simp only;omega,a,E,l[i].1,hv 0 _ rfl,l[i].2,hv 1 _ rfl,L fun h2 u=>?_⟩
   have f:=v i o (ao _);have O:(KG l[i].1 k==(0:Int))=cn l k:=by
    unfold KG cn;rw[if_neg f,lj,cy];constructor
    ·intro h
     split at h
     ·rename_i e;exact⟨l[i],List.getElem_mem o,decide_eq_true e⟩
     ·simp at h
    ·rintro⟨p,G,e⟩
     have e:=of_decide_eq_true e;obtain⟨q,z,rfl⟩:=List.mem_iff_getElem.1 G;have:q=i:=by
      rcases Nat.lt_trichotomy q i with h|h|h
      ·exact absurd (e▸d q z h) (cO _)
      ·exact h
      ·exact absurd (e▸mono i q o z h) f
     subst this;rw[if_pos e];rfl
   rw[O];exact F _ (M.tr u)
  ·have o:i=l.length:=by have:¬(i:Int)<(s.len:Int):=S;omega
   have O:cn l k=false:=by
    unfold cn;rw[List.any_eq_false];intro p G e;have e:=of_decide_eq_true e;obtain⟨q,z,rfl⟩:=List.mem_iff_getElem.1 G;exact absurd (e▸d q z (by omega)) (cO _)
   rw[O]at F;exact F _ M
end Go.Proofs
namespace Go.Proofs
open Go.Lift
theorem OwnS.zero{α:Type}{f:α→List Value}{sz:Nat}{t:TypeId}{M:Nat→Prop}{h:ad}{s:SliceV}{xs:List α}(c:OwnS f sz t M h s xs):OwnS f sz t M h ⟨bq s.a 0 s.cap sz,0-0,s.cap-0⟩ []:=by
 have d:∀x,(f x).length=sz∧0<sz:=c.ne;have i:=c.len;have g:=c.cap;refine⟨rfl,d,by simp only;omega,?_⟩
 rcases c.blk with n|⟨b,a,j,m,hc,k⟩
 ·exact .inl (by simp only;omega)
 ·refine .inr ⟨b,xs.flatMap f++a,by rw[j,sub_zero],m,hc,?_⟩
  rw[af,kM d,k,←Nat.add_mul];simp only;congr 1;omega
def FT:Pr:=(⟨#[]⟩,⟨#[]⟩)
theorem Nx(n:Nat):dE n [.string (⟨#[]⟩:ByteArray),.string (⟨#[]⟩:ByteArray)]=(dQ n FT).flatMap ge:=by
 unfold dE;induction n with
 |zero=>rfl
 |succ n ih=>rw[iq,iq,aY,←ih];rfl
theorem TE{n:Nat}(g:n*32≤140737488355328){h:ad}{K:SliceV→ad→Prop}(c:∀s' a,OwnS ge 2 aB (fun b=>h.size≤b) a s' []→Upd No h a→K s' a):
  HC PG fC [.slice none 0 0,.int .i64 n] [.c .slice] K h:=by
 refine nC ⟨none,0,0⟩ n ?_;unfold iC my;have e:IntKind.wrap .i64 ((n:Int)-IntKind.wrap .i64 (((0:Nat):Int)-((0:Nat):Int)))=(n:Int):=by rw[oD (x:=((0:Nat):Int)-((0:Nat):Int)) (by omega),oD (by omega)];omega
 refine Join.plain (aQ (fun h=>by omega) fun _=>?_)
 simp only[Bd];rw[e];refine aQ (fun k=>?_) fun hz=>c _ _ (OwnS.nil jh) (Upd.refl _ _)
 refine⟨by omega,⟨by omega,by omega,by omega,by omega⟩,?_⟩
 refine AppP.own (f:=ge) (M:=fun b=>h.size≤b) (xs:= []) (ys:=dQ n FT) (OwnS.nil jh) (by simp) (Nx _) (by rw[Nx];exact xx _) rfl (by omega) (by simpa using g) (ao _) fun s' a d i=>?_
 exact⟨by omega,c _ _ (OwnS.zero d) (i.mono fun b j=>.inr j)⟩
abbrev WD(s:SliceV):List Value:= [.slice s.a s.len s.cap]
def ParS(h:ad):List SliceV→List (List Pr)→Prop
 | [],[]=>True
 |v::vs,l::ls=>Sl ge 2 No h v l∧ParS h vs ls
 |_,_=>False
theorem ParS.upd{h a:ad}(k:Upd No h a):∀{vs:List SliceV} {ls:List (List Pr)},ParS h vs ls→ParS a vs ls
 | [],[],_=>trivial
 |_::_,_::_,q=>⟨q.1.upd k fun _ h=>h.elim,ParS.upd k q.2⟩
 | [],_::_,q=>q.elim
 |_::_,[],q=>q.elim
theorem ParS.len{h:ad}:∀{vs:List SliceV} {ls:List (List Pr)},ParS h vs ls→vs.length=ls.length
 | [],[],_=>rfl
 |_::_,_::_,q=>by rw[aV,aV,ParS.len q.2]
 | [],_::_,q=>q.elim
 |_::_,[],q=>q.elim
theorem ParS.at{h:ad}:∀{vs:List SliceV} {ls:List (List Pr)},ParS h vs ls→∀{i:Nat} (h1:i<vs.length) (h2:i<ls.length),Sl ge 2 No h vs[i] ls[i]
 |_::_,_::_,q,0,_,_=>q.1
 |_::_,_::_,q,i+1,h1,h2=>ParS.at q.2 (by simpa using h1) (by simpa using h2)
theorem Hm(ls:List (List Pr)){i:Nat}(hi:i<ls.length):(ls.take (i+1)).flatten=(ls.take i).flatten++ls[i]:=by
 rw[List.take_succ_eq_append_getElem hi,dW,eN,mY,List.append_nil]
theorem N9(ls:List (List Pr))(i:Nat):(ls.take i).flatten.length≤ls.flatten.length:=by
 have:ls.flatten=(ls.take i).flatten++(ls.drop i).flatten:=by rw[←dW,List.take_append_drop]
 rw[this,af];omega
theorem Ht{h:ad}{s:SliceV}{vs:List SliceV}{ls:List (List Pr)}(w:Sl WD 1 No h s vs)(v:ParS h vs ls)(L:ls.flatten.length*32≤140737488355328)(hv:vs.length≤1000)
  {K:SliceV→ad→Prop}(O:∀s' g,OwnS ge 2 aB (fun b=>h.size≤b) g s' ls.flatten→Upd No h g→K s' g):HC PG dU [.slice s.a s.len s.cap] [.c .slice] K h:=by
 refine mQ s ?_;unfold hO bJ dH my;have J:=w.len;have f:=v.len;refine LoopP.ghost (fun(i:Nat) (t:Int×Int) g=>t.2=(i:Int)∧i≤vs.length∧t.1=((ls.take i).flatten.length:Int)∧g=h) (fun i=>vs.length-i) 0 ⟨rfl,bo _,by simp,rfl⟩ ?_
 rintro I i ⟨T,ti⟩ g ⟨q,hi,H,rfl⟩ N;simp only at q H;subst q H;refine aQ (fun c=>?_) fun E=>?_
 ·have c:i<vs.length:=by have:(i:Int)<(s.len:Int):=c;omega
  obtain⟨a,z,_,k⟩:=w.at (ag c);have Q:=(v.at c (f▸c)).len;have d:=congrArg f8 (Hm ls (f▸c));rw[af]at d;have F:=N9 ls (i+1);refine Join.plain ⟨by simp only;omega,a,z,_,k 0 _ rfl,?_⟩;simp only;have ew:IntKind.wrap .i64 (((ls.take i).flatten.length:Int)+((vs[i]).len:Int))=((ls.take (i+1)).flatten.length:Int):=by rw[oD (by omega)];omega
  rw[ew];refine aQ (fun h=>by omega) fun _=>?_
  rw[cI c (by omega)];exact N (i+1) _ _ ⟨rfl,c,rfl,rfl⟩ (by omega)
 ·have R:i=vs.length:=by have:¬(i:Int)<(s.len:Int):=E;omega
  rw[bD (by omega)];refine TE L fun s0 S C y=>?_
  refine LoopP.ghost (fun(i:Nat) (t:SliceV×Int) G=>t.2=(i:Int)∧i≤vs.length∧OwnS ge 2 aB (fun b=>g.size≤b) G t.1 (ls.take i).flatten∧Upd No g G) (fun i=>vs.length-i) 0 ⟨rfl,bo _,by simpa using C,y⟩ ?_
  rintro Z j ⟨W,V⟩ G ⟨q,X,u,p⟩ B;simp only at q u;subst q;refine aQ (fun c=>?_) fun m=>?_
  ·have c:j<vs.length:=by have:(j:Int)<(s.len:Int):=c;omega
   obtain⟨a,z,_,k⟩:=(w.upd p fun _ h=>h.elim).at (ag c)
   have n:=((v.upd p).at c (f▸c));have d:=Hm ls (f▸c);have o:=congrArg f8 d;rw[af]at o;have F:=N9 ls (j+1);refine Join.plain ⟨by simp only;omega,a,z,_,k 0 _ rfl,_,n.srow,?_⟩;refine AppP.own (ys:=ls[j]) u n.len rfl (xx _) rfl (by omega) (by omega) p.size fun s2 Y D A=>?_
   simp only;rw[cI c (by omega)];exact B (j+1) _ _ ⟨rfl,c,d▸D,p.trans A fun b M=>.inr M⟩ (by omega)
  ·have P:j=vs.length:=by have:¬(j:Int)<(s.len:Int):=m;omega
   rw[bD (by omega)]at u;exact O _ _ u p
def Ms(l:List Pr)(p:Pr):List Pr:=l.take (nT l p.1)++p::l.drop (if cn l p.1 then nT l p.1+1 else nT l p.1)
def Px(l:List Pr)(k:ByteArray):List Pr:=if cn l k then l.take (nT l k)++l.drop (nT l k+1)else l
theorem Ih{l:List Pr}(g:cA l){k:ByteArray}(c:cn l k=true):∃h:nT l k<l.length,l[nT l k].1=k:=by
 unfold cn at c;obtain⟨p,d,e⟩:=cy.1 c;have e:=of_decide_eq_true e;obtain⟨q,b,rfl⟩:=List.mem_iff_getElem.1 d;have:nT l k=q:=QN (by omega) (fun j f a=>by rw[←e];exact cF.1 g j q f b a) fun h=>by rw[←e];exact cO _
 subst this;exact⟨b,e⟩
theorem H0{h:ad}{s:SliceV}{l:List Pr}(b:Sl ge 2 No h s l){i j m:Nat}(a:i≤j)(d:j≤l.length)(f:j≤m)(c:Nat):Sl ge 2 No h ⟨bq s.a i m 2,j-i,c⟩ ((l.drop i).take (j-i)):=Sl.sub b a d f
theorem L4{h:ad}{s:SliceV}{l:List Pr}(o:Sl ge 2 No h s l)(hc:s.len≤s.cap)(u:cA l)(E:l.length≤1000000000)(p:Pr)
  {K:SliceV→ad→Prop}(L:∀s' a,OwnS ge 2 aB (fun b=>h.size≤b) a s' (Ms l p)→Upd No h a→K s' a):HC PG yW [.slice s.a s.len s.cap,.agg #[.string p.1,.string p.2]] [.c .slice] K h:=by
 refine Nf s p ?_;unfold FF aG jS zE tZ;have k:=o.len;have k1:=Upd.hnew No h [.string p.1,.string p.2] aB;have b1:=db h [.string p.1,.string p.2] aB;refine bV ?_;simp only[gf h];generalize hnew h [.string p.1,.string p.2] aB=h1 at k1 b1;refine⟨p.1,by rw[bO,bA b1];rfl,Iy (o.upd k1 fun _ h=>h.elim) u E p.1 fun I f=>?_⟩
 have A:=QO l p.1;have c:=k1.tr f;refine⟨by simp only;omega,?_⟩;let q:=if cn l p.1 then nT l p.1+1 else nT l p.1
 have J:q≤l.length:=by
  show(if cn l p.1 then nT l p.1+1 else nT l p.1)≤l.length
  split
  ·rename_i ht;obtain⟨h,_⟩:=Ih u ht;omega
  ·exact A
 refine Join.intro (fun t a=>a=I∧t=⟨bq s.a q s.cap 2,s.len-q,s.cap-q⟩) (fun R B=>?_) ?_
 ·refine CondP.intro (fun e=>?_) fun e=>B _ _ ⟨rfl,?_⟩
  ·have e:cn l p.1=true:=e
   obtain⟨M,_⟩:=Ih u e;have ew:IntKind.wrap .i64 ((nT l p.1:Int)+1)=((nT l p.1+1:Nat):Int):=by rw[oD (by omega)];omega
   simp only;rw[ew];refine⟨by omega,B _ _ ⟨rfl,?_⟩⟩;have:q=nT l p.1+1:=by show(if cn l p.1 then _ else _)=_;rw[if_pos e]
   rw[this];rfl
  ·have e:cn l p.1=false:=e
   have:q=nT l p.1:=by show(if cn l p.1 then _ else _)=_;rw[if_neg (by rw[e];decide)]
   rw[this];rfl
 ·rintro t a ⟨rfl,rfl⟩
  have b2:=f.get0 b1;refine⟨by simp only;omega,p.1,by rw[bO,bA b2];rfl,p.2,by rw[bO,bA b2];rfl,?_⟩
  have y:=Upd.hnew No a [.string p.1,.string p.2] aB;have b3:=db a [.string p.1,.string p.2] aB;refine bV ?_;simp only[gf a];generalize hnew a [.string p.1,.string p.2] aB=h3 at y b3;refine bV ?_;have g:=(o.upd c fun _ h=>h.elim).upd y fun _ h=>h.elim
  have n:=Upd.hnew No h3 [.slice (bq s.a 0 s.cap 2) ((nT l p.1:Int).toNat-0) (s.cap-0),.slice (some ⟨a.size,0,none⟩) 1 1,.slice (bq s.a q s.cap 2) (s.len-q) (s.cap-q)] gV;have G:=db h3 [.slice (bq s.a 0 s.cap 2) ((nT l p.1:Int).toNat-0) (s.cap-0),.slice (some ⟨a.size,0,none⟩) 1 1,.slice (bq s.a q s.cap 2) (s.len-q) (s.cap-q)] gV;have D:=H0 g (i:=0) (j:=nT l p.1) (m:=s.cap) (bo _) A (by omega) (s.cap-0)
  have H:Sl ge 2 No h3 ⟨some ⟨a.size,0,none⟩,1,1⟩ [p]:=⟨rfl,jh,fun _=>⟨_,rfl,fun h=>h.elim,pU b3 fun i v hv=>by simpa using hv⟩⟩
  have w:=H0 g (i:=q) (j:=l.length) (m:=s.cap) J (ao _) (by omega) (s.cap-q);rw[←k]at w;rw[cT]at D;rw[bD (by rw[aW];omega)]at w;have N:Ms l p= [l.take (nT l p.1-0),[p],l.drop q].flatten:=by simp[Ms,q]
  refine Ht (s:=⟨some (aD h3),3,3⟩) (vs:= [⟨bq s.a 0 s.cap 2,(nT l p.1:Int).toNat-0,s.cap-0⟩,⟨some ⟨a.size,0,none⟩,1,1⟩,⟨bq s.a q s.cap 2,s.len-q,s.cap-q⟩]) (ls:= [l.take (nT l p.1-0),[p],l.drop q])
   ⟨rfl,fun x=>⟨rfl,Nat.one_pos⟩,fun _=>⟨_,rfl,fun h=>h.elim,pU G fun i v hv=>by simpa[WD]using hv⟩⟩ ⟨D.upd n fun _ h=>h.elim,H.upd n fun _ h=>h.elim,w.upd n fun _ h=>h.elim,trivial⟩ ?_ (by simp) fun O P d z=>?_
  ·simp only[eN,mY,af,aU,aW,List.length_singleton,List.length_nil];omega
  ·rw[←N]at d
   have C:=((c.tr y).tr n);exact L _ _ (d.more fun b F=>Nat.le_trans C.size F) (C.tr z)
end Go.Proofs
namespace Go.Proofs
open Go.Lift
def uL(n d:Nat):Nat:=(cQ n).countP (d.testBit ·)
theorem DG(m n d:Nat):uL (m+n) d=uL m d+uL n (d>>>m):=by
 unfold uL;rw[r6,List.countP_append,List.countP_map];congr 1
 refine List.countP_congr fun i _=>?_
 simp[o8]
theorem Oh(d:Nat)(i:Nat):∀n,i≤n→uL n (d&&&(2^i-1))=uL i d:=by
 intro n a;obtain⟨m,rfl⟩:=Nat.exists_eq_add_of_le a;rw[DG];have c:uL i (d&&&(2^i-1))=uL i d:=by
  unfold uL;refine List.countP_congr fun j b=>?_
  have:=g6.1 b;simp[ii,lM,this]
 have f:uL m ((d&&&(2^i-1))>>>i)=0:=by
  unfold uL;rw[List.countP_eq_zero];intro j _;simp[o8,ii,lM];intro h;omega
 omega
theorem Vd(d:Nat):uL 8 (d&&&255)=uL 8 d:=Oh d 8 8 (ao _)
theorem y3(n d:Nat):uL n d≤n:=by
 have:=List.countP_le_length (p:=(d.testBit ·)) (l:=cQ n)
 simpa[uL]using this
theorem mc(d n:Nat):fH (d:Int) (2^n)=((d>>>n:Nat):Int):=by
 rw[mq _ (by exact Int.le_of_lt (Int.pow_pos (by decide))),cE];simp
theorem RY(a b:Nat):(aq (IntKind.bits .u32) (a:Int)&&&aq (IntKind.bits .u32) (b:Int)).toNat=(a%4294967296)&&&(b%4294967296):=by
 simp[IntKind.bits,BitVec.toNat_and,BitVec.toNat_ofInt];rfl
theorem zC{n:Nat}(h:n<4294967296):IntKind.wrap .u32 (n:Int)=(n:Int):=Go.IntWalk.u32_in _ (by omega)
theorem Ej{i:Nat}(hi:i<32){h:ad}{K:Bool→ad→Prop}(a:K true h):HC PG nz [.int .i64 i] [.c .bool] K h:=by
 refine Gr i ?_;unfold yx;refine aQ (fun _=>?_) fun h=>absurd (Int.natCast_nonneg i) h
 rw[decide_eq_true (by omega)];exact a
theorem IT{a b:Nat}(h:b<4294967296):a&&&b<4294967296:=fP Nat.and_le_right h
theorem BL{d i:Nat}(hd:d<4294967296)(hi:i<32){h:ad}{K:Bool→ad→Prop}(c:K (d.testBit i) h):HC PG fU [.int .u32 d,.int .i64 i] [.c .bool] K h:=by
 refine Cj d i ?_;unfold uJ;refine Ej hi (ay.2 ⟨by omega,?_⟩);have e:min (i:Int).toNat (IntKind.bits .u32)=i:=by rw[aO];exact bC (by show i≤32;omega)
 rw[e,mc];have b:=RY (d>>>i) 1;have a:d>>>i<4294967296:=fP (hP d i) hd;rw[dw a,show(1:Nat)%4294967296=1 from rfl]at b
 simp only[Bd];rw[show((1:Nat):Int)=(1:Int)from rfl]at b
 rw[b,zC (IT (by omega))];have f:(((d>>>i&&&1:Nat):Int)==(1:Int))=d.testBit i:=by
  rw[lj,beq_iff_eq,Nat.testBit,Nat.and_comm];simp only[bne_iff_ne,ne_eq,Nat.one_and_eq_mod_two];have:(d>>>i)%2<2:=Nat.mod_lt _ (by omega);omega
 rw[f];exact c
theorem PI{d i:Nat}(hd:d<4294967296)(hi:i<32):∃w:Nat,IntKind.wrap .u32 (aq (IntKind.bits .u32) (d:Int)|||aq (IntKind.bits .u32) (IntKind.wrap .u32 (1*2^(min (i:Int).toNat (IntKind.bits .u32))))).toNat=(w:Int)∧w<4294967296∧∀j,w.testBit j=(d.testBit j||decide (j=i)):=by
 have e:min (i:Int).toNat (IntKind.bits .u32)=i:=by rw[aO];exact bC (by show i≤32;omega)
 have b:2^i<4294967296:=Nat.pow_lt_pow_right (by omega) (show i<32 from hi)
 have c:(1*2^i:Int)=((2^i:Nat):Int):=by simp
 rw[e,c,zC b];refine⟨_,zC (BitVec.isLt _),BitVec.isLt _,fun j=>?_⟩
 rw[BitVec.testBit_toNat,BitVec.getLsbD_or,eZ,eZ,mu,mu,nf];by_cases a:j<32
 ·have:decide (j<IntKind.bits .u32)=true:=decide_eq_true a
  rw[this];simp[eq_comm]
 ·have f:decide (j<IntKind.bits .u32)=false:=decide_eq_false a
  have g:d.testBit j=false:=gj (bP hd (eW (n:=2) (by omega) (show 32≤j by omega)))
  rw[f,g];simp;omega
theorem NC{d i:Nat}(hd:d<4294967296)(hi:i<32){h:ad}{K:Int→ad→Prop}(a:∀w:Nat,w<4294967296→(∀j,w.testBit j=(d.testBit j||decide (j=i)))→K (w:Int) h):HC PG fu [.int .u32 d,.int .i64 i] [.c (.int .u32)] K h:=by
 refine AX d i ?_;unfold tx;refine Ej hi (aj.2 ⟨by omega,?_⟩);obtain⟨w,e,b,c⟩:=PI hd hi;simp only[Bd];rw[e];exact a w b c
theorem IR{d i:Nat}(hd:d<4294967296)(hi:i<32):∃w:Nat,IntKind.wrap .u32 (aq (IntKind.bits .u32) (d:Int)&&& ~~~aq (IntKind.bits .u32) (IntKind.wrap .u32 (1*2^(min (i:Int).toNat (IntKind.bits .u32))))).toNat=(w:Int)∧w<4294967296∧∀j,w.testBit j=(d.testBit j&&decide (j≠i)):=by
 have e:min (i:Int).toNat (IntKind.bits .u32)=i:=by rw[aO];exact bC (by show i≤32;omega)
 have b:2^i<4294967296:=Nat.pow_lt_pow_right (by omega) (show i<32 from hi)
 have c:(1*2^i:Int)=((2^i:Nat):Int):=by simp
 rw[e,c,zC b];refine⟨_,zC (BitVec.isLt _),BitVec.isLt _,fun j=>?_⟩
 rw[BitVec.testBit_toNat,BitVec.getLsbD_and,BitVec.getLsbD_not,eZ,eZ,mu,mu,nf];by_cases a:j<32
 ·have:decide (j<IntKind.bits .u32)=true:=decide_eq_true a
  rw[this];simp[eq_comm]
 ·have f:decide (j<IntKind.bits .u32)=false:=decide_eq_false a
  have g:d.testBit j=false:=gj (bP hd (eW (n:=2) (by omega) (show 32≤j by omega)))
  rw[f,g];simp
theorem DL{d i:Nat}(hd:d<4294967296)(hi:i<32){h:ad}{K:Int→ad→Prop}(a:∀w:Nat,w<4294967296→(∀j,w.testBit j=(d.testBit j&&decide (j≠i)))→K (w:Int) h):HC PG jy [.int .u32 d,.int .i64 i] [.c (.int .u32)] K h:=by
 refine xa d i ?_;unfold qq;refine Ej hi (aj.2 ⟨by omega,?_⟩);obtain⟨w,e,b,c⟩:=IR hd hi;simp only[Bd];rw[e];exact a w b c
abbrev VM:ByteArray:=⟨#[0,1,1,2,1,2,2,3,1,2,2,3,2,3,3,4,1,2,2,3,2,3,3,4,2,3,3,4,3,4,4,5,1,2,2,3,2,3,3,4,2,3,3,4,3,4,4,5,2,3,3,4,3,4,4,5,3,4,4,5,4,5,5,6,1,2,2,3,2,3,3,4,2,3,3,4,3,4,4,5,2,3,3,4,3,4,4,5,3,4,4,5,4,5,5,6,2,3,3,4,3,4,4,5,3,4,4,5,4,5,5,6,3,4,4,5,4,5,5,6,4,5,5,6,5,6,6,7,1,2,2,3,2,3,3,4,2,3,3,4,3,4,4,5,2,3,3,4,3,4,4,5,3,4,4,5,4,5,5,6,2,3,3,4,3,4,4,5,3,4,4,5,4,5,5,6,3,4,4,5,4,5,5,6,4,5,5,6,5,6,6,7,2,3,3,4,3,4,4,5,3,4,4,5,4,5,5,6,3,4,4,5,4,5,5,6,4,5,5,6,5,6,6,7,3,4,4,5,4,5,5,6,4,5,5,6,5,6,6,7,4,5,5,6,5,6,6,7,5,6,6,7,6,7,7,8]⟩
theorem SJ:(cQ 256).all (fun b=>decide (VM[b]? =some (fV (uL 8 b))))=true:=by decide+kernel
theorem HX{b:Nat}(h:b<256):VM[b]? =some (fV (uL 8 b)):=of_decide_eq_true (List.all_eq_true.1 SJ b (g6.2 h))
theorem IH(b:Nat):(fV (uL 8 b)).toNat=uL 8 b:=by
 have:=y3 8 b;simp;omega
theorem WY(d:Nat):uL 32 d=uL 8 (d>>>24)+uL 8 ((d>>>16)&&&255)+uL 8 ((d>>>8)&&&255)+uL 8 (d&&&255):=by
 rw[Vd,Vd,Vd,show(32:Nat)=8+(8+(8+8))from rfl,DG,DG,DG]
 simp only[←Nat.shiftRight_add,Nat.reduceAdd];omega
set_option maxRecDepth 100000 in
theorem To{d:Nat}(hd:d<4294967296){h:ad}{K:Int→ad→Prop}(k:K (uL 32 d:Int) h):HC PG j4 [.int .u32 d] [.c (.int .i64)] K h:=by
 refine uo d ?_;unfold oA;have a:fH (d:Int) (2^(min (24:Int).toNat (IntKind.bits .u32)))=((d>>>24:Nat):Int):=mc d 24;have g:fH (d:Int) (2^(min (16:Int).toNat (IntKind.bits .u32)))=((d>>>16:Nat):Int):=mc d 16;have o:fH (d:Int) (2^(min (8:Int).toNat (IntKind.bits .u32)))=((d>>>8:Nat):Int):=mc d 8;have b:∀x:Nat,x<4294967296→IntKind.wrap .u32 (aq (IntKind.bits .u32) (x:Int)&&&aq (IntKind.bits .u32) 255).toNat=((x&&&255:Nat):Int):=fun x hx=>by
  have:=RY x 255;rw[dw hx]at this;rw[show((255:Nat):Int)=(255:Int)from rfl]at this
  rw[this,zC (IT (by omega))]
 have i:d>>>24<256:=by rw[cE];omega
 have c:∀x:Nat,x&&&255<256:=fun x=>fP Nat.and_le_right (by omega)
 have j:d>>>16<4294967296:=fP (hP d 16) hd;have m:d>>>8<4294967296:=fP (hP d 8) hd;simp only[Bd];rw[a,g,o,b _ j,b _ m,b _ hd];refine⟨by decide,_,by omega,HX (b:=d>>>24) i,by decide,_,by omega,HX (c _),by decide,_,by omega,HX (c _),_,by omega,HX (c _),?_⟩
 rw[IH,IH,IH,IH];simp only[aO];have u:=y3 8 (d>>>24);have p:=y3 8 (d>>>16&&&255);have q:=y3 8 (d>>>8&&&255);have q4:=y3 8 (d&&&255);rw[WY]at k;have f:∀n:Nat,n≤255→IntKind.wrap .u8 (n:Int)=(n:Int):=fun n s=>Go.IntWalk.u8_in _ (by omega)
 rw[←Int.natCast_add,f _ (by omega),←Int.natCast_add,f _ (by omega),←Int.natCast_add,f _ (by omega),oD (by omega)];exact k
theorem pW{d i:Nat}(hd:d<4294967296)(hi:i<32){h:ad}{K:Int→ad→Prop}(a:K (uL i d:Int) h):HC PG dz [.int .u32 d,.int .i64 i] [.c (.int .i64)] K h:=by
 refine AY d i ?_;unfold tA;refine aQ (fun f=>?_) fun f=>?_
 ·have:i=0:=by omega
  subst this;exact a
 ·refine aQ (fun h=>by omega) fun _=>⟨by omega,?_⟩
  have e:min (i:Int).toNat (IntKind.bits .u32)=i:=by rw[aO];exact bC (by show i≤32;omega)
  have b:2^i<4294967296:=Nat.pow_lt_pow_right (by omega) (show i<32 from hi)
  have j:0<2^i:=Nat.pow_pos (by omega);have c:(1*2^i:Int)=((2^i:Nat):Int):=by simp
  have g:(((2^i:Nat):Int)-1)=((2^i-1:Nat):Int):=by omega
  simp only[Bd];rw[e,c,zC b,g,zC (show 2^i-1<4294967296 by omega),RY,dw hd,dw (show 2^i-1<4294967296 by omega),zC (IT (by omega))]
  refine zm _ ?_;unfold rY;refine To (IT (by omega)) ?_;rw[Oh d i 32 (by omega)];exact a
end Go.Proofs
namespace Go.Proofs
open Go.Lift
def fm{β:Type}(g:Nat→Option β)(n:Nat):List β:=(cQ n).filterMap g
def upd{β:Type}(g:Nat→Option β)(i:Nat)(x:Option β)(j:Nat):Option β:=if j=i then x else g j
theorem V4{β:Type}{f g:Nat→Option β}:∀l:List Nat,(∀j∈l,f j=g j)→l.filterMap f=l.filterMap g
 | [],_=>rfl
 |j::l,h=>by
  rw[List.filterMap_cons,List.filterMap_cons,h j (List.mem_cons_self ..),V4 l fun k a=>h k (List.mem_cons_of_mem _ a)]
section
variable {β:Type} {g:Nat→Option β} {d:Nat}
theorem EK(hd:∀c,c<32→d.testBit c=(g c).isSome){i:Nat}(hi:i≤32):(fm g i).length=uL i d:=by
 unfold fm uL;rw[List.length_filterMap_eq_countP];exact List.countP_congr fun j a=>by rw[hd j (by have:=g6.1 a;omega)]
theorem qi{i n:Nat}(hi:i<n):fm g n=fm g i++((g i).toList++(cQ (n-(i+1))).filterMap fun j=>g (i+1+j)):=by
 unfold fm;have e:n=i+(1+(n-(i+1))):=by omega
 rw[e,r6,pq,r6];have a:i+(1+(n-(i+1)))-(i+1)=n-(i+1):=by omega
 rw[a];congr 1
 rw[List.map_append,pq,List.map_map];congr 1
 rw[List.filterMap_map];refine V4 _ fun j _=>?_
 show g (i+(1+j))=_
 rw[Nat.add_assoc]
theorem yQ{i:Nat}{x:Option β}:fm (upd g i x) i=fm g i:=by
 unfold fm;refine V4 _ fun j a=>?_
 have:=g6.1 a;unfold upd;rw[if_neg (by omega)]
theorem wI{i m:Nat}{x:Option β}:((cQ m).filterMap fun j=>upd g i x (i+1+j))=(cQ m).filterMap fun j=>g (i+1+j):=by
 refine V4 _ fun j _=>?_
 unfold upd;rw[if_neg (by omega)]
theorem Rb{i:Nat}(hi:i<32)(hd:∀c,c<32→d.testBit c=(g c).isSome)(b:g i=none)(x:β):fm (upd g i (some x)) 32=(fm g 32).take (uL i d)++x::(fm g 32).drop (uL i d):=by
 have a:=EK hd (i:=i) (by omega);rw[qi (g:=upd g i (some x)) hi,qi (g:=g) hi,yQ,wI,b,c5 a,cG a];simp[upd]
theorem Ra{i:Nat}(hi:i<32)(hd:∀c,c<32→d.testBit c=(g c).isSome){y:β}(b:g i=some y)(x:β):fm (upd g i (some x)) 32=(fm g 32).take (uL i d)++x::(fm g 32).drop (uL i d+1):=by
 have a:=EK hd (i:=i) (by omega);rw[qi (g:=upd g i (some x)) hi,qi (g:=g) hi,yQ,wI,b,c5 a,←dS,cG a];simp[upd]
theorem Rc{i:Nat}(hi:i<32)(hd:∀c,c<32→d.testBit c=(g c).isSome){y:β}(b:g i=some y):fm (upd g i none) 32=(fm g 32).take (uL i d)++(fm g 32).drop (uL i d+1):=by
 have a:=EK hd (i:=i) (by omega);rw[qi (g:=upd g i none) hi,qi (g:=g) hi,yQ,wI,b,c5 a,←dS,cG a];simp[upd]
theorem Rd{i:Nat}(hi:i<32)(hd:∀c,c<32→d.testBit c=(g c).isSome){y:β}(a:g i=some y):(fm g 32)[uL i d]? =some y:=by
 have b:=EK hd (i:=i) (by omega);rw[qi (g:=g) hi,a,List.getElem?_append_right (by omega),b,o9];rfl
theorem Hl{i:Nat}(hi:i<32)(hd:∀c,c<32→d.testBit c=(g c).isSome){y:β}(a:g i=some y):uL i d<(fm g 32).length:=(List.getElem?_eq_some_iff.1 (Rd hi hd a)).1
theorem T8{i:Nat}(hi:i<32)(hd:∀c,c<32→d.testBit c=(g c).isSome):uL i d≤(fm g 32).length:=by
 have a:=EK hd (i:=i) (by omega);rw[qi (g:=g) hi,af];omega
theorem wJ:(fm g 32).length≤32:=by
 have:=List.length_filterMap_le g (cQ 32);simpa[fm]using this
end
end Go.Proofs
namespace Go.Proofs
open Go.Lift
abbrev sv(s:SliceV):Value:=.slice s.a s.len s.cap
structure Slots where
 p:Nat→Option Pr
 k:Nat→Option (Option Addr)
def fM(d n:Nat)(sp sk:SliceV)(a:Bool)(ow:Option Addr):Array Value:= #[.int .u32 (d:Int),.int .u32 (n:Int),sv sp,sv sk,.bool a,.pointer ow]
structure BitsOf(d n:Nat)(s:Slots):Prop where
 d32:d<4294967296
 n32:n<4294967296
 dp:∀c,c<32→d.testBit c=(s.p c).isSome
 nk:∀c,c<32→n.testBit c=(s.k c).isSome
def OwOk(W:Nat→Prop)(h:ad)(ow:Option Addr):Prop:=∀a,ow=some a→¬W a.block∧eL h a
theorem OwOk.upd{W M:Nat→Prop}{h g:ad}{ow:Option Addr}(o:OwOk W h ow)(k:Upd M h g)(hm:∀b,M b→W b∨h.size≤b):OwOk W g ow:=fun a e=>by
 obtain⟨d,c,t,f,hz⟩:=o a e;exact⟨d,c,t,k.get f (fun hM=>(hm _ hM).elim d fun h=>by have:=aH f;omega),hz⟩
theorem OwOk.less{W W':Nat→Prop}{h:ad}{ow:Option Addr}(o:OwOk W h ow)(hm:∀b,W' b→W b∨h.size≤b):OwOk W' h ow:=fun a e=>by
 obtain⟨f,c,t,d,hz⟩:=o a e;exact⟨fun hx=>(hm _ hx).elim f fun h=>by have:=aH d;omega,c,t,d,hz⟩
theorem lw{W:Nat→Prop}{h:ad}:OwOk W h none:=fun _ e=>by cases e
structure NodeAt(W:Nat→Prop)(h:ad)(b:Nat)(s:Slots):Prop where
 ex:∃d n sp sk ow,h[b]? =some (.cells (fM d n sp sk false ow) bQ (0,0))∧BitsOf d n s∧Sl ge 2 W h sp (fm s.p 32)∧Sl qu 1 W h sk (fm s.k 32)∧sp.len≤sp.cap∧sk.len≤sk.cap∧OwOk W h ow
 nw:¬W b
theorem NodeAt.upd{W M:Nat→Prop}{h c:ad}{b:Nat}{s:Slots}(n:NodeAt W h b s)(k:Upd M h c)(hm:∀b,M b→W b∨h.size≤b):NodeAt W c b s:=by
 obtain⟨d,m,sp,sk,ow,a,q,j,f,g,i,o⟩:=n.ex;exact⟨⟨d,m,sp,sk,ow,k.get a (fun p=>(hm _ p).elim n.nw fun h=>by have:=aH a;omega),q,j.upd k hm,f.upd k hm,g,i,o.upd k hm⟩,n.nw⟩
structure OwnN(M:Nat→Prop)(h:ad)(b d n:Nat)(sp sk:SliceV)(s:Slots)(ow:Option Addr):Prop where
 blk:h[b]? =some (.cells (fM d n sp sk false ow) bQ (0,0))
 bits:BitsOf d n s
 ex:∃A B:Nat→Prop,OwnS ge 2 aB A h sp (fm s.p 32)∧OwnS qu 1 bM B h sk (fm s.k 32)∧(∀x,A x→M x∧¬B x∧x≠b∧x<h.size)∧(∀x,B x→M x∧x≠b∧x<h.size)
 mb:M b
theorem OwnN.upd{M M':Nat→Prop}{h g:ad}{b d n:Nat}{sp sk:SliceV}{s:Slots}{ow:Option Addr}(o:OwnN M h b d n sp sk s ow)(k:Upd M' h g)(hm:∀x,M' x→¬M x):OwnN M g b d n sp sk s ow:=by
 obtain⟨A,B,i,m,a,c⟩:=o.ex;have z:=k.size;exact⟨k.get o.blk fun j=>hm _ j o.mb,o.bits,⟨A,B,i.upd k fun x hx f=>hm _ f (a x hx).1,m.upd k fun x hx f=>hm _ f (c x hx).1,fun x hx=>⟨(a x hx).1,(a x hx).2.1,(a x hx).2.2.1,by have:=(a x hx).2.2.2;omega⟩,fun x hx=>⟨(c x hx).1,(c x hx).2.1,by have:=(c x hx).2.2;omega⟩⟩,o.mb⟩
end Go.Proofs
