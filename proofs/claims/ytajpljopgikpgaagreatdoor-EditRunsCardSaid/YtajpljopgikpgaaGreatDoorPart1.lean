/- A part of the proof that the named laws of this program answer true, whatever the input. -/
import Derived.Test.YtajpljopgikpgaaGreatDoorPart0
import Derived.Test.YtajpljopgikpgaaGreatDoorLift3
import Derived.Lib.Overlaps
import Derived.Sort.Walk0
open BitVec renaming ofInt→ah,ofInt_natCast→eK,getLsbD_ofNat→lA
open Bool renaming eq_iff_iff→mO
open Int renaming toNat_natCast→aH,fdiv→ft,fdiv_eq_ediv_of_nonneg→lw
open List renaming flatMap_cons→aX,take_length→bU,drop_length→jt,length_take→aI,length_drop→aL,flatMap_append→bA,drop_zero→di,append_assoc→ar,take_append_of_le_length→fc,take_of_length_le→bB,length_append→ae,drop_left→gC,take_left→ip,size_toArray→cP,drop_eq_getElem_cons→cU,length_eq_zero_iff→bV,drop_left'→cq,take_left'→cS,drop_drop→dH,drop_append_of_le_length→ff,length_cons→aN,pairwise_iff_getElem→cI,getElem?_eq_getElem→af,any_eq_true→ci,replicate→dE,replicate_succ→gV,flatten_append→dM,flatten_cons→eh,flatten_nil→l0,length→ga,range→cK,range_add→qU,mem_range→gA,filterMap_append→oz
open Nat renaming le_refl→ao,lt_or_ge→bH,min_eq_left→bm,sub_zero→eT,min→dL,zero_add→aE,add_one_mul→f8,one_mul→pt,le_mul_of_pos_left→oc,min_eq_right→oQ,sub_self→nZ,zero_mul→qf,zero_le→aU,testBit_shiftRight→nY,testBit_and→gO,testBit_two_pow_sub_one→kN,shiftRight_eq_div_pow→cn,lt_of_le_of_lt→fA,shiftRight_le→gJ,mod_eq_of_lt→de,testBit_two_pow→mg,testBit_lt_two_pow→fV,lt_of_lt_of_le→bR,pow_le_pow_right→eI
open UInt8 renaming ofNat→fH
namespace Go.Proofs
open Go Go.Lift
abbrev fP(x:ByteArray×ByteArray):List Value:= [.string x.1,.string x.2]
theorem gX(x:ByteArray×ByteArray):(fP x).length=2∧0<2:=⟨rfl,by omega⟩
theorem vS:∀xs:List (ByteArray×ByteArray),ce (xs.flatMap fP)=true
 | []=>rfl
 |x::xs=>by rw[aX];exact lH rfl (vS xs)
theorem Gl{h:ad}{a b o c e d cb:Nat}{g cw:Array Value}{f tb:TypeId}(hv:h[a]? =some (.cells g f (0,0))) (n:h[b]? =some (.cells cw tb (0,0))) (j:a≠b) (k:cw.size≠0) {K:Bool→ad→Prop} (m:K false h):
  HC PG gZ [.slice (some ⟨a,0,none⟩) c e,.slice (some ⟨b,o,none⟩) d cb] [.c .bool] K h:=by
 refine⟨fun w i=>.inr ⟨.bool false,w,?_,Tame.refl w,false,rfl,i▸m⟩⟩
 subst i;rw[qd];have:=Lib.run_overlaps_apart (P:=PG) w cR qm aw (by kernel_rfl) (bS PG aw) (ph (by kernel_rfl)) ⟨a,0,none⟩ ⟨b,o,none⟩ c e d cb j f tb g.size cw.size
  (by simp[World.shape?,hv]) (by simp[World.shape?,n]) k (by simp[World.frozen?,hv]) (by simp[World.frozen?,hv])
 rw[show([Value.slice (some ⟨a,0,none⟩) c e,Value.slice (some ⟨b,o,none⟩) d cb]:List Value).toArray= #[.slice (some ⟨a,0,none⟩) c e,.slice (some ⟨b,o,none⟩) d cb]from rfl,this]
 rfl
set_option maxRecDepth 4000 in
theorem Ko{M:Nat→Prop}{h:ad}{s:SliceV}{xs:List (ByteArray×ByteArray)}(V:OwnS fP 2 aw M h s xs){k:Nat}(hkl:k≤xs.length)(hn:(xs.length+1)*32≤140737488355328){x:ByteArray×ByteArray}{m:Nat}(hv:h[m]? =some (.cells (fP x).toArray aw (0,0)))
  (hvM:¬M m) (hM:∀b,h.size≤b→M b) {K:SliceV→ad→Prop} (hK:∀s' G,OwnS fP 2 aw M G s' (xs.take k++x::xs.drop k)→Upd M h G→K s' G):
  HC PG cN [.slice s.a s.len s.cap,.int .i64 k,.slice (some ⟨m,0,none⟩) 1 1] [.c .slice] K h:=by
 refine lR s k ⟨some ⟨m,0,none⟩,1,1⟩ ?_;unfold gG mo;have u:=V.len;have hcap:=V.cap;have O:SRow h (some ⟨m,0,none⟩) (1*2) (fP x):=⟨rfl,.inr ⟨_,rfl,oV hv fun i v hi=>by simpa using hi⟩⟩
 refine⟨by omega,aj.2 ?_⟩;refine CondP.intro (fun e=>?_) fun e=>?_
 ·have e:k=xs.length:=by have:=of_decide_eq_true (by simpa using e:decide ((k:Int)=(s.len:Int))=true);omega
  subst e;refine⟨_,O,AppP.own (ys:= [x]) V rfl (by simp) rfl rfl (by omega) (by simp;omega) (hM _ (ao _)) fun s' G ho hu=>hK s' G ?_ hu⟩
  rw[bU,jt];exact ho
 have hlt:k<xs.length:=by
  rcases bH k xs.length with h|h
  ·exact h
  ·have:((k:Int)==(s.len:Int))=true:=by rw[beq_iff_eq];omega
   rw[this]at e;cases e
 rcases V.blk with h0|⟨b,j,ha,t,hc,hr⟩
 ·omega
 have g:((xs.take k).flatMap fP).length=k*2:=by rw[jR gX,aI,bm hkl]
 have n:((xs.drop k).flatMap fP).length=(xs.length-k)*2:=by rw[jR gX,aL]
 have E:m≠b:=fun e=>hvM (e▸t)
 rw[xI (f:=fP) xs k]at hc;have a:(xs.take k++x::xs.drop k).flatMap fP=(xs.take k).flatMap fP++(fP x++(xs.drop k).flatMap fP):=by rw[bA,aX]
 have d:=vS (xs.drop k);have c:(fP x).length=2:=rfl;have z:ce (fP x)=true:=rfl;generalize hAe:(xs.take k).flatMap fP=A at g hc a;generalize hBe:(xs.drop k).flatMap fP=B at n hc a d;generalize fP x=X at O c hv a z;rw[ha];have w1:IntKind.wrap .i64 ((xs.length:Int)+((1:Nat):Int))=((xs.length+1:Nat):Int):=by rw[oq (by omega)];omega
 have w2:IntKind.wrap .i64 ((k:Int)+((1:Nat):Int))=((k+1:Nat):Int):=by rw[oq (by omega)];omega
 have w3:IntKind.wrap .i64 (((xs.length+1:Nat):Int)-(k:Int))=((xs.length+1-k:Nat):Int):=by rw[oq (by omega)];omega
 simp only[w1,w2,w3,aH,u];refine aG (fun hgt=>?_) fun hle=>?_
 ·
  have I:s.cap=xs.length:=by omega
  refine Join.plain ⟨by omega,⟨by omega,by omega,by omega,by omega⟩,fun hin=>?_,fun J=>?_⟩
  ·omega
  ·refine⟨A,_,?_,rfl,by omega,Go.growslice_fits J (by omega),fun D w=>?_⟩
   ·rw[sub_zero]
    exact kD hc (by rw[g];omega) (by simp only[di,eT];rw[ar,←g,fc (ao _),bU])
   ·simp only[aH]at w⊢
    have T:=Upd.hnew No h (A++dy (xs.length+1-k) [.string (⟨#[]⟩:ByteArray),.string (⟨#[]⟩:ByteArray)]++dy (D-(k-0+(xs.length+1-k))) [.string (⟨#[]⟩:ByteArray),.string (⟨#[]⟩:ByteArray)]) aw;have bn:=cW h (A++dy (xs.length+1-k) [.string (⟨#[]⟩:ByteArray),.string (⟨#[]⟩:ByteArray)]++dy (D-(k-0+(xs.length+1-k))) [.string (⟨#[]⟩:ByteArray),.string (⟨#[]⟩:ByteArray)]) aw
    have C:(dy (xs.length+1-k) [.string (⟨#[]⟩:ByteArray),.string (⟨#[]⟩:ByteArray)]).length=(xs.length+1-k)*2:=kO _ _;have Z:(dy (D-(k-0+(xs.length+1-k))) [.string (⟨#[]⟩:ByteArray),.string (⟨#[]⟩:ByteArray)]).length=(D-(k-0+(xs.length+1-k)))*2:=kO _ _;have p:k-0+(xs.length+1-k)=xs.length+1:=by omega
    rw[fR];have hsz:h.size≠m:=fun e=>by have:=aD hv;omega
    have H:h.size≠b:=fun e=>by have:=aD hc;omega
    have P:=T.get0 hc;have S:=T.get0 hv;generalize hnew h _ aw=h9 at T bn P S;rw[p]at w Z⊢;have m1:dL 1 (xs.length+1-k)=1:=bm (by omega);have m2:dL (xs.length-k) (xs.length+1-(k+1))=xs.length-k:=bm (by omega);rw[m1];have Y:SRow h9 (some ⟨m,0,none⟩) (1*2) X:=kD S (by rw[c]) (by rw[di,bB];rw[c];omega)
    refine⟨by omega,?_⟩;rw[iR (by omega)];refine j7 Y z bn (by simp only[ae,g,C];omega) fun h11 F o=>⟨by omega,?_⟩
    simp only[Bd];rw[iR (by omega),iR (by omega),m2];refine⟨by omega,?_⟩;have y:=o.get P (fun e=>H e.symm)
    have br:SRow h11 (some ⟨b,0+k*2,none⟩) ((xs.length-k)*2) B:=kD y n (by
     rw[aE,ar,←g,gC,←n,ip])
    refine j7 br d F ?_ fun h16 N Q=>?_
    ·simp only[ae,aI,aL,g,C,c];omega
    ·refine hK _ _ ⟨by simp;omega,gX,w,.inr ⟨h.size,dy (D-(xs.length+1)) [.string (⟨#[]⟩:ByteArray),.string (⟨#[]⟩:ByteArray)],rfl,hM _ (ao _),?_,by rw[kO];rfl⟩⟩ ((T.wide.trans (M':=(· =h.size)) o fun b t=>.inl (t▸hM _ (ao _))).trans (M':=(· =h.size)) Q fun b t=>.inl (t▸hM _ (ao _)))
     rw[N,a];have:=Gv (A:=A) (X:=X) (B:=B) (Z1:=dy (xs.length+1-k) [.string (⟨#[]⟩:ByteArray),.string (⟨#[]⟩:ByteArray)]) (Z2:=dy (D-(xs.length+1)) [.string (⟨#[]⟩:ByteArray),.string (⟨#[]⟩:ByteArray)]) (r:=(xs.length-k)*2) g c (by rw[C,←f8];congr 1;omega);rw[p,←this];simp only[aE,f8,pt]
 ·have I:xs.length+1≤s.cap:=by omega
  refine⟨by omega,?_⟩;simp only[Bd,eT];rw[sub_zero,iR (show s.cap≠k+1 by omega),iR (show s.cap≠k by omega)]
  refine⟨by omega,?_⟩;have hrl:2≤j.length:=by rw[hr];exact oc _ (by omega)
  refine Gl hv hc E (by rw[cP,ae];omega) ?_;refine aA.2 ⟨by omega,by omega,?_⟩
  have m1:dL 1 (xs.length+1-k)=1:=bm (by omega);have m2:dL (xs.length+1-k) (xs.length+1-(k+1))=xs.length-k:=by
   rw[show xs.length+1-(k+1)=xs.length-k by omega];exact oQ (by omega)
  rw[m2];have br:SRow h (some ⟨b,0+k*2,none⟩) ((xs.length-k)*2) B:=kD hc n (by
   rw[aE,ar,←g,gC,←n,ip])
  refine j7 br d hc (by simp only[ae,g,n];omega) fun h1 hb1 L=>⟨by omega,?_⟩
  rw[m1];have xr1:SRow h1 (some ⟨m,0,none⟩) (1*2) X:=kD (L.get hv E) (by rw[c]) (by rw[di,bB];rw[c];omega);refine j7 xr1 z hb1 (by simp only[ae,aI,aL,g,n];omega) fun h2 W hu2=>?_
  refine hK _ _ ⟨by simp;omega,gX,I,.inr ⟨b,j.drop 2,rfl,t,?_,?_⟩⟩ ((L.mono fun _ e=>.inl (e▸t)).tr (hu2.mono fun _ e=>.inl (e▸t)))
  ·rw[W,a]
   have:=Kq (A:=A) (X:=X) (B:=B) (R:=j) (q:=2) (r:=(xs.length-k)*2) g n hrl;rw[←this];simp only[aE,f8,pt]
  ·rw[aL,hr]
   simp only;rw[u];omega
abbrev px(x:Option Addr):List Value:= [.pointer x]
theorem qt(x:Option Addr):(px x).length=1∧0<1:=⟨rfl,by omega⟩
theorem B1:∀xs:List (Option Addr),ce (xs.flatMap px)=true
 | []=>rfl
 |x::xs=>by rw[aX];exact lH rfl (B1 xs)
theorem Gm{h:ad}{a b o c e d cb:Nat}{g cw:Array Value}{f tb:TypeId}(hv:h[a]? =some (.cells g f (0,0))) (n:h[b]? =some (.cells cw tb (0,0))) (j:a≠b) (k:cw.size≠0) {K:Bool→ad→Prop} (m:K false h):
  HC PG gy [.slice (some ⟨a,0,none⟩) c e,.slice (some ⟨b,o,none⟩) d cb] [.c .bool] K h:=by
 refine⟨fun w i=>.inr ⟨.bool false,w,?_,Tame.refl w,false,rfl,i▸m⟩⟩
 subst i;rw[po];have:=Lib.run_overlaps_apart (P:=PG) w pC qm bG (by kernel_rfl) (bS PG bG) (ph (by kernel_rfl)) ⟨a,0,none⟩ ⟨b,o,none⟩ c e d cb j f tb g.size cw.size
  (by simp[World.shape?,hv]) (by simp[World.shape?,n]) k (by simp[World.frozen?,hv]) (by simp[World.frozen?,hv])
 rw[show([Value.slice (some ⟨a,0,none⟩) c e,Value.slice (some ⟨b,o,none⟩) d cb]:List Value).toArray= #[.slice (some ⟨a,0,none⟩) c e,.slice (some ⟨b,o,none⟩) d cb]from rfl,this]
 rfl
set_option maxRecDepth 4000 in
theorem Kp{M:Nat→Prop}{h:ad}{s:SliceV}{xs:List (Option Addr)}(V:OwnS px 1 bG M h s xs){k:Nat}(hkl:k≤xs.length)(hn:(xs.length+1)*8≤140737488355328){x:Option Addr}{m:Nat}(hv:h[m]? =some (.cells (px x).toArray bG (0,0)))
  (hvM:¬M m) (hM:∀b,h.size≤b→M b) {K:SliceV→ad→Prop} (hK:∀s' G,OwnS px 1 bG M G s' (xs.take k++x::xs.drop k)→Upd M h G→K s' G):
  HC PG cE [.slice s.a s.len s.cap,.int .i64 k,.slice (some ⟨m,0,none⟩) 1 1] [.c .slice] K h:=by
 refine j8 s k ⟨some ⟨m,0,none⟩,1,1⟩ ?_;unfold f3;have u:=V.len;have hcap:=V.cap;have O:SRow h (some ⟨m,0,none⟩) (1*1) (px x):=⟨rfl,.inr ⟨_,rfl,oV hv fun i v hi=>by simpa using hi⟩⟩
 refine⟨by omega,aj.2 ?_⟩;refine CondP.intro (fun e=>?_) fun e=>?_
 ·have e:k=xs.length:=by have:=of_decide_eq_true (by simpa using e:decide ((k:Int)=(s.len:Int))=true);omega
  subst e;refine⟨_,O,AppP.own (ys:= [x]) V rfl (by simp) rfl rfl (by omega) (by simp;omega) (hM _ (ao _)) fun s' G ho hu=>hK s' G ?_ hu⟩
  rw[bU,jt];exact ho
 have hlt:k<xs.length:=by
  rcases bH k xs.length with h|h
  ·exact h
  ·have:((k:Int)==(s.len:Int))=true:=by rw[beq_iff_eq];omega
   rw[this]at e;cases e
 rcases V.blk with h0|⟨b,j,ha,t,hc,hr⟩
 ·omega
 have g:((xs.take k).flatMap px).length=k*1:=by rw[jR qt,aI,bm hkl]
 have n:((xs.drop k).flatMap px).length=(xs.length-k)*1:=by rw[jR qt,aL]
 have E:m≠b:=fun e=>hvM (e▸t)
 rw[xI (f:=px) xs k]at hc;have a:(xs.take k++x::xs.drop k).flatMap px=(xs.take k).flatMap px++(px x++(xs.drop k).flatMap px):=by rw[bA,aX]
 have d:=B1 (xs.drop k);have c:(px x).length=1:=rfl;have z:ce (px x)=true:=rfl;generalize hAe:(xs.take k).flatMap px=A at g hc a;generalize hBe:(xs.drop k).flatMap px=B at n hc a d;generalize px x=X at O c hv a z;rw[ha];have w1:IntKind.wrap .i64 ((xs.length:Int)+((1:Nat):Int))=((xs.length+1:Nat):Int):=by rw[oq (by omega)];omega
 have w2:IntKind.wrap .i64 ((k:Int)+((1:Nat):Int))=((k+1:Nat):Int):=by rw[oq (by omega)];omega
 have w3:IntKind.wrap .i64 (((xs.length+1:Nat):Int)-(k:Int))=((xs.length+1-k:Nat):Int):=by rw[oq (by omega)];omega
 simp only[w1,w2,w3,aH,u];refine aG (fun hgt=>?_) fun hle=>?_
 ·
  have I:s.cap=xs.length:=by omega
  refine Join.plain ⟨by omega,⟨by omega,by omega,by omega,by omega⟩,fun hin=>?_,fun J=>?_⟩
  ·omega
  ·refine⟨A,_,?_,rfl,by omega,Go.growslice_fits J (by omega),fun D w=>?_⟩
   ·rw[sub_zero]
    exact kD hc (by rw[g];omega) (by simp only[di,eT];rw[ar,←g,fc (ao _),bU])
   ·simp only[aH]at w⊢
    have T:=Upd.hnew No h (A++dy (xs.length+1-k) [.pointer none]++dy (D-(k-0+(xs.length+1-k))) [.pointer none]) bG;have bn:=cW h (A++dy (xs.length+1-k) [.pointer none]++dy (D-(k-0+(xs.length+1-k))) [.pointer none]) bG;have C:(dy (xs.length+1-k) [.pointer none]).length=(xs.length+1-k)*1:=kO _ _;have Z:(dy (D-(k-0+(xs.length+1-k))) [.pointer none]).length=(D-(k-0+(xs.length+1-k)))*1:=kO _ _
    have p:k-0+(xs.length+1-k)=xs.length+1:=by omega
    rw[fR];have hsz:h.size≠m:=fun e=>by have:=aD hv;omega
    have H:h.size≠b:=fun e=>by have:=aD hc;omega
    have P:=T.get0 hc;have S:=T.get0 hv;generalize hnew h _ bG=h9 at T bn P S;rw[p]at w Z⊢;have m1:dL 1 (xs.length+1-k)=1:=bm (by omega);have m2:dL (xs.length-k) (xs.length+1-(k+1))=xs.length-k:=bm (by omega);rw[m1];have Y:SRow h9 (some ⟨m,0,none⟩) (1*1) X:=kD S (by rw[c]) (by rw[di,bB];rw[c];omega)
    refine⟨by omega,?_⟩;rw[iR (by omega)];refine j7 Y z bn (by simp only[ae,g,C];omega) fun h11 F o=>⟨by omega,?_⟩
    simp only[Bd];rw[iR (by omega),iR (by omega),m2];refine⟨by omega,?_⟩;have y:=o.get P (fun e=>H e.symm)
    have br:SRow h11 (some ⟨b,0+k*1,none⟩) ((xs.length-k)*1) B:=kD y n (by
     rw[aE,ar,←g,gC,←n,ip])
    refine j7 br d F ?_ fun h16 N Q=>?_
    ·simp only[ae,aI,aL,g,C,c];omega
    ·refine hK _ _ ⟨by simp;omega,qt,w,.inr ⟨h.size,dy (D-(xs.length+1)) [.pointer none],rfl,hM _ (ao _),?_,by rw[kO];rfl⟩⟩ ((T.wide.trans (M':=(· =h.size)) o fun b t=>.inl (t▸hM _ (ao _))).trans (M':=(· =h.size)) Q fun b t=>.inl (t▸hM _ (ao _)))
     rw[N,a];have:=Gv (A:=A) (X:=X) (B:=B) (Z1:=dy (xs.length+1-k) [.pointer none]) (Z2:=dy (D-(xs.length+1)) [.pointer none]) (r:=(xs.length-k)*1) g c (by rw[C,←f8];congr 1;omega);rw[p,←this];simp only[aE,f8,pt]
 ·have I:xs.length+1≤s.cap:=by omega
  refine⟨by omega,?_⟩;simp only[Bd,eT];rw[sub_zero,iR (show s.cap≠k+1 by omega),iR (show s.cap≠k by omega)]
  refine⟨by omega,?_⟩;have hrl:1≤j.length:=by rw[hr];exact oc _ (by omega)
  refine Gm hv hc E (by rw[cP,ae];omega) ?_;refine aA.2 ⟨by omega,by omega,?_⟩
  have m1:dL 1 (xs.length+1-k)=1:=bm (by omega);have m2:dL (xs.length+1-k) (xs.length+1-(k+1))=xs.length-k:=by
   rw[show xs.length+1-(k+1)=xs.length-k by omega];exact oQ (by omega)
  rw[m2];have br:SRow h (some ⟨b,0+k*1,none⟩) ((xs.length-k)*1) B:=kD hc n (by
   rw[aE,ar,←g,gC,←n,ip])
  refine j7 br d hc (by simp only[ae,g,n];omega) fun h1 hb1 L=>⟨by omega,?_⟩
  rw[m1];have xr1:SRow h1 (some ⟨m,0,none⟩) (1*1) X:=kD (L.get hv E) (by rw[c]) (by rw[di,bB];rw[c];omega);refine j7 xr1 z hb1 (by simp only[ae,aI,aL,g,n];omega) fun h2 W hu2=>?_
  refine hK _ _ ⟨by simp;omega,qt,I,.inr ⟨b,j.drop 1,rfl,t,?_,?_⟩⟩ ((L.mono fun _ e=>.inl (e▸t)).tr (hu2.mono fun _ e=>.inl (e▸t)))
  ·rw[W,a]
   have:=Kq (A:=A) (X:=X) (B:=B) (R:=j) (q:=1) (r:=(xs.length-k)*1) g n hrl;rw[←this];simp only[aE,f8,pt]
  ·rw[aL,hr]
   simp only;rw[u];omega
abbrev lB(x:Option Addr):List Value:= [.pointer x]
theorem nB(x:Option Addr):(lB x).length=1∧0<1:=⟨rfl,by omega⟩
theorem B0:∀xs:List (Option Addr),ce (xs.flatMap lB)=true
 | []=>rfl
 |x::xs=>by rw[aX];exact lH rfl (B0 xs)
theorem Gk{h:ad}{a b o c e d cb:Nat}{g cw:Array Value}{f tb:TypeId}(hv:h[a]? =some (.cells g f (0,0))) (n:h[b]? =some (.cells cw tb (0,0))) (j:a≠b) (k:cw.size≠0) {K:Bool→ad→Prop} (m:K false h):
  HC PG gn [.slice (some ⟨a,0,none⟩) c e,.slice (some ⟨b,o,none⟩) d cb] [.c .bool] K h:=by
 refine⟨fun w i=>.inr ⟨.bool false,w,?_,Tame.refl w,false,rfl,i▸m⟩⟩
 subst i;rw[oM];have:=Lib.run_overlaps_apart (P:=PG) w oB qm aY (by kernel_rfl) (bS PG aY) (ph (by kernel_rfl)) ⟨a,0,none⟩ ⟨b,o,none⟩ c e d cb j f tb g.size cw.size
  (by simp[World.shape?,hv]) (by simp[World.shape?,n]) k (by simp[World.frozen?,hv]) (by simp[World.frozen?,hv])
 rw[show([Value.slice (some ⟨a,0,none⟩) c e,Value.slice (some ⟨b,o,none⟩) d cb]:List Value).toArray= #[.slice (some ⟨a,0,none⟩) c e,.slice (some ⟨b,o,none⟩) d cb]from rfl,this]
 rfl
set_option maxRecDepth 4000 in
theorem Km{M:Nat→Prop}{h:ad}{s:SliceV}{xs:List (Option Addr)}(V:OwnS lB 1 aY M h s xs){k:Nat}(hkl:k≤xs.length)(hn:(xs.length+1)*8≤140737488355328){x:Option Addr}{m:Nat}(hv:h[m]? =some (.cells (lB x).toArray aY (0,0)))
  (hvM:¬M m) (hM:∀b,h.size≤b→M b) {K:SliceV→ad→Prop} (hK:∀s' G,OwnS lB 1 aY M G s' (xs.take k++x::xs.drop k)→Upd M h G→K s' G):
  HC PG dQ [.slice s.a s.len s.cap,.int .i64 k,.slice (some ⟨m,0,none⟩) 1 1] [.c .slice] K h:=by
 refine jx s k ⟨some ⟨m,0,none⟩,1,1⟩ ?_;unfold fM;have u:=V.len;have hcap:=V.cap;have O:SRow h (some ⟨m,0,none⟩) (1*1) (lB x):=⟨rfl,.inr ⟨_,rfl,oV hv fun i v hi=>by simpa using hi⟩⟩
 refine⟨by omega,aj.2 ?_⟩;refine CondP.intro (fun e=>?_) fun e=>?_
 ·have e:k=xs.length:=by have:=of_decide_eq_true (by simpa using e:decide ((k:Int)=(s.len:Int))=true);omega
  subst e;refine⟨_,O,AppP.own (ys:= [x]) V rfl (by simp) rfl rfl (by omega) (by simp;omega) (hM _ (ao _)) fun s' G ho hu=>hK s' G ?_ hu⟩
  rw[bU,jt];exact ho
 have hlt:k<xs.length:=by
  rcases bH k xs.length with h|h
  ·exact h
  ·have:((k:Int)==(s.len:Int))=true:=by rw[beq_iff_eq];omega
   rw[this]at e;cases e
 rcases V.blk with h0|⟨b,j,ha,t,hc,hr⟩
 ·omega
 have g:((xs.take k).flatMap lB).length=k*1:=by rw[jR nB,aI,bm hkl]
 have n:((xs.drop k).flatMap lB).length=(xs.length-k)*1:=by rw[jR nB,aL]
 have E:m≠b:=fun e=>hvM (e▸t)
 rw[xI (f:=lB) xs k]at hc;have a:(xs.take k++x::xs.drop k).flatMap lB=(xs.take k).flatMap lB++(lB x++(xs.drop k).flatMap lB):=by rw[bA,aX]
 have d:=B0 (xs.drop k);have c:(lB x).length=1:=rfl;have z:ce (lB x)=true:=rfl;generalize hAe:(xs.take k).flatMap lB=A at g hc a;generalize hBe:(xs.drop k).flatMap lB=B at n hc a d;generalize lB x=X at O c hv a z;rw[ha];have w1:IntKind.wrap .i64 ((xs.length:Int)+((1:Nat):Int))=((xs.length+1:Nat):Int):=by rw[oq (by omega)];omega
 have w2:IntKind.wrap .i64 ((k:Int)+((1:Nat):Int))=((k+1:Nat):Int):=by rw[oq (by omega)];omega
 have w3:IntKind.wrap .i64 (((xs.length+1:Nat):Int)-(k:Int))=((xs.length+1-k:Nat):Int):=by rw[oq (by omega)];omega
 simp only[w1,w2,w3,aH,u];refine aG (fun hgt=>?_) fun hle=>?_
 ·
  have I:s.cap=xs.length:=by omega
  refine Join.plain ⟨by omega,⟨by omega,by omega,by omega,by omega⟩,fun hin=>?_,fun J=>?_⟩
  ·omega
  ·refine⟨A,_,?_,rfl,by omega,Go.growslice_fits J (by omega),fun D w=>?_⟩
   ·rw[sub_zero]
    exact kD hc (by rw[g];omega) (by simp only[di,eT];rw[ar,←g,fc (ao _),bU])
   ·simp only[aH]at w⊢
    have T:=Upd.hnew No h (A++dy (xs.length+1-k) [.pointer none]++dy (D-(k-0+(xs.length+1-k))) [.pointer none]) aY;have bn:=cW h (A++dy (xs.length+1-k) [.pointer none]++dy (D-(k-0+(xs.length+1-k))) [.pointer none]) aY;have C:(dy (xs.length+1-k) [.pointer none]).length=(xs.length+1-k)*1:=kO _ _;have Z:(dy (D-(k-0+(xs.length+1-k))) [.pointer none]).length=(D-(k-0+(xs.length+1-k)))*1:=kO _ _
    have p:k-0+(xs.length+1-k)=xs.length+1:=by omega
    rw[fR];have hsz:h.size≠m:=fun e=>by have:=aD hv;omega
    have H:h.size≠b:=fun e=>by have:=aD hc;omega
    have P:=T.get0 hc;have S:=T.get0 hv;generalize hnew h _ aY=h9 at T bn P S;rw[p]at w Z⊢;have m1:dL 1 (xs.length+1-k)=1:=bm (by omega);have m2:dL (xs.length-k) (xs.length+1-(k+1))=xs.length-k:=bm (by omega);rw[m1];have Y:SRow h9 (some ⟨m,0,none⟩) (1*1) X:=kD S (by rw[c]) (by rw[di,bB];rw[c];omega)
    refine⟨by omega,?_⟩;rw[iR (by omega)];refine j7 Y z bn (by simp only[ae,g,C];omega) fun h11 F o=>⟨by omega,?_⟩
    simp only[Bd];rw[iR (by omega),iR (by omega),m2];refine⟨by omega,?_⟩;have y:=o.get P (fun e=>H e.symm)
    have br:SRow h11 (some ⟨b,0+k*1,none⟩) ((xs.length-k)*1) B:=kD y n (by
     rw[aE,ar,←g,gC,←n,ip])
    refine j7 br d F ?_ fun h16 N Q=>?_
    ·simp only[ae,aI,aL,g,C,c];omega
    ·refine hK _ _ ⟨by simp;omega,nB,w,.inr ⟨h.size,dy (D-(xs.length+1)) [.pointer none],rfl,hM _ (ao _),?_,by rw[kO];rfl⟩⟩ ((T.wide.trans (M':=(· =h.size)) o fun b t=>.inl (t▸hM _ (ao _))).trans (M':=(· =h.size)) Q fun b t=>.inl (t▸hM _ (ao _)))
     rw[N,a];have:=Gv (A:=A) (X:=X) (B:=B) (Z1:=dy (xs.length+1-k) [.pointer none]) (Z2:=dy (D-(xs.length+1)) [.pointer none]) (r:=(xs.length-k)*1) g c (by rw[C,←f8];congr 1;omega);rw[p,←this];simp only[aE,f8,pt]
 ·have I:xs.length+1≤s.cap:=by omega
  refine⟨by omega,?_⟩;simp only[Bd,eT];rw[sub_zero,iR (show s.cap≠k+1 by omega),iR (show s.cap≠k by omega)]
  refine⟨by omega,?_⟩;have hrl:1≤j.length:=by rw[hr];exact oc _ (by omega)
  refine Gk hv hc E (by rw[cP,ae];omega) ?_;refine aA.2 ⟨by omega,by omega,?_⟩
  have m1:dL 1 (xs.length+1-k)=1:=bm (by omega);have m2:dL (xs.length+1-k) (xs.length+1-(k+1))=xs.length-k:=by
   rw[show xs.length+1-(k+1)=xs.length-k by omega];exact oQ (by omega)
  rw[m2];have br:SRow h (some ⟨b,0+k*1,none⟩) ((xs.length-k)*1) B:=kD hc n (by
   rw[aE,ar,←g,gC,←n,ip])
  refine j7 br d hc (by simp only[ae,g,n];omega) fun h1 hb1 L=>⟨by omega,?_⟩
  rw[m1];have xr1:SRow h1 (some ⟨m,0,none⟩) (1*1) X:=kD (L.get hv E) (by rw[c]) (by rw[di,bB];rw[c];omega);refine j7 xr1 z hb1 (by simp only[ae,aI,aL,g,n];omega) fun h2 W hu2=>?_
  refine hK _ _ ⟨by simp;omega,nB,I,.inr ⟨b,j.drop 1,rfl,t,?_,?_⟩⟩ ((L.mono fun _ e=>.inl (e▸t)).tr (hu2.mono fun _ e=>.inl (e▸t)))
  ·rw[W,a]
   have:=Kq (A:=A) (X:=X) (B:=B) (R:=j) (q:=1) (r:=(xs.length-k)*1) g n hrl;rw[←this];simp only[aE,f8,pt]
  ·rw[aL,hr]
   simp only;rw[u];omega
end Go.Proofs
namespace Go.Proofs
open Go Go.Lift
theorem Av{W:Nat→Prop}{h:ad}{s:SliceV}{xs:List (ByteArray×ByteArray)}(d:Sl fP 2 W h s xs)(k:xs.length*32≤140737488355328){K:SliceV→ad→Prop}
  (i:∀s' c,OwnS fP 2 aw (fun b=>h.size≤b) c s' xs→Upd No h c→K s' c):HC PG cX [.slice s.a s.len s.cap] [.c .slice] K h:=by
 refine mf s ?_;unfold gU mo;refine CondP.intro (fun e=>?_) (fun j=>?_)
 ·have e:s.a=none:=by simpa using e
  have hx:xs= []:=by
   by_cases hx:xs= []
   ·exact hx
   ·obtain⟨a,g,_⟩:=d.row hx
    rw[e]at g;cases g
  subst hx;exact i _ _ (OwnS.nil gX) (Upd.refl _ _)
 ·have p:=d.upd (Upd.hnew No h [] aw) (fun _ h=>h.elim)
  refine⟨_,p.srow,?_⟩;refine AppP.own (f:=fP) (M:=fun b=>h.size≤b) (xs:= []) (ys:=xs) ⟨rfl,gX,ao _,.inl rfl⟩ d.len rfl (vS xs) rfl (by omega) (by simpa using k) (by rw[kA];omega) fun s' c o m=>?_
  exact i _ _ o ((Upd.hnew No h [] aw).trans m fun b n=>.inr n)
theorem KH{M:Nat→Prop}{h:ad}{s:SliceV}{xs:List (ByteArray×ByteArray)}(z:OwnS fP 2 aw M h s xs){k:Nat}(w:k<xs.length)(N:xs.length≤4398046511104)
  {K:SliceV→ad→Prop}(H:∀s' h',OwnS fP 2 aw M h' s' (xs.take k++xs.drop (k+1))→Upd M h h'→K s' h'):
  HC PG eR [.slice s.a s.len s.cap,.int .i64 k,.int .i64 ((k+1:Nat):Int)] [.c .slice] K h:=by
 refine lS s k ((k+1:Nat):Int) ?_;unfold gH mo;have f:=z.len;have C:=z.cap;rcases z.blk with O|⟨b,a,F,v,hc,I⟩
 ·omega
 have p:((xs.take k).flatMap fP).length=k*2:=by rw[jR gX,aI,bm (by omega)]
 have m:((xs.drop (k+1)).flatMap fP).length=(xs.length-(k+1))*2:=by rw[jR gX,aL]
 have G:xs.flatMap fP=(xs.take k).flatMap fP++(fP xs[k]++(xs.drop (k+1)).flatMap fP):=by
  rw[←aX,←cU w];exact xI xs k
 rw[G]at hc;have d:=vS (xs.drop (k+1));have c:(xs.take k++xs.drop (k+1)).flatMap fP=(xs.take k).flatMap fP++(xs.drop (k+1)).flatMap fP:=bA;have J:(fP xs[k]).length=2:=rfl;generalize (xs.take k).flatMap fP=A at p hc c;generalize (xs.drop (k+1)).flatMap fP=B at m hc d c;generalize fP xs[k]=X at J hc;rw[F];simp only[f,aH];refine⟨by omega,by omega,by omega,CondP.intro (fun e=>?_) fun _=>?_⟩
 ·have:(k:Int)=((k+1:Nat):Int):=by simpa using e
  omega
 refine Join.plain ⟨by omega,by omega,B,?_,?_⟩
 ·by_cases g:xs.length=k+1
  ·exact⟨m,.inl (bV.1 (by rw[m,g,nZ,qf]))⟩
  rw[iR (by omega)];refine kD hc m ?_;have:(A++X).length=0+(k+1)*2:=by rw[ae];omega
  rw[show A++(X++B)++a=(A++X)++(B++a) by simp only[ar],cq this,cS m]
 ·rw[sub_zero]
  refine KS hc (by simp only[ae];omega) (by omega) d fun P i q=>?_
  have t:a.length=(s.cap-xs.length)*2:=by rw[I,f]
  refine⟨by dsimp only;omega,by dsimp only;omega,?_⟩
  simp only[Bd];rw[iR (by omega)];have E:xs.length-(k-0+(xs.length-(k+1)))=1:=by omega
  have x:(A++(X++B)++a).drop ((k-0)*2+B.length)=(X++B).drop B.length++a:=by
   rw[ar,←dH,cq (show A.length=(k-0)*2 by rw[p,eT]),ff (by rw[ae];omega)]
  have u:(A++(X++B)++a).take ((k-0)*2)=A:=by rw[ar,cS (show A.length=(k-0)*2 by rw[p,eT])]
  rw[x,u]at i;have o:((X++B).drop B.length).length=2:=by rw[aL,ae];omega
  generalize (X++B).drop B.length=D at o i;rw[E];have hz:(dy 1 [.string (⟨#[]⟩:ByteArray),.string (⟨#[]⟩:ByteArray)]).length=2:=rfl;have j:(A++B).length=0+(k-0+(xs.length-(k+1)))*2:=by rw[ae,p,m];omega
  refine Gg i (by simp only[ae]at j⊢;omega) fun L n y=>?_
  rw[cS j,←dH,cq j]at n;refine H _ _ ⟨by simp;omega,gX,by simp only;omega,.inr ⟨b,dy 1 [.string (⟨#[]⟩:ByteArray),.string (⟨#[]⟩:ByteArray)]++(D++a).drop (dy 1 [.string (⟨#[]⟩:ByteArray),.string (⟨#[]⟩:ByteArray)]).length,rfl,v,?_,?_⟩⟩ ((q.mono fun _ e=>.inl (e▸v)).tr (y.mono fun _ e=>.inl (e▸v)))
  ·rw[n,c];simp only[ar]
  ·simp only[ae,aL,hz,o,t]
   omega
theorem FB{W:Nat→Prop}{h:ad}{s:SliceV}{xs:List (Option Addr)}(d:Sl px 1 W h s xs)(k:xs.length*8≤140737488355328){K:SliceV→ad→Prop}
  (i:∀s' c,OwnS px 1 bG (fun b=>h.size≤b) c s' xs→Upd No h c→K s' c):HC PG dq [.slice s.a s.len s.cap] [.c .slice] K h:=by
 refine kE s ?_;unfold gh;refine CondP.intro (fun e=>?_) (fun j=>?_)
 ·have e:s.a=none:=by simpa using e
  have hx:xs= []:=by
   by_cases hx:xs= []
   ·exact hx
   ·obtain⟨a,g,_⟩:=d.row hx
    rw[e]at g;cases g
  subst hx;exact i _ _ (OwnS.nil qt) (Upd.refl _ _)
 ·have p:=d.upd (Upd.hnew No h [] bG) (fun _ h=>h.elim)
  refine⟨_,p.srow,?_⟩;refine AppP.own (f:=px) (M:=fun b=>h.size≤b) (xs:= []) (ys:=xs) ⟨rfl,qt,ao _,.inl rfl⟩ d.len rfl (B1 xs) rfl (by omega) (by simpa using k) (by rw[kA];omega) fun s' c o m=>?_
  exact i _ _ o ((Upd.hnew No h [] bG).trans m fun b n=>.inr n)
theorem KI{M:Nat→Prop}{h:ad}{s:SliceV}{xs:List (Option Addr)}(z:OwnS px 1 bG M h s xs){k:Nat}(w:k<xs.length)(N:xs.length≤4398046511104)
  {K:SliceV→ad→Prop}(H:∀s' h',OwnS px 1 bG M h' s' (xs.take k++xs.drop (k+1))→Upd M h h'→K s' h'):
  HC PG dW [.slice s.a s.len s.cap,.int .i64 k,.int .i64 ((k+1:Nat):Int)] [.c .slice] K h:=by
 refine j9 s k ((k+1:Nat):Int) ?_;unfold f6;have f:=z.len;have C:=z.cap;rcases z.blk with O|⟨b,a,F,v,hc,I⟩
 ·omega
 have p:((xs.take k).flatMap px).length=k*1:=by rw[jR qt,aI,bm (by omega)]
 have m:((xs.drop (k+1)).flatMap px).length=(xs.length-(k+1))*1:=by rw[jR qt,aL]
 have G:xs.flatMap px=(xs.take k).flatMap px++(px xs[k]++(xs.drop (k+1)).flatMap px):=by
  rw[←aX,←cU w];exact xI xs k
 rw[G]at hc;have d:=B1 (xs.drop (k+1));have c:(xs.take k++xs.drop (k+1)).flatMap px=(xs.take k).flatMap px++(xs.drop (k+1)).flatMap px:=bA;have J:(px xs[k]).length=1:=rfl;generalize (xs.take k).flatMap px=A at p hc c;generalize (xs.drop (k+1)).flatMap px=B at m hc d c;generalize px xs[k]=X at J hc;rw[F];simp only[f,aH];refine⟨by omega,by omega,by omega,CondP.intro (fun e=>?_) fun _=>?_⟩
 ·have:(k:Int)=((k+1:Nat):Int):=by simpa using e
  omega
 refine Join.plain ⟨by omega,by omega,B,?_,?_⟩
 ·by_cases g:xs.length=k+1
  ·exact⟨m,.inl (bV.1 (by rw[m,g,nZ,qf]))⟩
  rw[iR (by omega)];refine kD hc m ?_;have:(A++X).length=0+(k+1)*1:=by rw[ae];omega
  rw[show A++(X++B)++a=(A++X)++(B++a) by simp only[ar],cq this,cS m]
 ·rw[sub_zero]
  refine KS hc (by simp only[ae];omega) (by omega) d fun P i q=>?_
  have t:a.length=(s.cap-xs.length)*1:=by rw[I,f]
  refine⟨by dsimp only;omega,by dsimp only;omega,?_⟩
  simp only[Bd];rw[iR (by omega)];have E:xs.length-(k-0+(xs.length-(k+1)))=1:=by omega
  have x:(A++(X++B)++a).drop ((k-0)*1+B.length)=(X++B).drop B.length++a:=by
   rw[ar,←dH,cq (show A.length=(k-0)*1 by rw[p,eT]),ff (by rw[ae];omega)]
  have u:(A++(X++B)++a).take ((k-0)*1)=A:=by rw[ar,cS (show A.length=(k-0)*1 by rw[p,eT])]
  rw[x,u]at i;have o:((X++B).drop B.length).length=1:=by rw[aL,ae];omega
  generalize (X++B).drop B.length=D at o i;rw[E];have hz:(dy 1 [.pointer none]).length=1:=rfl;have j:(A++B).length=0+(k-0+(xs.length-(k+1)))*1:=by rw[ae,p,m];omega
  refine Gg i (by simp only[ae]at j⊢;omega) fun L n y=>?_
  rw[cS j,←dH,cq j]at n;refine H _ _ ⟨by simp;omega,qt,by simp only;omega,.inr ⟨b,dy 1 [.pointer none]++(D++a).drop (dy 1 [.pointer none]).length,rfl,v,?_,?_⟩⟩ ((q.mono fun _ e=>.inl (e▸v)).tr (y.mono fun _ e=>.inl (e▸v)))
  ·rw[n,c];simp only[ar]
  ·simp only[ae,aL,hz,o,t]
   omega
theorem FA{W:Nat→Prop}{h:ad}{s:SliceV}{xs:List (Option Addr)}(d:Sl lB 1 W h s xs)(k:xs.length*8≤140737488355328){K:SliceV→ad→Prop}
  (i:∀s' c,OwnS lB 1 aY (fun b=>h.size≤b) c s' xs→Upd No h c→K s' c):HC PG cY [.slice s.a s.len s.cap] [.c .slice] K h:=by
 refine jS s ?_;unfold fU;refine CondP.intro (fun e=>?_) (fun j=>?_)
 ·have e:s.a=none:=by simpa using e
  have hx:xs= []:=by
   by_cases hx:xs= []
   ·exact hx
   ·obtain⟨a,g,_⟩:=d.row hx
    rw[e]at g;cases g
  subst hx;exact i _ _ (OwnS.nil nB) (Upd.refl _ _)
 ·have p:=d.upd (Upd.hnew No h [] aY) (fun _ h=>h.elim)
  refine⟨_,p.srow,?_⟩;refine AppP.own (f:=lB) (M:=fun b=>h.size≤b) (xs:= []) (ys:=xs) ⟨rfl,nB,ao _,.inl rfl⟩ d.len rfl (B0 xs) rfl (by omega) (by simpa using k) (by rw[kA];omega) fun s' c o m=>?_
  exact i _ _ o ((Upd.hnew No h [] aY).trans m fun b n=>.inr n)
theorem KG{M:Nat→Prop}{h:ad}{s:SliceV}{xs:List (Option Addr)}(z:OwnS lB 1 aY M h s xs){k:Nat}(w:k<xs.length)(N:xs.length≤4398046511104)
  {K:SliceV→ad→Prop}(H:∀s' h',OwnS lB 1 aY M h' s' (xs.take k++xs.drop (k+1))→Upd M h h'→K s' h'):
  HC PG dR [.slice s.a s.len s.cap,.int .i64 k,.int .i64 ((k+1:Nat):Int)] [.c .slice] K h:=by
 refine jz s k ((k+1:Nat):Int) ?_;unfold fO;have f:=z.len;have C:=z.cap;rcases z.blk with O|⟨b,a,F,v,hc,I⟩
 ·omega
 have p:((xs.take k).flatMap lB).length=k*1:=by rw[jR nB,aI,bm (by omega)]
 have m:((xs.drop (k+1)).flatMap lB).length=(xs.length-(k+1))*1:=by rw[jR nB,aL]
 have G:xs.flatMap lB=(xs.take k).flatMap lB++(lB xs[k]++(xs.drop (k+1)).flatMap lB):=by
  rw[←aX,←cU w];exact xI xs k
 rw[G]at hc;have d:=B0 (xs.drop (k+1));have c:(xs.take k++xs.drop (k+1)).flatMap lB=(xs.take k).flatMap lB++(xs.drop (k+1)).flatMap lB:=bA;have J:(lB xs[k]).length=1:=rfl;generalize (xs.take k).flatMap lB=A at p hc c;generalize (xs.drop (k+1)).flatMap lB=B at m hc d c;generalize lB xs[k]=X at J hc;rw[F];simp only[f,aH];refine⟨by omega,by omega,by omega,CondP.intro (fun e=>?_) fun _=>?_⟩
 ·have:(k:Int)=((k+1:Nat):Int):=by simpa using e
  omega
 refine Join.plain ⟨by omega,by omega,B,?_,?_⟩
 ·by_cases g:xs.length=k+1
  ·exact⟨m,.inl (bV.1 (by rw[m,g,nZ,qf]))⟩
  rw[iR (by omega)];refine kD hc m ?_;have:(A++X).length=0+(k+1)*1:=by rw[ae];omega
  rw[show A++(X++B)++a=(A++X)++(B++a) by simp only[ar],cq this,cS m]
 ·rw[sub_zero]
  refine KS hc (by simp only[ae];omega) (by omega) d fun P i q=>?_
  have t:a.length=(s.cap-xs.length)*1:=by rw[I,f]
  refine⟨by dsimp only;omega,by dsimp only;omega,?_⟩
  simp only[Bd];rw[iR (by omega)];have E:xs.length-(k-0+(xs.length-(k+1)))=1:=by omega
  have x:(A++(X++B)++a).drop ((k-0)*1+B.length)=(X++B).drop B.length++a:=by
   rw[ar,←dH,cq (show A.length=(k-0)*1 by rw[p,eT]),ff (by rw[ae];omega)]
  have u:(A++(X++B)++a).take ((k-0)*1)=A:=by rw[ar,cS (show A.length=(k-0)*1 by rw[p,eT])]
  rw[x,u]at i;have o:((X++B).drop B.length).length=1:=by rw[aL,ae];omega
  generalize (X++B).drop B.length=D at o i;rw[E];have hz:(dy 1 [.pointer none]).length=1:=rfl;have j:(A++B).length=0+(k-0+(xs.length-(k+1)))*1:=by rw[ae,p,m];omega
  refine Gg i (by simp only[ae]at j⊢;omega) fun L n y=>?_
  rw[cS j,←dH,cq j]at n;refine H _ _ ⟨by simp;omega,nB,by simp only;omega,.inr ⟨b,dy 1 [.pointer none]++(D++a).drop (dy 1 [.pointer none]).length,rfl,v,?_,?_⟩⟩ ((q.mono fun _ e=>.inl (e▸v)).tr (y.mono fun _ e=>.inl (e▸v)))
  ·rw[n,c];simp only[ar]
  ·simp only[ae,aL,hz,o,t]
   omega
end Go.Proofs
namespace Go.Proofs
open Go.Lift
abbrev Pr:=ByteArray×ByteArray
theorem Aw{a b:ByteArray}:a.toList=b.toList↔a=b:=by
 constructor
 ·intro h
  rw[ByteArray.toList_eq,ByteArray.toList_eq]at h;cases a;cases b;simp at h;subst h;rfl
 ·rintro rfl;rfl
def kl(a b:ByteArray):Prop:=Op.bytesLess a.toList b.toList=true
instance (a b:ByteArray):Decidable (kl a b):=inferInstanceAs (Decidable (_=true))
theorem Kc{a b:ByteArray}:kl a b↔a.toList<b.toList:=by unfold kl;rw[bytesLess_eq,decide_eq_true_iff]
theorem cJ(a:ByteArray):¬kl a a:=by rw[Kc];exact List.lt_irrefl _
theorem jh{a b c:ByteArray}(h:kl a b)(k:kl b c):kl a c:=by rw[Kc]at*;exact List.lt_trans h k
theorem tri:∀x y:List UInt8,Op.bytesLess x y=false→x≠y→Op.bytesLess y x=true
 | [],[],_,h=>absurd rfl h
 | [],_::_,h,_=>by simp[Op.bytesLess]at h
 |_::_,[],_,_=>rfl
 |a::x,b::y,h,hn=>by
  simp only[Op.bytesLess,Bool.or_eq_false_iff,decide_eq_false_iff_not,Bool.and_eq_false_iff]at h;simp only[Op.bytesLess,Bool.or_eq_true,decide_eq_true_iff,Bool.and_eq_true];by_cases e:a=b
  ·subst e
   right;refine⟨by simp,tri x y ?_ fun e=>hn (by rw[e])⟩
   rcases h.2 with h|h
   ·simp at h
   ·exact h
  ·left
   have c:=h.1;rw[UInt8.lt_iff_toNat_lt]at c⊢;have:a.toNat≠b.toNat:=fun h=>e (UInt8.toNat_inj.1 h)
   omega
theorem u0{a b:ByteArray}(h:¬kl a b)(k:a≠b):kl b a:=tri _ _ (by unfold kl at h;simpa using h) fun e=>k (Aw.1 e)
def Ix(a b:ByteArray):Int:=if kl a b then-1 else if a=b then 0 else 1
theorem H6{x:ByteArray}{h:ad}{K:Bool→ad→Prop}(a:K false h):HC PG mL [.string x] [.c .bool] K h:=by
 refine BQ x ?_;unfold uI;simpa using a
theorem KJ{a b:ByteArray}{h:ad}{K:Int→ad→Prop}(c:K (Ix a b) h):HC PG nT [.string a,.string b] [.c (.int .i64)] K h:=by
 refine zn a b ?_;unfold rS;refine H6 (H6 (aj.2 (aj.2 ?_)));unfold Ix at c;refine CondP.intro (fun e=>?_) fun e=>?_
 ·rw[if_pos (show kl a b from e)]at c;exact c
 ·have f:¬kl a b:=fun h=>by rw[show Op.bytesLess a.toList b.toList=true from h]at e;cases e
  rw[if_neg f]at c;rw[e];refine CondP.intro (fun d=>?_) fun d=>?_
  ·rw[if_neg (fun h=>by subst h;simp at d)]at c;exact c
  ·have:a.toList=b.toList:=by simpa using d
   rw[if_pos (Aw.1 this)]at c;exact c
theorem OU{p:Pr}{k:ByteArray}{h:ad}{K:Int→ad→Prop}(a:∀h',Upd No h h'→K (Ix p.1 k) h'):HC PG p8 [.agg #[.string p.1,.string p.2],.string k] [.c (.int .i64)] K h:=by
 refine GZ p k ?_;unfold zC aB jw uL;have b1:=cW h [.string p.1,.string p.2] aw;refine⟨p.1,by rw[fR,bL,bj b1];rfl,KJ (a _ (Upd.hnew No h _ _))⟩
abbrev cu(l:List Pr):Prop:=l.Pairwise fun p q=>kl p.1 q.1
def mW(l:List Pr)(k:ByteArray):Nat:=(l.takeWhile fun p=>decide (kl p.1 k)).length
def cj(l:List Pr)(k:ByteArray):Bool:=l.any fun p=>decide (p.1=k)
theorem OL{l:List Pr}{k:ByteArray}{i:Nat}(hi:i≤l.length)(a:∀j (h:j<l.length),j<i→kl l[j].1 k)(b:∀(h:i<l.length),¬kl l[i].1 k):mW l k=i:=by
 unfold mW;induction l generalizing i with
 |nil=>simp at hi;simp[hi]
 |cons p l ih=>
  rw[List.takeWhile_cons];cases i with
  |zero=>
   have:=b (by simp);simp only[List.getElem_cons_zero]at this;rw[if_neg (by simpa using this)];rfl
  |succ i=>
   have:=a 0 (by simp) (by omega);simp only[List.getElem_cons_zero]at this;rw[if_pos (by simpa using this),aN];congr 1
   refine ih (by simpa using hi) (fun j c d=>?_) fun h=>?_
   ·have:=a (j+1) (by simpa using c) (by omega)
    simpa using this
   ·have:=b (by simpa using h)
    simpa using this
theorem OM(l:List Pr)(k:ByteArray):mW l k≤l.length:=by
 unfold mW;exact(List.takeWhile_prefix _).length_le
theorem GA{W:Nat→Prop}{h:ad}{s:SliceV}{l:List Pr}(hs:Sl fP 2 W h s l)(hr:cu l)(hn:l.length≤1000000000)(k:ByteArray){K:Int×Bool→ad→Prop}
  (F:∀y,Upd No h y→K ((mW l k:Int),cj l k) y):HC PG pk [.slice s.a s.len s.cap,.string k] [.c (.int .i64),.c .bool] K h:=by
 refine IQ s k ?_;unfold Bx;refine hH s k _ ?_;unfold ey dK bM qX BH;have Z:=hs.len;have M:∀{p:Pr} {h:ad} {K:Int→ad→Prop},(∀y,Upd No h y→K (Ix p.1 k) y)→HV PG (.func (.func p8) #[] #[]) [.agg #[.string p.1,.string p.2],.string k] [.c (.int .i64)] K h:=fun F=>HV.mk' (OU F)
 refine LoopP.ghost (fun(g:Nat×Nat) (t:Int×Int) y=>t.1=(g.1:Int)∧t.2=(g.2:Int)∧g.1≤g.2∧g.2≤l.length∧Upd No h y∧(∀j (Q:j<l.length),j<g.1→kl l[j].1 k)∧(∀j (Q:j<l.length),g.2≤j→¬kl l[j].1 k)) (fun g=>g.2-g.1) (0,l.length)
  ⟨rfl,by simp only;omega,by simp,by simp,Upd.refl _ _,fun j Q h=>by omega,fun j Q h=>by simp only at h;omega⟩ ?_
 rintro I ⟨i,j⟩ ⟨ti,tj⟩ y ⟨X,T,B,A,L,f,v⟩ V;simp only at X T B A f v;subst X T;have G:=hs.upd L fun _ h=>h.elim
 have mono:∀a b (E:a<l.length) (Y:b<l.length),a<b→kl l[a].1 l[b].1:=fun a b E Y P=>cI.1 hr a b E Y P
 refine aG (fun u=>?_) fun S=>?_
 ·have u:i<j:=by have:(i:Int)<(j:Int):=u;omega
  have em:IntKind.wrap .i64 (ft (IntKind.wrap .u64 (IntKind.wrap .i64 ((i:Int)+(j:Int)))) (2^(min (1:Int).toNat (IntKind.bits .u64))))=(((i+j)/2:Nat):Int):=by
   have e3:(2^(min (1:Int).toNat (IntKind.bits .u64)):Int)=2:=rfl;rw[e3,oq (x:=(i:Int)+(j:Int)) (by omega),Go.IntWalk.u64_in _ (by omega),lw _ (by omega),oq (by omega)];omega
  refine⟨by decide,?_⟩;simp only[Bd];rw[em];generalize hm:(i+j)/2=m;have C:m<l.length:=by omega
  obtain⟨a,E,_,hv⟩:=G.at (af C);refine⟨by omega,a,E,l[m].1,hv 0 _ rfl,l[m].2,hv 1 _ rfl,M fun h2 w=>?_⟩
  refine aG (fun n=>?_) fun N=>?_
  ·have c:kl l[m].1 k:=by
    unfold Ix at n;by_cases c:kl l[m].1 k
    ·exact c
    ·rw[if_neg c]at n;split at n<;>omega
   refine V (m+1,j) _ _ ⟨by simp only;rw[oq (by omega)];omega,rfl,by simp only;omega,A,L.tr w,fun q z D=>?_,v⟩ (by simp only;omega)
   simp only at D;rcases bH q m with h|h
   ·exact jh (mono q m z C h) c
   ·have:q=m:=by omega
    subst this;exact c
  ·have o:¬kl l[m].1 k:=fun c=>N (by unfold Ix;rw[if_pos c];decide)
   refine V (i,m) _ _ ⟨rfl,rfl,by simp only;omega,by simp only;omega,L.tr w,f,fun q z D J=>?_⟩ (by simp only;omega)
   simp only at D;rcases bH m q with h|h
   ·exact o (jh (mono m q C z h) J)
   ·have:q=m:=by omega
    subst this;exact o J
 ·have B:i=j:=by have:¬(i:Int)<(j:Int):=S;omega
  subst B;have H:mW l k=i:=OL A f fun hi=>v i hi (ao _)
  rw[H]at F;refine aG (fun u=>?_) fun O=>?_
  ·have d:i<l.length:=by have:(i:Int)<(s.len:Int):=u;omega
   obtain⟨a,E,_,hv⟩:=G.at (af d);refine⟨by simp only;omega,a,E,l[i].1,hv 0 _ rfl,l[i].2,hv 1 _ rfl,M fun h2 w=>?_⟩
   have o:=v i d (ao _);have R:(Ix l[i].1 k==(0:Int))=cj l k:=by
    unfold Ix cj;rw[if_neg o,mO,ci];constructor
    ·intro h
     split at h
     ·rename_i e;exact⟨l[i],List.getElem_mem d,decide_eq_true e⟩
     ·simp at h
    ·rintro⟨p,H,e⟩
     have e:=of_decide_eq_true e;obtain⟨q,z,rfl⟩:=List.mem_iff_getElem.1 H;have:q=i:=by
      rcases Nat.lt_trichotomy q i with h|h|h
      ·exact absurd (e▸f q z h) (cJ _)
      ·exact h
      ·exact absurd (e▸mono i q d z h) o
     subst this;rw[if_pos e];rfl
   rw[R];exact F _ (L.tr w)
  ·have d:i=l.length:=by have:¬(i:Int)<(s.len:Int):=O;omega
   have R:cj l k=false:=by
    unfold cj;rw[List.any_eq_false];intro p H e;have e:=of_decide_eq_true e;obtain⟨q,z,rfl⟩:=List.mem_iff_getElem.1 H;exact absurd (e▸f q z (by omega)) (cJ _)
   rw[R]at F;exact F _ L
end Go.Proofs
namespace Go.Proofs
open Go.Lift
theorem OwnS.zero{α:Type}{f:α→List Value}{a:Nat}{t:TypeId}{M:Nat→Prop}{h:ad}{s:SliceV}{xs:List α}(d:OwnS f a t M h s xs):OwnS f a t M h ⟨bh s.a 0 s.cap a,0-0,s.cap-0⟩ []:=by
 have e:∀x,(f x).length=a∧0<a:=d.ne;have g:=d.len;have i:=d.cap;refine⟨rfl,e,by simp only;omega,?_⟩
 rcases d.blk with n|⟨b,c,k,m,hc,j⟩
 ·exact .inl (by simp only;omega)
 ·refine .inr ⟨b,xs.flatMap f++c,by rw[k,sub_zero],m,hc,?_⟩
  rw[ae,jR e,j,←Nat.add_mul];simp only;congr 1;omega
def Jj:Pr:=(⟨#[]⟩,⟨#[]⟩)
theorem Lz(n:Nat):dy n [.string (⟨#[]⟩:ByteArray),.string (⟨#[]⟩:ByteArray)]=(dE n Jj).flatMap fP:=by
 unfold dy;induction n with
 |zero=>rfl
 |succ n ih=>rw[gV,gV,aX,←ih];rfl
theorem Q6{n:Nat}(d:n*32≤140737488355328){h:ad}{K:SliceV→ad→Prop}(c:∀s' a,OwnS fP 2 aw (fun b=>h.size≤b) a s' []→Upd No h a→K s' a):
  HC PG fl [.slice none 0 0,.int .i64 n] [.c .slice] K h:=by
 refine mF ⟨none,0,0⟩ n ?_;unfold g8 mo;have e:IntKind.wrap .i64 ((n:Int)-IntKind.wrap .i64 (((0:Nat):Int)-((0:Nat):Int)))=(n:Int):=by rw[oq (x:=((0:Nat):Int)-((0:Nat):Int)) (by omega),oq (by omega)];omega
 refine Join.plain (aG (fun h=>by omega) fun _=>?_)
 simp only[Bd];rw[e];refine aG (fun k=>?_) fun hz=>c _ _ (OwnS.nil gX) (Upd.refl _ _)
 refine⟨by omega,⟨by omega,by omega,by omega,by omega⟩,?_⟩
 refine AppP.own (f:=fP) (M:=fun b=>h.size≤b) (xs:= []) (ys:=dE n Jj) (OwnS.nil gX) (by simp) (Lz _) (by rw[Lz];exact vS _) rfl (by omega) (by simpa using d) (ao _) fun s' a i g=>?_
 exact⟨by omega,c _ _ (OwnS.zero i) (g.mono fun b j=>.inr j)⟩
abbrev Uf(s:SliceV):List Value:= [.slice s.a s.len s.cap]
def ParS(h:ad):List SliceV→List (List Pr)→Prop
 | [],[]=>True
 |v::vs,l::ls=>Sl fP 2 No h v l∧ParS h vs ls
 |_,_=>False
theorem ParS.upd{h a:ad}(k:Upd No h a):∀{vs:List SliceV} {ls:List (List Pr)},ParS h vs ls→ParS a vs ls
 | [],[],_=>trivial
 |_::_,_::_,q=>⟨q.1.upd k fun _ h=>h.elim,ParS.upd k q.2⟩
 | [],_::_,q=>q.elim
 |_::_,[],q=>q.elim
theorem ParS.len{h:ad}:∀{vs:List SliceV} {ls:List (List Pr)},ParS h vs ls→vs.length=ls.length
 | [],[],_=>rfl
 |_::_,_::_,q=>by rw[aN,aN,ParS.len q.2]
 | [],_::_,q=>q.elim
 |_::_,[],q=>q.elim
theorem ParS.at{h:ad}:∀{vs:List SliceV} {ls:List (List Pr)},ParS h vs ls→∀{i:Nat} (h1:i<vs.length) (h2:i<ls.length),Sl fP 2 No h vs[i] ls[i]
 |_::_,_::_,q,0,_,_=>q.1
 |_::_,_::_,q,i+1,h1,h2=>ParS.at q.2 (by simpa using h1) (by simpa using h2)
theorem Fs(ls:List (List Pr)){i:Nat}(hi:i<ls.length):(ls.take (i+1)).flatten=(ls.take i).flatten++ls[i]:=by
 rw[List.take_succ_eq_append_getElem hi,dM,eh,l0,List.append_nil]
theorem Mc(ls:List (List Pr))(i:Nat):(ls.take i).flatten.length≤ls.flatten.length:=by
 have:ls.flatten=(ls.take i).flatten++(ls.drop i).flatten:=by rw[←dM,List.take_append_drop]
 rw[this,ae];omega
theorem Fx{h:ad}{s:SliceV}{vs:List SliceV}{ls:List (List Pr)}(E:Sl Uf 1 No h s vs)(w:ParS h vs ls)(L:ls.flatten.length*32≤140737488355328)(hv:vs.length≤1000)
  {K:SliceV→ad→Prop}(N:∀s' f,OwnS fP 2 aw (fun b=>h.size≤b) f s' ls.flatten→Upd No h f→K s' f):HC PG dJ [.slice s.a s.len s.cap] [.c .slice] K h:=by
 refine lU s ?_;unfold gI bQ dK mo;have G:=E.len;have e:=w.len;refine LoopP.ghost (fun(i:Nat) (t:Int×Int) f=>t.2=(i:Int)∧i≤vs.length∧t.1=((ls.take i).flatten.length:Int)∧f=h) (fun i=>vs.length-i) 0 ⟨rfl,aU _,by simp,rfl⟩ ?_
 rintro I i ⟨X,ti⟩ f ⟨m,hi,F,rfl⟩ M;simp only at m F;subst m F;refine aG (fun c=>?_) fun C=>?_
 ·have c:i<vs.length:=by have:(i:Int)<(s.len:Int):=c;omega
  obtain⟨a,v,_,g⟩:=E.at (af c);have O:=(w.at c (e▸c)).len;have d:=congrArg ga (Fs ls (e▸c));rw[ae]at d;have z:=Mc ls (i+1);refine Join.plain ⟨by simp only;omega,a,v,_,g 0 _ rfl,?_⟩;simp only;have ew:IntKind.wrap .i64 (((ls.take i).flatten.length:Int)+((vs[i]).len:Int))=((ls.take (i+1)).flatten.length:Int):=by rw[oq (by omega)];omega
  rw[ew];refine aG (fun h=>by omega) fun _=>?_
  rw[cz c (by omega)];exact M (i+1) _ _ ⟨rfl,c,rfl,rfl⟩ (by omega)
 ·have J:i=vs.length:=by have:¬(i:Int)<(s.len:Int):=C;omega
  rw[bB (by omega)];refine Q6 L fun s0 W x B=>?_
  refine LoopP.ghost (fun(i:Nat) (t:SliceV×Int) D=>t.2=(i:Int)∧i≤vs.length∧OwnS fP 2 aw (fun b=>f.size≤b) D t.1 (ls.take i).flatten∧Upd No f D) (fun i=>vs.length-i) 0 ⟨rfl,aU _,by simpa using x,B⟩ ?_
  rintro R j ⟨S,Q⟩ D ⟨m,V,q,n⟩ y;simp only at m q;subst m;refine aG (fun c=>?_) fun k=>?_
  ·have c:j<vs.length:=by have:(j:Int)<(s.len:Int):=c;omega
   obtain⟨a,v,_,g⟩:=(E.upd n fun _ h=>h.elim).at (af c)
   have o:=((w.upd n).at c (e▸c));have d:=Fs ls (e▸c);have p:=congrArg ga d;rw[ae]at p;have z:=Mc ls (j+1);refine Join.plain ⟨by simp only;omega,a,v,_,g 0 _ rfl,_,o.srow,?_⟩;refine AppP.own (ys:=ls[j]) q o.len rfl (vS _) rfl (by omega) (by omega) n.size fun s2 T u A=>?_
   simp only;rw[cz c (by omega)];exact y (j+1) _ _ ⟨rfl,c,d▸u,n.trans A fun b P=>.inr P⟩ (by omega)
  ·have H:j=vs.length:=by have:¬(j:Int)<(s.len:Int):=k;omega
   rw[bB (by omega)]at q;exact N _ _ q n
def Kr(l:List Pr)(p:Pr):List Pr:=l.take (mW l p.1)++p::l.drop (if cj l p.1 then mW l p.1+1 else mW l p.1)
def Nw(l:List Pr)(k:ByteArray):List Pr:=if cj l k then l.take (mW l k)++l.drop (mW l k+1)else l
theorem Gh{l:List Pr}(d:cu l){k:ByteArray}(c:cj l k=true):∃h:mW l k<l.length,l[mW l k].1=k:=by
 unfold cj at c;obtain⟨p,f,e⟩:=ci.1 c;have e:=of_decide_eq_true e;obtain⟨q,b,rfl⟩:=List.mem_iff_getElem.1 f;have:mW l k=q:=OL (by omega) (fun j g a=>by rw[←e];exact cI.1 d j q g b a) fun h=>by rw[←e];exact cJ _
 subst this;exact⟨b,e⟩
theorem F5{h:ad}{s:SliceV}{l:List Pr}(d:Sl fP 2 No h s l){i j m:Nat}(a:i≤j)(b:j≤l.length)(e:j≤m)(c:Nat):Sl fP 2 No h ⟨bh s.a i m 2,j-i,c⟩ ((l.drop i).take (j-i)):=Sl.sub d a b e
theorem JX{h:ad}{s:SliceV}{l:List Pr}(z:Sl fP 2 No h s l)(hc:s.len≤s.cap)(u:cu l)(I:l.length≤1000000000)(p:Pr)
  {K:SliceV→ad→Prop}(J:∀s' a,OwnS fP 2 aw (fun b=>h.size≤b) a s' (Kr l p)→Upd No h a→K s' a):HC PG xE [.slice s.a s.len s.cap,.agg #[.string p.1,.string p.2]] [.c .slice] K h:=by
 refine Lg s p ?_;unfold DU aB jw zR uL;have k:=z.len;have k1:=Upd.hnew No h [.string p.1,.string p.2] aw;have b1:=cW h [.string p.1,.string p.2] aw;refine bT ?_;simp only[fR h];generalize hnew h [.string p.1,.string p.2] aw=h1 at k1 b1;refine⟨p.1,by rw[bL,bj b1];rfl,GA (z.upd k1 fun _ h=>h.elim) u I p.1 fun G d=>?_⟩
 have B:=OM l p.1;have c:=k1.tr d;refine⟨by simp only;omega,?_⟩;let q:=if cj l p.1 then mW l p.1+1 else mW l p.1
 have L:q≤l.length:=by
  show(if cj l p.1 then mW l p.1+1 else mW l p.1)≤l.length
  split
  ·rename_i ht;obtain⟨h,_⟩:=Gh u ht;omega
  ·exact B
 refine Join.intro (fun t a=>a=G∧t=⟨bh s.a q s.cap 2,s.len-q,s.cap-q⟩) (fun R A=>?_) ?_
 ·refine CondP.intro (fun e=>?_) fun e=>A _ _ ⟨rfl,?_⟩
  ·have e:cj l p.1=true:=e
   obtain⟨F,_⟩:=Gh u e;have ew:IntKind.wrap .i64 ((mW l p.1:Int)+1)=((mW l p.1+1:Nat):Int):=by rw[oq (by omega)];omega
   simp only;rw[ew];refine⟨by omega,A _ _ ⟨rfl,?_⟩⟩;have:q=mW l p.1+1:=by show(if cj l p.1 then _ else _)=_;rw[if_pos e]
   rw[this];rfl
  ·have e:cj l p.1=false:=e
   have:q=mW l p.1:=by show(if cj l p.1 then _ else _)=_;rw[if_neg (by rw[e];decide)]
   rw[this];rfl
 ·rintro t a ⟨rfl,rfl⟩
  have b2:=d.get0 b1;refine⟨by simp only;omega,p.1,by rw[bL,bj b2];rfl,p.2,by rw[bL,bj b2];rfl,?_⟩
  have y:=Upd.hnew No a [.string p.1,.string p.2] aw;have b3:=cW a [.string p.1,.string p.2] aw;refine bT ?_;simp only[fR a];generalize hnew a [.string p.1,.string p.2] aw=h3 at y b3;refine bT ?_;have f:=(z.upd c fun _ h=>h.elim).upd y fun _ h=>h.elim
  have n:=Upd.hnew No h3 [.slice (bh s.a 0 s.cap 2) ((mW l p.1:Int).toNat-0) (s.cap-0),.slice (some ⟨a.size,0,none⟩) 1 1,.slice (bh s.a q s.cap 2) (s.len-q) (s.cap-q)] cR;have N:=cW h3 [.slice (bh s.a 0 s.cap 2) ((mW l p.1:Int).toNat-0) (s.cap-0),.slice (some ⟨a.size,0,none⟩) 1 1,.slice (bh s.a q s.cap 2) (s.len-q) (s.cap-q)] cR;have D:=F5 f (i:=0) (j:=mW l p.1) (m:=s.cap) (aU _) B (by omega) (s.cap-0)
  have H:Sl fP 2 No h3 ⟨some ⟨a.size,0,none⟩,1,1⟩ [p]:=⟨rfl,gX,fun _=>⟨_,rfl,fun h=>h.elim,oV b3 fun i v hv=>by simpa using hv⟩⟩
  have w:=F5 f (i:=q) (j:=l.length) (m:=s.cap) L (ao _) (by omega) (s.cap-q);rw[←k]at w;rw[di]at D;rw[bB (by rw[aL];omega)]at w;have E:Kr l p= [l.take (mW l p.1-0),[p],l.drop q].flatten:=by simp[Kr,q]
  refine Fx (s:=⟨some (aC h3),3,3⟩) (vs:= [⟨bh s.a 0 s.cap 2,(mW l p.1:Int).toNat-0,s.cap-0⟩,⟨some ⟨a.size,0,none⟩,1,1⟩,⟨bh s.a q s.cap 2,s.len-q,s.cap-q⟩]) (ls:= [l.take (mW l p.1-0),[p],l.drop q])
   ⟨rfl,fun x=>⟨rfl,Nat.one_pos⟩,fun _=>⟨_,rfl,fun h=>h.elim,oV N fun i v hv=>by simpa[Uf]using hv⟩⟩ ⟨D.upd n fun _ h=>h.elim,H.upd n fun _ h=>h.elim,w.upd n fun _ h=>h.elim,trivial⟩ ?_ (by simp) fun P O g o=>?_
  ·simp only[eh,l0,ae,aI,aL,List.length_singleton,List.length_nil];omega
  ·rw[←E]at g
   have C:=((c.tr y).tr n);exact J _ _ (g.more fun b M=>Nat.le_trans C.size M) (C.tr o)
end Go.Proofs
namespace Go.Proofs
open Go.Lift
def tE(n d:Nat):Nat:=(cK n).countP (d.testBit ·)
theorem Cb(m n d:Nat):tE (m+n) d=tE m d+tE n (d>>>m):=by
 unfold tE;rw[qU,List.countP_append,List.countP_map];congr 1
 refine List.countP_congr fun i _=>?_
 simp[nY]
theorem Ml(d:Nat)(i:Nat):∀n,i≤n→tE n (d&&&(2^i-1))=tE i d:=by
 intro n b;obtain⟨m,rfl⟩:=Nat.exists_eq_add_of_le b;rw[Cb];have c:tE i (d&&&(2^i-1))=tE i d:=by
  unfold tE;refine List.countP_congr fun j a=>?_
  have:=gA.1 a;simp[gO,kN,this]
 have e:tE m ((d&&&(2^i-1))>>>i)=0:=by
  unfold tE;rw[List.countP_eq_zero];intro j _;simp[nY,gO,kN];intro h;omega
 omega
theorem SS(d:Nat):tE 8 (d&&&255)=tE 8 d:=Ml d 8 8 (ao _)
theorem xJ(n d:Nat):tE n d≤n:=by
 have:=List.countP_le_length (p:=(d.testBit ·)) (l:=cK n)
 simpa[tE]using this
theorem ld(d n:Nat):ft (d:Int) (2^n)=((d>>>n:Nat):Int):=by
 rw[lw _ (by exact Int.le_of_lt (Int.pow_pos (by decide))),cn];simp
theorem PV(a b:Nat):(ah (IntKind.bits .u32) (a:Int)&&&ah (IntKind.bits .u32) (b:Int)).toNat=(a%4294967296)&&&(b%4294967296):=by
 simp[IntKind.bits,BitVec.toNat_and,BitVec.toNat_ofInt];rfl
theorem yh{n:Nat}(h:n<4294967296):IntKind.wrap .u32 (n:Int)=(n:Int):=Go.IntWalk.u32_in _ (by omega)
theorem CI{i:Nat}(hi:i<32){h:ad}{K:Bool→ad→Prop}(a:K true h):HC PG mC [.int .i64 i] [.c .bool] K h:=by
 refine Ew i ?_;unfold xa;refine aG (fun _=>?_) fun h=>absurd (Int.natCast_nonneg i) h
 rw[decide_eq_true (by omega)];exact a
theorem GQ{a b:Nat}(h:b<4294967296):a&&&b<4294967296:=fA Nat.and_le_right h
theorem Ai{d i:Nat}(hd:d<4294967296)(hi:i<32){h:ad}{K:Bool→ad→Prop}(c:K (d.testBit i) h):HC PG fG [.int .u32 d,.int .i64 i] [.c .bool] K h:=by
 refine AP d i ?_;unfold tC;refine CI hi (aA.2 ⟨by omega,?_⟩);have e:min (i:Int).toNat (IntKind.bits .u32)=i:=by rw[aH];exact bm (by show i≤32;omega)
 rw[e,ld];have b:=PV (d>>>i) 1;have a:d>>>i<4294967296:=fA (gJ d i) hd;rw[de a,show(1:Nat)%4294967296=1 from rfl]at b
 simp only[Bd];rw[show((1:Nat):Int)=(1:Int)from rfl]at b
 rw[b,yh (GQ (by omega))];have f:(((d>>>i&&&1:Nat):Int)==(1:Int))=d.testBit i:=by
  rw[mO,beq_iff_eq,Nat.testBit,Nat.and_comm];simp only[bne_iff_ne,ne_eq,Nat.one_and_eq_mod_two];have:(d>>>i)%2<2:=Nat.mod_lt _ (by omega);omega
 rw[f];exact c
theorem NF{d i:Nat}(hd:d<4294967296)(hi:i<32):∃w:Nat,IntKind.wrap .u32 (ah (IntKind.bits .u32) (d:Int)|||ah (IntKind.bits .u32) (IntKind.wrap .u32 (1*2^(min (i:Int).toNat (IntKind.bits .u32))))).toNat=(w:Int)∧w<4294967296∧∀j,w.testBit j=(d.testBit j||decide (j=i)):=by
 have e:min (i:Int).toNat (IntKind.bits .u32)=i:=by rw[aH];exact bm (by show i≤32;omega)
 have b:2^i<4294967296:=Nat.pow_lt_pow_right (by omega) (show i<32 from hi)
 have g:(1*2^i:Int)=((2^i:Nat):Int):=by simp
 rw[e,g,yh b];refine⟨_,yh (BitVec.isLt _),BitVec.isLt _,fun j=>?_⟩
 rw[BitVec.testBit_toNat,BitVec.getLsbD_or,eK,eK,lA,lA,mg];by_cases a:j<32
 ·have:decide (j<IntKind.bits .u32)=true:=decide_eq_true a
  rw[this];simp[eq_comm]
 ·have c:decide (j<IntKind.bits .u32)=false:=decide_eq_false a
  have f:d.testBit j=false:=fV (bR hd (eI (n:=2) (by omega) (show 32≤j by omega)))
  rw[c,f];simp;omega
theorem LG{d i:Nat}(hd:d<4294967296)(hi:i<32){h:ad}{K:Int→ad→Prop}(b:∀w:Nat,w<4294967296→(∀j,w.testBit j=(d.testBit j||decide (j=i)))→K (w:Int) h):HC PG fa [.int .u32 d,.int .i64 i] [.c (.int .u32)] K h:=by
 refine zo d i ?_;unfold rT;refine CI hi (aj.2 ⟨by omega,?_⟩);obtain⟨w,e,a,c⟩:=NF hd hi;simp only[Bd];rw[e];exact b w a c
theorem GO{d i:Nat}(hd:d<4294967296)(hi:i<32):∃w:Nat,IntKind.wrap .u32 (ah (IntKind.bits .u32) (d:Int)&&& ~~~ah (IntKind.bits .u32) (IntKind.wrap .u32 (1*2^(min (i:Int).toNat (IntKind.bits .u32))))).toNat=(w:Int)∧w<4294967296∧∀j,w.testBit j=(d.testBit j&&decide (j≠i)):=by
 have e:min (i:Int).toNat (IntKind.bits .u32)=i:=by rw[aH];exact bm (by show i≤32;omega)
 have b:2^i<4294967296:=Nat.pow_lt_pow_right (by omega) (show i<32 from hi)
 have g:(1*2^i:Int)=((2^i:Nat):Int):=by simp
 rw[e,g,yh b];refine⟨_,yh (BitVec.isLt _),BitVec.isLt _,fun j=>?_⟩
 rw[BitVec.testBit_toNat,BitVec.getLsbD_and,BitVec.getLsbD_not,eK,eK,lA,lA,mg];by_cases a:j<32
 ·have:decide (j<IntKind.bits .u32)=true:=decide_eq_true a
  rw[this];simp[eq_comm]
 ·have c:decide (j<IntKind.bits .u32)=false:=decide_eq_false a
  have f:d.testBit j=false:=fV (bR hd (eI (n:=2) (by omega) (show 32≤j by omega)))
  rw[c,f];simp
theorem Cf{d i:Nat}(hd:d<4294967296)(hi:i<32){h:ad}{K:Int→ad→Prop}(b:∀w:Nat,w<4294967296→(∀j,w.testBit j=(d.testBit j&&decide (j≠i)))→K (w:Int) h):HC PG iL [.int .u32 d,.int .i64 i] [.c (.int .u32)] K h:=by
 refine vD d i ?_;unfold pr;refine CI hi (aj.2 ⟨by omega,?_⟩);obtain⟨w,e,a,c⟩:=GO hd hi;simp only[Bd];rw[e];exact b w a c
abbrev Tz:ByteArray:=⟨#[0,1,1,2,1,2,2,3,1,2,2,3,2,3,3,4,1,2,2,3,2,3,3,4,2,3,3,4,3,4,4,5,1,2,2,3,2,3,3,4,2,3,3,4,3,4,4,5,2,3,3,4,3,4,4,5,3,4,4,5,4,5,5,6,1,2,2,3,2,3,3,4,2,3,3,4,3,4,4,5,2,3,3,4,3,4,4,5,3,4,4,5,4,5,5,6,2,3,3,4,3,4,4,5,3,4,4,5,4,5,5,6,3,4,4,5,4,5,5,6,4,5,5,6,5,6,6,7,1,2,2,3,2,3,3,4,2,3,3,4,3,4,4,5,2,3,3,4,3,4,4,5,3,4,4,5,4,5,5,6,2,3,3,4,3,4,4,5,3,4,4,5,4,5,5,6,3,4,4,5,4,5,5,6,4,5,5,6,5,6,6,7,2,3,3,4,3,4,4,5,3,4,4,5,4,5,5,6,3,4,4,5,4,5,5,6,4,5,5,6,5,6,6,7,3,4,4,5,4,5,5,6,4,5,5,6,5,6,6,7,4,5,5,6,5,6,6,7,5,6,6,7,6,7,7,8]⟩
theorem Qp:(cK 256).all (fun b=>decide (Tz[b]? =some (fH (tE 8 b))))=true:=by decide+kernel
theorem F1{b:Nat}(h:b<256):Tz[b]? =some (fH (tE 8 b)):=of_decide_eq_true (List.all_eq_true.1 Qp b (gA.2 h))
theorem GG(b:Nat):(fH (tE 8 b)).toNat=tE 8 b:=by
 have:=xJ 8 b;simp;omega
theorem UC(d:Nat):tE 32 d=tE 8 (d>>>24)+tE 8 ((d>>>16)&&&255)+tE 8 ((d>>>8)&&&255)+tE 8 (d&&&255):=by
 rw[SS,SS,SS,show(32:Nat)=8+(8+(8+8))from rfl,Cb,Cb,Cb]
 simp only[←Nat.shiftRight_add,Nat.reduceAdd];omega
set_option maxRecDepth 100000 in
theorem QQ{d:Nat}(hd:d<4294967296){h:ad}{K:Int→ad→Prop}(j:K (tE 32 d:Int) h):HC PG jm [.int .u32 d] [.c (.int .i64)] K h:=by
 refine sV d ?_;unfold nr;have a:ft (d:Int) (2^(min (24:Int).toNat (IntKind.bits .u32)))=((d>>>24:Nat):Int):=ld d 24;have i:ft (d:Int) (2^(min (16:Int).toNat (IntKind.bits .u32)))=((d>>>16:Nat):Int):=ld d 16;have k:ft (d:Int) (2^(min (8:Int).toNat (IntKind.bits .u32)))=((d>>>8:Nat):Int):=ld d 8;have b:∀x:Nat,x<4294967296→IntKind.wrap .u32 (ah (IntKind.bits .u32) (x:Int)&&&ah (IntKind.bits .u32) 255).toNat=((x&&&255:Nat):Int):=fun x hx=>by
  have:=PV x 255;rw[de hx]at this;rw[show((255:Nat):Int)=(255:Int)from rfl]at this
  rw[this,yh (GQ (by omega))]
 have g:d>>>24<256:=by rw[cn];omega
 have c:∀x:Nat,x&&&255<256:=fun x=>fA Nat.and_le_right (by omega)
 have e:d>>>16<4294967296:=fA (gJ d 16) hd;have m:d>>>8<4294967296:=fA (gJ d 8) hd;simp only[Bd];rw[a,i,k,b _ e,b _ m,b _ hd];refine⟨by decide,_,by omega,F1 (b:=d>>>24) g,by decide,_,by omega,F1 (c _),by decide,_,by omega,F1 (c _),_,by omega,F1 (c _),?_⟩
 rw[GG,GG,GG,GG];simp only[aH];have q:=xJ 8 (d>>>24);have s:=xJ 8 (d>>>16&&&255);have p:=xJ 8 (d>>>8&&&255);have q4:=xJ 8 (d&&&255);rw[UC]at j;have f:∀n:Nat,n≤255→IntKind.wrap .u8 (n:Int)=(n:Int):=fun n o=>Go.IntWalk.u8_in _ (by omega)
 rw[←Int.natCast_add,f _ (by omega),←Int.natCast_add,f _ (by omega),←Int.natCast_add,f _ (by omega),oq (by omega)];exact j
theorem oX{d i:Nat}(hd:d<4294967296)(hi:i<32){h:ad}{K:Int→ad→Prop}(a:K (tE i d:Int) h):HC PG dg [.int .u32 d,.int .i64 i] [.c (.int .i64)] K h:=by
 refine zq d i ?_;unfold rU;refine aG (fun b=>?_) fun b=>?_
 ·have:i=0:=by omega
  subst this;exact a
 ·refine aG (fun h=>by omega) fun _=>⟨by omega,?_⟩
  have e:min (i:Int).toNat (IntKind.bits .u32)=i:=by rw[aH];exact bm (by show i≤32;omega)
  have f:2^i<4294967296:=Nat.pow_lt_pow_right (by omega) (show i<32 from hi)
  have c:0<2^i:=Nat.pow_pos (by omega);have g:(1*2^i:Int)=((2^i:Nat):Int):=by simp
  have j:(((2^i:Nat):Int)-1)=((2^i-1:Nat):Int):=by omega
  simp only[Bd];rw[e,g,yh f,j,yh (show 2^i-1<4294967296 by omega),PV,de hd,de (show 2^i-1<4294967296 by omega),yh (GQ (by omega))]
  refine x8 _ ?_;unfold qQ;refine QQ (GQ (by omega)) ?_;rw[Ml d i 32 (by omega)];exact a
end Go.Proofs
namespace Go.Proofs
open Go.Lift
def fm{β:Type}(g:Nat→Option β)(n:Nat):List β:=(cK n).filterMap g
def upd{β:Type}(g:Nat→Option β)(i:Nat)(x:Option β)(j:Nat):Option β:=if j=i then x else g j
theorem TR{β:Type}{f g:Nat→Option β}:∀l:List Nat,(∀j∈l,f j=g j)→l.filterMap f=l.filterMap g
 | [],_=>rfl
 |j::l,h=>by
  rw[List.filterMap_cons,List.filterMap_cons,h j (List.mem_cons_self ..),TR l fun k a=>h k (List.mem_cons_of_mem _ a)]
section
variable {β:Type} {g:Nat→Option β} {d:Nat}
theorem C7(hd:∀c,c<32→d.testBit c=(g c).isSome){i:Nat}(hi:i≤32):(fm g i).length=tE i d:=by
 unfold fm tE;rw[List.length_filterMap_eq_countP];exact List.countP_congr fun j a=>by rw[hd j (by have:=gA.1 a;omega)]
theorem pi{i n:Nat}(hi:i<n):fm g n=fm g i++((g i).toList++(cK (n-(i+1))).filterMap fun j=>g (i+1+j)):=by
 unfold fm;have e:n=i+(1+(n-(i+1))):=by omega
 rw[e,qU,oz,qU];have a:i+(1+(n-(i+1)))-(i+1)=n-(i+1):=by omega
 rw[a];congr 1
 rw[List.map_append,oz,List.map_map];congr 1
 rw[List.filterMap_map];refine TR _ fun j _=>?_
 show g (i+(1+j))=_
 rw[Nat.add_assoc]
theorem xy{i:Nat}{x:Option β}:fm (upd g i x) i=fm g i:=by
 unfold fm;refine TR _ fun j a=>?_
 have:=gA.1 a;unfold upd;rw[if_neg (by omega)]
theorem vh{i m:Nat}{x:Option β}:((cK m).filterMap fun j=>upd g i x (i+1+j))=(cK m).filterMap fun j=>g (i+1+j):=by
 refine TR _ fun j _=>?_
 unfold upd;rw[if_neg (by omega)]
theorem O8{i:Nat}(hi:i<32)(hd:∀c,c<32→d.testBit c=(g c).isSome)(b:g i=none)(x:β):fm (upd g i (some x)) 32=(fm g 32).take (tE i d)++x::(fm g 32).drop (tE i d):=by
 have a:=C7 hd (i:=i) (by omega);rw[pi (g:=upd g i (some x)) hi,pi (g:=g) hi,xy,vh,b,cS a,cq a];simp[upd]
theorem O7{i:Nat}(hi:i<32)(hd:∀c,c<32→d.testBit c=(g c).isSome){y:β}(b:g i=some y)(x:β):fm (upd g i (some x)) 32=(fm g 32).take (tE i d)++x::(fm g 32).drop (tE i d+1):=by
 have a:=C7 hd (i:=i) (by omega);rw[pi (g:=upd g i (some x)) hi,pi (g:=g) hi,xy,vh,b,cS a,←dH,cq a];simp[upd]
theorem O9{i:Nat}(hi:i<32)(hd:∀c,c<32→d.testBit c=(g c).isSome){y:β}(b:g i=some y):fm (upd g i none) 32=(fm g 32).take (tE i d)++(fm g 32).drop (tE i d+1):=by
 have a:=C7 hd (i:=i) (by omega);rw[pi (g:=upd g i none) hi,pi (g:=g) hi,xy,vh,b,cS a,←dH,cq a];simp[upd]
theorem Pa{i:Nat}(hi:i<32)(hd:∀c,c<32→d.testBit c=(g c).isSome){y:β}(a:g i=some y):(fm g 32)[tE i d]? =some y:=by
 have b:=C7 hd (i:=i) (by omega);rw[pi (g:=g) hi,a,List.getElem?_append_right (by omega),b,nZ];rfl
theorem Fq{i:Nat}(hi:i<32)(hd:∀c,c<32→d.testBit c=(g c).isSome){y:β}(a:g i=some y):tE i d<(fm g 32).length:=(List.getElem?_eq_some_iff.1 (Pa hi hd a)).1
theorem RD{i:Nat}(hi:i<32)(hd:∀c,c<32→d.testBit c=(g c).isSome):tE i d≤(fm g 32).length:=by
 have a:=C7 hd (i:=i) (by omega);rw[pi (g:=g) hi,ae];omega
theorem vi:(fm g 32).length≤32:=by
 have:=List.length_filterMap_le g (cK 32);simpa[fm]using this
end
end Go.Proofs
namespace Go.Proofs
open Go.Lift
abbrev sv(s:SliceV):Value:=.slice s.a s.len s.cap
structure Slots where
 p:Nat→Option Pr
 k:Nat→Option (Option Addr)
def fy(d n:Nat)(sp sk:SliceV)(a:Bool)(ow:Option Addr):Array Value:= #[.int .u32 (d:Int),.int .u32 (n:Int),sv sp,sv sk,.bool a,.pointer ow]
structure BitsOf(d n:Nat)(s:Slots):Prop where
 d32:d<4294967296
 n32:n<4294967296
 dp:∀c,c<32→d.testBit c=(s.p c).isSome
 nk:∀c,c<32→n.testBit c=(s.k c).isSome
def OwOk(W:Nat→Prop)(h:ad)(ow:Option Addr):Prop:=∀a,ow=some a→¬W a.block∧d9 h a
theorem OwOk.upd{W M:Nat→Prop}{h d:ad}{ow:Option Addr}(o:OwOk W h ow)(k:Upd M h d)(hm:∀b,M b→W b∨h.size≤b):OwOk W d ow:=fun a e=>by
 obtain⟨f,c,t,g,hz⟩:=o a e;exact⟨f,c,t,k.get g (fun hM=>(hm _ hM).elim f fun h=>by have:=aD g;omega),hz⟩
theorem OwOk.less{W W':Nat→Prop}{h:ad}{ow:Option Addr}(o:OwOk W h ow)(hm:∀b,W' b→W b∨h.size≤b):OwOk W' h ow:=fun a e=>by
 obtain⟨f,c,t,d,hz⟩:=o a e;exact⟨fun hx=>(hm _ hx).elim f fun h=>by have:=aD d;omega,c,t,d,hz⟩
theorem kz{W:Nat→Prop}{h:ad}:OwOk W h none:=fun _ e=>by cases e
structure NodeAt(W:Nat→Prop)(h:ad)(b:Nat)(s:Slots):Prop where
 ex:∃d n sp sk ow,h[b]? =some (.cells (fy d n sp sk false ow) bK (0,0))∧BitsOf d n s∧Sl fP 2 W h sp (fm s.p 32)∧Sl px 1 W h sk (fm s.k 32)∧sp.len≤sp.cap∧sk.len≤sk.cap∧OwOk W h ow
 nw:¬W b
theorem NodeAt.upd{W M:Nat→Prop}{h a:ad}{b:Nat}{s:Slots}(n:NodeAt W h b s)(k:Upd M h a)(hm:∀b,M b→W b∨h.size≤b):NodeAt W a b s:=by
 obtain⟨d,m,sp,sk,ow,c,p,i,e,o,g,j⟩:=n.ex;exact⟨⟨d,m,sp,sk,ow,k.get c (fun f=>(hm _ f).elim n.nw fun h=>by have:=aD c;omega),p,i.upd k hm,e.upd k hm,o,g,j.upd k hm⟩,n.nw⟩
structure OwnN(M:Nat→Prop)(h:ad)(b d n:Nat)(sp sk:SliceV)(s:Slots)(ow:Option Addr):Prop where
 blk:h[b]? =some (.cells (fy d n sp sk false ow) bK (0,0))
 bits:BitsOf d n s
 ex:∃A B:Nat→Prop,OwnS fP 2 aw A h sp (fm s.p 32)∧OwnS px 1 bG B h sk (fm s.k 32)∧(∀x,A x→M x∧¬B x∧x≠b∧x<h.size)∧(∀x,B x→M x∧x≠b∧x<h.size)
 mb:M b
theorem OwnN.upd{M M':Nat→Prop}{h f:ad}{b d n:Nat}{sp sk:SliceV}{s:Slots}{ow:Option Addr}(o:OwnN M h b d n sp sk s ow)(k:Upd M' h f)(hm:∀x,M' x→¬M x):OwnN M f b d n sp sk s ow:=by
 obtain⟨A,B,i,j,a,c⟩:=o.ex;have z:=k.size;exact⟨k.get o.blk fun g=>hm _ g o.mb,o.bits,⟨A,B,i.upd k fun x hx e=>hm _ e (a x hx).1,j.upd k fun x hx e=>hm _ e (c x hx).1,fun x hx=>⟨(a x hx).1,(a x hx).2.1,(a x hx).2.2.1,by have:=(a x hx).2.2.2;omega⟩,fun x hx=>⟨(c x hx).1,(c x hx).2.1,by have:=(c x hx).2.2;omega⟩⟩,o.mb⟩
end Go.Proofs
