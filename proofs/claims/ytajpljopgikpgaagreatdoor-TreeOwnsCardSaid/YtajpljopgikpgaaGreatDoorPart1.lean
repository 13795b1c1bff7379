/- A part of the proof that the named laws of this program answer true, whatever the input. -/
import Derived.Test.YtajpljopgikpgaaGreatDoorPart0
import Derived.Test.YtajpljopgikpgaaGreatDoorLift3
import Derived.Lib.Overlaps
import Derived.Sort.Walk0
open BitVec renaming ofInt→ao,ofInt_natCast→fx,getLsbD_ofNat→mA
open Bool renaming eq_iff_iff→nH
open Int renaming toNat_natCast→aM,fdiv→eH,fdiv_eq_ediv_of_nonneg→jd
open List renaming flatMap_cons→aR,take_length→cd,drop_length→pU,length_take→aD,length_drop→aO,flatMap_append→bq,drop_zero→cP,append_assoc→au,take_append_of_le_length→fM,take_of_length_le→bv,length_append→ad,drop_left→gt,take_left→hO,size_toArray→dy,drop_eq_getElem_cons→eI,length_eq_zero_iff→aF,drop_left'→cF,take_left'→cX,drop_drop→dA,drop_append_of_le_length→fO,length_cons→az,pairwise_iff_getElem→cB,getElem?_eq_getElem→af,any_eq_true→co,replicate→dT,replicate_succ→iG,flatten_append→d8,flatten_cons→eh,flatten_nil→mW,length→eE,range→dV,range_add→sq,mem_range→fW,filterMap_append→pz
open Nat renaming le_refl→aj,lt_or_ge→bG,min_eq_left→bo,sub_zero→fc,min→dZ,zero_add→aI,add_one_mul→gF,one_mul→qx,le_mul_of_pos_left→pi,min_eq_right→j8,sub_self→fY,zero_mul→rq,zero_le→aS,testBit_shiftRight→pg,testBit_and→ir,testBit_two_pow_sub_one→lO,shiftRight_eq_div_pow→cA,lt_of_le_of_lt→f6,shiftRight_le→il,mod_eq_of_lt→dq,testBit_two_pow→m6,testBit_lt_two_pow→gr,lt_of_lt_of_le→bI,pow_le_pow_right→ft
open UInt8 renaming ofNat→gd
namespace Go.Proofs
open Go Go.Lift
abbrev eg(x:ByteArray×ByteArray):List Value:= [.string x.1,.string x.2]
theorem g9(x:ByteArray×ByteArray):(eg x).length=2∧0<2:=⟨rfl,by omega⟩
theorem xm:∀xs:List (ByteArray×ByteArray),cl (xs.flatMap eg)=true
 | []=>rfl
 |x::xs=>by rw[aR];exact kG rfl (xm xs)
theorem HW{h:ae}{a b o e c d cb:Nat}{i cw:Array Value}{f tb:TypeId}(hv:h[a]? =some (.cells i f (0,0))) (m:h[b]? =some (.cells cw tb (0,0))) (j:a≠b) (k:cw.size≠0) {K:Bool→ae→Prop} (n:K false h):
  HC PG iI [.slice (some ⟨a,0,none⟩) e c,.slice (some ⟨b,o,none⟩) d cb] [.c .bool] K h:=by
 refine⟨fun w g=>.inr ⟨.bool false,w,?_,Tame.refl w,false,rfl,g▸n⟩⟩
 subst g;rw[rm];have:=Lib.run_overlaps_apart (P:=PG) w cq tR ar (by kernel_rfl) (ce PG ar) (qn (by kernel_rfl)) ⟨a,0,none⟩ ⟨b,o,none⟩ e c d cb j f tb i.size cw.size
  (by simp[World.shape?,hv]) (by simp[World.shape?,m]) k (by simp[World.frozen?,hv]) (by simp[World.frozen?,hv])
 rw[show([Value.slice (some ⟨a,0,none⟩) e c,Value.slice (some ⟨b,o,none⟩) d cb]:List Value).toArray= #[.slice (some ⟨a,0,none⟩) e c,.slice (some ⟨b,o,none⟩) d cb]from rfl,this]
 rfl
set_option maxRecDepth 4000 in
theorem Mz{M:Nat→Prop}{h:ae}{s:SliceV}{xs:List (ByteArray×ByteArray)}(U:OwnS eg 2 ar M h s xs){k:Nat}(hkl:k≤xs.length)(hn:(xs.length+1)*32≤140737488355328){x:ByteArray×ByteArray}{m:Nat}(hv:h[m]? =some (.cells (eg x).toArray ar (0,0)))
  (Y:¬M m) (hM:∀b,h.size≤b→M b) {K:SliceV→ae→Prop} (Z:∀s' H,OwnS eg 2 ar M H s' (xs.take k++x::xs.drop k)→Upd M h H→K s' H):
  HC PG cU [.slice s.a s.len s.cap,.int .i64 k,.slice (some ⟨m,0,none⟩) 1 1] [.c .slice] K h:=by
 refine mO s k ⟨some ⟨m,0,none⟩,1,1⟩ ?_;unfold ii jU;have p:=U.len;have hcap:=U.cap;have E:SRow h (some ⟨m,0,none⟩) (1*2) (eg x):=⟨rfl,.inr ⟨_,rfl,pX hv fun i v hi=>by simpa using hi⟩⟩
 refine⟨by omega,al.2 ?_⟩;refine CondP.intro (fun e=>?_) fun e=>?_
 ·have e:k=xs.length:=by have:=of_decide_eq_true (by simpa using e:decide ((k:Int)=(s.len:Int))=true);omega
  subst e;refine⟨_,E,AppP.own (ys:= [x]) U rfl (by simp) rfl rfl (by omega) (by simp;omega) (hM _ (aj _)) fun s' H ho hu=>Z s' H ?_ hu⟩
  rw[cd,pU];exact ho
 have hlt:k<xs.length:=by
  rcases bG k xs.length with h|h
  ·exact h
  ·have:((k:Int)==(s.len:Int))=true:=by rw[beq_iff_eq];omega
   rw[this]at e;cases e
 rcases U.blk with h0|⟨b,g,ha,o,hc,hr⟩
 ·omega
 have d:((xs.take k).flatMap eg).length=k*2:=by rw[kK g9,aD,bo hkl]
 have n:((xs.drop k).flatMap eg).length=(xs.length-k)*2:=by rw[kK g9,aO]
 have F:m≠b:=fun e=>Y (e▸o)
 rw[yX (f:=eg) xs k]at hc;have a:(xs.take k++x::xs.drop k).flatMap eg=(xs.take k).flatMap eg++(eg x++(xs.drop k).flatMap eg):=by rw[bq,aR]
 have j:=xm (xs.drop k);have c:(eg x).length=2:=rfl;have y:cl (eg x)=true:=rfl;generalize hAe:(xs.take k).flatMap eg=A at d hc a;generalize hBe:(xs.drop k).flatMap eg=B at n hc a j;generalize eg x=X at E c hv a y;rw[ha];have w1:IntKind.wrap .i64 ((xs.length:Int)+((1:Nat):Int))=((xs.length+1:Nat):Int):=by rw[ji (by omega)];omega
 have w2:IntKind.wrap .i64 ((k:Int)+((1:Nat):Int))=((k+1:Nat):Int):=by rw[ji (by omega)];omega
 have w3:IntKind.wrap .i64 (((xs.length+1:Nat):Int)-(k:Int))=((xs.length+1-k:Nat):Int):=by rw[ji (by omega)];omega
 simp only[w1,w2,w3,aM,p];refine aB (fun hgt=>?_) fun hle=>?_
 ·
  have I:s.cap=xs.length:=by omega
  refine Join.plain ⟨by omega,⟨by omega,by omega,by omega,by omega⟩,fun hin=>?_,fun S=>?_⟩
  ·omega
  ·refine⟨A,_,?_,rfl,by omega,Go.growslice_fits S (by omega),fun D z=>?_⟩
   ·rw[sub_zero]
    exact lr hc (by rw[d];omega) (by simp only[cP,fc];rw[au,←d,fM (aj _),cd])
   ·simp only[aM]at z⊢
    have T:=Upd.hnew No h (A++dH (xs.length+1-k) [.string (⟨#[]⟩:ByteArray),.string (⟨#[]⟩:ByteArray)]++dH (D-(k-0+(xs.length+1-k))) [.string (⟨#[]⟩:ByteArray),.string (⟨#[]⟩:ByteArray)]) ar;have bn:=cO h (A++dH (xs.length+1-k) [.string (⟨#[]⟩:ByteArray),.string (⟨#[]⟩:ByteArray)]++dH (D-(k-0+(xs.length+1-k))) [.string (⟨#[]⟩:ByteArray),.string (⟨#[]⟩:ByteArray)]) ar
    have w:(dH (xs.length+1-k) [.string (⟨#[]⟩:ByteArray),.string (⟨#[]⟩:ByteArray)]).length=(xs.length+1-k)*2:=lU _ _;have W:(dH (D-(k-0+(xs.length+1-k))) [.string (⟨#[]⟩:ByteArray),.string (⟨#[]⟩:ByteArray)]).length=(D-(k-0+(xs.length+1-k)))*2:=lU _ _;have u:k-0+(xs.length+1-k)=xs.length+1:=by omega
    rw[fE];have hsz:h.size≠m:=fun e=>by have:=aN hv;omega
    have J:h.size≠b:=fun e=>by have:=aN hc;omega
    have N:=T.get0 hc;have O:=T.get0 hv;generalize hnew h _ ar=h9 at T bn N O;rw[u]at z W⊢;have m1:dZ 1 (xs.length+1-k)=1:=bo (by omega);have V:dZ (xs.length-k) (xs.length+1-(k+1))=xs.length-k:=bo (by omega);rw[m1];have xr9:SRow h9 (some ⟨m,0,none⟩) (1*2) X:=lr O (by rw[c]) (by rw[cP,bv];rw[c];omega)
    refine⟨by omega,?_⟩;rw[jG (by omega)];refine kZ xr9 y bn (by simp only[ad,d,w];omega) fun h11 Q t=>⟨by omega,?_⟩
    simp only[Bd];rw[jG (by omega),jG (by omega),V];refine⟨by omega,?_⟩;have C:=t.get N (fun e=>J e.symm)
    have br:SRow h11 (some ⟨b,0+k*2,none⟩) ((xs.length-k)*2) B:=lr C n (by
     rw[aI,au,←d,gt,←n,hO])
    refine kZ br j Q ?_ fun h16 L P=>?_
    ·simp only[ad,aD,aO,d,w,c];omega
    ·refine Z _ _ ⟨by simp;omega,g9,z,.inr ⟨h.size,dH (D-(xs.length+1)) [.string (⟨#[]⟩:ByteArray),.string (⟨#[]⟩:ByteArray)],rfl,hM _ (aj _),?_,by rw[lU];rfl⟩⟩ ((T.wide.trans (M':=(· =h.size)) t fun b o=>.inl (o▸hM _ (aj _))).trans (M':=(· =h.size)) P fun b o=>.inl (o▸hM _ (aj _)))
     rw[L,a];have:=H5 (A:=A) (X:=X) (B:=B) (Z1:=dH (xs.length+1-k) [.string (⟨#[]⟩:ByteArray),.string (⟨#[]⟩:ByteArray)]) (Z2:=dH (D-(xs.length+1)) [.string (⟨#[]⟩:ByteArray),.string (⟨#[]⟩:ByteArray)]) (r:=(xs.length-k)*2) d c (by rw[w,←gF];congr 1;omega);rw[u,←this];simp only[aI,gF,qx]
 ·have I:xs.length+1≤s.cap:=by omega
  refine⟨by omega,?_⟩;simp only[Bd,fc];rw[sub_zero,jG (show s.cap≠k+1 by omega),jG (show s.cap≠k by omega)]
  refine⟨by omega,?_⟩;have hrl:2≤g.length:=by rw[hr];exact pi _ (by omega)
  refine HW hv hc F (by rw[dy,ad];omega) ?_;refine ax.2 ⟨by omega,by omega,?_⟩
  have m1:dZ 1 (xs.length+1-k)=1:=bo (by omega);have V:dZ (xs.length+1-k) (xs.length+1-(k+1))=xs.length-k:=by
   rw[show xs.length+1-(k+1)=xs.length-k by omega];exact j8 (by omega)
  rw[V];have br:SRow h (some ⟨b,0+k*2,none⟩) ((xs.length-k)*2) B:=lr hc n (by
   rw[aI,au,←d,gt,←n,hO])
  refine kZ br j hc (by simp only[ad,d,n];omega) fun h1 hb1 G=>⟨by omega,?_⟩
  rw[m1];have xr1:SRow h1 (some ⟨m,0,none⟩) (1*2) X:=lr (G.get hv F) (by rw[c]) (by rw[cP,bv];rw[c];omega);refine kZ xr1 y hb1 (by simp only[ad,aD,aO,d,n];omega) fun h2 hb2 hu2=>?_
  refine Z _ _ ⟨by simp;omega,g9,I,.inr ⟨b,g.drop 2,rfl,o,?_,?_⟩⟩ ((G.mono fun _ e=>.inl (e▸o)).tr (hu2.mono fun _ e=>.inl (e▸o)))
  ·rw[hb2,a]
   have:=MB (A:=A) (X:=X) (B:=B) (R:=g) (q:=2) (r:=(xs.length-k)*2) d n hrl;rw[←this];simp only[aI,gF,qx]
  ·rw[aO,hr]
   simp only;rw[p];omega
abbrev p6(x:Option Addr):List Value:= [.pointer x]
theorem qD(x:Option Addr):(p6 x).length=1∧0<1:=⟨rfl,by omega⟩
theorem De:∀xs:List (Option Addr),cl (xs.flatMap p6)=true
 | []=>rfl
 |x::xs=>by rw[aR];exact kG rfl (De xs)
theorem HX{h:ae}{a b o e c d cb:Nat}{i cw:Array Value}{f tb:TypeId}(hv:h[a]? =some (.cells i f (0,0))) (m:h[b]? =some (.cells cw tb (0,0))) (j:a≠b) (k:cw.size≠0) {K:Bool→ae→Prop} (n:K false h):
  HC PG hE [.slice (some ⟨a,0,none⟩) e c,.slice (some ⟨b,o,none⟩) d cb] [.c .bool] K h:=by
 refine⟨fun w g=>.inr ⟨.bool false,w,?_,Tame.refl w,false,rfl,g▸n⟩⟩
 subst g;rw[qt];have:=Lib.run_overlaps_apart (P:=PG) w qA tR bO (by kernel_rfl) (ce PG bO) (qn (by kernel_rfl)) ⟨a,0,none⟩ ⟨b,o,none⟩ e c d cb j f tb i.size cw.size
  (by simp[World.shape?,hv]) (by simp[World.shape?,m]) k (by simp[World.frozen?,hv]) (by simp[World.frozen?,hv])
 rw[show([Value.slice (some ⟨a,0,none⟩) e c,Value.slice (some ⟨b,o,none⟩) d cb]:List Value).toArray= #[.slice (some ⟨a,0,none⟩) e c,.slice (some ⟨b,o,none⟩) d cb]from rfl,this]
 rfl
set_option maxRecDepth 4000 in
theorem MA{M:Nat→Prop}{h:ae}{s:SliceV}{xs:List (Option Addr)}(U:OwnS p6 1 bO M h s xs){k:Nat}(hkl:k≤xs.length)(hn:(xs.length+1)*8≤140737488355328){x:Option Addr}{m:Nat}(hv:h[m]? =some (.cells (p6 x).toArray bO (0,0)))
  (Y:¬M m) (hM:∀b,h.size≤b→M b) {K:SliceV→ae→Prop} (Z:∀s' H,OwnS p6 1 bO M H s' (xs.take k++x::xs.drop k)→Upd M h H→K s' H):
  HC PG cJ [.slice s.a s.len s.cap,.int .i64 k,.slice (some ⟨m,0,none⟩) 1 1] [.c .slice] K h:=by
 refine ld s k ⟨some ⟨m,0,none⟩,1,1⟩ ?_;unfold gB;have p:=U.len;have hcap:=U.cap;have E:SRow h (some ⟨m,0,none⟩) (1*1) (p6 x):=⟨rfl,.inr ⟨_,rfl,pX hv fun i v hi=>by simpa using hi⟩⟩
 refine⟨by omega,al.2 ?_⟩;refine CondP.intro (fun e=>?_) fun e=>?_
 ·have e:k=xs.length:=by have:=of_decide_eq_true (by simpa using e:decide ((k:Int)=(s.len:Int))=true);omega
  subst e;refine⟨_,E,AppP.own (ys:= [x]) U rfl (by simp) rfl rfl (by omega) (by simp;omega) (hM _ (aj _)) fun s' H ho hu=>Z s' H ?_ hu⟩
  rw[cd,pU];exact ho
 have hlt:k<xs.length:=by
  rcases bG k xs.length with h|h
  ·exact h
  ·have:((k:Int)==(s.len:Int))=true:=by rw[beq_iff_eq];omega
   rw[this]at e;cases e
 rcases U.blk with h0|⟨b,g,ha,o,hc,hr⟩
 ·omega
 have d:((xs.take k).flatMap p6).length=k*1:=by rw[kK qD,aD,bo hkl]
 have n:((xs.drop k).flatMap p6).length=(xs.length-k)*1:=by rw[kK qD,aO]
 have F:m≠b:=fun e=>Y (e▸o)
 rw[yX (f:=p6) xs k]at hc;have a:(xs.take k++x::xs.drop k).flatMap p6=(xs.take k).flatMap p6++(p6 x++(xs.drop k).flatMap p6):=by rw[bq,aR]
 have j:=De (xs.drop k);have c:(p6 x).length=1:=rfl;have y:cl (p6 x)=true:=rfl;generalize hAe:(xs.take k).flatMap p6=A at d hc a;generalize hBe:(xs.drop k).flatMap p6=B at n hc a j;generalize p6 x=X at E c hv a y;rw[ha];have w1:IntKind.wrap .i64 ((xs.length:Int)+((1:Nat):Int))=((xs.length+1:Nat):Int):=by rw[ji (by omega)];omega
 have w2:IntKind.wrap .i64 ((k:Int)+((1:Nat):Int))=((k+1:Nat):Int):=by rw[ji (by omega)];omega
 have w3:IntKind.wrap .i64 (((xs.length+1:Nat):Int)-(k:Int))=((xs.length+1-k:Nat):Int):=by rw[ji (by omega)];omega
 simp only[w1,w2,w3,aM,p];refine aB (fun hgt=>?_) fun hle=>?_
 ·
  have I:s.cap=xs.length:=by omega
  refine Join.plain ⟨by omega,⟨by omega,by omega,by omega,by omega⟩,fun hin=>?_,fun S=>?_⟩
  ·omega
  ·refine⟨A,_,?_,rfl,by omega,Go.growslice_fits S (by omega),fun D z=>?_⟩
   ·rw[sub_zero]
    exact lr hc (by rw[d];omega) (by simp only[cP,fc];rw[au,←d,fM (aj _),cd])
   ·simp only[aM]at z⊢
    have T:=Upd.hnew No h (A++dH (xs.length+1-k) [.pointer none]++dH (D-(k-0+(xs.length+1-k))) [.pointer none]) bO;have bn:=cO h (A++dH (xs.length+1-k) [.pointer none]++dH (D-(k-0+(xs.length+1-k))) [.pointer none]) bO;have w:(dH (xs.length+1-k) [.pointer none]).length=(xs.length+1-k)*1:=lU _ _;have W:(dH (D-(k-0+(xs.length+1-k))) [.pointer none]).length=(D-(k-0+(xs.length+1-k)))*1:=lU _ _
    have u:k-0+(xs.length+1-k)=xs.length+1:=by omega
    rw[fE];have hsz:h.size≠m:=fun e=>by have:=aN hv;omega
    have J:h.size≠b:=fun e=>by have:=aN hc;omega
    have N:=T.get0 hc;have O:=T.get0 hv;generalize hnew h _ bO=h9 at T bn N O;rw[u]at z W⊢;have m1:dZ 1 (xs.length+1-k)=1:=bo (by omega);have V:dZ (xs.length-k) (xs.length+1-(k+1))=xs.length-k:=bo (by omega);rw[m1];have xr9:SRow h9 (some ⟨m,0,none⟩) (1*1) X:=lr O (by rw[c]) (by rw[cP,bv];rw[c];omega)
    refine⟨by omega,?_⟩;rw[jG (by omega)];refine kZ xr9 y bn (by simp only[ad,d,w];omega) fun h11 Q t=>⟨by omega,?_⟩
    simp only[Bd];rw[jG (by omega),jG (by omega),V];refine⟨by omega,?_⟩;have C:=t.get N (fun e=>J e.symm)
    have br:SRow h11 (some ⟨b,0+k*1,none⟩) ((xs.length-k)*1) B:=lr C n (by
     rw[aI,au,←d,gt,←n,hO])
    refine kZ br j Q ?_ fun h16 L P=>?_
    ·simp only[ad,aD,aO,d,w,c];omega
    ·refine Z _ _ ⟨by simp;omega,qD,z,.inr ⟨h.size,dH (D-(xs.length+1)) [.pointer none],rfl,hM _ (aj _),?_,by rw[lU];rfl⟩⟩ ((T.wide.trans (M':=(· =h.size)) t fun b o=>.inl (o▸hM _ (aj _))).trans (M':=(· =h.size)) P fun b o=>.inl (o▸hM _ (aj _)))
     rw[L,a];have:=H5 (A:=A) (X:=X) (B:=B) (Z1:=dH (xs.length+1-k) [.pointer none]) (Z2:=dH (D-(xs.length+1)) [.pointer none]) (r:=(xs.length-k)*1) d c (by rw[w,←gF];congr 1;omega);rw[u,←this];simp only[aI,gF,qx]
 ·have I:xs.length+1≤s.cap:=by omega
  refine⟨by omega,?_⟩;simp only[Bd,fc];rw[sub_zero,jG (show s.cap≠k+1 by omega),jG (show s.cap≠k by omega)]
  refine⟨by omega,?_⟩;have hrl:1≤g.length:=by rw[hr];exact pi _ (by omega)
  refine HX hv hc F (by rw[dy,ad];omega) ?_;refine ax.2 ⟨by omega,by omega,?_⟩
  have m1:dZ 1 (xs.length+1-k)=1:=bo (by omega);have V:dZ (xs.length+1-k) (xs.length+1-(k+1))=xs.length-k:=by
   rw[show xs.length+1-(k+1)=xs.length-k by omega];exact j8 (by omega)
  rw[V];have br:SRow h (some ⟨b,0+k*1,none⟩) ((xs.length-k)*1) B:=lr hc n (by
   rw[aI,au,←d,gt,←n,hO])
  refine kZ br j hc (by simp only[ad,d,n];omega) fun h1 hb1 G=>⟨by omega,?_⟩
  rw[m1];have xr1:SRow h1 (some ⟨m,0,none⟩) (1*1) X:=lr (G.get hv F) (by rw[c]) (by rw[cP,bv];rw[c];omega);refine kZ xr1 y hb1 (by simp only[ad,aD,aO,d,n];omega) fun h2 hb2 hu2=>?_
  refine Z _ _ ⟨by simp;omega,qD,I,.inr ⟨b,g.drop 1,rfl,o,?_,?_⟩⟩ ((G.mono fun _ e=>.inl (e▸o)).tr (hu2.mono fun _ e=>.inl (e▸o)))
  ·rw[hb2,a]
   have:=MB (A:=A) (X:=X) (B:=B) (R:=g) (q:=1) (r:=(xs.length-k)*1) d n hrl;rw[←this];simp only[aI,gF,qx]
  ·rw[aO,hr]
   simp only;rw[p];omega
abbrev lY(x:Option Addr):List Value:= [.pointer x]
theorem oC(x:Option Addr):(lY x).length=1∧0<1:=⟨rfl,by omega⟩
theorem Dd:∀xs:List (Option Addr),cl (xs.flatMap lY)=true
 | []=>rfl
 |x::xs=>by rw[aR];exact kG rfl (Dd xs)
theorem HU{h:ae}{a b o e c d cb:Nat}{i cw:Array Value}{f tb:TypeId}(hv:h[a]? =some (.cells i f (0,0))) (m:h[b]? =some (.cells cw tb (0,0))) (j:a≠b) (k:cw.size≠0) {K:Bool→ae→Prop} (n:K false h):
  HC PG gR [.slice (some ⟨a,0,none⟩) e c,.slice (some ⟨b,o,none⟩) d cb] [.c .bool] K h:=by
 refine⟨fun w g=>.inr ⟨.bool false,w,?_,Tame.refl w,false,rfl,g▸n⟩⟩
 subst g;rw[pP];have:=Lib.run_overlaps_apart (P:=PG) w pD tR aW (by kernel_rfl) (ce PG aW) (qn (by kernel_rfl)) ⟨a,0,none⟩ ⟨b,o,none⟩ e c d cb j f tb i.size cw.size
  (by simp[World.shape?,hv]) (by simp[World.shape?,m]) k (by simp[World.frozen?,hv]) (by simp[World.frozen?,hv])
 rw[show([Value.slice (some ⟨a,0,none⟩) e c,Value.slice (some ⟨b,o,none⟩) d cb]:List Value).toArray= #[.slice (some ⟨a,0,none⟩) e c,.slice (some ⟨b,o,none⟩) d cb]from rfl,this]
 rfl
set_option maxRecDepth 4000 in
theorem My{M:Nat→Prop}{h:ae}{s:SliceV}{xs:List (Option Addr)}(U:OwnS lY 1 aW M h s xs){k:Nat}(hkl:k≤xs.length)(hn:(xs.length+1)*8≤140737488355328){x:Option Addr}{m:Nat}(hv:h[m]? =some (.cells (lY x).toArray aW (0,0)))
  (Y:¬M m) (hM:∀b,h.size≤b→M b) {K:SliceV→ae→Prop} (Z:∀s' H,OwnS lY 1 aW M H s' (xs.take k++x::xs.drop k)→Upd M h H→K s' H):
  HC PG eA [.slice s.a s.len s.cap,.int .i64 k,.slice (some ⟨m,0,none⟩) 1 1] [.c .slice] K h:=by
 refine kg s k ⟨some ⟨m,0,none⟩,1,1⟩ ?_;unfold gg;have p:=U.len;have hcap:=U.cap;have E:SRow h (some ⟨m,0,none⟩) (1*1) (lY x):=⟨rfl,.inr ⟨_,rfl,pX hv fun i v hi=>by simpa using hi⟩⟩
 refine⟨by omega,al.2 ?_⟩;refine CondP.intro (fun e=>?_) fun e=>?_
 ·have e:k=xs.length:=by have:=of_decide_eq_true (by simpa using e:decide ((k:Int)=(s.len:Int))=true);omega
  subst e;refine⟨_,E,AppP.own (ys:= [x]) U rfl (by simp) rfl rfl (by omega) (by simp;omega) (hM _ (aj _)) fun s' H ho hu=>Z s' H ?_ hu⟩
  rw[cd,pU];exact ho
 have hlt:k<xs.length:=by
  rcases bG k xs.length with h|h
  ·exact h
  ·have:((k:Int)==(s.len:Int))=true:=by rw[beq_iff_eq];omega
   rw[this]at e;cases e
 rcases U.blk with h0|⟨b,g,ha,o,hc,hr⟩
 ·omega
 have d:((xs.take k).flatMap lY).length=k*1:=by rw[kK oC,aD,bo hkl]
 have n:((xs.drop k).flatMap lY).length=(xs.length-k)*1:=by rw[kK oC,aO]
 have F:m≠b:=fun e=>Y (e▸o)
 rw[yX (f:=lY) xs k]at hc;have a:(xs.take k++x::xs.drop k).flatMap lY=(xs.take k).flatMap lY++(lY x++(xs.drop k).flatMap lY):=by rw[bq,aR]
 have j:=Dd (xs.drop k);have c:(lY x).length=1:=rfl;have y:cl (lY x)=true:=rfl;generalize hAe:(xs.take k).flatMap lY=A at d hc a;generalize hBe:(xs.drop k).flatMap lY=B at n hc a j;generalize lY x=X at E c hv a y;rw[ha];have w1:IntKind.wrap .i64 ((xs.length:Int)+((1:Nat):Int))=((xs.length+1:Nat):Int):=by rw[ji (by omega)];omega
 have w2:IntKind.wrap .i64 ((k:Int)+((1:Nat):Int))=((k+1:Nat):Int):=by rw[ji (by omega)];omega
 have w3:IntKind.wrap .i64 (((xs.length+1:Nat):Int)-(k:Int))=((xs.length+1-k:Nat):Int):=by rw[ji (by omega)];omega
 simp only[w1,w2,w3,aM,p];refine aB (fun hgt=>?_) fun hle=>?_
 ·
  have I:s.cap=xs.length:=by omega
  refine Join.plain ⟨by omega,⟨by omega,by omega,by omega,by omega⟩,fun hin=>?_,fun S=>?_⟩
  ·omega
  ·refine⟨A,_,?_,rfl,by omega,Go.growslice_fits S (by omega),fun D z=>?_⟩
   ·rw[sub_zero]
    exact lr hc (by rw[d];omega) (by simp only[cP,fc];rw[au,←d,fM (aj _),cd])
   ·simp only[aM]at z⊢
    have T:=Upd.hnew No h (A++dH (xs.length+1-k) [.pointer none]++dH (D-(k-0+(xs.length+1-k))) [.pointer none]) aW;have bn:=cO h (A++dH (xs.length+1-k) [.pointer none]++dH (D-(k-0+(xs.length+1-k))) [.pointer none]) aW;have w:(dH (xs.length+1-k) [.pointer none]).length=(xs.length+1-k)*1:=lU _ _;have W:(dH (D-(k-0+(xs.length+1-k))) [.pointer none]).length=(D-(k-0+(xs.length+1-k)))*1:=lU _ _
    have u:k-0+(xs.length+1-k)=xs.length+1:=by omega
    rw[fE];have hsz:h.size≠m:=fun e=>by have:=aN hv;omega
    have J:h.size≠b:=fun e=>by have:=aN hc;omega
    have N:=T.get0 hc;have O:=T.get0 hv;generalize hnew h _ aW=h9 at T bn N O;rw[u]at z W⊢;have m1:dZ 1 (xs.length+1-k)=1:=bo (by omega);have V:dZ (xs.length-k) (xs.length+1-(k+1))=xs.length-k:=bo (by omega);rw[m1];have xr9:SRow h9 (some ⟨m,0,none⟩) (1*1) X:=lr O (by rw[c]) (by rw[cP,bv];rw[c];omega)
    refine⟨by omega,?_⟩;rw[jG (by omega)];refine kZ xr9 y bn (by simp only[ad,d,w];omega) fun h11 Q t=>⟨by omega,?_⟩
    simp only[Bd];rw[jG (by omega),jG (by omega),V];refine⟨by omega,?_⟩;have C:=t.get N (fun e=>J e.symm)
    have br:SRow h11 (some ⟨b,0+k*1,none⟩) ((xs.length-k)*1) B:=lr C n (by
     rw[aI,au,←d,gt,←n,hO])
    refine kZ br j Q ?_ fun h16 L P=>?_
    ·simp only[ad,aD,aO,d,w,c];omega
    ·refine Z _ _ ⟨by simp;omega,oC,z,.inr ⟨h.size,dH (D-(xs.length+1)) [.pointer none],rfl,hM _ (aj _),?_,by rw[lU];rfl⟩⟩ ((T.wide.trans (M':=(· =h.size)) t fun b o=>.inl (o▸hM _ (aj _))).trans (M':=(· =h.size)) P fun b o=>.inl (o▸hM _ (aj _)))
     rw[L,a];have:=H5 (A:=A) (X:=X) (B:=B) (Z1:=dH (xs.length+1-k) [.pointer none]) (Z2:=dH (D-(xs.length+1)) [.pointer none]) (r:=(xs.length-k)*1) d c (by rw[w,←gF];congr 1;omega);rw[u,←this];simp only[aI,gF,qx]
 ·have I:xs.length+1≤s.cap:=by omega
  refine⟨by omega,?_⟩;simp only[Bd,fc];rw[sub_zero,jG (show s.cap≠k+1 by omega),jG (show s.cap≠k by omega)]
  refine⟨by omega,?_⟩;have hrl:1≤g.length:=by rw[hr];exact pi _ (by omega)
  refine HU hv hc F (by rw[dy,ad];omega) ?_;refine ax.2 ⟨by omega,by omega,?_⟩
  have m1:dZ 1 (xs.length+1-k)=1:=bo (by omega);have V:dZ (xs.length+1-k) (xs.length+1-(k+1))=xs.length-k:=by
   rw[show xs.length+1-(k+1)=xs.length-k by omega];exact j8 (by omega)
  rw[V];have br:SRow h (some ⟨b,0+k*1,none⟩) ((xs.length-k)*1) B:=lr hc n (by
   rw[aI,au,←d,gt,←n,hO])
  refine kZ br j hc (by simp only[ad,d,n];omega) fun h1 hb1 G=>⟨by omega,?_⟩
  rw[m1];have xr1:SRow h1 (some ⟨m,0,none⟩) (1*1) X:=lr (G.get hv F) (by rw[c]) (by rw[cP,bv];rw[c];omega);refine kZ xr1 y hb1 (by simp only[ad,aD,aO,d,n];omega) fun h2 hb2 hu2=>?_
  refine Z _ _ ⟨by simp;omega,oC,I,.inr ⟨b,g.drop 1,rfl,o,?_,?_⟩⟩ ((G.mono fun _ e=>.inl (e▸o)).tr (hu2.mono fun _ e=>.inl (e▸o)))
  ·rw[hb2,a]
   have:=MB (A:=A) (X:=X) (B:=B) (R:=g) (q:=1) (r:=(xs.length-k)*1) d n hrl;rw[←this];simp only[aI,gF,qx]
  ·rw[aO,hr]
   simp only;rw[p];omega
end Go.Proofs
namespace Go.Proofs
open Go Go.Lift
theorem xx{W:Nat→Prop}{h:ae}{s:SliceV}{xs:List (ByteArray×ByteArray)}(d:Sl eg 2 W h s xs)(k:xs.length*32≤140737488355328){K:SliceV→ae→Prop}
  (i:∀s' c,OwnS eg 2 ar (fun b=>h.size≤b) c s' xs→Upd No h c→K s' c):HC PG cG [.slice s.a s.len s.cap] [.c .slice] K h:=by
 refine m5 s ?_;unfold iE jU;refine CondP.intro (fun e=>?_) (fun m=>?_)
 ·have e:s.a=none:=by simpa using e
  have hx:xs= []:=by
   by_cases hx:xs= []
   ·exact hx
   ·obtain⟨a,g,_⟩:=d.row hx
    rw[e]at g;cases g
  subst hx;exact i _ _ (OwnS.nil g9) (Upd.refl _ _)
 ·have j:=d.upd (Upd.hnew No h [] ar) (fun _ h=>h.elim)
  refine⟨_,j.srow,?_⟩;refine AppP.own (f:=eg) (M:=fun b=>h.size≤b) (xs:= []) (ys:=xs) ⟨rfl,g9,aj _,.inl rfl⟩ d.len rfl (xm xs) rfl (by omega) (by simpa using k) (by rw[jm];omega) fun s' c p n=>?_
  exact i _ _ p ((Upd.hnew No h [] ar).trans n fun b o=>.inr o)
theorem MQ{M:Nat→Prop}{h:ae}{s:SliceV}{xs:List (ByteArray×ByteArray)}(x:OwnS eg 2 ar M h s xs){k:Nat}(v:k<xs.length)(N:xs.length≤4398046511104)
  {K:SliceV→ae→Prop}(F:∀s' h',OwnS eg 2 ar M h' s' (xs.take k++xs.drop (k+1))→Upd M h h'→K s' h'):
  HC PG fF [.slice s.a s.len s.cap,.int .i64 k,.int .i64 ((k+1:Nat):Int)] [.c .slice] K h:=by
 refine mP s k ((k+1:Nat):Int) ?_;unfold ij jU;have d:=x.len;have C:=x.cap;rcases x.blk with P|⟨b,a,J,q,hc,E⟩
 ·omega
 have p:((xs.take k).flatMap eg).length=k*2:=by rw[kK g9,aD,bo (by omega)]
 have m:((xs.drop (k+1)).flatMap eg).length=(xs.length-(k+1))*2:=by rw[kK g9,aO]
 have I:xs.flatMap eg=(xs.take k).flatMap eg++(eg xs[k]++(xs.drop (k+1)).flatMap eg):=by
  rw[←aR,←eI v];exact yX xs k
 rw[I]at hc;have f:=xm (xs.drop (k+1));have c:(xs.take k++xs.drop (k+1)).flatMap eg=(xs.take k).flatMap eg++(xs.drop (k+1)).flatMap eg:=bq;have G:(eg xs[k]).length=2:=rfl;generalize (xs.take k).flatMap eg=A at p hc c;generalize (xs.drop (k+1)).flatMap eg=B at m hc f c;generalize eg xs[k]=X at G hc;rw[J];simp only[d,aM];refine⟨by omega,by omega,by omega,CondP.intro (fun e=>?_) fun _=>?_⟩
 ·have:(k:Int)=((k+1:Nat):Int):=by simpa using e
  omega
 refine Join.plain ⟨by omega,by omega,B,?_,?_⟩
 ·by_cases g:xs.length=k+1
  ·exact⟨m,.inl (aF.1 (by rw[m,g,fY,rq]))⟩
  rw[jG (by omega)];refine lr hc m ?_;have:(A++X).length=0+(k+1)*2:=by rw[ad];omega
  rw[show A++(X++B)++a=(A++X)++(B++a) by simp only[au],cF this,cX m]
 ·rw[sub_zero]
  refine M0 hc (by simp only[ad];omega) (by omega) f fun L i t=>?_
  have u:a.length=(s.cap-xs.length)*2:=by rw[E,d]
  refine⟨by dsimp only;omega,by dsimp only;omega,?_⟩
  simp only[Bd];rw[jG (by omega)];have H:xs.length-(k-0+(xs.length-(k+1)))=1:=by omega
  have w:(A++(X++B)++a).drop ((k-0)*2+B.length)=(X++B).drop B.length++a:=by
   rw[au,←dA,cF (show A.length=(k-0)*2 by rw[p,fc]),fO (by rw[ad];omega)]
  have y:(A++(X++B)++a).take ((k-0)*2)=A:=by rw[au,cX (show A.length=(k-0)*2 by rw[p,fc])]
  rw[w,y]at i;have n:((X++B).drop B.length).length=2:=by rw[aO,ad];omega
  generalize (X++B).drop B.length=D at n i;rw[H];have hz:(dH 1 [.string (⟨#[]⟩:ByteArray),.string (⟨#[]⟩:ByteArray)]).length=2:=rfl;have j:(A++B).length=0+(k-0+(xs.length-(k+1)))*2:=by rw[ad,p,m];omega
  refine HQ i (by simp only[ad]at j⊢;omega) fun O o z=>?_
  rw[cX j,←dA,cF j]at o;refine F _ _ ⟨by simp;omega,g9,by simp only;omega,.inr ⟨b,dH 1 [.string (⟨#[]⟩:ByteArray),.string (⟨#[]⟩:ByteArray)]++(D++a).drop (dH 1 [.string (⟨#[]⟩:ByteArray),.string (⟨#[]⟩:ByteArray)]).length,rfl,q,?_,?_⟩⟩ ((t.mono fun _ e=>.inl (e▸q)).tr (z.mono fun _ e=>.inl (e▸q)))
  ·rw[o,c];simp only[au]
  ·simp only[ad,aO,hz,n,u]
   omega
theorem G9{W:Nat→Prop}{h:ae}{s:SliceV}{xs:List (Option Addr)}(d:Sl p6 1 W h s xs)(k:xs.length*8≤140737488355328){K:SliceV→ae→Prop}
  (i:∀s' c,OwnS p6 1 bO (fun b=>h.size≤b) c s' xs→Upd No h c→K s' c):HC PG dD [.slice s.a s.len s.cap] [.c .slice] K h:=by
 refine lx s ?_;unfold gM;refine CondP.intro (fun e=>?_) (fun m=>?_)
 ·have e:s.a=none:=by simpa using e
  have hx:xs= []:=by
   by_cases hx:xs= []
   ·exact hx
   ·obtain⟨a,g,_⟩:=d.row hx
    rw[e]at g;cases g
  subst hx;exact i _ _ (OwnS.nil qD) (Upd.refl _ _)
 ·have j:=d.upd (Upd.hnew No h [] bO) (fun _ h=>h.elim)
  refine⟨_,j.srow,?_⟩;refine AppP.own (f:=p6) (M:=fun b=>h.size≤b) (xs:= []) (ys:=xs) ⟨rfl,qD,aj _,.inl rfl⟩ d.len rfl (De xs) rfl (by omega) (by simpa using k) (by rw[jm];omega) fun s' c p n=>?_
  exact i _ _ p ((Upd.hnew No h [] bO).trans n fun b o=>.inr o)
theorem MR{M:Nat→Prop}{h:ae}{s:SliceV}{xs:List (Option Addr)}(x:OwnS p6 1 bO M h s xs){k:Nat}(v:k<xs.length)(N:xs.length≤4398046511104)
  {K:SliceV→ae→Prop}(F:∀s' h',OwnS p6 1 bO M h' s' (xs.take k++xs.drop (k+1))→Upd M h h'→K s' h'):
  HC PG eM [.slice s.a s.len s.cap,.int .i64 k,.int .i64 ((k+1:Nat):Int)] [.c .slice] K h:=by
 refine lf s k ((k+1:Nat):Int) ?_;unfold gC;have d:=x.len;have C:=x.cap;rcases x.blk with P|⟨b,a,J,q,hc,E⟩
 ·omega
 have p:((xs.take k).flatMap p6).length=k*1:=by rw[kK qD,aD,bo (by omega)]
 have m:((xs.drop (k+1)).flatMap p6).length=(xs.length-(k+1))*1:=by rw[kK qD,aO]
 have I:xs.flatMap p6=(xs.take k).flatMap p6++(p6 xs[k]++(xs.drop (k+1)).flatMap p6):=by
  rw[←aR,←eI v];exact yX xs k
 rw[I]at hc;have f:=De (xs.drop (k+1));have c:(xs.take k++xs.drop (k+1)).flatMap p6=(xs.take k).flatMap p6++(xs.drop (k+1)).flatMap p6:=bq;have G:(p6 xs[k]).length=1:=rfl;generalize (xs.take k).flatMap p6=A at p hc c;generalize (xs.drop (k+1)).flatMap p6=B at m hc f c;generalize p6 xs[k]=X at G hc;rw[J];simp only[d,aM];refine⟨by omega,by omega,by omega,CondP.intro (fun e=>?_) fun _=>?_⟩
 ·have:(k:Int)=((k+1:Nat):Int):=by simpa using e
  omega
 refine Join.plain ⟨by omega,by omega,B,?_,?_⟩
 ·by_cases g:xs.length=k+1
  ·exact⟨m,.inl (aF.1 (by rw[m,g,fY,rq]))⟩
  rw[jG (by omega)];refine lr hc m ?_;have:(A++X).length=0+(k+1)*1:=by rw[ad];omega
  rw[show A++(X++B)++a=(A++X)++(B++a) by simp only[au],cF this,cX m]
 ·rw[sub_zero]
  refine M0 hc (by simp only[ad];omega) (by omega) f fun L i t=>?_
  have u:a.length=(s.cap-xs.length)*1:=by rw[E,d]
  refine⟨by dsimp only;omega,by dsimp only;omega,?_⟩
  simp only[Bd];rw[jG (by omega)];have H:xs.length-(k-0+(xs.length-(k+1)))=1:=by omega
  have w:(A++(X++B)++a).drop ((k-0)*1+B.length)=(X++B).drop B.length++a:=by
   rw[au,←dA,cF (show A.length=(k-0)*1 by rw[p,fc]),fO (by rw[ad];omega)]
  have y:(A++(X++B)++a).take ((k-0)*1)=A:=by rw[au,cX (show A.length=(k-0)*1 by rw[p,fc])]
  rw[w,y]at i;have n:((X++B).drop B.length).length=1:=by rw[aO,ad];omega
  generalize (X++B).drop B.length=D at n i;rw[H];have hz:(dH 1 [.pointer none]).length=1:=rfl;have j:(A++B).length=0+(k-0+(xs.length-(k+1)))*1:=by rw[ad,p,m];omega
  refine HQ i (by simp only[ad]at j⊢;omega) fun O o z=>?_
  rw[cX j,←dA,cF j]at o;refine F _ _ ⟨by simp;omega,qD,by simp only;omega,.inr ⟨b,dH 1 [.pointer none]++(D++a).drop (dH 1 [.pointer none]).length,rfl,q,?_,?_⟩⟩ ((t.mono fun _ e=>.inl (e▸q)).tr (z.mono fun _ e=>.inl (e▸q)))
  ·rw[o,c];simp only[au]
  ·simp only[ad,aO,hz,n,u]
   omega
theorem G8{W:Nat→Prop}{h:ae}{s:SliceV}{xs:List (Option Addr)}(d:Sl lY 1 W h s xs)(k:xs.length*8≤140737488355328){K:SliceV→ae→Prop}
  (i:∀s' c,OwnS lY 1 aW (fun b=>h.size≤b) c s' xs→Upd No h c→K s' c):HC PG db [.slice s.a s.len s.cap] [.c .slice] K h:=by
 refine kM s ?_;unfold gq;refine CondP.intro (fun e=>?_) (fun m=>?_)
 ·have e:s.a=none:=by simpa using e
  have hx:xs= []:=by
   by_cases hx:xs= []
   ·exact hx
   ·obtain⟨a,g,_⟩:=d.row hx
    rw[e]at g;cases g
  subst hx;exact i _ _ (OwnS.nil oC) (Upd.refl _ _)
 ·have j:=d.upd (Upd.hnew No h [] aW) (fun _ h=>h.elim)
  refine⟨_,j.srow,?_⟩;refine AppP.own (f:=lY) (M:=fun b=>h.size≤b) (xs:= []) (ys:=xs) ⟨rfl,oC,aj _,.inl rfl⟩ d.len rfl (Dd xs) rfl (by omega) (by simpa using k) (by rw[jm];omega) fun s' c p n=>?_
  exact i _ _ p ((Upd.hnew No h [] aW).trans n fun b o=>.inr o)
theorem MP{M:Nat→Prop}{h:ae}{s:SliceV}{xs:List (Option Addr)}(x:OwnS lY 1 aW M h s xs){k:Nat}(v:k<xs.length)(N:xs.length≤4398046511104)
  {K:SliceV→ae→Prop}(F:∀s' h',OwnS lY 1 aW M h' s' (xs.take k++xs.drop (k+1))→Upd M h h'→K s' h'):
  HC PG eB [.slice s.a s.len s.cap,.int .i64 k,.int .i64 ((k+1:Nat):Int)] [.c .slice] K h:=by
 refine ki s k ((k+1:Nat):Int) ?_;unfold gh;have d:=x.len;have C:=x.cap;rcases x.blk with P|⟨b,a,J,q,hc,E⟩
 ·omega
 have p:((xs.take k).flatMap lY).length=k*1:=by rw[kK oC,aD,bo (by omega)]
 have m:((xs.drop (k+1)).flatMap lY).length=(xs.length-(k+1))*1:=by rw[kK oC,aO]
 have I:xs.flatMap lY=(xs.take k).flatMap lY++(lY xs[k]++(xs.drop (k+1)).flatMap lY):=by
  rw[←aR,←eI v];exact yX xs k
 rw[I]at hc;have f:=Dd (xs.drop (k+1));have c:(xs.take k++xs.drop (k+1)).flatMap lY=(xs.take k).flatMap lY++(xs.drop (k+1)).flatMap lY:=bq;have G:(lY xs[k]).length=1:=rfl;generalize (xs.take k).flatMap lY=A at p hc c;generalize (xs.drop (k+1)).flatMap lY=B at m hc f c;generalize lY xs[k]=X at G hc;rw[J];simp only[d,aM];refine⟨by omega,by omega,by omega,CondP.intro (fun e=>?_) fun _=>?_⟩
 ·have:(k:Int)=((k+1:Nat):Int):=by simpa using e
  omega
 refine Join.plain ⟨by omega,by omega,B,?_,?_⟩
 ·by_cases g:xs.length=k+1
  ·exact⟨m,.inl (aF.1 (by rw[m,g,fY,rq]))⟩
  rw[jG (by omega)];refine lr hc m ?_;have:(A++X).length=0+(k+1)*1:=by rw[ad];omega
  rw[show A++(X++B)++a=(A++X)++(B++a) by simp only[au],cF this,cX m]
 ·rw[sub_zero]
  refine M0 hc (by simp only[ad];omega) (by omega) f fun L i t=>?_
  have u:a.length=(s.cap-xs.length)*1:=by rw[E,d]
  refine⟨by dsimp only;omega,by dsimp only;omega,?_⟩
  simp only[Bd];rw[jG (by omega)];have H:xs.length-(k-0+(xs.length-(k+1)))=1:=by omega
  have w:(A++(X++B)++a).drop ((k-0)*1+B.length)=(X++B).drop B.length++a:=by
   rw[au,←dA,cF (show A.length=(k-0)*1 by rw[p,fc]),fO (by rw[ad];omega)]
  have y:(A++(X++B)++a).take ((k-0)*1)=A:=by rw[au,cX (show A.length=(k-0)*1 by rw[p,fc])]
  rw[w,y]at i;have n:((X++B).drop B.length).length=1:=by rw[aO,ad];omega
  generalize (X++B).drop B.length=D at n i;rw[H];have hz:(dH 1 [.pointer none]).length=1:=rfl;have j:(A++B).length=0+(k-0+(xs.length-(k+1)))*1:=by rw[ad,p,m];omega
  refine HQ i (by simp only[ad]at j⊢;omega) fun O o z=>?_
  rw[cX j,←dA,cF j]at o;refine F _ _ ⟨by simp;omega,oC,by simp only;omega,.inr ⟨b,dH 1 [.pointer none]++(D++a).drop (dH 1 [.pointer none]).length,rfl,q,?_,?_⟩⟩ ((t.mono fun _ e=>.inl (e▸q)).tr (z.mono fun _ e=>.inl (e▸q)))
  ·rw[o,c];simp only[au]
  ·simp only[ad,aO,hz,n,u]
   omega
end Go.Proofs
namespace Go.Proofs
open Go.Lift
abbrev Pr:=ByteArray×ByteArray
theorem BO{a b:ByteArray}:a.toList=b.toList↔a=b:=by
 constructor
 ·intro h
  rw[ByteArray.toList_eq,ByteArray.toList_eq]at h;cases a;cases b;simp at h;subst h;rfl
 ·rintro rfl;rfl
def kl(a b:ByteArray):Prop:=Op.bytesLess a.toList b.toList=true
instance (a b:ByteArray):Decidable (kl a b):=inferInstanceAs (Decidable (_=true))
theorem Mn{a b:ByteArray}:kl a b↔a.toList<b.toList:=by unfold kl;rw[bytesLess_eq,decide_eq_true_iff]
theorem cD(a:ByteArray):¬kl a a:=by rw[Mn];exact List.lt_irrefl _
theorem iB{a b c:ByteArray}(h:kl a b)(k:kl b c):kl a c:=by rw[Mn]at*;exact List.lt_trans h k
theorem tri:∀x y:List UInt8,Op.bytesLess x y=false→x≠y→Op.bytesLess y x=true
 | [],[],_,h=>absurd rfl h
 | [],_::_,h,_=>by simp[Op.bytesLess]at h
 |_::_,[],_,_=>rfl
 |a::x,b::y,h,hn=>by
  simp only[Op.bytesLess,Bool.or_eq_false_iff,decide_eq_false_iff_not,Bool.and_eq_false_iff]at h;simp only[Op.bytesLess,Bool.or_eq_true,decide_eq_true_iff,Bool.and_eq_true];by_cases e:a=b
  ·subst e
   right;refine⟨by simp,tri x y ?_ fun e=>hn (by rw[e])⟩
   rcases h.2 with h|h
   ·simp at h
   ·exact h
  ·left
   have c:=h.1;rw[UInt8.lt_iff_toNat_lt]at c⊢;have:a.toNat≠b.toNat:=fun h=>e (UInt8.toNat_inj.1 h)
   omega
theorem qE{a b:ByteArray}(h:¬kl a b)(k:a≠b):kl b a:=tri _ _ (by unfold kl at h;simpa using h) fun e=>k (BO.1 e)
def Il(a b:ByteArray):Int:=if kl a b then-1 else if a=b then 0 else 1
theorem Ki{x:ByteArray}{h:ae}{K:Bool→ae→Prop}(a:K false h):HC PG nD [.string x] [.c .bool] K h:=by
 refine C6 x ?_;unfold wb;simpa using a
theorem MU{a b:ByteArray}{h:ae}{K:Int→ae→Prop}(c:K (Il a b) h):HC PG oU [.string a,.string b] [.c (.int .i64)] K h:=by
 refine AM a b ?_;unfold tG;refine Ki (Ki (al.2 (al.2 ?_)));unfold Il at c;refine CondP.intro (fun e=>?_) fun e=>?_
 ·rw[if_pos (show kl a b from e)]at c;exact c
 ·have f:¬kl a b:=fun h=>by rw[show Op.bytesLess a.toList b.toList=true from h]at e;cases e
  rw[if_neg f]at c;rw[e];refine CondP.intro (fun d=>?_) fun d=>?_
  ·rw[if_neg (fun h=>by subst h;simp at d)]at c;exact c
  ·have:a.toList=b.toList:=by simpa using d
   rw[if_pos (BO.1 this)]at c;exact c
theorem J9{p:Pr}{k:ByteArray}{h:ae}{K:Int→ae→Prop}(a:∀h',Upd No h h'→K (Il p.1 k) h'):HC PG oO [.agg #[.string p.1,.string p.2],.string k] [.c (.int .i64)] K h:=by
 refine IR p k ?_;unfold AX im ay tV;have b1:=cO h [.string p.1,.string p.2] ar;refine⟨p.1,by rw[fE,bV,bl b1];rfl,MU (a _ (Upd.hnew No h _ _))⟩
abbrev cx(l:List Pr):Prop:=l.Pairwise fun p q=>kl p.1 q.1
def nM(l:List Pr)(k:ByteArray):Nat:=(l.takeWhile fun p=>decide (kl p.1 k)).length
def cp(l:List Pr)(k:ByteArray):Bool:=l.any fun p=>decide (p.1=k)
theorem QV{l:List Pr}{k:ByteArray}{i:Nat}(hi:i≤l.length)(b:∀j (h:j<l.length),j<i→kl l[j].1 k)(a:∀(h:i<l.length),¬kl l[i].1 k):nM l k=i:=by
 unfold nM;induction l generalizing i with
 |nil=>simp at hi;simp[hi]
 |cons p l ih=>
  rw[List.takeWhile_cons];cases i with
  |zero=>
   have:=a (by simp);simp only[List.getElem_cons_zero]at this;rw[if_neg (by simpa using this)];rfl
  |succ i=>
   have:=b 0 (by simp) (by omega);simp only[List.getElem_cons_zero]at this;rw[if_pos (by simpa using this),az];congr 1
   refine ih (by simpa using hi) (fun j c d=>?_) fun h=>?_
   ·have:=b (j+1) (by simpa using c) (by omega)
    simpa using this
   ·have:=a (by simpa using h)
    simpa using this
theorem QW(l:List Pr)(k:ByteArray):nM l k≤l.length:=by
 unfold nM;exact(List.takeWhile_prefix _).length_le
theorem Ib{W:Nat→Prop}{h:ae}{s:SliceV}{l:List Pr}(Y:Sl eg 2 W h s l)(hr:cx l)(hn:l.length≤1000000000)(k:ByteArray){K:Int×Bool→ae→Prop}
  (F:∀y,Upd No h y→K ((nM l k:Int),cp l k) y):HC PG qq [.slice s.a s.len s.cap,.string k] [.c (.int .i64),.c .bool] K h:=by
 refine K8 s k ?_;unfold CO;refine iU s k _ ?_;unfold fg cQ aY pt wd;have V:=Y.len;have N:∀{p:Pr} {h:ae} {K:Int→ae→Prop},(∀y,Upd No h y→K (Il p.1 k) y)→HV PG (.func (.func oO) #[] #[]) [.agg #[.string p.1,.string p.2],.string k] [.c (.int .i64)] K h:=fun F=>HV.mk' (J9 F)
 refine LoopP.ghost (fun(g:Nat×Nat) (t:Int×Int) y=>t.1=(g.1:Int)∧t.2=(g.2:Int)∧g.1≤g.2∧g.2≤l.length∧Upd No h y∧(∀j (O:j<l.length),j<g.1→kl l[j].1 k)∧(∀j (O:j<l.length),g.2≤j→¬kl l[j].1 k)) (fun g=>g.2-g.1) (0,l.length)
  ⟨rfl,by simp only;omega,by simp,by simp,Upd.refl _ _,fun j O h=>by omega,fun j O h=>by simp only at h;omega⟩ ?_
 rintro I ⟨i,j⟩ ⟨ti,tj⟩ y ⟨Z,X,A,B,L,o,u⟩ T;simp only at Z X A B o u;subst Z X;have G:=Y.upd L fun _ h=>h.elim
 have mono:∀a b (E:a<l.length) (U:b<l.length),a<b→kl l[a].1 l[b].1:=fun a b E U R=>cB.1 hr a b E U R
 refine aB (fun v=>?_) fun S=>?_
 ·have v:i<j:=by have:(i:Int)<(j:Int):=v;omega
  have em:IntKind.wrap .i64 (eH (IntKind.wrap .u64 (IntKind.wrap .i64 ((i:Int)+(j:Int)))) (2^(min (1:Int).toNat (IntKind.bits .u64))))=(((i+j)/2:Nat):Int):=by
   have e3:(2^(min (1:Int).toNat (IntKind.bits .u64)):Int)=2:=rfl;rw[e3,ji (x:=(i:Int)+(j:Int)) (by omega),Go.IntWalk.u64_in _ (by omega),jd _ (by omega),ji (by omega)];omega
  refine⟨by decide,?_⟩;simp only[Bd];rw[em];generalize hm:(i+j)/2=m;have D:m<l.length:=by omega
  obtain⟨a,E,_,hv⟩:=G.at (af D);refine⟨by omega,a,E,l[m].1,hv 0 _ rfl,l[m].2,hv 1 _ rfl,N fun h2 w=>?_⟩
  refine aB (fun f=>?_) fun J=>?_
  ·have c:kl l[m].1 k:=by
    unfold Il at f;by_cases c:kl l[m].1 k
    ·exact c
    ·rw[if_neg c]at f;split at f<;>omega
   refine T (m+1,j) _ _ ⟨by simp only;rw[ji (by omega)];omega,rfl,by simp only;omega,B,L.tr w,fun q z C=>?_,u⟩ (by simp only;omega)
   simp only at C;rcases bG q m with h|h
   ·exact iB (mono q m z D h) c
   ·have:q=m:=by omega
    subst this;exact c
  ·have n:¬kl l[m].1 k:=fun c=>J (by unfold Il;rw[if_pos c];decide)
   refine T (i,m) _ _ ⟨rfl,rfl,by simp only;omega,by simp only;omega,L.tr w,o,fun q z C M=>?_⟩ (by simp only;omega)
   simp only at C;rcases bG m q with h|h
   ·exact n (iB (mono m q D z h) M)
   ·have:q=m:=by omega
    subst this;exact n M
 ·have A:i=j:=by have:¬(i:Int)<(j:Int):=S;omega
  subst A;have H:nM l k=i:=QV B o fun hi=>u i hi (aj _)
  rw[H]at F;refine aB (fun v=>?_) fun Q=>?_
  ·have d:i<l.length:=by have:(i:Int)<(s.len:Int):=v;omega
   obtain⟨a,E,_,hv⟩:=G.at (af d);refine⟨by simp only;omega,a,E,l[i].1,hv 0 _ rfl,l[i].2,hv 1 _ rfl,N fun h2 w=>?_⟩
   have n:=u i d (aj _);have P:(Il l[i].1 k==(0:Int))=cp l k:=by
    unfold Il cp;rw[if_neg n,nH,co];constructor
    ·intro h
     split at h
     ·rename_i e;exact⟨l[i],List.getElem_mem d,decide_eq_true e⟩
     ·simp at h
    ·rintro⟨p,H,e⟩
     have e:=of_decide_eq_true e;obtain⟨q,z,rfl⟩:=List.mem_iff_getElem.1 H;have:q=i:=by
      rcases Nat.lt_trichotomy q i with h|h|h
      ·exact absurd (e▸o q z h) (cD _)
      ·exact h
      ·exact absurd (e▸mono i q d z h) n
     subst this;rw[if_pos e];rfl
   rw[P];exact F _ (L.tr w)
  ·have d:i=l.length:=by have:¬(i:Int)<(s.len:Int):=Q;omega
   have P:cp l k=false:=by
    unfold cp;rw[List.any_eq_false];intro p H e;have e:=of_decide_eq_true e;obtain⟨q,z,rfl⟩:=List.mem_iff_getElem.1 H;exact absurd (e▸o q z (by omega)) (cD _)
   rw[P]at F;exact F _ L
end Go.Proofs
namespace Go.Proofs
open Go.Lift
theorem OwnS.zero{α:Type}{f:α→List Value}{c:Nat}{t:TypeId}{M:Nat→Prop}{h:ae}{s:SliceV}{xs:List α}(d:OwnS f c t M h s xs):OwnS f c t M h ⟨aV s.a 0 s.cap c,0-0,s.cap-0⟩ []:=by
 have e:∀x,(f x).length=c∧0<c:=d.ne;have g:=d.len;have i:=d.cap;refine⟨rfl,e,by simp only;omega,?_⟩
 rcases d.blk with n|⟨b,a,j,k,hc,m⟩
 ·exact .inl (by simp only;omega)
 ·refine .inr ⟨b,xs.flatMap f++a,by rw[j,sub_zero],k,hc,?_⟩
  rw[ad,kK e,m,←Nat.add_mul];simp only;congr 1;omega
def Hl:Pr:=(⟨#[]⟩,⟨#[]⟩)
theorem NH(n:Nat):dH n [.string (⟨#[]⟩:ByteArray),.string (⟨#[]⟩:ByteArray)]=(dT n Hl).flatMap eg:=by
 unfold dH;induction n with
 |zero=>rfl
 |succ n ih=>rw[iG,iG,aR,←ih];rfl
theorem TO{n:Nat}(d:n*32≤140737488355328){h:ae}{K:SliceV→ae→Prop}(c:∀s' a,OwnS eg 2 ar (fun b=>h.size≤b) a s' []→Upd No h a→K s' a):
  HC PG fT [.slice none 0 0,.int .i64 n] [.c .slice] K h:=by
 refine ns ⟨none,0,0⟩ n ?_;unfold iQ jU;have e:IntKind.wrap .i64 ((n:Int)-IntKind.wrap .i64 (((0:Nat):Int)-((0:Nat):Int)))=(n:Int):=by rw[ji (x:=((0:Nat):Int)-((0:Nat):Int)) (by omega),ji (by omega)];omega
 refine Join.plain (aB (fun h=>by omega) fun _=>?_)
 simp only[Bd];rw[e];refine aB (fun k=>?_) fun hz=>c _ _ (OwnS.nil g9) (Upd.refl _ _)
 refine⟨by omega,⟨by omega,by omega,by omega,by omega⟩,?_⟩
 refine AppP.own (f:=eg) (M:=fun b=>h.size≤b) (xs:= []) (ys:=dT n Hl) (OwnS.nil g9) (by simp) (NH _) (by rw[NH];exact xm _) rfl (by omega) (by simpa using d) (aj _) fun s' a j g=>?_
 exact⟨by omega,c _ _ (OwnS.zero j) (g.mono fun b i=>.inr i)⟩
abbrev WP(s:SliceV):List Value:= [.slice s.a s.len s.cap]
def ParS(h:ae):List SliceV→List (List Pr)→Prop
 | [],[]=>True
 |v::vs,l::ls=>Sl eg 2 No h v l∧ParS h vs ls
 |_,_=>False
theorem ParS.upd{h a:ae}(k:Upd No h a):∀{vs:List SliceV} {ls:List (List Pr)},ParS h vs ls→ParS a vs ls
 | [],[],_=>trivial
 |_::_,_::_,q=>⟨q.1.upd k fun _ h=>h.elim,ParS.upd k q.2⟩
 | [],_::_,q=>q.elim
 |_::_,[],q=>q.elim
theorem ParS.len{h:ae}:∀{vs:List SliceV} {ls:List (List Pr)},ParS h vs ls→vs.length=ls.length
 | [],[],_=>rfl
 |_::_,_::_,q=>by rw[az,az,ParS.len q.2]
 | [],_::_,q=>q.elim
 |_::_,[],q=>q.elim
theorem ParS.at{h:ae}:∀{vs:List SliceV} {ls:List (List Pr)},ParS h vs ls→∀{i:Nat} (h1:i<vs.length) (h2:i<ls.length),Sl eg 2 No h vs[i] ls[i]
 |_::_,_::_,q,0,_,_=>q.1
 |_::_,_::_,q,i+1,h1,h2=>ParS.at q.2 (by simpa using h1) (by simpa using h2)
theorem GY(ls:List (List Pr)){i:Nat}(hi:i<ls.length):(ls.take (i+1)).flatten=(ls.take i).flatten++ls[i]:=by
 rw[List.take_succ_eq_append_getElem hi,d8,eh,mW,List.append_nil]
theorem Ol(ls:List (List Pr))(i:Nat):(ls.take i).flatten.length≤ls.flatten.length:=by
 have:ls.flatten=(ls.take i).flatten++(ls.drop i).flatten:=by rw[←d8,List.take_append_drop]
 rw[this,ad];omega
theorem G5{h:ae}{s:SliceV}{vs:List SliceV}{ls:List (List Pr)}(z:Sl WP 1 No h s vs)(w:ParS h vs ls)(Q:ls.flatten.length*32≤140737488355328)(hv:vs.length≤1000)
  {K:SliceV→ae→Prop}(P:∀s' f,OwnS eg 2 ar (fun b=>h.size≤b) f s' ls.flatten→Upd No h f→K s' f):HC PG dW [.slice s.a s.len s.cap] [.c .slice] K h:=by
 refine mQ s ?_;unfold ik bR cQ jU;have F:=z.len;have d:=w.len;refine LoopP.ghost (fun(i:Nat) (t:Int×Int) f=>t.2=(i:Int)∧i≤vs.length∧t.1=((ls.take i).flatten.length:Int)∧f=h) (fun i=>vs.length-i) 0 ⟨rfl,aS _,by simp,rfl⟩ ?_
 rintro I i ⟨V,U⟩ f ⟨n,hi,G,rfl⟩ H;simp only at n G;subst n G;refine aB (fun c=>?_) fun x=>?_
 ·have c:i<vs.length:=by have:(i:Int)<(s.len:Int):=c;omega
  obtain⟨a,B,_,g⟩:=z.at (af c);have L:=(w.at c (d▸c)).len;have e:=congrArg eE (GY ls (d▸c));rw[ad]at e;have E:=Ol ls (i+1);refine Join.plain ⟨by simp only;omega,a,B,_,g 0 _ rfl,?_⟩;simp only;have N:IntKind.wrap .i64 (((ls.take i).flatten.length:Int)+((vs[i]).len:Int))=((ls.take (i+1)).flatten.length:Int):=by rw[ji (by omega)];omega
  rw[N];refine aB (fun h=>by omega) fun _=>?_
  rw[cz c (by omega)];exact H (i+1) _ _ ⟨rfl,c,rfl,rfl⟩ (by omega)
 ·have M:i=vs.length:=by have:¬(i:Int)<(s.len:Int):=x;omega
  rw[bv (by omega)];refine TO Q fun S Z y A=>?_
  refine LoopP.ghost (fun(i:Nat) (t:SliceV×Int) u=>t.2=(i:Int)∧i≤vs.length∧OwnS eg 2 ar (fun b=>f.size≤b) u t.1 (ls.take i).flatten∧Upd No f u) (fun i=>vs.length-i) 0 ⟨rfl,aS _,by simpa using y,A⟩ ?_
  rintro Y j ⟨T,W⟩ u ⟨n,R,q,m⟩ C;simp only at n q;subst n;refine aB (fun c=>?_) fun p=>?_
  ·have c:j<vs.length:=by have:(j:Int)<(s.len:Int):=c;omega
   obtain⟨a,B,_,g⟩:=(z.upd m fun _ h=>h.elim).at (af c)
   have o:=((w.upd m).at c (d▸c));have e:=GY ls (d▸c);have k:=congrArg eE e;rw[ad]at k;have E:=Ol ls (j+1);refine Join.plain ⟨by simp only;omega,a,B,_,g 0 _ rfl,_,o.srow,?_⟩;refine AppP.own (ys:=ls[j]) q o.len rfl (xm _) rfl (by omega) (by omega) m.size fun s2 X v D=>?_
   simp only;rw[cz c (by omega)];exact C (j+1) _ _ ⟨rfl,c,e▸v,m.trans D fun b J=>.inr J⟩ (by omega)
  ·have O:j=vs.length:=by have:¬(j:Int)<(s.len:Int):=p;omega
   rw[bv (by omega)]at q;exact P _ _ q m
def MC(l:List Pr)(p:Pr):List Pr:=l.take (nM l p.1)++p::l.drop (if cp l p.1 then nM l p.1+1 else nM l p.1)
def PC(l:List Pr)(k:ByteArray):List Pr:=if cp l k then l.take (nM l k)++l.drop (nM l k+1)else l
theorem HR{l:List Pr}(g:cx l){k:ByteArray}(c:cp l k=true):∃h:nM l k<l.length,l[nM l k].1=k:=by
 unfold cp at c;obtain⟨p,f,e⟩:=co.1 c;have e:=of_decide_eq_true e;obtain⟨q,b,rfl⟩:=List.mem_iff_getElem.1 f;have:nM l k=q:=QV (by omega) (fun j d a=>by rw[←e];exact cB.1 g j q d b a) fun h=>by rw[←e];exact cD _
 subst this;exact⟨b,e⟩
theorem HG{h:ae}{s:SliceV}{l:List Pr}(e:Sl eg 2 No h s l){i j m:Nat}(d:i≤j)(a:j≤l.length)(b:j≤m)(c:Nat):Sl eg 2 No h ⟨aV s.a i m 2,j-i,c⟩ ((l.drop i).take (j-i)):=Sl.sub e d a b
theorem Md{h:ae}{s:SliceV}{l:List Pr}(w:Sl eg 2 No h s l)(hc:s.len≤s.cap)(o:cx l)(I:l.length≤1000000000)(p:Pr)
  {K:SliceV→ae→Prop}(O:∀s' a,OwnS eg 2 ar (fun b=>h.size≤b) a s' (MC l p)→Upd No h a→K s' a):HC PG yT [.slice s.a s.len s.cap,.agg #[.string p.1,.string p.2]] [.c .slice] K h:=by
 refine Np s p ?_;unfold Fl im Bh ay tV;have f:=w.len;have k1:=Upd.hnew No h [.string p.1,.string p.2] ar;have b1:=cO h [.string p.1,.string p.2] ar;refine bU ?_;simp only[fE h];generalize hnew h [.string p.1,.string p.2] ar=h1 at k1 b1;refine⟨p.1,by rw[bV,bl b1];rfl,Ib (w.upd k1 fun _ h=>h.elim) o I p.1 fun M k=>?_⟩
 have B:=QW l p.1;have c:=k1.tr k;refine⟨by simp only;omega,?_⟩;let q:=if cp l p.1 then nM l p.1+1 else nM l p.1
 have J:q≤l.length:=by
  show(if cp l p.1 then nM l p.1+1 else nM l p.1)≤l.length
  split
  ·rename_i ht;obtain⟨h,_⟩:=HR o ht;omega
  ·exact B
 refine Join.intro (fun t a=>a=M∧t=⟨aV s.a q s.cap 2,s.len-q,s.cap-q⟩) (fun R D=>?_) ?_
 ·refine CondP.intro (fun e=>?_) fun e=>D _ _ ⟨rfl,?_⟩
  ·have e:cp l p.1=true:=e
   obtain⟨N,_⟩:=HR o e;have G:IntKind.wrap .i64 ((nM l p.1:Int)+1)=((nM l p.1+1:Nat):Int):=by rw[ji (by omega)];omega
   simp only;rw[G];refine⟨by omega,D _ _ ⟨rfl,?_⟩⟩;have:q=nM l p.1+1:=by show(if cp l p.1 then _ else _)=_;rw[if_pos e]
   rw[this];rfl
  ·have e:cp l p.1=false:=e
   have:q=nM l p.1:=by show(if cp l p.1 then _ else _)=_;rw[if_neg (by rw[e];decide)]
   rw[this];rfl
 ·rintro t a ⟨rfl,rfl⟩
  have b2:=k.get0 b1;refine⟨by simp only;omega,p.1,by rw[bV,bl b2];rfl,p.2,by rw[bV,bl b2];rfl,?_⟩
  have u:=Upd.hnew No a [.string p.1,.string p.2] ar;have b3:=cO a [.string p.1,.string p.2] ar;refine bU ?_;simp only[fE a];generalize hnew a [.string p.1,.string p.2] ar=h3 at u b3;refine bU ?_;have g:=(w.upd c fun _ h=>h.elim).upd u fun _ h=>h.elim
  have n:=Upd.hnew No h3 [.slice (aV s.a 0 s.cap 2) ((nM l p.1:Int).toNat-0) (s.cap-0),.slice (some ⟨a.size,0,none⟩) 1 1,.slice (aV s.a q s.cap 2) (s.len-q) (s.cap-q)] cq;have L:=cO h3 [.slice (aV s.a 0 s.cap 2) ((nM l p.1:Int).toNat-0) (s.cap-0),.slice (some ⟨a.size,0,none⟩) 1 1,.slice (aV s.a q s.cap 2) (s.len-q) (s.cap-q)] cq;have A:=HG g (i:=0) (j:=nM l p.1) (m:=s.cap) (aS _) B (by omega) (s.cap-0)
  have E:Sl eg 2 No h3 ⟨some ⟨a.size,0,none⟩,1,1⟩ [p]:=⟨rfl,g9,fun _=>⟨_,rfl,fun h=>h.elim,pX b3 fun i v hv=>by simpa using hv⟩⟩
  have y:=HG g (i:=q) (j:=l.length) (m:=s.cap) J (aj _) (by omega) (s.cap-q);rw[←f]at y;rw[cP]at A;rw[bv (by rw[aO];omega)]at y;have H:MC l p= [l.take (nM l p.1-0),[p],l.drop q].flatten:=by simp[MC,q]
  refine G5 (s:=⟨some (aC h3),3,3⟩) (vs:= [⟨aV s.a 0 s.cap 2,(nM l p.1:Int).toNat-0,s.cap-0⟩,⟨some ⟨a.size,0,none⟩,1,1⟩,⟨aV s.a q s.cap 2,s.len-q,s.cap-q⟩]) (ls:= [l.take (nM l p.1-0),[p],l.drop q])
   ⟨rfl,fun x=>⟨rfl,Nat.one_pos⟩,fun _=>⟨_,rfl,fun h=>h.elim,pX L fun i v hv=>by simpa[WP]using hv⟩⟩ ⟨A.upd n fun _ h=>h.elim,E.upd n fun _ h=>h.elim,y.upd n fun _ h=>h.elim,trivial⟩ ?_ (by simp) fun Q P d z=>?_
  ·simp only[eh,mW,ad,aD,aO,List.length_singleton,List.length_nil];omega
  ·rw[←H]at d
   have C:=((c.tr u).tr n);exact O _ _ (d.more fun b F=>Nat.le_trans C.size F) (C.tr z)
end Go.Proofs
namespace Go.Proofs
open Go.Lift
def uV(n d:Nat):Nat:=(dV n).countP (d.testBit ·)
theorem Dr(m n d:Nat):uV (m+n) d=uV m d+uV n (d>>>m):=by
 unfold uV;rw[sq,List.countP_append,List.countP_map];congr 1
 refine List.countP_congr fun i _=>?_
 simp[pg]
theorem Ov(d:Nat)(i:Nat):∀n,i≤n→uV n (d&&&(2^i-1))=uV i d:=by
 intro n a;obtain⟨m,rfl⟩:=Nat.exists_eq_add_of_le a;rw[Dr];have c:uV i (d&&&(2^i-1))=uV i d:=by
  unfold uV;refine List.countP_congr fun j b=>?_
  have:=fW.1 b;simp[ir,lO,this]
 have e:uV m ((d&&&(2^i-1))>>>i)=0:=by
  unfold uV;rw[List.countP_eq_zero];intro j _;simp[pg,ir,lO];intro h;omega
 omega
theorem Vs(d:Nat):uV 8 (d&&&255)=uV 8 d:=Ov d 8 8 (aj _)
theorem yZ(n d:Nat):uV n d≤n:=by
 have:=List.countP_le_length (p:=(d.testBit ·)) (l:=dV n)
 simpa[uV]using this
theorem mg(d n:Nat):eH (d:Int) (2^n)=((d>>>n:Nat):Int):=by
 rw[jd _ (by exact Int.le_of_lt (Int.pow_pos (by decide))),cA];simp
theorem Sp(a b:Nat):(ao (IntKind.bits .u32) (a:Int)&&&ao (IntKind.bits .u32) (b:Int)).toNat=(a%4294967296)&&&(b%4294967296):=by
 simp[IntKind.bits,BitVec.toNat_and,BitVec.toNat_ofInt];rfl
theorem zB{n:Nat}(h:n<4294967296):IntKind.wrap .u32 (n:Int)=(n:Int):=Go.IntWalk.u32_in _ (by omega)
theorem D8{i:Nat}(hi:i<32){h:ae}{K:Bool→ae→Prop}(a:K true h):HC PG nm [.int .i64 i] [.c .bool] K h:=by
 refine F8 i ?_;unfold yo;refine aB (fun _=>?_) fun h=>absurd (Int.natCast_nonneg i) h
 rw[decide_eq_true (by omega)];exact a
theorem Iy{a b:Nat}(h:b<4294967296):a&&&b<4294967296:=f6 Nat.and_le_right h
theorem BC{d i:Nat}(hd:d<4294967296)(hi:i<32){h:ae}{K:Bool→ae→Prop}(f:K (d.testBit i) h):HC PG gc [.int .u32 d,.int .i64 i] [.c .bool] K h:=by
 refine B7 d i ?_;unfold uS;refine D8 hi (ax.2 ⟨by omega,?_⟩);have e:min (i:Int).toNat (IntKind.bits .u32)=i:=by rw[aM];exact bo (by show i≤32;omega)
 rw[e,mg];have a:=Sp (d>>>i) 1;have b:d>>>i<4294967296:=f6 (il d i) hd;rw[dq b,show(1:Nat)%4294967296=1 from rfl]at a
 simp only[Bd];rw[show((1:Nat):Int)=(1:Int)from rfl]at a
 rw[a,zB (Iy (by omega))];have c:(((d>>>i&&&1:Nat):Int)==(1:Int))=d.testBit i:=by
  rw[nH,beq_iff_eq,Nat.testBit,Nat.and_comm];simp only[bne_iff_ne,ne_eq,Nat.one_and_eq_mod_two];have:(d>>>i)%2<2:=Nat.mod_lt _ (by omega);omega
 rw[c];exact f
theorem PN{d i:Nat}(hd:d<4294967296)(hi:i<32):∃w:Nat,IntKind.wrap .u32 (ao (IntKind.bits .u32) (d:Int)|||ao (IntKind.bits .u32) (IntKind.wrap .u32 (1*2^(min (i:Int).toNat (IntKind.bits .u32))))).toNat=(w:Int)∧w<4294967296∧∀j,w.testBit j=(d.testBit j||decide (j=i)):=by
 have e:min (i:Int).toNat (IntKind.bits .u32)=i:=by rw[aM];exact bo (by show i≤32;omega)
 have f:2^i<4294967296:=Nat.pow_lt_pow_right (by omega) (show i<32 from hi)
 have g:(1*2^i:Int)=((2^i:Nat):Int):=by simp
 rw[e,g,zB f];refine⟨_,zB (BitVec.isLt _),BitVec.isLt _,fun j=>?_⟩
 rw[BitVec.testBit_toNat,BitVec.getLsbD_or,fx,fx,mA,mA,m6];by_cases a:j<32
 ·have:decide (j<IntKind.bits .u32)=true:=decide_eq_true a
  rw[this];simp[eq_comm]
 ·have c:decide (j<IntKind.bits .u32)=false:=decide_eq_false a
  have b:d.testBit j=false:=gr (bI hd (ft (n:=2) (by omega) (show 32≤j by omega)))
  rw[c,b];simp;omega
theorem NM{d i:Nat}(hd:d<4294967296)(hi:i<32){h:ae}{K:Int→ae→Prop}(b:∀w:Nat,w<4294967296→(∀j,w.testBit j=(d.testBit j||decide (j=i)))→K (w:Int) h):HC PG fL [.int .u32 d,.int .i64 i] [.c (.int .u32)] K h:=by
 refine AN d i ?_;unfold tH;refine D8 hi (al.2 ⟨by omega,?_⟩);obtain⟨w,e,c,a⟩:=PN hd hi;simp only[Bd];rw[e];exact b w c a
theorem Iw{d i:Nat}(hd:d<4294967296)(hi:i<32):∃w:Nat,IntKind.wrap .u32 (ao (IntKind.bits .u32) (d:Int)&&& ~~~ao (IntKind.bits .u32) (IntKind.wrap .u32 (1*2^(min (i:Int).toNat (IntKind.bits .u32))))).toNat=(w:Int)∧w<4294967296∧∀j,w.testBit j=(d.testBit j&&decide (j≠i)):=by
 have e:min (i:Int).toNat (IntKind.bits .u32)=i:=by rw[aM];exact bo (by show i≤32;omega)
 have f:2^i<4294967296:=Nat.pow_lt_pow_right (by omega) (show i<32 from hi)
 have g:(1*2^i:Int)=((2^i:Nat):Int):=by simp
 rw[e,g,zB f];refine⟨_,zB (BitVec.isLt _),BitVec.isLt _,fun j=>?_⟩
 rw[BitVec.testBit_toNat,BitVec.getLsbD_and,BitVec.getLsbD_not,fx,fx,mA,mA,m6];by_cases a:j<32
 ·have:decide (j<IntKind.bits .u32)=true:=decide_eq_true a
  rw[this];simp[eq_comm]
 ·have c:decide (j<IntKind.bits .u32)=false:=decide_eq_false a
  have b:d.testBit j=false:=gr (bI hd (ft (n:=2) (by omega) (show 32≤j by omega)))
  rw[c,b];simp
theorem Dx{d i:Nat}(hd:d<4294967296)(hi:i<32){h:ae}{K:Int→ae→Prop}(b:∀w:Nat,w<4294967296→(∀j,w.testBit j=(d.testBit j&&decide (j≠i)))→K (w:Int) h):HC PG jz [.int .u32 d,.int .i64 i] [.c (.int .u32)] K h:=by
 refine wV d i ?_;unfold qw;refine D8 hi (al.2 ⟨by omega,?_⟩);obtain⟨w,e,c,a⟩:=Iw hd hi;simp only[Bd];rw[e];exact b w c a
abbrev VX:ByteArray:=⟨#[0,1,1,2,1,2,2,3,1,2,2,3,2,3,3,4,1,2,2,3,2,3,3,4,2,3,3,4,3,4,4,5,1,2,2,3,2,3,3,4,2,3,3,4,3,4,4,5,2,3,3,4,3,4,4,5,3,4,4,5,4,5,5,6,1,2,2,3,2,3,3,4,2,3,3,4,3,4,4,5,2,3,3,4,3,4,4,5,3,4,4,5,4,5,5,6,2,3,3,4,3,4,4,5,3,4,4,5,4,5,5,6,3,4,4,5,4,5,5,6,4,5,5,6,5,6,6,7,1,2,2,3,2,3,3,4,2,3,3,4,3,4,4,5,2,3,3,4,3,4,4,5,3,4,4,5,4,5,5,6,2,3,3,4,3,4,4,5,3,4,4,5,4,5,5,6,3,4,4,5,4,5,5,6,4,5,5,6,5,6,6,7,2,3,3,4,3,4,4,5,3,4,4,5,4,5,5,6,3,4,4,5,4,5,5,6,4,5,5,6,5,6,6,7,3,4,4,5,4,5,5,6,4,5,5,6,5,6,6,7,4,5,5,6,5,6,6,7,5,6,6,7,6,7,7,8]⟩
theorem S8:(dV 256).all (fun b=>decide (VX[b]? =some (gd (uV 8 b))))=true:=by decide+kernel
theorem HB{b:Nat}(h:b<256):VX[b]? =some (gd (uV 8 b)):=of_decide_eq_true (List.all_eq_true.1 S8 b (fW.2 h))
theorem Ik(b:Nat):(gd (uV 8 b)).toNat=uV 8 b:=by
 have:=yZ 8 b;simp;omega
theorem Xa(d:Nat):uV 32 d=uV 8 (d>>>24)+uV 8 ((d>>>16)&&&255)+uV 8 ((d>>>8)&&&255)+uV 8 (d&&&255):=by
 rw[Vs,Vs,Vs,show(32:Nat)=8+(8+(8+8))from rfl,Dr,Dr,Dr]
 simp only[←Nat.shiftRight_add,Nat.reduceAdd];omega
set_option maxRecDepth 100000 in
theorem TA{d:Nat}(hd:d<4294967296){h:ae}{K:Int→ae→Prop}(j:K (uV 32 d:Int) h):HC PG j6 [.int .u32 d] [.c (.int .i64)] K h:=by
 refine uF d ?_;unfold ox;have f:eH (d:Int) (2^(min (24:Int).toNat (IntKind.bits .u32)))=((d>>>24:Nat):Int):=mg d 24;have c:eH (d:Int) (2^(min (16:Int).toNat (IntKind.bits .u32)))=((d>>>16:Nat):Int):=mg d 16;have k:eH (d:Int) (2^(min (8:Int).toNat (IntKind.bits .u32)))=((d>>>8:Nat):Int):=mg d 8;have b:∀x:Nat,x<4294967296→IntKind.wrap .u32 (ao (IntKind.bits .u32) (x:Int)&&&ao (IntKind.bits .u32) 255).toNat=((x&&&255:Nat):Int):=fun x hx=>by
  have:=Sp x 255;rw[dq hx]at this;rw[show((255:Nat):Int)=(255:Int)from rfl]at this
  rw[this,zB (Iy (by omega))]
 have e:d>>>24<256:=by rw[cA];omega
 have a:∀x:Nat,x&&&255<256:=fun x=>f6 Nat.and_le_right (by omega)
 have i:d>>>16<4294967296:=f6 (il d 16) hd;have m:d>>>8<4294967296:=f6 (il d 8) hd;simp only[Bd];rw[f,c,k,b _ i,b _ m,b _ hd];refine⟨by decide,_,by omega,HB (b:=d>>>24) e,by decide,_,by omega,HB (a _),by decide,_,by omega,HB (a _),_,by omega,HB (a _),?_⟩
 rw[Ik,Ik,Ik,Ik];simp only[aM];have p:=yZ 8 (d>>>24);have o:=yZ 8 (d>>>16&&&255);have q:=yZ 8 (d>>>8&&&255);have q4:=yZ 8 (d&&&255);rw[Xa]at j;have g:∀n:Nat,n≤255→IntKind.wrap .u8 (n:Int)=(n:Int):=fun n s=>Go.IntWalk.u8_in _ (by omega)
 rw[←Int.natCast_add,g _ (by omega),←Int.natCast_add,g _ (by omega),←Int.natCast_add,g _ (by omega),ji (by omega)];exact j
theorem pZ{d i:Nat}(hd:d<4294967296)(hi:i<32){h:ae}{K:Int→ae→Prop}(a:K (uV i d:Int) h):HC PG dw [.int .u32 d,.int .i64 i] [.c (.int .i64)] K h:=by
 refine AO d i ?_;unfold tI;refine aB (fun g=>?_) fun g=>?_
 ·have:i=0:=by omega
  subst this;exact a
 ·refine aB (fun h=>by omega) fun _=>⟨by omega,?_⟩
  have e:min (i:Int).toNat (IntKind.bits .u32)=i:=by rw[aM];exact bo (by show i≤32;omega)
  have b:2^i<4294967296:=Nat.pow_lt_pow_right (by omega) (show i<32 from hi)
  have c:0<2^i:=Nat.pow_pos (by omega);have f:(1*2^i:Int)=((2^i:Nat):Int):=by simp
  have j:(((2^i:Nat):Int)-1)=((2^i-1:Nat):Int):=by omega
  simp only[Bd];rw[e,f,zB b,j,zB (show 2^i-1<4294967296 by omega),Sp,dq hd,dq (show 2^i-1<4294967296 by omega),zB (Iy (by omega))]
  refine zl _ ?_;unfold sd;refine TA (Iy (by omega)) ?_;rw[Ov d i 32 (by omega)];exact a
end Go.Proofs
namespace Go.Proofs
open Go.Lift
def fm{β:Type}(g:Nat→Option β)(n:Nat):List β:=(dV n).filterMap g
def upd{β:Type}(g:Nat→Option β)(i:Nat)(x:Option β)(j:Nat):Option β:=if j=i then x else g j
theorem Wi{β:Type}{f g:Nat→Option β}:∀l:List Nat,(∀j∈l,f j=g j)→l.filterMap f=l.filterMap g
 | [],_=>rfl
 |j::l,h=>by
  rw[List.filterMap_cons,List.filterMap_cons,h j (List.mem_cons_self ..),Wi l fun k a=>h k (List.mem_cons_of_mem _ a)]
section
variable {β:Type} {g:Nat→Option β} {d:Nat}
theorem Ew(hd:∀c,c<32→d.testBit c=(g c).isSome){i:Nat}(hi:i≤32):(fm g i).length=uV i d:=by
 unfold fm uV;rw[List.length_filterMap_eq_countP];exact List.countP_congr fun j a=>by rw[hd j (by have:=fW.1 a;omega)]
theorem qo{i n:Nat}(hi:i<n):fm g n=fm g i++((g i).toList++(dV (n-(i+1))).filterMap fun j=>g (i+1+j)):=by
 unfold fm;have e:n=i+(1+(n-(i+1))):=by omega
 rw[e,sq,pz,sq];have a:i+(1+(n-(i+1)))-(i+1)=n-(i+1):=by omega
 rw[a];congr 1
 rw[List.map_append,pz,List.map_map];congr 1
 rw[List.filterMap_map];refine Wi _ fun j _=>?_
 show g (i+(1+j))=_
 rw[Nat.add_assoc]
theorem yK{i:Nat}{x:Option β}:fm (upd g i x) i=fm g i:=by
 unfold fm;refine Wi _ fun j a=>?_
 have:=fW.1 a;unfold upd;rw[if_neg (by omega)]
theorem wD{i m:Nat}{x:Option β}:((dV m).filterMap fun j=>upd g i x (i+1+j))=(dV m).filterMap fun j=>g (i+1+j):=by
 refine Wi _ fun j _=>?_
 unfold upd;rw[if_neg (by omega)]
theorem Rv{i:Nat}(hi:i<32)(hd:∀c,c<32→d.testBit c=(g c).isSome)(b:g i=none)(x:β):fm (upd g i (some x)) 32=(fm g 32).take (uV i d)++x::(fm g 32).drop (uV i d):=by
 have a:=Ew hd (i:=i) (by omega);rw[qo (g:=upd g i (some x)) hi,qo (g:=g) hi,yK,wD,b,cX a,cF a];simp[upd]
theorem Ru{i:Nat}(hi:i<32)(hd:∀c,c<32→d.testBit c=(g c).isSome){y:β}(b:g i=some y)(x:β):fm (upd g i (some x)) 32=(fm g 32).take (uV i d)++x::(fm g 32).drop (uV i d+1):=by
 have a:=Ew hd (i:=i) (by omega);rw[qo (g:=upd g i (some x)) hi,qo (g:=g) hi,yK,wD,b,cX a,←dA,cF a];simp[upd]
theorem Rw{i:Nat}(hi:i<32)(hd:∀c,c<32→d.testBit c=(g c).isSome){y:β}(b:g i=some y):fm (upd g i none) 32=(fm g 32).take (uV i d)++(fm g 32).drop (uV i d+1):=by
 have a:=Ew hd (i:=i) (by omega);rw[qo (g:=upd g i none) hi,qo (g:=g) hi,yK,wD,b,cX a,←dA,cF a];simp[upd]
theorem Rx{i:Nat}(hi:i<32)(hd:∀c,c<32→d.testBit c=(g c).isSome){y:β}(a:g i=some y):(fm g 32)[uV i d]? =some y:=by
 have b:=Ew hd (i:=i) (by omega);rw[qo (g:=g) hi,a,List.getElem?_append_right (by omega),b,fY];rfl
theorem GX{i:Nat}(hi:i<32)(hd:∀c,c<32→d.testBit c=(g c).isSome){y:β}(a:g i=some y):uV i d<(fm g 32).length:=(List.getElem?_eq_some_iff.1 (Rx hi hd a)).1
theorem Ur{i:Nat}(hi:i<32)(hd:∀c,c<32→d.testBit c=(g c).isSome):uV i d≤(fm g 32).length:=by
 have a:=Ew hd (i:=i) (by omega);rw[qo (g:=g) hi,ad];omega
theorem vO:(fm g 32).length≤32:=by
 have:=List.length_filterMap_le g (dV 32);simpa[fm]using this
end
end Go.Proofs
namespace Go.Proofs
open Go.Lift
abbrev sv(s:SliceV):Value:=.slice s.a s.len s.cap
structure Slots where
 p:Nat→Option Pr
 k:Nat→Option (Option Addr)
def fR(d n:Nat)(sp sk:SliceV)(a:Bool)(ow:Option Addr):Array Value:= #[.int .u32 (d:Int),.int .u32 (n:Int),sv sp,sv sk,.bool a,.pointer ow]
structure BitsOf(d n:Nat)(s:Slots):Prop where
 d32:d<4294967296
 n32:n<4294967296
 dp:∀c,c<32→d.testBit c=(s.p c).isSome
 nk:∀c,c<32→n.testBit c=(s.k c).isSome
def OwOk(W:Nat→Prop)(h:ae)(ow:Option Addr):Prop:=∀a,ow=some a→¬W a.block∧eY h a
theorem OwOk.upd{W M:Nat→Prop}{h f:ae}{ow:Option Addr}(o:OwOk W h ow)(k:Upd M h f)(hm:∀b,M b→W b∨h.size≤b):OwOk W f ow:=fun a e=>by
 obtain⟨d,c,t,g,hz⟩:=o a e;exact⟨d,c,t,k.get g (fun hM=>(hm _ hM).elim d fun h=>by have:=aN g;omega),hz⟩
theorem OwOk.less{W W':Nat→Prop}{h:ae}{ow:Option Addr}(o:OwOk W h ow)(hm:∀b,W' b→W b∨h.size≤b):OwOk W' h ow:=fun a e=>by
 obtain⟨f,c,t,d,hz⟩:=o a e;exact⟨fun hx=>(hm _ hx).elim f fun h=>by have:=aN d;omega,c,t,d,hz⟩
theorem lm{W:Nat→Prop}{h:ae}:OwOk W h none:=fun _ e=>by cases e
structure NodeAt(W:Nat→Prop)(h:ae)(b:Nat)(s:Slots):Prop where
 ex:∃d n sp sk ow,h[b]? =some (.cells (fR d n sp sk false ow) bT (0,0))∧BitsOf d n s∧Sl eg 2 W h sp (fm s.p 32)∧Sl p6 1 W h sk (fm s.k 32)∧sp.len≤sp.cap∧sk.len≤sk.cap∧OwOk W h ow
 nw:¬W b
theorem NodeAt.upd{W M:Nat→Prop}{h c:ae}{b:Nat}{s:Slots}(n:NodeAt W h b s)(k:Upd M h c)(hm:∀b,M b→W b∨h.size≤b):NodeAt W c b s:=by
 obtain⟨d,m,sp,sk,ow,a,e,j,f,i,p,o⟩:=n.ex;exact⟨⟨d,m,sp,sk,ow,k.get a (fun g=>(hm _ g).elim n.nw fun h=>by have:=aN a;omega),e,j.upd k hm,f.upd k hm,i,p,o.upd k hm⟩,n.nw⟩
structure OwnN(M:Nat→Prop)(h:ae)(b d n:Nat)(sp sk:SliceV)(s:Slots)(ow:Option Addr):Prop where
 blk:h[b]? =some (.cells (fR d n sp sk false ow) bT (0,0))
 bits:BitsOf d n s
 ex:∃A B:Nat→Prop,OwnS eg 2 ar A h sp (fm s.p 32)∧OwnS p6 1 bO B h sk (fm s.k 32)∧(∀x,A x→M x∧¬B x∧x≠b∧x<h.size)∧(∀x,B x→M x∧x≠b∧x<h.size)
 mb:M b
theorem OwnN.upd{M M':Nat→Prop}{h f:ae}{b d n:Nat}{sp sk:SliceV}{s:Slots}{ow:Option Addr}(o:OwnN M h b d n sp sk s ow)(k:Upd M' h f)(hm:∀x,M' x→¬M x):OwnN M f b d n sp sk s ow:=by
 obtain⟨A,B,i,g,a,c⟩:=o.ex;have z:=k.size;exact⟨k.get o.blk fun j=>hm _ j o.mb,o.bits,⟨A,B,i.upd k fun x hx e=>hm _ e (a x hx).1,g.upd k fun x hx e=>hm _ e (c x hx).1,fun x hx=>⟨(a x hx).1,(a x hx).2.1,(a x hx).2.2.1,by have:=(a x hx).2.2.2;omega⟩,fun x hx=>⟨(c x hx).1,(c x hx).2.1,by have:=(c x hx).2.2;omega⟩⟩,o.mb⟩
end Go.Proofs
