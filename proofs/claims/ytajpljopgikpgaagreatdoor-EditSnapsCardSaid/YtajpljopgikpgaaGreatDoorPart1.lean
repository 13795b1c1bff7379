/- A part of the proof that the named laws of this program answer true, whatever the input. -/
import Derived.Test.YtajpljopgikpgaaGreatDoorPart0
import Derived.Test.YtajpljopgikpgaaGreatDoorLift3
import Derived.Lib.Overlaps
import Derived.Sort.Walk0
open BitVec renaming ofInt→ai,ofInt_natCast→fF,getLsbD_ofNat→jI
open Bool renaming eq_iff_iff→kX
open Int renaming toNat_natCast→aM,fdiv→eE,fdiv_eq_ediv_of_nonneg→jG
open List renaming flatMap_cons→aL,take_length→cV,length_take→aN,length_drop→aJ,flatMap_append→bv,drop_zero→cB,append_assoc→ak,take_append_of_le_length→dS,take_of_length_le→bh,length_append→ae,drop_left→gk,take_left→gh,size_toArray→cz,drop_eq_getElem_cons→gt,length_eq_zero_iff→bC,drop_left'→bT,take_left'→cg,drop_drop→cZ,drop_append_of_le_length→dV,length_cons→aO,pairwise_iff_getElem→cn,getElem?_eq_getElem→ag,any_eq_true→bO,replicate→gi,replicate_succ→kA,flatten_append→cQ,flatten_cons→dU,flatten_nil→j7,length→f8,range→bX,range_add→pi,mem_range→gj,filterMap_append→mz
open Nat renaming le_refl→au,lt_or_ge→bM,min_eq_left→aZ,sub_zero→dJ,min→cP,zero_add→aD,add_one_mul→eY,one_mul→nx,le_mul_of_pos_left→mg,min_eq_right→mR,sub_self→oq,zero_mul→rJ,zero_le→bp,testBit_shiftRight→mc,testBit_and→fR,testBit_two_pow_sub_one→jq,shiftRight_eq_div_pow→dN,lt_of_le_of_lt→fu,shiftRight_le→mf,mod_eq_of_lt→dK,testBit_two_pow→ko,testBit_lt_two_pow→eN,lt_of_lt_of_le→bI,pow_le_pow_right→gI
open UInt8 renaming ofNat→eX
namespace Go.Proofs
open Go Go.Lift
abbrev iY(x:ByteArray×ByteArray):List Value:= [.string x.1,.string x.2]
theorem jy(x:ByteArray×ByteArray):(iY x).length=2∧0<2:=⟨rfl,by omega⟩
theorem tD:∀xs:List (ByteArray×ByteArray),bH (xs.flatMap iY)=true
 | []=>rfl
 |x::xs=>by rw[aL];exact jN rfl (tD xs)
theorem Dc{h:ad}{a b o d c e cb:Nat}{cv cw:Array Value}{g tb:TypeId}(hv:h[a]? =some (.cells cv g (0,0))) (i:h[b]? =some (.cells cw tb (0,0))) (k:a≠b) (m:cw.size≠0) {K:Bool→ad→Prop} (j:K false h):
  HC PG fW [.slice (some ⟨a,0,none⟩) d c,.slice (some ⟨b,o,none⟩) e cb] [.c .bool] K h:=by
 refine⟨fun w f=>.inr ⟨.bool false,w,?_,Tame.refl w,false,rfl,f▸j⟩⟩
 subst f;rw[om];have:=Lib.run_overlaps_apart (P:=PG) w cM oz ar (by kernel_rfl) (bA PG ar) (ng (by kernel_rfl)) ⟨a,0,none⟩ ⟨b,o,none⟩ d c e cb k g tb cv.size cw.size
  (by simp[World.shape?,hv]) (by simp[World.shape?,i]) m (by simp[World.frozen?,hv]) (by simp[World.frozen?,hv])
 rw[show([Value.slice (some ⟨a,0,none⟩) d c,Value.slice (some ⟨b,o,none⟩) e cb]:List Value).toArray= #[.slice (some ⟨a,0,none⟩) d c,.slice (some ⟨b,o,none⟩) e cb]from rfl,this]
 rfl
set_option maxRecDepth 4000 in
theorem Gs{M:Nat→Prop}{h:ad}{s:SliceV}{xs:List (ByteArray×ByteArray)}(T:OwnS iY 2 ar M h s xs){k:Nat}(hkl:k≤xs.length)(hn:(xs.length+1)*32≤140737488355328){x:ByteArray×ByteArray}{m:Nat}(hv:h[m]? =some (.cells (iY x).toArray ar (0,0)))
  (hvM:¬M m) (hM:∀b,h.size≤b→M b) {K:SliceV→ad→Prop} (hK:∀s' S,OwnS iY 2 ar M S s' (xs.take k++x::xs.drop k)→Upd M h S→K s' S):
  HC PG cd [.slice s.a s.len s.cap,.int .i64 k,.slice (some ⟨m,0,none⟩) 1 1] [.c .slice] K h:=by
 refine j1 s k ⟨some ⟨m,0,none⟩,1,1⟩ ?_;unfold fK su;have t:=T.len;have hcap:=T.cap;have Q:SRow h (some ⟨m,0,none⟩) (1*2) (iY x):=⟨rfl,.inr ⟨_,rfl,nY hv fun i v hi=>by simpa using hi⟩⟩
 refine⟨by omega,ah.2 ?_⟩;refine CondP.intro (fun e=>?_) fun e=>?_
 ·have e:k=xs.length:=by have:=of_decide_eq_true (by simpa using e:decide ((k:Int)=(s.len:Int))=true);omega
  subst e;refine⟨_,Q,AppP.own (ys:= [x]) T rfl (by simp) rfl rfl (by omega) (by simp;omega) (hM _ (au _)) fun s' S ho hu=>hK s' S ?_ hu⟩
  rw[cV,List.drop_length];exact ho
 have hlt:k<xs.length:=by
  rcases bM k xs.length with h|h
  ·exact h
  ·have:((k:Int)==(s.len:Int))=true:=by rw[beq_iff_eq];omega
   rw[this]at e;cases e
 rcases T.blk with h0|⟨b,g,ha,n,hc,hr⟩
 ·omega
 have j:((xs.take k).flatMap iY).length=k*2:=by rw[iC jy,aN,aZ hkl]
 have o:((xs.drop k).flatMap iY).length=(xs.length-k)*2:=by rw[iC jy,aJ]
 have F:m≠b:=fun e=>hvM (e▸n)
 rw[vh (f:=iY) xs k]at hc;have a:(xs.take k++x::xs.drop k).flatMap iY=(xs.take k).flatMap iY++(iY x++(xs.drop k).flatMap iY):=by rw[bv,aL]
 have d:=tD (xs.drop k);have c:(iY x).length=2:=rfl;have z:bH (iY x)=true:=rfl;generalize hAe:(xs.take k).flatMap iY=A at j hc a;generalize hBe:(xs.drop k).flatMap iY=B at o hc a d;generalize iY x=X at Q c hv a z;rw[ha];have w1:IntKind.wrap .i64 ((xs.length:Int)+((1:Nat):Int))=((xs.length+1:Nat):Int):=by rw[nA (by omega)];omega
 have w2:IntKind.wrap .i64 ((k:Int)+((1:Nat):Int))=((k+1:Nat):Int):=by rw[nA (by omega)];omega
 have w3:IntKind.wrap .i64 (((xs.length+1:Nat):Int)-(k:Int))=((xs.length+1-k:Nat):Int):=by rw[nA (by omega)];omega
 simp only[w1,w2,w3,aM,t];refine bj (fun hgt=>?_) fun hle=>?_
 ·
  have H:s.cap=xs.length:=by omega
  refine Join.plain ⟨by omega,⟨by omega,by omega,by omega,by omega⟩,fun hin=>?_,fun G=>?_⟩
  ·omega
  ·refine⟨A,_,?_,rfl,by omega,Go.growslice_fits G (by omega),fun D w=>?_⟩
   ·rw[sub_zero]
    exact ja hc (by rw[j];omega) (by simp only[cB,dJ];rw[ak,←j,dS (au _),cV])
   ·simp only[aM]at w⊢
    have V:=Upd.hnew No h (A++cI (xs.length+1-k) [.string (⟨#[]⟩:ByteArray),.string (⟨#[]⟩:ByteArray)]++cI (D-(k-0+(xs.length+1-k))) [.string (⟨#[]⟩:ByteArray),.string (⟨#[]⟩:ByteArray)]) ar;have bn:=cu h (A++cI (xs.length+1-k) [.string (⟨#[]⟩:ByteArray),.string (⟨#[]⟩:ByteArray)]++cI (D-(k-0+(xs.length+1-k))) [.string (⟨#[]⟩:ByteArray),.string (⟨#[]⟩:ByteArray)]) ar
    have C:(cI (xs.length+1-k) [.string (⟨#[]⟩:ByteArray),.string (⟨#[]⟩:ByteArray)]).length=(xs.length+1-k)*2:=jr _ _;have hz2:(cI (D-(k-0+(xs.length+1-k))) [.string (⟨#[]⟩:ByteArray),.string (⟨#[]⟩:ByteArray)]).length=(D-(k-0+(xs.length+1-k)))*2:=jr _ _;have p:k-0+(xs.length+1-k)=xs.length+1:=by omega
    rw[fy];have hsz:h.size≠m:=fun e=>by have:=aF hv;omega
    have N:h.size≠b:=fun e=>by have:=aF hc;omega
    have J:=V.get0 hc;have L:=V.get0 hv;generalize hnew h _ ar=h9 at V bn J L;rw[p]at w hz2⊢;have Z:cP 1 (xs.length+1-k)=1:=aZ (by omega);have m2:cP (xs.length-k) (xs.length+1-(k+1))=xs.length-k:=aZ (by omega);rw[Z];have xr9:SRow h9 (some ⟨m,0,none⟩) (1*2) X:=ja L (by rw[c]) (by rw[cB,bh];rw[c];omega)
    refine⟨by omega,?_⟩;rw[gO (by omega)];refine iR xr9 z bn (by simp only[ae,j,C];omega) fun h11 O u=>⟨by omega,?_⟩
    simp only[Bd];rw[gO (by omega),gO (by omega),m2];refine⟨by omega,?_⟩;have y:=u.get J (fun e=>N e.symm)
    have br:SRow h11 (some ⟨b,0+k*2,none⟩) ((xs.length-k)*2) B:=ja y o (by
     rw[aD,ak,←j,gk,←o,gh])
    refine iR br d O ?_ fun h16 P I=>?_
    ·simp only[ae,aN,aJ,j,C,c];omega
    ·refine hK _ _ ⟨by simp;omega,jy,w,.inr ⟨h.size,cI (D-(xs.length+1)) [.string (⟨#[]⟩:ByteArray),.string (⟨#[]⟩:ByteArray)],rfl,hM _ (au _),?_,by rw[jr];rfl⟩⟩ ((V.wide.trans (M':=(· =h.size)) u fun b n=>.inl (n▸hM _ (au _))).trans (M':=(· =h.size)) I fun b n=>.inl (n▸hM _ (au _)))
     rw[P,a];have:=Dl (A:=A) (X:=X) (B:=B) (Z1:=cI (xs.length+1-k) [.string (⟨#[]⟩:ByteArray),.string (⟨#[]⟩:ByteArray)]) (Z2:=cI (D-(xs.length+1)) [.string (⟨#[]⟩:ByteArray),.string (⟨#[]⟩:ByteArray)]) (r:=(xs.length-k)*2) j c (by rw[C,←eY];congr 1;omega);rw[p,←this];simp only[aD,eY,nx]
 ·have H:xs.length+1≤s.cap:=by omega
  refine⟨by omega,?_⟩;simp only[Bd,dJ];rw[sub_zero,gO (show s.cap≠k+1 by omega),gO (show s.cap≠k by omega)]
  refine⟨by omega,?_⟩;have W:2≤g.length:=by rw[hr];exact mg _ (by omega)
  refine Dc hv hc F (by rw[cz,ae];omega) ?_;refine az.2 ⟨by omega,by omega,?_⟩
  have Z:cP 1 (xs.length+1-k)=1:=aZ (by omega);have m2:cP (xs.length+1-k) (xs.length+1-(k+1))=xs.length-k:=by
   rw[show xs.length+1-(k+1)=xs.length-k by omega];exact mR (by omega)
  rw[m2];have br:SRow h (some ⟨b,0+k*2,none⟩) ((xs.length-k)*2) B:=ja hc o (by
   rw[aD,ak,←j,gk,←o,gh])
  refine iR br d hc (by simp only[ae,j,o];omega) fun h1 hb1 E=>⟨by omega,?_⟩
  rw[Z];have xr1:SRow h1 (some ⟨m,0,none⟩) (1*2) X:=ja (E.get hv F) (by rw[c]) (by rw[cB,bh];rw[c];omega);refine iR xr1 z hb1 (by simp only[ae,aN,aJ,j,o];omega) fun h2 Y hu2=>?_
  refine hK _ _ ⟨by simp;omega,jy,H,.inr ⟨b,g.drop 2,rfl,n,?_,?_⟩⟩ ((E.mono fun _ e=>.inl (e▸n)).tr (hu2.mono fun _ e=>.inl (e▸n)))
  ·rw[Y,a]
   have:=Gu (A:=A) (X:=X) (B:=B) (R:=g) (q:=2) (r:=(xs.length-k)*2) j o W;rw[←this];simp only[aD,eY,nx]
  ·rw[aJ,hr]
   simp only;rw[t];omega
abbrev ny(x:Option Addr):List Value:= [.pointer x]
theorem oH(x:Option Addr):(ny x).length=1∧0<1:=⟨rfl,by omega⟩
theorem zh:∀xs:List (Option Addr),bH (xs.flatMap ny)=true
 | []=>rfl
 |x::xs=>by rw[aL];exact jN rfl (zh xs)
theorem Dd{h:ad}{a b o d c e cb:Nat}{cv cw:Array Value}{g tb:TypeId}(hv:h[a]? =some (.cells cv g (0,0))) (i:h[b]? =some (.cells cw tb (0,0))) (k:a≠b) (m:cw.size≠0) {K:Bool→ad→Prop} (j:K false h):
  HC PG fA [.slice (some ⟨a,0,none⟩) d c,.slice (some ⟨b,o,none⟩) e cb] [.c .bool] K h:=by
 refine⟨fun w f=>.inr ⟨.bool false,w,?_,Tame.refl w,false,rfl,f▸j⟩⟩
 subst f;rw[nq];have:=Lib.run_overlaps_apart (P:=PG) w nB oz ba (by kernel_rfl) (bA PG ba) (ng (by kernel_rfl)) ⟨a,0,none⟩ ⟨b,o,none⟩ d c e cb k g tb cv.size cw.size
  (by simp[World.shape?,hv]) (by simp[World.shape?,i]) m (by simp[World.frozen?,hv]) (by simp[World.frozen?,hv])
 rw[show([Value.slice (some ⟨a,0,none⟩) d c,Value.slice (some ⟨b,o,none⟩) e cb]:List Value).toArray= #[.slice (some ⟨a,0,none⟩) d c,.slice (some ⟨b,o,none⟩) e cb]from rfl,this]
 rfl
set_option maxRecDepth 4000 in
theorem Gt{M:Nat→Prop}{h:ad}{s:SliceV}{xs:List (Option Addr)}(T:OwnS ny 1 ba M h s xs){k:Nat}(hkl:k≤xs.length)(hn:(xs.length+1)*8≤140737488355328){x:Option Addr}{m:Nat}(hv:h[m]? =some (.cells (ny x).toArray ba (0,0)))
  (hvM:¬M m) (hM:∀b,h.size≤b→M b) {K:SliceV→ad→Prop} (hK:∀s' S,OwnS ny 1 ba M S s' (xs.take k++x::xs.drop k)→Upd M h S→K s' S):
  HC PG bS [.slice s.a s.len s.cap,.int .i64 k,.slice (some ⟨m,0,none⟩) 1 1] [.c .slice] K h:=by
 refine iS s k ⟨some ⟨m,0,none⟩,1,1⟩ ?_;unfold eV;have t:=T.len;have hcap:=T.cap;have Q:SRow h (some ⟨m,0,none⟩) (1*1) (ny x):=⟨rfl,.inr ⟨_,rfl,nY hv fun i v hi=>by simpa using hi⟩⟩
 refine⟨by omega,ah.2 ?_⟩;refine CondP.intro (fun e=>?_) fun e=>?_
 ·have e:k=xs.length:=by have:=of_decide_eq_true (by simpa using e:decide ((k:Int)=(s.len:Int))=true);omega
  subst e;refine⟨_,Q,AppP.own (ys:= [x]) T rfl (by simp) rfl rfl (by omega) (by simp;omega) (hM _ (au _)) fun s' S ho hu=>hK s' S ?_ hu⟩
  rw[cV,List.drop_length];exact ho
 have hlt:k<xs.length:=by
  rcases bM k xs.length with h|h
  ·exact h
  ·have:((k:Int)==(s.len:Int))=true:=by rw[beq_iff_eq];omega
   rw[this]at e;cases e
 rcases T.blk with h0|⟨b,g,ha,n,hc,hr⟩
 ·omega
 have j:((xs.take k).flatMap ny).length=k*1:=by rw[iC oH,aN,aZ hkl]
 have o:((xs.drop k).flatMap ny).length=(xs.length-k)*1:=by rw[iC oH,aJ]
 have F:m≠b:=fun e=>hvM (e▸n)
 rw[vh (f:=ny) xs k]at hc;have a:(xs.take k++x::xs.drop k).flatMap ny=(xs.take k).flatMap ny++(ny x++(xs.drop k).flatMap ny):=by rw[bv,aL]
 have d:=zh (xs.drop k);have c:(ny x).length=1:=rfl;have z:bH (ny x)=true:=rfl;generalize hAe:(xs.take k).flatMap ny=A at j hc a;generalize hBe:(xs.drop k).flatMap ny=B at o hc a d;generalize ny x=X at Q c hv a z;rw[ha];have w1:IntKind.wrap .i64 ((xs.length:Int)+((1:Nat):Int))=((xs.length+1:Nat):Int):=by rw[nA (by omega)];omega
 have w2:IntKind.wrap .i64 ((k:Int)+((1:Nat):Int))=((k+1:Nat):Int):=by rw[nA (by omega)];omega
 have w3:IntKind.wrap .i64 (((xs.length+1:Nat):Int)-(k:Int))=((xs.length+1-k:Nat):Int):=by rw[nA (by omega)];omega
 simp only[w1,w2,w3,aM,t];refine bj (fun hgt=>?_) fun hle=>?_
 ·
  have H:s.cap=xs.length:=by omega
  refine Join.plain ⟨by omega,⟨by omega,by omega,by omega,by omega⟩,fun hin=>?_,fun G=>?_⟩
  ·omega
  ·refine⟨A,_,?_,rfl,by omega,Go.growslice_fits G (by omega),fun D w=>?_⟩
   ·rw[sub_zero]
    exact ja hc (by rw[j];omega) (by simp only[cB,dJ];rw[ak,←j,dS (au _),cV])
   ·simp only[aM]at w⊢
    have V:=Upd.hnew No h (A++cI (xs.length+1-k) [.pointer none]++cI (D-(k-0+(xs.length+1-k))) [.pointer none]) ba;have bn:=cu h (A++cI (xs.length+1-k) [.pointer none]++cI (D-(k-0+(xs.length+1-k))) [.pointer none]) ba;have C:(cI (xs.length+1-k) [.pointer none]).length=(xs.length+1-k)*1:=jr _ _;have hz2:(cI (D-(k-0+(xs.length+1-k))) [.pointer none]).length=(D-(k-0+(xs.length+1-k)))*1:=jr _ _
    have p:k-0+(xs.length+1-k)=xs.length+1:=by omega
    rw[fy];have hsz:h.size≠m:=fun e=>by have:=aF hv;omega
    have N:h.size≠b:=fun e=>by have:=aF hc;omega
    have J:=V.get0 hc;have L:=V.get0 hv;generalize hnew h _ ba=h9 at V bn J L;rw[p]at w hz2⊢;have Z:cP 1 (xs.length+1-k)=1:=aZ (by omega);have m2:cP (xs.length-k) (xs.length+1-(k+1))=xs.length-k:=aZ (by omega);rw[Z];have xr9:SRow h9 (some ⟨m,0,none⟩) (1*1) X:=ja L (by rw[c]) (by rw[cB,bh];rw[c];omega)
    refine⟨by omega,?_⟩;rw[gO (by omega)];refine iR xr9 z bn (by simp only[ae,j,C];omega) fun h11 O u=>⟨by omega,?_⟩
    simp only[Bd];rw[gO (by omega),gO (by omega),m2];refine⟨by omega,?_⟩;have y:=u.get J (fun e=>N e.symm)
    have br:SRow h11 (some ⟨b,0+k*1,none⟩) ((xs.length-k)*1) B:=ja y o (by
     rw[aD,ak,←j,gk,←o,gh])
    refine iR br d O ?_ fun h16 P I=>?_
    ·simp only[ae,aN,aJ,j,C,c];omega
    ·refine hK _ _ ⟨by simp;omega,oH,w,.inr ⟨h.size,cI (D-(xs.length+1)) [.pointer none],rfl,hM _ (au _),?_,by rw[jr];rfl⟩⟩ ((V.wide.trans (M':=(· =h.size)) u fun b n=>.inl (n▸hM _ (au _))).trans (M':=(· =h.size)) I fun b n=>.inl (n▸hM _ (au _)))
     rw[P,a];have:=Dl (A:=A) (X:=X) (B:=B) (Z1:=cI (xs.length+1-k) [.pointer none]) (Z2:=cI (D-(xs.length+1)) [.pointer none]) (r:=(xs.length-k)*1) j c (by rw[C,←eY];congr 1;omega);rw[p,←this];simp only[aD,eY,nx]
 ·have H:xs.length+1≤s.cap:=by omega
  refine⟨by omega,?_⟩;simp only[Bd,dJ];rw[sub_zero,gO (show s.cap≠k+1 by omega),gO (show s.cap≠k by omega)]
  refine⟨by omega,?_⟩;have W:1≤g.length:=by rw[hr];exact mg _ (by omega)
  refine Dd hv hc F (by rw[cz,ae];omega) ?_;refine az.2 ⟨by omega,by omega,?_⟩
  have Z:cP 1 (xs.length+1-k)=1:=aZ (by omega);have m2:cP (xs.length+1-k) (xs.length+1-(k+1))=xs.length-k:=by
   rw[show xs.length+1-(k+1)=xs.length-k by omega];exact mR (by omega)
  rw[m2];have br:SRow h (some ⟨b,0+k*1,none⟩) ((xs.length-k)*1) B:=ja hc o (by
   rw[aD,ak,←j,gk,←o,gh])
  refine iR br d hc (by simp only[ae,j,o];omega) fun h1 hb1 E=>⟨by omega,?_⟩
  rw[Z];have xr1:SRow h1 (some ⟨m,0,none⟩) (1*1) X:=ja (E.get hv F) (by rw[c]) (by rw[cB,bh];rw[c];omega);refine iR xr1 z hb1 (by simp only[ae,aN,aJ,j,o];omega) fun h2 Y hu2=>?_
  refine hK _ _ ⟨by simp;omega,oH,H,.inr ⟨b,g.drop 1,rfl,n,?_,?_⟩⟩ ((E.mono fun _ e=>.inl (e▸n)).tr (hu2.mono fun _ e=>.inl (e▸n)))
  ·rw[Y,a]
   have:=Gu (A:=A) (X:=X) (B:=B) (R:=g) (q:=1) (r:=(xs.length-k)*1) j o W;rw[←this];simp only[aD,eY,nx]
  ·rw[aJ,hr]
   simp only;rw[t];omega
abbrev kC(x:Option Addr):List Value:= [.pointer x]
theorem mE(x:Option Addr):(kC x).length=1∧0<1:=⟨rfl,by omega⟩
theorem zg:∀xs:List (Option Addr),bH (xs.flatMap kC)=true
 | []=>rfl
 |x::xs=>by rw[aL];exact jN rfl (zg xs)
theorem Db{h:ad}{a b o d c e cb:Nat}{cv cw:Array Value}{g tb:TypeId}(hv:h[a]? =some (.cells cv g (0,0))) (i:h[b]? =some (.cells cw tb (0,0))) (k:a≠b) (m:cw.size≠0) {K:Bool→ad→Prop} (j:K false h):
  HC PG fi [.slice (some ⟨a,0,none⟩) d c,.slice (some ⟨b,o,none⟩) e cb] [.c .bool] K h:=by
 refine⟨fun w f=>.inr ⟨.bool false,w,?_,Tame.refl w,false,rfl,f▸j⟩⟩
 subst f;rw[mO];have:=Lib.run_overlaps_apart (P:=PG) w mB oz aH (by kernel_rfl) (bA PG aH) (ng (by kernel_rfl)) ⟨a,0,none⟩ ⟨b,o,none⟩ d c e cb k g tb cv.size cw.size
  (by simp[World.shape?,hv]) (by simp[World.shape?,i]) m (by simp[World.frozen?,hv]) (by simp[World.frozen?,hv])
 rw[show([Value.slice (some ⟨a,0,none⟩) d c,Value.slice (some ⟨b,o,none⟩) e cb]:List Value).toArray= #[.slice (some ⟨a,0,none⟩) d c,.slice (some ⟨b,o,none⟩) e cb]from rfl,this]
 rfl
set_option maxRecDepth 4000 in
theorem Gr{M:Nat→Prop}{h:ad}{s:SliceV}{xs:List (Option Addr)}(T:OwnS kC 1 aH M h s xs){k:Nat}(hkl:k≤xs.length)(hn:(xs.length+1)*8≤140737488355328){x:Option Addr}{m:Nat}(hv:h[m]? =some (.cells (kC x).toArray aH (0,0)))
  (hvM:¬M m) (hM:∀b,h.size≤b→M b) {K:SliceV→ad→Prop} (hK:∀s' S,OwnS kC 1 aH M S s' (xs.take k++x::xs.drop k)→Upd M h S→K s' S):
  HC PG c5 [.slice s.a s.len s.cap,.int .i64 k,.slice (some ⟨m,0,none⟩) 1 1] [.c .slice] K h:=by
 refine ia s k ⟨some ⟨m,0,none⟩,1,1⟩ ?_;unfold eG;have t:=T.len;have hcap:=T.cap;have Q:SRow h (some ⟨m,0,none⟩) (1*1) (kC x):=⟨rfl,.inr ⟨_,rfl,nY hv fun i v hi=>by simpa using hi⟩⟩
 refine⟨by omega,ah.2 ?_⟩;refine CondP.intro (fun e=>?_) fun e=>?_
 ·have e:k=xs.length:=by have:=of_decide_eq_true (by simpa using e:decide ((k:Int)=(s.len:Int))=true);omega
  subst e;refine⟨_,Q,AppP.own (ys:= [x]) T rfl (by simp) rfl rfl (by omega) (by simp;omega) (hM _ (au _)) fun s' S ho hu=>hK s' S ?_ hu⟩
  rw[cV,List.drop_length];exact ho
 have hlt:k<xs.length:=by
  rcases bM k xs.length with h|h
  ·exact h
  ·have:((k:Int)==(s.len:Int))=true:=by rw[beq_iff_eq];omega
   rw[this]at e;cases e
 rcases T.blk with h0|⟨b,g,ha,n,hc,hr⟩
 ·omega
 have j:((xs.take k).flatMap kC).length=k*1:=by rw[iC mE,aN,aZ hkl]
 have o:((xs.drop k).flatMap kC).length=(xs.length-k)*1:=by rw[iC mE,aJ]
 have F:m≠b:=fun e=>hvM (e▸n)
 rw[vh (f:=kC) xs k]at hc;have a:(xs.take k++x::xs.drop k).flatMap kC=(xs.take k).flatMap kC++(kC x++(xs.drop k).flatMap kC):=by rw[bv,aL]
 have d:=zg (xs.drop k);have c:(kC x).length=1:=rfl;have z:bH (kC x)=true:=rfl;generalize hAe:(xs.take k).flatMap kC=A at j hc a;generalize hBe:(xs.drop k).flatMap kC=B at o hc a d;generalize kC x=X at Q c hv a z;rw[ha];have w1:IntKind.wrap .i64 ((xs.length:Int)+((1:Nat):Int))=((xs.length+1:Nat):Int):=by rw[nA (by omega)];omega
 have w2:IntKind.wrap .i64 ((k:Int)+((1:Nat):Int))=((k+1:Nat):Int):=by rw[nA (by omega)];omega
 have w3:IntKind.wrap .i64 (((xs.length+1:Nat):Int)-(k:Int))=((xs.length+1-k:Nat):Int):=by rw[nA (by omega)];omega
 simp only[w1,w2,w3,aM,t];refine bj (fun hgt=>?_) fun hle=>?_
 ·
  have H:s.cap=xs.length:=by omega
  refine Join.plain ⟨by omega,⟨by omega,by omega,by omega,by omega⟩,fun hin=>?_,fun G=>?_⟩
  ·omega
  ·refine⟨A,_,?_,rfl,by omega,Go.growslice_fits G (by omega),fun D w=>?_⟩
   ·rw[sub_zero]
    exact ja hc (by rw[j];omega) (by simp only[cB,dJ];rw[ak,←j,dS (au _),cV])
   ·simp only[aM]at w⊢
    have V:=Upd.hnew No h (A++cI (xs.length+1-k) [.pointer none]++cI (D-(k-0+(xs.length+1-k))) [.pointer none]) aH;have bn:=cu h (A++cI (xs.length+1-k) [.pointer none]++cI (D-(k-0+(xs.length+1-k))) [.pointer none]) aH;have C:(cI (xs.length+1-k) [.pointer none]).length=(xs.length+1-k)*1:=jr _ _;have hz2:(cI (D-(k-0+(xs.length+1-k))) [.pointer none]).length=(D-(k-0+(xs.length+1-k)))*1:=jr _ _
    have p:k-0+(xs.length+1-k)=xs.length+1:=by omega
    rw[fy];have hsz:h.size≠m:=fun e=>by have:=aF hv;omega
    have N:h.size≠b:=fun e=>by have:=aF hc;omega
    have J:=V.get0 hc;have L:=V.get0 hv;generalize hnew h _ aH=h9 at V bn J L;rw[p]at w hz2⊢;have Z:cP 1 (xs.length+1-k)=1:=aZ (by omega);have m2:cP (xs.length-k) (xs.length+1-(k+1))=xs.length-k:=aZ (by omega);rw[Z];have xr9:SRow h9 (some ⟨m,0,none⟩) (1*1) X:=ja L (by rw[c]) (by rw[cB,bh];rw[c];omega)
    refine⟨by omega,?_⟩;rw[gO (by omega)];refine iR xr9 z bn (by simp only[ae,j,C];omega) fun h11 O u=>⟨by omega,?_⟩
    simp only[Bd];rw[gO (by omega),gO (by omega),m2];refine⟨by omega,?_⟩;have y:=u.get J (fun e=>N e.symm)
    have br:SRow h11 (some ⟨b,0+k*1,none⟩) ((xs.length-k)*1) B:=ja y o (by
     rw[aD,ak,←j,gk,←o,gh])
    refine iR br d O ?_ fun h16 P I=>?_
    ·simp only[ae,aN,aJ,j,C,c];omega
    ·refine hK _ _ ⟨by simp;omega,mE,w,.inr ⟨h.size,cI (D-(xs.length+1)) [.pointer none],rfl,hM _ (au _),?_,by rw[jr];rfl⟩⟩ ((V.wide.trans (M':=(· =h.size)) u fun b n=>.inl (n▸hM _ (au _))).trans (M':=(· =h.size)) I fun b n=>.inl (n▸hM _ (au _)))
     rw[P,a];have:=Dl (A:=A) (X:=X) (B:=B) (Z1:=cI (xs.length+1-k) [.pointer none]) (Z2:=cI (D-(xs.length+1)) [.pointer none]) (r:=(xs.length-k)*1) j c (by rw[C,←eY];congr 1;omega);rw[p,←this];simp only[aD,eY,nx]
 ·have H:xs.length+1≤s.cap:=by omega
  refine⟨by omega,?_⟩;simp only[Bd,dJ];rw[sub_zero,gO (show s.cap≠k+1 by omega),gO (show s.cap≠k by omega)]
  refine⟨by omega,?_⟩;have W:1≤g.length:=by rw[hr];exact mg _ (by omega)
  refine Db hv hc F (by rw[cz,ae];omega) ?_;refine az.2 ⟨by omega,by omega,?_⟩
  have Z:cP 1 (xs.length+1-k)=1:=aZ (by omega);have m2:cP (xs.length+1-k) (xs.length+1-(k+1))=xs.length-k:=by
   rw[show xs.length+1-(k+1)=xs.length-k by omega];exact mR (by omega)
  rw[m2];have br:SRow h (some ⟨b,0+k*1,none⟩) ((xs.length-k)*1) B:=ja hc o (by
   rw[aD,ak,←j,gk,←o,gh])
  refine iR br d hc (by simp only[ae,j,o];omega) fun h1 hb1 E=>⟨by omega,?_⟩
  rw[Z];have xr1:SRow h1 (some ⟨m,0,none⟩) (1*1) X:=ja (E.get hv F) (by rw[c]) (by rw[cB,bh];rw[c];omega);refine iR xr1 z hb1 (by simp only[ae,aN,aJ,j,o];omega) fun h2 Y hu2=>?_
  refine hK _ _ ⟨by simp;omega,mE,H,.inr ⟨b,g.drop 1,rfl,n,?_,?_⟩⟩ ((E.mono fun _ e=>.inl (e▸n)).tr (hu2.mono fun _ e=>.inl (e▸n)))
  ·rw[Y,a]
   have:=Gu (A:=A) (X:=X) (B:=B) (R:=g) (q:=1) (r:=(xs.length-k)*1) j o W;rw[←this];simp only[aD,eY,nx]
  ·rw[aJ,hr]
   simp only;rw[t];omega
end Go.Proofs
namespace Go.Proofs
open Go Go.Lift
theorem xG{W:Nat→Prop}{h:ad}{s:SliceV}{xs:List (ByteArray×ByteArray)}(d:Sl iY 2 W h s xs)(n:xs.length*32≤140737488355328){K:SliceV→ad→Prop}
  (g:∀s' c,OwnS iY 2 ar (fun b=>h.size≤b) c s' xs→Upd No h c→K s' c):HC PG co [.slice s.a s.len s.cap] [.c .slice] K h:=by
 refine km s ?_;unfold fU su;refine CondP.intro (fun e=>?_) (fun m=>?_)
 ·have e:s.a=none:=by simpa using e
  have hx:xs= []:=by
   by_cases hx:xs= []
   ·exact hx
   ·obtain⟨a,i,_⟩:=d.row hx
    rw[e]at i;cases i
  subst hx;exact g _ _ (OwnS.nil jy) (Upd.refl _ _)
 ·have p:=d.upd (Upd.hnew No h [] ar) (fun _ h=>h.elim)
  refine⟨_,p.srow,?_⟩;refine AppP.own (f:=iY) (M:=fun b=>h.size≤b) (xs:= []) (ys:=xs) ⟨rfl,jy,au _,.inl rfl⟩ d.len rfl (tD xs) rfl (by omega) (by simpa using n) (by rw[jP];omega) fun s' c o k=>?_
  exact g _ _ o ((Upd.hnew No h [] ar).trans k fun b j=>.inr j)
theorem GH{M:Nat→Prop}{h:ad}{s:SliceV}{xs:List (ByteArray×ByteArray)}(t:OwnS iY 2 ar M h s xs){k:Nat}(y:k<xs.length)(L:xs.length≤4398046511104)
  {K:SliceV→ad→Prop}(H:∀s' h',OwnS iY 2 ar M h' s' (xs.take k++xs.drop (k+1))→Upd M h h'→K s' h'):
  HC PG dI [.slice s.a s.len s.cap,.int .i64 k,.int .i64 ((k+1:Nat):Int)] [.c .slice] K h:=by
 refine j2 s k ((k+1:Nat):Int) ?_;unfold fL su;have f:=t.len;have C:=t.cap;rcases t.blk with P|⟨b,a,F,q,hc,E⟩
 ·omega
 have p:((xs.take k).flatMap iY).length=k*2:=by rw[iC jy,aN,aZ (by omega)]
 have m:((xs.drop (k+1)).flatMap iY).length=(xs.length-(k+1))*2:=by rw[iC jy,aJ]
 have I:xs.flatMap iY=(xs.take k).flatMap iY++(iY xs[k]++(xs.drop (k+1)).flatMap iY):=by
  rw[←aL,←gt y];exact vh xs k
 rw[I]at hc;have d:=tD (xs.drop (k+1));have c:(xs.take k++xs.drop (k+1)).flatMap iY=(xs.take k).flatMap iY++(xs.drop (k+1)).flatMap iY:=bv;have J:(iY xs[k]).length=2:=rfl;generalize (xs.take k).flatMap iY=A at p hc c;generalize (xs.drop (k+1)).flatMap iY=B at m hc d c;generalize iY xs[k]=X at J hc;rw[F];simp only[f,aM];refine⟨by omega,by omega,by omega,CondP.intro (fun e=>?_) fun _=>?_⟩
 ·have:(k:Int)=((k+1:Nat):Int):=by simpa using e
  omega
 refine Join.plain ⟨by omega,by omega,B,?_,?_⟩
 ·by_cases g:xs.length=k+1
  ·exact⟨m,.inl (bC.1 (by rw[m,g,oq,rJ]))⟩
  rw[gO (by omega)];refine ja hc m ?_;have:(A++X).length=0+(k+1)*2:=by rw[ae];omega
  rw[show A++(X++B)++a=(A++X)++(B++a) by simp only[ak],bT this,cg m]
 ·rw[sub_zero]
  refine GN hc (by simp only[ae];omega) (by omega) d fun O j z=>?_
  have x:a.length=(s.cap-xs.length)*2:=by rw[E,f]
  refine⟨by dsimp only;omega,by dsimp only;omega,?_⟩
  simp only[Bd];rw[gO (by omega)];have G:xs.length-(k-0+(xs.length-(k+1)))=1:=by omega
  have u:(A++(X++B)++a).drop ((k-0)*2+B.length)=(X++B).drop B.length++a:=by
   rw[ak,←cZ,bT (show A.length=(k-0)*2 by rw[p,dJ]),dV (by rw[ae];omega)]
  have v:(A++(X++B)++a).take ((k-0)*2)=A:=by rw[ak,cg (show A.length=(k-0)*2 by rw[p,dJ])]
  rw[u,v]at j;have o:((X++B).drop B.length).length=2:=by rw[aJ,ae];omega
  generalize (X++B).drop B.length=D at o j;rw[G];have hz:(cI 1 [.string (⟨#[]⟩:ByteArray),.string (⟨#[]⟩:ByteArray)]).length=2:=rfl;have i:(A++B).length=0+(k-0+(xs.length-(k+1)))*2:=by rw[ae,p,m];omega
  refine C7 j (by simp only[ae]at i⊢;omega) fun N n w=>?_
  rw[cg i,←cZ,bT i]at n;refine H _ _ ⟨by simp;omega,jy,by simp only;omega,.inr ⟨b,cI 1 [.string (⟨#[]⟩:ByteArray),.string (⟨#[]⟩:ByteArray)]++(D++a).drop (cI 1 [.string (⟨#[]⟩:ByteArray),.string (⟨#[]⟩:ByteArray)]).length,rfl,q,?_,?_⟩⟩ ((z.mono fun _ e=>.inl (e▸q)).tr (w.mono fun _ e=>.inl (e▸q)))
  ·rw[n,c];simp only[ak]
  ·simp only[ae,aJ,hz,o,x]
   omega
theorem CE{W:Nat→Prop}{h:ad}{s:SliceV}{xs:List (Option Addr)}(d:Sl ny 1 W h s xs)(n:xs.length*8≤140737488355328){K:SliceV→ad→Prop}
  (g:∀s' c,OwnS ny 1 ba (fun b=>h.size≤b) c s' xs→Upd No h c→K s' c):HC PG cC [.slice s.a s.len s.cap] [.c .slice] K h:=by
 refine jd s ?_;unfold fh;refine CondP.intro (fun e=>?_) (fun m=>?_)
 ·have e:s.a=none:=by simpa using e
  have hx:xs= []:=by
   by_cases hx:xs= []
   ·exact hx
   ·obtain⟨a,i,_⟩:=d.row hx
    rw[e]at i;cases i
  subst hx;exact g _ _ (OwnS.nil oH) (Upd.refl _ _)
 ·have p:=d.upd (Upd.hnew No h [] ba) (fun _ h=>h.elim)
  refine⟨_,p.srow,?_⟩;refine AppP.own (f:=ny) (M:=fun b=>h.size≤b) (xs:= []) (ys:=xs) ⟨rfl,oH,au _,.inl rfl⟩ d.len rfl (zh xs) rfl (by omega) (by simpa using n) (by rw[jP];omega) fun s' c o k=>?_
  exact g _ _ o ((Upd.hnew No h [] ba).trans k fun b j=>.inr j)
theorem GI{M:Nat→Prop}{h:ad}{s:SliceV}{xs:List (Option Addr)}(t:OwnS ny 1 ba M h s xs){k:Nat}(y:k<xs.length)(L:xs.length≤4398046511104)
  {K:SliceV→ad→Prop}(H:∀s' h',OwnS ny 1 ba M h' s' (xs.take k++xs.drop (k+1))→Upd M h h'→K s' h'):
  HC PG dh [.slice s.a s.len s.cap,.int .i64 k,.int .i64 ((k+1:Nat):Int)] [.c .slice] K h:=by
 refine iT s k ((k+1:Nat):Int) ?_;unfold eW;have f:=t.len;have C:=t.cap;rcases t.blk with P|⟨b,a,F,q,hc,E⟩
 ·omega
 have p:((xs.take k).flatMap ny).length=k*1:=by rw[iC oH,aN,aZ (by omega)]
 have m:((xs.drop (k+1)).flatMap ny).length=(xs.length-(k+1))*1:=by rw[iC oH,aJ]
 have I:xs.flatMap ny=(xs.take k).flatMap ny++(ny xs[k]++(xs.drop (k+1)).flatMap ny):=by
  rw[←aL,←gt y];exact vh xs k
 rw[I]at hc;have d:=zh (xs.drop (k+1));have c:(xs.take k++xs.drop (k+1)).flatMap ny=(xs.take k).flatMap ny++(xs.drop (k+1)).flatMap ny:=bv;have J:(ny xs[k]).length=1:=rfl;generalize (xs.take k).flatMap ny=A at p hc c;generalize (xs.drop (k+1)).flatMap ny=B at m hc d c;generalize ny xs[k]=X at J hc;rw[F];simp only[f,aM];refine⟨by omega,by omega,by omega,CondP.intro (fun e=>?_) fun _=>?_⟩
 ·have:(k:Int)=((k+1:Nat):Int):=by simpa using e
  omega
 refine Join.plain ⟨by omega,by omega,B,?_,?_⟩
 ·by_cases g:xs.length=k+1
  ·exact⟨m,.inl (bC.1 (by rw[m,g,oq,rJ]))⟩
  rw[gO (by omega)];refine ja hc m ?_;have:(A++X).length=0+(k+1)*1:=by rw[ae];omega
  rw[show A++(X++B)++a=(A++X)++(B++a) by simp only[ak],bT this,cg m]
 ·rw[sub_zero]
  refine GN hc (by simp only[ae];omega) (by omega) d fun O j z=>?_
  have x:a.length=(s.cap-xs.length)*1:=by rw[E,f]
  refine⟨by dsimp only;omega,by dsimp only;omega,?_⟩
  simp only[Bd];rw[gO (by omega)];have G:xs.length-(k-0+(xs.length-(k+1)))=1:=by omega
  have u:(A++(X++B)++a).drop ((k-0)*1+B.length)=(X++B).drop B.length++a:=by
   rw[ak,←cZ,bT (show A.length=(k-0)*1 by rw[p,dJ]),dV (by rw[ae];omega)]
  have v:(A++(X++B)++a).take ((k-0)*1)=A:=by rw[ak,cg (show A.length=(k-0)*1 by rw[p,dJ])]
  rw[u,v]at j;have o:((X++B).drop B.length).length=1:=by rw[aJ,ae];omega
  generalize (X++B).drop B.length=D at o j;rw[G];have hz:(cI 1 [.pointer none]).length=1:=rfl;have i:(A++B).length=0+(k-0+(xs.length-(k+1)))*1:=by rw[ae,p,m];omega
  refine C7 j (by simp only[ae]at i⊢;omega) fun N n w=>?_
  rw[cg i,←cZ,bT i]at n;refine H _ _ ⟨by simp;omega,oH,by simp only;omega,.inr ⟨b,cI 1 [.pointer none]++(D++a).drop (cI 1 [.pointer none]).length,rfl,q,?_,?_⟩⟩ ((z.mono fun _ e=>.inl (e▸q)).tr (w.mono fun _ e=>.inl (e▸q)))
  ·rw[n,c];simp only[ak]
  ·simp only[ae,aJ,hz,o,x]
   omega
theorem CD{W:Nat→Prop}{h:ad}{s:SliceV}{xs:List (Option Addr)}(d:Sl kC 1 W h s xs)(n:xs.length*8≤140737488355328){K:SliceV→ad→Prop}
  (g:∀s' c,OwnS kC 1 aH (fun b=>h.size≤b) c s' xs→Upd No h c→K s' c):HC PG cq [.slice s.a s.len s.cap] [.c .slice] K h:=by
 refine iG s ?_;unfold eM;refine CondP.intro (fun e=>?_) (fun m=>?_)
 ·have e:s.a=none:=by simpa using e
  have hx:xs= []:=by
   by_cases hx:xs= []
   ·exact hx
   ·obtain⟨a,i,_⟩:=d.row hx
    rw[e]at i;cases i
  subst hx;exact g _ _ (OwnS.nil mE) (Upd.refl _ _)
 ·have p:=d.upd (Upd.hnew No h [] aH) (fun _ h=>h.elim)
  refine⟨_,p.srow,?_⟩;refine AppP.own (f:=kC) (M:=fun b=>h.size≤b) (xs:= []) (ys:=xs) ⟨rfl,mE,au _,.inl rfl⟩ d.len rfl (zg xs) rfl (by omega) (by simpa using n) (by rw[jP];omega) fun s' c o k=>?_
  exact g _ _ o ((Upd.hnew No h [] aH).trans k fun b j=>.inr j)
theorem GG{M:Nat→Prop}{h:ad}{s:SliceV}{xs:List (Option Addr)}(t:OwnS kC 1 aH M h s xs){k:Nat}(y:k<xs.length)(L:xs.length≤4398046511104)
  {K:SliceV→ad→Prop}(H:∀s' h',OwnS kC 1 aH M h' s' (xs.take k++xs.drop (k+1))→Upd M h h'→K s' h'):
  HC PG c7 [.slice s.a s.len s.cap,.int .i64 k,.int .i64 ((k+1:Nat):Int)] [.c .slice] K h:=by
 refine ie s k ((k+1:Nat):Int) ?_;unfold eH;have f:=t.len;have C:=t.cap;rcases t.blk with P|⟨b,a,F,q,hc,E⟩
 ·omega
 have p:((xs.take k).flatMap kC).length=k*1:=by rw[iC mE,aN,aZ (by omega)]
 have m:((xs.drop (k+1)).flatMap kC).length=(xs.length-(k+1))*1:=by rw[iC mE,aJ]
 have I:xs.flatMap kC=(xs.take k).flatMap kC++(kC xs[k]++(xs.drop (k+1)).flatMap kC):=by
  rw[←aL,←gt y];exact vh xs k
 rw[I]at hc;have d:=zg (xs.drop (k+1));have c:(xs.take k++xs.drop (k+1)).flatMap kC=(xs.take k).flatMap kC++(xs.drop (k+1)).flatMap kC:=bv;have J:(kC xs[k]).length=1:=rfl;generalize (xs.take k).flatMap kC=A at p hc c;generalize (xs.drop (k+1)).flatMap kC=B at m hc d c;generalize kC xs[k]=X at J hc;rw[F];simp only[f,aM];refine⟨by omega,by omega,by omega,CondP.intro (fun e=>?_) fun _=>?_⟩
 ·have:(k:Int)=((k+1:Nat):Int):=by simpa using e
  omega
 refine Join.plain ⟨by omega,by omega,B,?_,?_⟩
 ·by_cases g:xs.length=k+1
  ·exact⟨m,.inl (bC.1 (by rw[m,g,oq,rJ]))⟩
  rw[gO (by omega)];refine ja hc m ?_;have:(A++X).length=0+(k+1)*1:=by rw[ae];omega
  rw[show A++(X++B)++a=(A++X)++(B++a) by simp only[ak],bT this,cg m]
 ·rw[sub_zero]
  refine GN hc (by simp only[ae];omega) (by omega) d fun O j z=>?_
  have x:a.length=(s.cap-xs.length)*1:=by rw[E,f]
  refine⟨by dsimp only;omega,by dsimp only;omega,?_⟩
  simp only[Bd];rw[gO (by omega)];have G:xs.length-(k-0+(xs.length-(k+1)))=1:=by omega
  have u:(A++(X++B)++a).drop ((k-0)*1+B.length)=(X++B).drop B.length++a:=by
   rw[ak,←cZ,bT (show A.length=(k-0)*1 by rw[p,dJ]),dV (by rw[ae];omega)]
  have v:(A++(X++B)++a).take ((k-0)*1)=A:=by rw[ak,cg (show A.length=(k-0)*1 by rw[p,dJ])]
  rw[u,v]at j;have o:((X++B).drop B.length).length=1:=by rw[aJ,ae];omega
  generalize (X++B).drop B.length=D at o j;rw[G];have hz:(cI 1 [.pointer none]).length=1:=rfl;have i:(A++B).length=0+(k-0+(xs.length-(k+1)))*1:=by rw[ae,p,m];omega
  refine C7 j (by simp only[ae]at i⊢;omega) fun N n w=>?_
  rw[cg i,←cZ,bT i]at n;refine H _ _ ⟨by simp;omega,mE,by simp only;omega,.inr ⟨b,cI 1 [.pointer none]++(D++a).drop (cI 1 [.pointer none]).length,rfl,q,?_,?_⟩⟩ ((z.mono fun _ e=>.inl (e▸q)).tr (w.mono fun _ e=>.inl (e▸q)))
  ·rw[n,c];simp only[ak]
  ·simp only[ae,aJ,hz,o,x]
   omega
end Go.Proofs
namespace Go.Proofs
open Go.Lift
abbrev Pr:=ByteArray×ByteArray
theorem xH{a b:ByteArray}:a.toList=b.toList↔a=b:=by
 constructor
 ·intro h
  rw[ByteArray.toList_eq,ByteArray.toList_eq]at h;cases a;cases b;simp at h;subst h;rfl
 ·rintro rfl;rfl
def kl(a b:ByteArray):Prop:=Op.bytesLess a.toList b.toList=true
instance (a b:ByteArray):Decidable (kl a b):=inferInstanceAs (Decidable (_=true))
theorem Gj{a b:ByteArray}:kl a b↔a.toList<b.toList:=by unfold kl;rw[bytesLess_eq,decide_eq_true_iff]
theorem dq(a:ByteArray):¬kl a a:=by rw[Gj];exact List.lt_irrefl _
theorem lR{a b c:ByteArray}(h:kl a b)(k:kl b c):kl a c:=by rw[Gj]at*;exact List.lt_trans h k
theorem tri:∀x y:List UInt8,Op.bytesLess x y=false→x≠y→Op.bytesLess y x=true
 | [],[],_,h=>absurd rfl h
 | [],_::_,h,_=>by simp[Op.bytesLess]at h
 |_::_,[],_,_=>rfl
 |a::x,b::y,h,hn=>by
  simp only[Op.bytesLess,Bool.or_eq_false_iff,decide_eq_false_iff_not,Bool.and_eq_false_iff]at h;simp only[Op.bytesLess,Bool.or_eq_true,decide_eq_true_iff,Bool.and_eq_true];by_cases e:a=b
  ·subst e
   right;refine⟨by simp,tri x y ?_ fun e=>hn (by rw[e])⟩
   rcases h.2 with h|h
   ·simp at h
   ·exact h
  ·left
   have c:=h.1;rw[UInt8.lt_iff_toNat_lt]at c⊢;have:a.toNat≠b.toNat:=fun h=>e (UInt8.toNat_inj.1 h)
   omega
theorem Ar{a b:ByteArray}(h:¬kl a b)(k:a≠b):kl b a:=tri _ _ (by unfold kl at h;simpa using h) fun e=>k (xH.1 e)
def E5(a b:ByteArray):Int:=if kl a b then-1 else if a=b then 0 else 1
theorem EO{x:ByteArray}{h:ad}{K:Bool→ad→Prop}(a:K false h):HC PG kT [.string x] [.c .bool] K h:=by
 refine y5 x ?_;unfold sh;simpa using a
theorem GJ{a b:ByteArray}{h:ad}{K:Int→ad→Prop}(c:K (E5 a b) h):HC PG l6 [.string a,.string b] [.c (.int .i64)] K h:=by
 refine wS a b ?_;unfold pZ;refine EO (EO (ah.2 (ah.2 ?_)));unfold E5 at c;refine CondP.intro (fun e=>?_) fun e=>?_
 ·rw[if_pos (show kl a b from e)]at c;exact c
 ·have f:¬kl a b:=fun h=>by rw[show Op.bytesLess a.toList b.toList=true from h]at e;cases e
  rw[if_neg f]at c;rw[e];refine CondP.intro (fun d=>?_) fun d=>?_
  ·rw[if_neg (fun h=>by subst h;simp at d)]at c;exact c
  ·have:a.toList=b.toList:=by simpa using d
   rw[if_pos (xH.1 this)]at c;exact c
theorem Kb{p:Pr}{k:ByteArray}{h:ad}{K:Int→ad→Prop}(a:∀h',Upd No h h'→K (E5 p.1 k) h'):HC PG oe [.agg #[.string p.1,.string p.2],.string k] [.c (.int .i64)] K h:=by
 refine DQ p k ?_;unfold wY aE qz ui;have b1:=cu h [.string p.1,.string p.2] ar;refine⟨p.1,by rw[fy,bG,aS b1];rfl,GJ (a _ (Upd.hnew No h _ _))⟩
abbrev cp(l:List Pr):Prop:=l.Pairwise fun p q=>kl p.1 q.1
def lh(l:List Pr)(k:ByteArray):Nat:=(l.takeWhile fun p=>decide (kl p.1 k)).length
def bQ(l:List Pr)(k:ByteArray):Bool:=l.any fun p=>decide (p.1=k)
theorem JW{l:List Pr}{k:ByteArray}{i:Nat}(hi:i≤l.length)(b:∀j (h:j<l.length),j<i→kl l[j].1 k)(a:∀(h:i<l.length),¬kl l[i].1 k):lh l k=i:=by
 unfold lh;induction l generalizing i with
 |nil=>simp at hi;simp[hi]
 |cons p l ih=>
  rw[List.takeWhile_cons];cases i with
  |zero=>
   have:=a (by simp);simp only[List.getElem_cons_zero]at this;rw[if_neg (by simpa using this)];rfl
  |succ i=>
   have:=b 0 (by simp) (by omega);simp only[List.getElem_cons_zero]at this;rw[if_pos (by simpa using this),aO];congr 1
   refine ih (by simpa using hi) (fun j c d=>?_) fun h=>?_
   ·have:=b (j+1) (by simpa using c) (by omega)
    simpa using this
   ·have:=a (by simpa using h)
    simpa using this
theorem JX(l:List Pr)(k:ByteArray):lh l k≤l.length:=by
 unfold lh;exact(List.takeWhile_prefix _).length_le
theorem Dr{W:Nat→Prop}{h:ad}{s:SliceV}{l:List Pr}(V:Sl iY 2 W h s l)(hr:cp l)(hn:l.length≤1000000000)(k:ByteArray){K:Int×Bool→ad→Prop}
  (E:∀z,Upd No h z→K ((lh l k:Int),bQ l k) z):HC PG ni [.slice s.a s.len s.cap,.string k] [.c (.int .i64),.c .bool] K h:=by
 refine Ff s k ?_;unfold yN;refine ga s k _ ?_;unfold dz fH cG rP yU;have Y:=V.len;have N:∀{p:Pr} {h:ad} {K:Int→ad→Prop},(∀z,Upd No h z→K (E5 p.1 k) z)→HV PG (.func (.func oe) #[] #[]) [.agg #[.string p.1,.string p.2],.string k] [.c (.int .i64)] K h:=fun E=>HV.mk' (Kb E)
 refine LoopP.ghost (fun(g:Nat×Nat) (t:Int×Int) z=>t.1=(g.1:Int)∧t.2=(g.2:Int)∧g.1≤g.2∧g.2≤l.length∧Upd No h z∧(∀j (R:j<l.length),j<g.1→kl l[j].1 k)∧(∀j (R:j<l.length),g.2≤j→¬kl l[j].1 k)) (fun g=>g.2-g.1) (0,l.length)
  ⟨rfl,by simp only;omega,by simp,by simp,Upd.refl _ _,fun j R h=>by omega,fun j R h=>by simp only at h;omega⟩ ?_
 rintro I ⟨i,j⟩ ⟨ti,tj⟩ z ⟨Z,e2,B,D,G,n,w⟩ X;simp only at Z e2 B D n w;subst Z e2;have M:=V.upd G fun _ h=>h.elim
 have mono:∀a b (F:a<l.length) (T:b<l.length),a<b→kl l[a].1 l[b].1:=fun a b F T O=>cn.1 hr a b F T O
 refine bj (fun u=>?_) fun Q=>?_
 ·have u:i<j:=by have:(i:Int)<(j:Int):=u;omega
  have em:IntKind.wrap .i64 (eE (IntKind.wrap .u64 (IntKind.wrap .i64 ((i:Int)+(j:Int)))) (2^(min (1:Int).toNat (IntKind.bits .u64))))=(((i+j)/2:Nat):Int):=by
   have e3:(2^(min (1:Int).toNat (IntKind.bits .u64)):Int)=2:=rfl;rw[e3,nA (x:=(i:Int)+(j:Int)) (by omega),Go.IntWalk.u64_in _ (by omega),jG _ (by omega),nA (by omega)];omega
  refine⟨by decide,?_⟩;simp only[Bd];rw[em];generalize hm:(i+j)/2=m;have C:m<l.length:=by omega
  obtain⟨a,F,_,hv⟩:=M.at (ag C);refine⟨by omega,a,F,l[m].1,hv 0 _ rfl,l[m].2,hv 1 _ rfl,N fun h2 v=>?_⟩
  refine bj (fun o=>?_) fun H=>?_
  ·have c:kl l[m].1 k:=by
    unfold E5 at o;by_cases c:kl l[m].1 k
    ·exact c
    ·rw[if_neg c]at o;split at o<;>omega
   refine X (m+1,j) _ _ ⟨by simp only;rw[nA (by omega)];omega,rfl,by simp only;omega,D,G.tr v,fun q y A=>?_,w⟩ (by simp only;omega)
   simp only at A;rcases bM q m with h|h
   ·exact lR (mono q m y C h) c
   ·have:q=m:=by omega
    subst this;exact c
  ·have d:¬kl l[m].1 k:=fun c=>H (by unfold E5;rw[if_pos c];decide)
   refine X (i,m) _ _ ⟨rfl,rfl,by simp only;omega,by simp only;omega,G.tr v,n,fun q y A L=>?_⟩ (by simp only;omega)
   simp only at A;rcases bM m q with h|h
   ·exact d (lR (mono m q C y h) L)
   ·have:q=m:=by omega
    subst this;exact d L
 ·have B:i=j:=by have:¬(i:Int)<(j:Int):=Q;omega
  subst B;have J:lh l k=i:=JW D n fun hi=>w i hi (au _)
  rw[J]at E;refine bj (fun u=>?_) fun S=>?_
  ·have f:i<l.length:=by have:(i:Int)<(s.len:Int):=u;omega
   obtain⟨a,F,_,hv⟩:=M.at (ag f);refine⟨by simp only;omega,a,F,l[i].1,hv 0 _ rfl,l[i].2,hv 1 _ rfl,N fun h2 v=>?_⟩
   have d:=w i f (au _);have P:(E5 l[i].1 k==(0:Int))=bQ l k:=by
    unfold E5 bQ;rw[if_neg d,kX,bO];constructor
    ·intro h
     split at h
     ·rename_i e;exact⟨l[i],List.getElem_mem f,decide_eq_true e⟩
     ·simp at h
    ·rintro⟨p,J,e⟩
     have e:=of_decide_eq_true e;obtain⟨q,y,rfl⟩:=List.mem_iff_getElem.1 J;have:q=i:=by
      rcases Nat.lt_trichotomy q i with h|h|h
      ·exact absurd (e▸n q y h) (dq _)
      ·exact h
      ·exact absurd (e▸mono i q f y h) d
     subst this;rw[if_pos e];rfl
   rw[P];exact E _ (G.tr v)
  ·have f:i=l.length:=by have:¬(i:Int)<(s.len:Int):=S;omega
   have P:bQ l k=false:=by
    unfold bQ;rw[List.any_eq_false];intro p J e;have e:=of_decide_eq_true e;obtain⟨q,y,rfl⟩:=List.mem_iff_getElem.1 J;exact absurd (e▸n q y (by omega)) (dq _)
   rw[P]at E;exact E _ G
end Go.Proofs
namespace Go.Proofs
open Go.Lift
theorem OwnS.zero{α:Type}{f:α→List Value}{c:Nat}{t:TypeId}{M:Nat→Prop}{h:ad}{s:SliceV}{xs:List α}(d:OwnS f c t M h s xs):OwnS f c t M h ⟨aK s.a 0 s.cap c,0-0,s.cap-0⟩ []:=by
 have i:∀x,(f x).length=c∧0<c:=d.ne;have g:=d.len;have e:=d.cap;refine⟨rfl,i,by simp only;omega,?_⟩
 rcases d.blk with n|⟨b,a,m,k,hc,j⟩
 ·exact .inl (by simp only;omega)
 ·refine .inr ⟨b,xs.flatMap f++a,by rw[m,sub_zero],k,hc,?_⟩
  rw[ae,iC i,j,←Nat.add_mul];simp only;congr 1;omega
def Fv:Pr:=(⟨#[]⟩,⟨#[]⟩)
theorem G9(n:Nat):cI n [.string (⟨#[]⟩:ByteArray),.string (⟨#[]⟩:ByteArray)]=(gi n Fv).flatMap iY:=by
 unfold cI;induction n with
 |zero=>rfl
 |succ n ih=>rw[kA,kA,aL,←ih];rfl
theorem L0{n:Nat}(i:n*32≤140737488355328){h:ad}{K:SliceV→ad→Prop}(c:∀s' a,OwnS iY 2 ar (fun b=>h.size≤b) a s' []→Upd No h a→K s' a):
  HC PG dY [.slice none 0 0,.int .i64 n] [.c .slice] K h:=by
 refine kN ⟨none,0,0⟩ n ?_;unfold f7 su;have e:IntKind.wrap .i64 ((n:Int)-IntKind.wrap .i64 (((0:Nat):Int)-((0:Nat):Int)))=(n:Int):=by rw[nA (x:=((0:Nat):Int)-((0:Nat):Int)) (by omega),nA (by omega)];omega
 refine Join.plain (bj (fun h=>by omega) fun _=>?_)
 simp only[Bd];rw[e];refine bj (fun k=>?_) fun hz=>c _ _ (OwnS.nil jy) (Upd.refl _ _)
 refine⟨by omega,⟨by omega,by omega,by omega,by omega⟩,?_⟩
 refine AppP.own (f:=iY) (M:=fun b=>h.size≤b) (xs:= []) (ys:=gi n Fv) (OwnS.nil jy) (by simp) (G9 _) (by rw[G9];exact tD _) rfl (by omega) (by simpa using i) (au _) fun s' a j g=>?_
 exact⟨by omega,c _ _ (OwnS.zero j) (g.mono fun b d=>.inr d)⟩
abbrev Om(s:SliceV):List Value:= [.slice s.a s.len s.cap]
def ParS(h:ad):List SliceV→List (List Pr)→Prop
 | [],[]=>True
 |v::vs,l::ls=>Sl iY 2 No h v l∧ParS h vs ls
 |_,_=>False
theorem ParS.upd{h a:ad}(k:Upd No h a):∀{vs:List SliceV} {ls:List (List Pr)},ParS h vs ls→ParS a vs ls
 | [],[],_=>trivial
 |_::_,_::_,q=>⟨q.1.upd k fun _ h=>h.elim,ParS.upd k q.2⟩
 | [],_::_,q=>q.elim
 |_::_,[],q=>q.elim
theorem ParS.len{h:ad}:∀{vs:List SliceV} {ls:List (List Pr)},ParS h vs ls→vs.length=ls.length
 | [],[],_=>rfl
 |_::_,_::_,q=>by rw[aO,aO,ParS.len q.2]
 | [],_::_,q=>q.elim
 |_::_,[],q=>q.elim
theorem ParS.at{h:ad}:∀{vs:List SliceV} {ls:List (List Pr)},ParS h vs ls→∀{i:Nat} (h1:i<vs.length) (h2:i<ls.length),Sl iY 2 No h vs[i] ls[i]
 |_::_,_::_,q,0,_,_=>q.1
 |_::_,_::_,q,i+1,h1,h2=>ParS.at q.2 (by simpa using h1) (by simpa using h2)
theorem Cy(ls:List (List Pr)){i:Nat}(hi:i<ls.length):(ls.take (i+1)).flatten=(ls.take i).flatten++ls[i]:=by
 rw[List.take_succ_eq_append_getElem hi,cQ,dU,j7,List.append_nil]
theorem HH(ls:List (List Pr))(i:Nat):(ls.take i).flatten.length≤ls.flatten.length:=by
 have:ls.flatten=(ls.take i).flatten++(ls.drop i).flatten:=by rw[←cQ,List.take_append_drop]
 rw[this,ae];omega
theorem CB{h:ad}{s:SliceV}{vs:List SliceV}{ls:List (List Pr)}(u:Sl Om 1 No h s vs)(B:ParS h vs ls)(L:ls.flatten.length*32≤140737488355328)(hv:vs.length≤1000)
  {K:SliceV→ad→Prop}(J:∀s' f,OwnS iY 2 ar (fun b=>h.size≤b) f s' ls.flatten→Upd No h f→K s' f):HC PG cO [.slice s.a s.len s.cap] [.c .slice] K h:=by
 refine j3 s ?_;unfold fM dC fH su;have F:=u.len;have e:=B.len;refine LoopP.ghost (fun(i:Nat) (t:Int×Int) f=>t.2=(i:Int)∧i≤vs.length∧t.1=((ls.take i).flatten.length:Int)∧f=h) (fun i=>vs.length-i) 0 ⟨rfl,bp _,by simp,rfl⟩ ?_
 rintro I i ⟨S,ti⟩ f ⟨p,hi,G,rfl⟩ N;simp only at p G;subst p G;refine bj (fun c=>?_) fun x=>?_
 ·have c:i<vs.length:=by have:(i:Int)<(s.len:Int):=c;omega
  obtain⟨a,w,_,g⟩:=u.at (ag c);have M:=(B.at c (e▸c)).len;have d:=congrArg f8 (Cy ls (e▸c));rw[ae]at d;have D:=HH ls (i+1);refine Join.plain ⟨by simp only;omega,a,w,_,g 0 _ rfl,?_⟩;simp only;have ew:IntKind.wrap .i64 (((ls.take i).flatten.length:Int)+((vs[i]).len:Int))=((ls.take (i+1)).flatten.length:Int):=by rw[nA (by omega)];omega
  rw[ew];refine bj (fun h=>by omega) fun _=>?_
  rw[ep c (by omega)];exact N (i+1) _ _ ⟨rfl,c,rfl,rfl⟩ (by omega)
 ·have O:i=vs.length:=by have:¬(i:Int)<(s.len:Int):=x;omega
  rw[bh (by omega)];refine L0 L fun s0 W v C=>?_
  refine LoopP.ghost (fun(i:Nat) (t:SliceV×Int) z=>t.2=(i:Int)∧i≤vs.length∧OwnS iY 2 ar (fun b=>f.size≤b) z t.1 (ls.take i).flatten∧Upd No f z) (fun i=>vs.length-i) 0 ⟨rfl,bp _,by simpa using v,C⟩ ?_
  rintro V j ⟨Q,X⟩ z ⟨p,T,q,m⟩ E;simp only at p q;subst p;refine bj (fun c=>?_) fun n=>?_
  ·have c:j<vs.length:=by have:(j:Int)<(s.len:Int):=c;omega
   obtain⟨a,w,_,g⟩:=(u.upd m fun _ h=>h.elim).at (ag c)
   have k:=((B.upd m).at c (e▸c));have d:=Cy ls (e▸c);have o:=congrArg f8 d;rw[ae]at o;have D:=HH ls (j+1);refine Join.plain ⟨by simp only;omega,a,w,_,g 0 _ rfl,_,k.srow,?_⟩;refine AppP.own (ys:=ls[j]) q k.len rfl (tD _) rfl (by omega) (by omega) m.size fun s2 R A y=>?_
   simp only;rw[ep c (by omega)];exact E (j+1) _ _ ⟨rfl,c,d▸A,m.trans y fun b H=>.inr H⟩ (by omega)
  ·have P:j=vs.length:=by have:¬(j:Int)<(s.len:Int):=n;omega
   rw[bh (by omega)]at q;exact J _ _ q m
def Gv(l:List Pr)(p:Pr):List Pr:=l.take (lh l p.1)++p::l.drop (if bQ l p.1 then lh l p.1+1 else lh l p.1)
def IT(l:List Pr)(k:ByteArray):List Pr:=if bQ l k then l.take (lh l k)++l.drop (lh l k+1)else l
theorem C8{l:List Pr}(d:cp l){k:ByteArray}(b:bQ l k=true):∃h:lh l k<l.length,l[lh l k].1=k:=by
 unfold bQ at b;obtain⟨p,f,e⟩:=bO.1 b;have e:=of_decide_eq_true e;obtain⟨q,c,rfl⟩:=List.mem_iff_getElem.1 f;have:lh l k=q:=JW (by omega) (fun j g a=>by rw[←e];exact cn.1 d j q g c a) fun h=>by rw[←e];exact dq _
 subst this;exact⟨c,e⟩
theorem CW{h:ad}{s:SliceV}{l:List Pr}(e:Sl iY 2 No h s l){i j m:Nat}(d:i≤j)(b:j≤l.length)(a:j≤m)(c:Nat):Sl iY 2 No h ⟨aK s.a i m 2,j-i,c⟩ ((l.drop i).take (j-i)):=Sl.sub e d b a
theorem Gd{h:ad}{s:SliceV}{l:List Pr}(o:Sl iY 2 No h s l)(hc:s.len≤s.cap)(u:cp l)(G:l.length≤1000000000)(p:Pr)
  {K:SliceV→ad→Prop}(F:∀s' a,OwnS iY 2 ar (fun b=>h.size≤b) a s' (Gv l p)→Upd No h a→K s' a):HC PG u0 [.slice s.a s.len s.cap,.agg #[.string p.1,.string p.2]] [.c .slice] K h:=by
 refine GY s p ?_;unfold A9 aE qz ui sA;have k:=o.len;have k1:=Upd.hnew No h [.string p.1,.string p.2] ar;have b1:=cu h [.string p.1,.string p.2] ar;refine bK ?_;simp only[fy h];generalize hnew h [.string p.1,.string p.2] ar=h1 at k1 b1;refine⟨p.1,by rw[bG,aS b1];rfl,Dr (o.upd k1 fun _ h=>h.elim) u G p.1 fun I f=>?_⟩
 have C:=JX l p.1;have c:=k1.tr f;refine⟨by simp only;omega,?_⟩;let q:=if bQ l p.1 then lh l p.1+1 else lh l p.1
 have J:q≤l.length:=by
  show(if bQ l p.1 then lh l p.1+1 else lh l p.1)≤l.length
  split
  ·rename_i ht;obtain⟨h,_⟩:=C8 u ht;omega
  ·exact C
 refine Join.intro (fun t a=>a=I∧t=⟨aK s.a q s.cap 2,s.len-q,s.cap-q⟩) (fun R A=>?_) ?_
 ·refine CondP.intro (fun e=>?_) fun e=>A _ _ ⟨rfl,?_⟩
  ·have e:bQ l p.1=true:=e
   obtain⟨H,_⟩:=C8 u e;have ew:IntKind.wrap .i64 ((lh l p.1:Int)+1)=((lh l p.1+1:Nat):Int):=by rw[nA (by omega)];omega
   simp only;rw[ew];refine⟨by omega,A _ _ ⟨rfl,?_⟩⟩;have:q=lh l p.1+1:=by show(if bQ l p.1 then _ else _)=_;rw[if_pos e]
   rw[this];rfl
  ·have e:bQ l p.1=false:=e
   have:q=lh l p.1:=by show(if bQ l p.1 then _ else _)=_;rw[if_neg (by rw[e];decide)]
   rw[this];rfl
 ·rintro t a ⟨rfl,rfl⟩
  have b2:=f.get0 b1;refine⟨by simp only;omega,p.1,by rw[bG,aS b2];rfl,p.2,by rw[bG,aS b2];rfl,?_⟩
  have z:=Upd.hnew No a [.string p.1,.string p.2] ar;have b3:=cu a [.string p.1,.string p.2] ar;refine bK ?_;simp only[fy a];generalize hnew a [.string p.1,.string p.2] ar=h3 at z b3;refine bK ?_;have d:=(o.upd c fun _ h=>h.elim).upd z fun _ h=>h.elim
  have n:=Upd.hnew No h3 [.slice (aK s.a 0 s.cap 2) ((lh l p.1:Int).toNat-0) (s.cap-0),.slice (some ⟨a.size,0,none⟩) 1 1,.slice (aK s.a q s.cap 2) (s.len-q) (s.cap-q)] cM;have L:=cu h3 [.slice (aK s.a 0 s.cap 2) ((lh l p.1:Int).toNat-0) (s.cap-0),.slice (some ⟨a.size,0,none⟩) 1 1,.slice (aK s.a q s.cap 2) (s.len-q) (s.cap-q)] cM;have D:=CW d (i:=0) (j:=lh l p.1) (m:=s.cap) (bp _) C (by omega) (s.cap-0)
  have M:Sl iY 2 No h3 ⟨some ⟨a.size,0,none⟩,1,1⟩ [p]:=⟨rfl,jy,fun _=>⟨_,rfl,fun h=>h.elim,nY b3 fun i v hv=>by simpa using hv⟩⟩
  have w:=CW d (i:=q) (j:=l.length) (m:=s.cap) J (au _) (by omega) (s.cap-q);rw[←k]at w;rw[cB]at D;rw[bh (by rw[aJ];omega)]at w;have N:Gv l p= [l.take (lh l p.1-0),[p],l.drop q].flatten:=by simp[Gv,q]
  refine CB (s:=⟨some (aC h3),3,3⟩) (vs:= [⟨aK s.a 0 s.cap 2,(lh l p.1:Int).toNat-0,s.cap-0⟩,⟨some ⟨a.size,0,none⟩,1,1⟩,⟨aK s.a q s.cap 2,s.len-q,s.cap-q⟩]) (ls:= [l.take (lh l p.1-0),[p],l.drop q])
   ⟨rfl,fun x=>⟨rfl,Nat.one_pos⟩,fun _=>⟨_,rfl,fun h=>h.elim,nY L fun i v hv=>by simpa[Om]using hv⟩⟩ ⟨D.upd n fun _ h=>h.elim,M.upd n fun _ h=>h.elim,w.upd n fun _ h=>h.elim,trivial⟩ ?_ (by simp) fun P O g y=>?_
  ·simp only[dU,j7,ae,aN,aJ,List.length_singleton,List.length_nil];omega
  ·rw[←N]at g
   have B:=((c.tr z).tr n);exact F _ _ (g.more fun b E=>Nat.le_trans B.size E) (B.tr y)
end Go.Proofs
namespace Go.Proofs
open Go.Lift
def ra(n d:Nat):Nat:=(bX n).countP (d.testBit ·)
theorem zv(m n d:Nat):ra (m+n) d=ra m d+ra n (d>>>m):=by
 unfold ra;rw[pi,List.countP_append,List.countP_map];congr 1
 refine List.countP_congr fun i _=>?_
 simp[mc]
theorem HL(d:Nat)(i:Nat):∀n,i≤n→ra n (d&&&(2^i-1))=ra i d:=by
 intro n b;obtain⟨m,rfl⟩:=Nat.exists_eq_add_of_le b;rw[zv];have e:ra i (d&&&(2^i-1))=ra i d:=by
  unfold ra;refine List.countP_congr fun j a=>?_
  have:=gj.1 a;simp[fR,jq,this]
 have c:ra m ((d&&&(2^i-1))>>>i)=0:=by
  unfold ra;rw[List.countP_eq_zero];intro j _;simp[mc,fR,jq];intro h;omega
 omega
theorem Nm(d:Nat):ra 8 (d&&&255)=ra 8 d:=HL d 8 8 (au _)
theorem vi(n d:Nat):ra n d≤n:=by
 have:=List.countP_le_length (p:=(d.testBit ·)) (l:=bX n)
 simpa[ra]using this
theorem jC(d n:Nat):eE (d:Int) (2^n)=((d>>>n:Nat):Int):=by
 rw[jG _ (by exact Int.le_of_lt (Int.pow_pos (by decide))),dN];simp
theorem Lg(a b:Nat):(ai (IntKind.bits .u32) (a:Int)&&&ai (IntKind.bits .u32) (b:Int)).toNat=(a%4294967296)&&&(b%4294967296):=by
 simp[IntKind.bits,BitVec.toNat_and,BitVec.toNat_ofInt];rfl
theorem vG{n:Nat}(h:n<4294967296):IntKind.wrap .u32 (n:Int)=(n:Int):=Go.IntWalk.u32_in _ (by omega)
theorem Ae{i:Nat}(hi:i<32){h:ad}{K:Bool→ad→Prop}(a:K true h):HC PG kJ [.int .i64 i] [.c .bool] K h:=by
 refine BH i ?_;unfold uC;refine bj (fun _=>?_) fun h=>absurd (Int.natCast_nonneg i) h
 rw[decide_eq_true (by omega)];exact a
theorem DI{a b:Nat}(h:b<4294967296):a&&&b<4294967296:=fu Nat.and_le_right h
theorem xy{d i:Nat}(hd:d<4294967296)(hi:i<32){h:ad}{K:Bool→ad→Prop}(f:K (d.testBit i) h):HC PG ez [.int .u32 d,.int .i64 i] [.c .bool] K h:=by
 refine ya d i ?_;unfold qZ;refine Ae hi (az.2 ⟨by omega,?_⟩);have e:min (i:Int).toNat (IntKind.bits .u32)=i:=by rw[aM];exact aZ (by show i≤32;omega)
 rw[e,jC];have b:=Lg (d>>>i) 1;have a:d>>>i<4294967296:=fu (mf d i) hd;rw[dK a,show(1:Nat)%4294967296=1 from rfl]at b
 simp only[Bd];rw[show((1:Nat):Int)=(1:Int)from rfl]at b
 rw[b,vG (DI (by omega))];have c:(((d>>>i&&&1:Nat):Int)==(1:Int))=d.testBit i:=by
  rw[kX,beq_iff_eq,Nat.testBit,Nat.and_comm];simp only[bne_iff_ne,ne_eq,Nat.one_and_eq_mod_two];have:(d>>>i)%2<2:=Nat.mod_lt _ (by omega);omega
 rw[c];exact f
theorem I4{d i:Nat}(hd:d<4294967296)(hi:i<32):∃w:Nat,IntKind.wrap .u32 (ai (IntKind.bits .u32) (d:Int)|||ai (IntKind.bits .u32) (IntKind.wrap .u32 (1*2^(min (i:Int).toNat (IntKind.bits .u32))))).toNat=(w:Int)∧w<4294967296∧∀j,w.testBit j=(d.testBit j||decide (j=i)):=by
 have e:min (i:Int).toNat (IntKind.bits .u32)=i:=by rw[aM];exact aZ (by show i≤32;omega)
 have b:2^i<4294967296:=Nat.pow_lt_pow_right (by omega) (show i<32 from hi)
 have g:(1*2^i:Int)=((2^i:Nat):Int):=by simp
 rw[e,g,vG b];refine⟨_,vG (BitVec.isLt _),BitVec.isLt _,fun j=>?_⟩
 rw[BitVec.testBit_toNat,BitVec.getLsbD_or,fF,fF,jI,jI,ko];by_cases a:j<32
 ·have:decide (j<IntKind.bits .u32)=true:=decide_eq_true a
  rw[this];simp[eq_comm]
 ·have c:decide (j<IntKind.bits .u32)=false:=decide_eq_false a
  have f:d.testBit j=false:=eN (bI hd (gI (n:=2) (by omega) (show 32≤j by omega)))
  rw[c,f];simp;omega
theorem Hd{d i:Nat}(hd:d<4294967296)(hi:i<32){h:ad}{K:Int→ad→Prop}(a:∀w:Nat,w<4294967296→(∀j,w.testBit j=(d.testBit j||decide (j=i)))→K (w:Int) h):HC PG dR [.int .u32 d,.int .i64 i] [.c (.int .u32)] K h:=by
 refine wT d i ?_;unfold p4;refine Ae hi (ah.2 ⟨by omega,?_⟩);obtain⟨w,e,c,b⟩:=I4 hd hi;simp only[Bd];rw[e];exact a w c b
theorem DG{d i:Nat}(hd:d<4294967296)(hi:i<32):∃w:Nat,IntKind.wrap .u32 (ai (IntKind.bits .u32) (d:Int)&&& ~~~ai (IntKind.bits .u32) (IntKind.wrap .u32 (1*2^(min (i:Int).toNat (IntKind.bits .u32))))).toNat=(w:Int)∧w<4294967296∧∀j,w.testBit j=(d.testBit j&&decide (j≠i)):=by
 have e:min (i:Int).toNat (IntKind.bits .u32)=i:=by rw[aM];exact aZ (by show i≤32;omega)
 have b:2^i<4294967296:=Nat.pow_lt_pow_right (by omega) (show i<32 from hi)
 have g:(1*2^i:Int)=((2^i:Nat):Int):=by simp
 rw[e,g,vG b];refine⟨_,vG (BitVec.isLt _),BitVec.isLt _,fun j=>?_⟩
 rw[BitVec.testBit_toNat,BitVec.getLsbD_and,BitVec.getLsbD_not,fF,fF,jI,jI,ko];by_cases a:j<32
 ·have:decide (j<IntKind.bits .u32)=true:=decide_eq_true a
  rw[this];simp[eq_comm]
 ·have c:decide (j<IntKind.bits .u32)=false:=decide_eq_false a
  have f:d.testBit j=false:=eN (bI hd (gI (n:=2) (by omega) (show 32≤j by omega)))
  rw[c,f];simp
theorem zB{d i:Nat}(hd:d<4294967296)(hi:i<32){h:ad}{K:Int→ad→Prop}(a:∀w:Nat,w<4294967296→(∀j,w.testBit j=(d.testBit j&&decide (j≠i)))→K (w:Int) h):HC PG gH [.int .u32 d,.int .i64 i] [.c (.int .u32)] K h:=by
 refine tf d i ?_;unfold nu;refine Ae hi (ah.2 ⟨by omega,?_⟩);obtain⟨w,e,c,b⟩:=DG hd hi;simp only[Bd];rw[e];exact a w c b
abbrev NQ:ByteArray:=⟨#[0,1,1,2,1,2,2,3,1,2,2,3,2,3,3,4,1,2,2,3,2,3,3,4,2,3,3,4,3,4,4,5,1,2,2,3,2,3,3,4,2,3,3,4,3,4,4,5,2,3,3,4,3,4,4,5,3,4,4,5,4,5,5,6,1,2,2,3,2,3,3,4,2,3,3,4,3,4,4,5,2,3,3,4,3,4,4,5,3,4,4,5,4,5,5,6,2,3,3,4,3,4,4,5,3,4,4,5,4,5,5,6,3,4,4,5,4,5,5,6,4,5,5,6,5,6,6,7,1,2,2,3,2,3,3,4,2,3,3,4,3,4,4,5,2,3,3,4,3,4,4,5,3,4,4,5,4,5,5,6,2,3,3,4,3,4,4,5,3,4,4,5,4,5,5,6,3,4,4,5,4,5,5,6,4,5,5,6,5,6,6,7,2,3,3,4,3,4,4,5,3,4,4,5,4,5,5,6,3,4,4,5,4,5,5,6,4,5,5,6,5,6,6,7,3,4,4,5,4,5,5,6,4,5,5,6,5,6,6,7,4,5,5,6,5,6,6,7,5,6,6,7,6,7,7,8]⟩
theorem Ly:(bX 256).all (fun b=>decide (NQ[b]? =some (eX (ra 8 b))))=true:=by decide+kernel
theorem CS{b:Nat}(h:b<256):NQ[b]? =some (eX (ra 8 b)):=of_decide_eq_true (List.all_eq_true.1 Ly b (gj.2 h))
theorem Dy(b:Nat):(eX (ra 8 b)).toNat=ra 8 b:=by
 have:=vi 8 b;simp;omega
theorem OJ(d:Nat):ra 32 d=ra 8 (d>>>24)+ra 8 ((d>>>16)&&&255)+ra 8 ((d>>>8)&&&255)+ra 8 (d&&&255):=by
 rw[Nm,Nm,Nm,show(32:Nat)=8+(8+(8+8))from rfl,zv,zv,zv]
 simp only[←Nat.shiftRight_add,Nat.reduceAdd];omega
set_option maxRecDepth 100000 in
theorem LO{d:Nat}(hd:d<4294967296){h:ad}{K:Int→ad→Prop}(j:K (ra 32 d:Int) h):HC PG hH [.int .u32 d] [.c (.int .i64)] K h:=by
 refine qJ d ?_;unfold lH;have c:eE (d:Int) (2^(min (24:Int).toNat (IntKind.bits .u32)))=((d>>>24:Nat):Int):=jC d 24;have g:eE (d:Int) (2^(min (16:Int).toNat (IntKind.bits .u32)))=((d>>>16:Nat):Int):=jC d 16;have m:eE (d:Int) (2^(min (8:Int).toNat (IntKind.bits .u32)))=((d>>>8:Nat):Int):=jC d 8;have b:∀x:Nat,x<4294967296→IntKind.wrap .u32 (ai (IntKind.bits .u32) (x:Int)&&&ai (IntKind.bits .u32) 255).toNat=((x&&&255:Nat):Int):=fun x hx=>by
  have:=Lg x 255;rw[dK hx]at this;rw[show((255:Nat):Int)=(255:Int)from rfl]at this
  rw[this,vG (DI (by omega))]
 have f:d>>>24<256:=by rw[dN];omega
 have e:∀x:Nat,x&&&255<256:=fun x=>fu Nat.and_le_right (by omega)
 have a:d>>>16<4294967296:=fu (mf d 16) hd;have k:d>>>8<4294967296:=fu (mf d 8) hd;simp only[Bd];rw[c,g,m,b _ a,b _ k,b _ hd];refine⟨by decide,_,by omega,CS (b:=d>>>24) f,by decide,_,by omega,CS (e _),by decide,_,by omega,CS (e _),_,by omega,CS (e _),?_⟩
 rw[Dy,Dy,Dy,Dy];simp only[aM];have o:=vi 8 (d>>>24);have p:=vi 8 (d>>>16&&&255);have q:=vi 8 (d>>>8&&&255);have q4:=vi 8 (d&&&255);rw[OJ]at j;have i:∀n:Nat,n≤255→IntKind.wrap .u8 (n:Int)=(n:Int):=fun n s=>Go.IntWalk.u8_in _ (by omega)
 rw[←Int.natCast_add,i _ (by omega),←Int.natCast_add,i _ (by omega),←Int.natCast_add,i _ (by omega),nA (by omega)];exact j
theorem mW{d i:Nat}(hd:d<4294967296)(hi:i<32){h:ad}{K:Int→ad→Prop}(a:K (ra i d:Int) h):HC PG cy [.int .u32 d,.int .i64 i] [.c (.int .i64)] K h:=by
 refine wU d i ?_;unfold p6;refine bj (fun j=>?_) fun j=>?_
 ·have:i=0:=by omega
  subst this;exact a
 ·refine bj (fun h=>by omega) fun _=>⟨by omega,?_⟩
  have e:min (i:Int).toNat (IntKind.bits .u32)=i:=by rw[aM];exact aZ (by show i≤32;omega)
  have b:2^i<4294967296:=Nat.pow_lt_pow_right (by omega) (show i<32 from hi)
  have g:0<2^i:=Nat.pow_pos (by omega);have c:(1*2^i:Int)=((2^i:Nat):Int):=by simp
  have f:(((2^i:Nat):Int)-1)=((2^i-1:Nat):Int):=by omega
  simp only[Bd];rw[e,c,vG b,f,vG (show 2^i-1<4294967296 by omega),Lg,dK hd,dK (show 2^i-1<4294967296 by omega),vG (DI (by omega))]
  refine vA _ ?_;unfold pe;refine LO (DI (by omega)) ?_;rw[HL d i 32 (by omega)];exact a
end Go.Proofs
namespace Go.Proofs
open Go.Lift
def fm{β:Type}(g:Nat→Option β)(n:Nat):List β:=(bX n).filterMap g
def upd{β:Type}(g:Nat→Option β)(i:Nat)(x:Option β)(j:Nat):Option β:=if j=i then x else g j
theorem N2{β:Type}{f g:Nat→Option β}:∀l:List Nat,(∀j∈l,f j=g j)→l.filterMap f=l.filterMap g
 | [],_=>rfl
 |j::l,h=>by
  rw[List.filterMap_cons,List.filterMap_cons,h j (List.mem_cons_self ..),N2 l fun k a=>h k (List.mem_cons_of_mem _ a)]
section
variable {β:Type} {g:Nat→Option β} {d:Nat}
theorem AB(hd:∀c,c<32→d.testBit c=(g c).isSome){i:Nat}(hi:i≤32):(fm g i).length=ra i d:=by
 unfold fm ra;rw[List.length_filterMap_eq_countP];exact List.countP_congr fun j a=>by rw[hd j (by have:=gj.1 a;omega)]
theorem nh{i n:Nat}(hi:i<n):fm g n=fm g i++((g i).toList++(bX (n-(i+1))).filterMap fun j=>g (i+1+j)):=by
 unfold fm;have e:n=i+(1+(n-(i+1))):=by omega
 rw[e,pi,mz,pi];have a:i+(1+(n-(i+1)))-(i+1)=n-(i+1):=by omega
 rw[a];congr 1
 rw[List.map_append,mz,List.map_map];congr 1
 rw[List.filterMap_map];refine N2 _ fun j _=>?_
 show g (i+(1+j))=_
 rw[Nat.add_assoc]
theorem uX{i:Nat}{x:Option β}:fm (upd g i x) i=fm g i:=by
 unfold fm;refine N2 _ fun j a=>?_
 have:=gj.1 a;unfold upd;rw[if_neg (by omega)]
theorem sN{i m:Nat}{x:Option β}:((bX m).filterMap fun j=>upd g i x (i+1+j))=(bX m).filterMap fun j=>g (i+1+j):=by
 refine N2 _ fun j _=>?_
 unfold upd;rw[if_neg (by omega)]
theorem Ks{i:Nat}(hi:i<32)(hd:∀c,c<32→d.testBit c=(g c).isSome)(b:g i=none)(x:β):fm (upd g i (some x)) 32=(fm g 32).take (ra i d)++x::(fm g 32).drop (ra i d):=by
 have a:=AB hd (i:=i) (by omega);rw[nh (g:=upd g i (some x)) hi,nh (g:=g) hi,uX,sN,b,cg a,bT a];simp[upd]
theorem Kr{i:Nat}(hi:i<32)(hd:∀c,c<32→d.testBit c=(g c).isSome){y:β}(b:g i=some y)(x:β):fm (upd g i (some x)) 32=(fm g 32).take (ra i d)++x::(fm g 32).drop (ra i d+1):=by
 have a:=AB hd (i:=i) (by omega);rw[nh (g:=upd g i (some x)) hi,nh (g:=g) hi,uX,sN,b,cg a,←cZ,bT a];simp[upd]
theorem Kt{i:Nat}(hi:i<32)(hd:∀c,c<32→d.testBit c=(g c).isSome){y:β}(b:g i=some y):fm (upd g i none) 32=(fm g 32).take (ra i d)++(fm g 32).drop (ra i d+1):=by
 have a:=AB hd (i:=i) (by omega);rw[nh (g:=upd g i none) hi,nh (g:=g) hi,uX,sN,b,cg a,←cZ,bT a];simp[upd]
theorem Ku{i:Nat}(hi:i<32)(hd:∀c,c<32→d.testBit c=(g c).isSome){y:β}(a:g i=some y):(fm g 32)[ra i d]? =some y:=by
 have b:=AB hd (i:=i) (by omega);rw[nh (g:=g) hi,a,List.getElem?_append_right (by omega),b,oq];rfl
theorem Cx{i:Nat}(hi:i<32)(hd:∀c,c<32→d.testBit c=(g c).isSome){y:β}(a:g i=some y):ra i d<(fm g 32).length:=(List.getElem?_eq_some_iff.1 (Ku hi hd a)).1
theorem Mr{i:Nat}(hi:i<32)(hd:∀c,c<32→d.testBit c=(g c).isSome):ra i d≤(fm g 32).length:=by
 have a:=AB hd (i:=i) (by omega);rw[nh (g:=g) hi,ae];omega
theorem sO:(fm g 32).length≤32:=by
 have:=List.length_filterMap_le g (bX 32);simpa[fm]using this
end
end Go.Proofs
namespace Go.Proofs
open Go.Lift
abbrev sv(s:SliceV):Value:=.slice s.a s.len s.cap
structure Slots where
 p:Nat→Option Pr
 k:Nat→Option (Option Addr)
def eg(d n:Nat)(sp sk:SliceV)(a:Bool)(ow:Option Addr):Array Value:= #[.int .u32 (d:Int),.int .u32 (n:Int),sv sp,sv sk,.bool a,.pointer ow]
structure BitsOf(d n:Nat)(s:Slots):Prop where
 d32:d<4294967296
 n32:n<4294967296
 dp:∀c,c<32→d.testBit c=(s.p c).isSome
 nk:∀c,c<32→n.testBit c=(s.k c).isSome
def OwOk(W:Nat→Prop)(h:ad)(ow:Option Addr):Prop:=∀a,ow=some a→¬W a.block∧du h a
theorem OwOk.upd{W M:Nat→Prop}{h d:ad}{ow:Option Addr}(o:OwOk W h ow)(k:Upd M h d)(hm:∀b,M b→W b∨h.size≤b):OwOk W d ow:=fun a e=>by
 obtain⟨g,c,t,f,hz⟩:=o a e;exact⟨g,c,t,k.get f (fun hM=>(hm _ hM).elim g fun h=>by have:=aF f;omega),hz⟩
theorem OwOk.less{W W':Nat→Prop}{h:ad}{ow:Option Addr}(o:OwOk W h ow)(hm:∀b,W' b→W b∨h.size≤b):OwOk W' h ow:=fun a e=>by
 obtain⟨f,c,t,d,hz⟩:=o a e;exact⟨fun hx=>(hm _ hx).elim f fun h=>by have:=aF d;omega,c,t,d,hz⟩
theorem iZ{W:Nat→Prop}{h:ad}:OwOk W h none:=fun _ e=>by cases e
structure NodeAt(W:Nat→Prop)(h:ad)(b:Nat)(s:Slots):Prop where
 ex:∃d n sp sk ow,h[b]? =some (.cells (eg d n sp sk false ow) bm (0,0))∧BitsOf d n s∧Sl iY 2 W h sp (fm s.p 32)∧Sl ny 1 W h sk (fm s.k 32)∧sp.len≤sp.cap∧sk.len≤sk.cap∧OwOk W h ow
 nw:¬W b
theorem NodeAt.upd{W M:Nat→Prop}{h c:ad}{b:Nat}{s:Slots}(n:NodeAt W h b s)(k:Upd M h c)(hm:∀b,M b→W b∨h.size≤b):NodeAt W c b s:=by
 obtain⟨d,m,sp,sk,ow,a,p,o,e,g,f,j⟩:=n.ex;exact⟨⟨d,m,sp,sk,ow,k.get a (fun i=>(hm _ i).elim n.nw fun h=>by have:=aF a;omega),p,o.upd k hm,e.upd k hm,g,f,j.upd k hm⟩,n.nw⟩
structure OwnN(M:Nat→Prop)(h:ad)(b d n:Nat)(sp sk:SliceV)(s:Slots)(ow:Option Addr):Prop where
 blk:h[b]? =some (.cells (eg d n sp sk false ow) bm (0,0))
 bits:BitsOf d n s
 ex:∃A B:Nat→Prop,OwnS iY 2 ar A h sp (fm s.p 32)∧OwnS ny 1 ba B h sk (fm s.k 32)∧(∀x,A x→M x∧¬B x∧x≠b∧x<h.size)∧(∀x,B x→M x∧x≠b∧x<h.size)
 mb:M b
theorem OwnN.upd{M M':Nat→Prop}{h f:ad}{b d n:Nat}{sp sk:SliceV}{s:Slots}{ow:Option Addr}(o:OwnN M h b d n sp sk s ow)(k:Upd M' h f)(hm:∀x,M' x→¬M x):OwnN M f b d n sp sk s ow:=by
 obtain⟨A,B,i,j,a,c⟩:=o.ex;have z:=k.size;exact⟨k.get o.blk fun g=>hm _ g o.mb,o.bits,⟨A,B,i.upd k fun x hx e=>hm _ e (a x hx).1,j.upd k fun x hx e=>hm _ e (c x hx).1,fun x hx=>⟨(a x hx).1,(a x hx).2.1,(a x hx).2.2.1,by have:=(a x hx).2.2.2;omega⟩,fun x hx=>⟨(c x hx).1,(c x hx).2.1,by have:=(c x hx).2.2;omega⟩⟩,o.mb⟩
end Go.Proofs
