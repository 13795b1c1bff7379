/- A part of the proof that the named laws of this program answer true, whatever the input. -/
import Derived.Test.YtajpljopgikpgaaGreatDoorPart0
import Derived.Test.YtajpljopgikpgaaGreatDoorLift3
import Derived.Lib.Overlaps
import Derived.Sort.Walk0
open BitVec renaming ofInt→aw,ofInt_natCast→fQ,getLsbD_ofNat→nL
open Bool renaming eq_iff_iff→pf
open Int renaming toNat_natCast→aX,fdiv→fl,fdiv_eq_ediv_of_nonneg→jY
open List renaming flatMap_cons→ba,take_length→cp,drop_length→ry,length_take→aP,length_drop→aZ,flatMap_append→bN,drop_zero→de,append_assoc→az,take_append_of_le_length→gf,take_of_length_le→bJ,length_append→ad,drop_left→gr,take_left→gV,size_toArray→df,drop_eq_getElem_cons→fp,length_eq_zero_iff→aO,drop_left'→cR,take_left'→dD,drop_drop→dW,drop_append_of_le_length→gg,length_cons→aH,pairwise_iff_getElem→cJ,getElem?_eq_getElem→ag,any_eq_true→cL,replicate→eD,replicate_succ→jt,flatten_append→eO,flatten_cons→fa,flatten_nil→ot,length→eL,range→dh,range_add→uM,mem_range→gq,filterMap_append→qQ
open Nat renaming le_refl→ao,lt_or_ge→bO,min_eq_left→bP,sub_zero→fC,min→eN,zero_add→aU,add_one_mul→hP,one_mul→sy,le_mul_of_pos_left→qF,min_eq_right→rt,sub_self→gu,zero_mul→tN,zero_le→bj,testBit_shiftRight→qD,testBit_and→jh,testBit_two_pow_sub_one→mU,shiftRight_eq_div_pow→cN,lt_of_le_of_lt→gz,shiftRight_le→jc,mod_eq_of_lt→dS,testBit_two_pow→oC,testBit_lt_two_pow→gU,lt_of_lt_of_le→bG,pow_le_pow_right→fM
open UInt8 renaming ofNat→gF
namespace Go.Proofs
open Go Go.Lift
abbrev fe(x:ByteArray×ByteArray):List Value:= [.string x.1,.string x.2]
theorem jx(x:ByteArray×ByteArray):(fe x).length=2∧0<2:=⟨rfl,by omega⟩
theorem zW:∀xs:List (ByteArray×ByteArray),cH (xs.flatMap fe)=true
 | []=>rfl
 |x::xs=>by rw[ba];exact kA rfl (zW xs)
theorem L0{h:af}{a b o d c f cb:Nat}{g cw:Array Value}{i tb:TypeId}(hv:h[a]? =some (.cells g i (0,0))) (k:h[b]? =some (.cells cw tb (0,0))) (m:a≠b) (p:cw.size≠0) {K:Bool→af→Prop} (n:K false h):
  HC PG jy [.slice (some ⟨a,0,none⟩) d c,.slice (some ⟨b,o,none⟩) f cb] [.c .bool] K h:=by
 refine⟨fun w j=>.inr ⟨.bool false,w,?_,Tame.refl w,false,rfl,j▸n⟩⟩
 subst j;rw[tL];have:=Lib.run_overlaps_apart (P:=PG) w dL j7 ay (by kernel_rfl) (cy PG ay) (rX (by kernel_rfl)) ⟨a,0,none⟩ ⟨b,o,none⟩ d c f cb m i tb g.size cw.size
  (by simp[World.shape?,hv]) (by simp[World.shape?,k]) p (by simp[World.frozen?,hv]) (by simp[World.frozen?,hv])
 rw[show([Value.slice (some ⟨a,0,none⟩) d c,Value.slice (some ⟨b,o,none⟩) f cb]:List Value).toArray= #[.slice (some ⟨a,0,none⟩) d c,.slice (some ⟨b,o,none⟩) f cb]from rfl,this]
 rfl
set_option maxRecDepth 4000 in
theorem Qo{M:Nat→Prop}{h:af}{s:SliceV}{xs:List (ByteArray×ByteArray)}(W:OwnS fe 2 ay M h s xs){k:Nat}(Y:k≤xs.length)(hn:(xs.length+1)*32≤140737488355328){x:ByteArray×ByteArray}{m:Nat}(hv:h[m]? =some (.cells (fe x).toArray ay (0,0)))
  (hvM:¬M m) (hM:∀b,h.size≤b→M b) {K:SliceV→af→Prop} (hK:∀s' O,OwnS fe 2 ay M O s' (xs.take k++x::xs.drop k)→Upd M h O→K s' O):
  HC PG dz [.slice s.a s.len s.cap,.int .i64 k,.slice (some ⟨m,0,none⟩) 1 1] [.c .slice] K h:=by
 refine oa s k ⟨some ⟨m,0,none⟩,1,1⟩ ?_;unfold iY lf;have n:=W.len;have hcap:=W.cap;have J:SRow h (some ⟨m,0,none⟩) (1*2) (fe x):=⟨rfl,.inr ⟨_,rfl,rC hv fun i v hi=>by simpa using hi⟩⟩
 refine⟨by omega,aj.2 ?_⟩;refine CondP.intro (fun e=>?_) fun e=>?_
 ·have e:k=xs.length:=by have:=of_decide_eq_true (by simpa using e:decide ((k:Int)=(s.len:Int))=true);omega
  subst e;refine⟨_,J,AppP.own (ys:= [x]) W rfl (by simp) rfl rfl (by omega) (by simp;omega) (hM _ (ao _)) fun s' O ho hu=>hK s' O ?_ hu⟩
  rw[cp,ry];exact ho
 have hlt:k<xs.length:=by
  rcases bO k xs.length with h|h
  ·exact h
  ·have:((k:Int)==(s.len:Int))=true:=by rw[beq_iff_eq];omega
   rw[this]at e;cases e
 rcases W.blk with h0|⟨b,d,ha,u,hc,hr⟩
 ·omega
 have j:((xs.take k).flatMap fe).length=k*2:=by rw[l0 jx,aP,bP Y]
 have w:((xs.drop k).flatMap fe).length=(xs.length-k)*2:=by rw[l0 jx,aZ]
 have G:m≠b:=fun e=>hvM (e▸u)
 rw[BH (f:=fe) xs k]at hc;have a:(xs.take k++x::xs.drop k).flatMap fe=(xs.take k).flatMap fe++(fe x++(xs.drop k).flatMap fe):=by rw[bN,ba]
 have g:=zW (xs.drop k);have c:(fe x).length=2:=rfl;have y:cH (fe x)=true:=rfl;generalize hAe:(xs.take k).flatMap fe=A at j hc a;generalize hBe:(xs.drop k).flatMap fe=B at w hc a g;generalize fe x=X at J c hv a y;rw[ha];have w1:IntKind.wrap .i64 ((xs.length:Int)+((1:Nat):Int))=((xs.length+1:Nat):Int):=by rw[jj (by omega)];omega
 have w2:IntKind.wrap .i64 ((k:Int)+((1:Nat):Int))=((k+1:Nat):Int):=by rw[jj (by omega)];omega
 have w3:IntKind.wrap .i64 (((xs.length+1:Nat):Int)-(k:Int))=((xs.length+1-k:Nat):Int):=by rw[jj (by omega)];omega
 simp only[w1,w2,w3,aX,n];refine aM (fun hgt=>?_) fun hle=>?_
 ·
  have I:s.cap=xs.length:=by omega
  refine Join.plain ⟨by omega,⟨by omega,by omega,by omega,by omega⟩,fun hin=>?_,fun S=>?_⟩
  ·omega
  ·refine⟨A,_,?_,rfl,by omega,Go.growslice_fits S (by omega),fun E z=>?_⟩
   ·rw[sub_zero]
    exact mD hc (by rw[j];omega) (by simp only[de,fC];rw[az,←j,gf (ao _),cp])
   ·simp only[aX]at z⊢
    have V:=Upd.hnew No h (A++eh (xs.length+1-k) [.string (⟨#[]⟩:ByteArray),.string (⟨#[]⟩:ByteArray)]++eh (E-(k-0+(xs.length+1-k))) [.string (⟨#[]⟩:ByteArray),.string (⟨#[]⟩:ByteArray)]) ay;have bn:=dq h (A++eh (xs.length+1-k) [.string (⟨#[]⟩:ByteArray),.string (⟨#[]⟩:ByteArray)]++eh (E-(k-0+(xs.length+1-k))) [.string (⟨#[]⟩:ByteArray),.string (⟨#[]⟩:ByteArray)]) ay
    have C:(eh (xs.length+1-k) [.string (⟨#[]⟩:ByteArray),.string (⟨#[]⟩:ByteArray)]).length=(xs.length+1-k)*2:=mX _ _;have hz2:(eh (E-(k-0+(xs.length+1-k))) [.string (⟨#[]⟩:ByteArray),.string (⟨#[]⟩:ByteArray)]).length=(E-(k-0+(xs.length+1-k)))*2:=mX _ _;have p:k-0+(xs.length+1-k)=xs.length+1:=by omega
    rw[fX];have hsz:h.size≠m:=fun e=>by have:=aL hv;omega
    have Q:h.size≠b:=fun e=>by have:=aL hc;omega
    have H:=V.get0 hc;have P:=V.get0 hv;generalize hnew h _ ay=h9 at V bn H P;rw[p]at z hz2⊢;have m1:eN 1 (xs.length+1-k)=1:=bP (by omega);have m2:eN (xs.length-k) (xs.length+1-(k+1))=xs.length-k:=bP (by omega);rw[m1];have xr9:SRow h9 (some ⟨m,0,none⟩) (1*2) X:=mD P (by rw[c]) (by rw[de,bJ];rw[c];omega)
    refine⟨by omega,?_⟩;rw[kP (by omega)];refine mo xr9 y bn (by simp only[ad,j,C];omega) fun h11 N o=>⟨by omega,?_⟩
    simp only[Bd];rw[kP (by omega),kP (by omega),m2];refine⟨by omega,?_⟩;have D:=o.get H (fun e=>Q e.symm)
    have br:SRow h11 (some ⟨b,0+k*2,none⟩) ((xs.length-k)*2) B:=mD D w (by
     rw[aU,az,←j,gr,←w,gV])
    refine mo br g N ?_ fun h16 F L=>?_
    ·simp only[ad,aP,aZ,j,C,c];omega
    ·refine hK _ _ ⟨by simp;omega,jx,z,.inr ⟨h.size,eh (E-(xs.length+1)) [.string (⟨#[]⟩:ByteArray),.string (⟨#[]⟩:ByteArray)],rfl,hM _ (ao _),?_,by rw[mX];rfl⟩⟩ ((V.wide.trans (M':=(· =h.size)) o fun b u=>.inl (u▸hM _ (ao _))).trans (M':=(· =h.size)) L fun b u=>.inl (u▸hM _ (ao _)))
     rw[F,a];have:=L6 (A:=A) (X:=X) (B:=B) (Z1:=eh (xs.length+1-k) [.string (⟨#[]⟩:ByteArray),.string (⟨#[]⟩:ByteArray)]) (Z2:=eh (E-(xs.length+1)) [.string (⟨#[]⟩:ByteArray),.string (⟨#[]⟩:ByteArray)]) (r:=(xs.length-k)*2) j c (by rw[C,←hP];congr 1;omega);rw[p,←this];simp only[aU,hP,sy]
 ·have I:xs.length+1≤s.cap:=by omega
  refine⟨by omega,?_⟩;simp only[Bd,fC];rw[sub_zero,kP (show s.cap≠k+1 by omega),kP (show s.cap≠k by omega)]
  refine⟨by omega,?_⟩;have hrl:2≤d.length:=by rw[hr];exact qF _ (by omega)
  refine L0 hv hc G (by rw[df,ad];omega) ?_;refine aA.2 ⟨by omega,by omega,?_⟩
  have m1:eN 1 (xs.length+1-k)=1:=bP (by omega);have m2:eN (xs.length+1-k) (xs.length+1-(k+1))=xs.length-k:=by
   rw[show xs.length+1-(k+1)=xs.length-k by omega];exact rt (by omega)
  rw[m2];have br:SRow h (some ⟨b,0+k*2,none⟩) ((xs.length-k)*2) B:=mD hc w (by
   rw[aU,az,←j,gr,←w,gV])
  refine mo br g hc (by simp only[ad,j,w];omega) fun h1 hb1 T=>⟨by omega,?_⟩
  rw[m1];have Z:SRow h1 (some ⟨m,0,none⟩) (1*2) X:=mD (T.get hv G) (by rw[c]) (by rw[de,bJ];rw[c];omega);refine mo Z y hb1 (by simp only[ad,aP,aZ,j,w];omega) fun h2 hb2 hu2=>?_
  refine hK _ _ ⟨by simp;omega,jx,I,.inr ⟨b,d.drop 2,rfl,u,?_,?_⟩⟩ ((T.mono fun _ e=>.inl (e▸u)).tr (hu2.mono fun _ e=>.inl (e▸u)))
  ·rw[hb2,a]
   have:=Qq (A:=A) (X:=X) (B:=B) (R:=d) (q:=2) (r:=(xs.length-k)*2) j w hrl;rw[←this];simp only[aU,hP,sy]
  ·rw[aZ,hr]
   simp only;rw[n];omega
abbrev rG(x:Option Addr):List Value:= [.pointer x]
theorem sG(x:Option Addr):(rG x).length=1∧0<1:=⟨rfl,by omega⟩
theorem Gl:∀xs:List (Option Addr),cH (xs.flatMap rG)=true
 | []=>rfl
 |x::xs=>by rw[ba];exact kA rfl (Gl xs)
theorem L1{h:af}{a b o d c f cb:Nat}{g cw:Array Value}{i tb:TypeId}(hv:h[a]? =some (.cells g i (0,0))) (k:h[b]? =some (.cells cw tb (0,0))) (m:a≠b) (p:cw.size≠0) {K:Bool→af→Prop} (n:K false h):
  HC PG iP [.slice (some ⟨a,0,none⟩) d c,.slice (some ⟨b,o,none⟩) f cb] [.c .bool] K h:=by
 refine⟨fun w j=>.inr ⟨.bool false,w,?_,Tame.refl w,false,rfl,j▸n⟩⟩
 subst j;rw[si];have:=Lib.run_overlaps_apart (P:=PG) w sE j7 bZ (by kernel_rfl) (cy PG bZ) (rX (by kernel_rfl)) ⟨a,0,none⟩ ⟨b,o,none⟩ d c f cb m i tb g.size cw.size
  (by simp[World.shape?,hv]) (by simp[World.shape?,k]) p (by simp[World.frozen?,hv]) (by simp[World.frozen?,hv])
 rw[show([Value.slice (some ⟨a,0,none⟩) d c,Value.slice (some ⟨b,o,none⟩) f cb]:List Value).toArray= #[.slice (some ⟨a,0,none⟩) d c,.slice (some ⟨b,o,none⟩) f cb]from rfl,this]
 rfl
set_option maxRecDepth 4000 in
theorem Qp{M:Nat→Prop}{h:af}{s:SliceV}{xs:List (Option Addr)}(W:OwnS rG 1 bZ M h s xs){k:Nat}(Y:k≤xs.length)(hn:(xs.length+1)*8≤140737488355328){x:Option Addr}{m:Nat}(hv:h[m]? =some (.cells (rG x).toArray bZ (0,0)))
  (hvM:¬M m) (hM:∀b,h.size≤b→M b) {K:SliceV→af→Prop} (hK:∀s' O,OwnS rG 1 bZ M O s' (xs.take k++x::xs.drop k)→Upd M h O→K s' O):
  HC PG cY [.slice s.a s.len s.cap,.int .i64 k,.slice (some ⟨m,0,none⟩) 1 1] [.c .slice] K h:=by
 refine mp s k ⟨some ⟨m,0,none⟩,1,1⟩ ?_;unfold hH;have n:=W.len;have hcap:=W.cap;have J:SRow h (some ⟨m,0,none⟩) (1*1) (rG x):=⟨rfl,.inr ⟨_,rfl,rC hv fun i v hi=>by simpa using hi⟩⟩
 refine⟨by omega,aj.2 ?_⟩;refine CondP.intro (fun e=>?_) fun e=>?_
 ·have e:k=xs.length:=by have:=of_decide_eq_true (by simpa using e:decide ((k:Int)=(s.len:Int))=true);omega
  subst e;refine⟨_,J,AppP.own (ys:= [x]) W rfl (by simp) rfl rfl (by omega) (by simp;omega) (hM _ (ao _)) fun s' O ho hu=>hK s' O ?_ hu⟩
  rw[cp,ry];exact ho
 have hlt:k<xs.length:=by
  rcases bO k xs.length with h|h
  ·exact h
  ·have:((k:Int)==(s.len:Int))=true:=by rw[beq_iff_eq];omega
   rw[this]at e;cases e
 rcases W.blk with h0|⟨b,d,ha,u,hc,hr⟩
 ·omega
 have j:((xs.take k).flatMap rG).length=k*1:=by rw[l0 sG,aP,bP Y]
 have w:((xs.drop k).flatMap rG).length=(xs.length-k)*1:=by rw[l0 sG,aZ]
 have G:m≠b:=fun e=>hvM (e▸u)
 rw[BH (f:=rG) xs k]at hc;have a:(xs.take k++x::xs.drop k).flatMap rG=(xs.take k).flatMap rG++(rG x++(xs.drop k).flatMap rG):=by rw[bN,ba]
 have g:=Gl (xs.drop k);have c:(rG x).length=1:=rfl;have y:cH (rG x)=true:=rfl;generalize hAe:(xs.take k).flatMap rG=A at j hc a;generalize hBe:(xs.drop k).flatMap rG=B at w hc a g;generalize rG x=X at J c hv a y;rw[ha];have w1:IntKind.wrap .i64 ((xs.length:Int)+((1:Nat):Int))=((xs.length+1:Nat):Int):=by rw[jj (by omega)];omega
 have w2:IntKind.wrap .i64 ((k:Int)+((1:Nat):Int))=((k+1:Nat):Int):=by rw[jj (by omega)];omega
 have w3:IntKind.wrap .i64 (((xs.length+1:Nat):Int)-(k:Int))=((xs.length+1-k:Nat):Int):=by rw[jj (by omega)];omega
 simp only[w1,w2,w3,aX,n];refine aM (fun hgt=>?_) fun hle=>?_
 ·
  have I:s.cap=xs.length:=by omega
  refine Join.plain ⟨by omega,⟨by omega,by omega,by omega,by omega⟩,fun hin=>?_,fun S=>?_⟩
  ·omega
  ·refine⟨A,_,?_,rfl,by omega,Go.growslice_fits S (by omega),fun E z=>?_⟩
   ·rw[sub_zero]
    exact mD hc (by rw[j];omega) (by simp only[de,fC];rw[az,←j,gf (ao _),cp])
   ·simp only[aX]at z⊢
    have V:=Upd.hnew No h (A++eh (xs.length+1-k) [.pointer none]++eh (E-(k-0+(xs.length+1-k))) [.pointer none]) bZ;have bn:=dq h (A++eh (xs.length+1-k) [.pointer none]++eh (E-(k-0+(xs.length+1-k))) [.pointer none]) bZ;have C:(eh (xs.length+1-k) [.pointer none]).length=(xs.length+1-k)*1:=mX _ _;have hz2:(eh (E-(k-0+(xs.length+1-k))) [.pointer none]).length=(E-(k-0+(xs.length+1-k)))*1:=mX _ _
    have p:k-0+(xs.length+1-k)=xs.length+1:=by omega
    rw[fX];have hsz:h.size≠m:=fun e=>by have:=aL hv;omega
    have Q:h.size≠b:=fun e=>by have:=aL hc;omega
    have H:=V.get0 hc;have P:=V.get0 hv;generalize hnew h _ bZ=h9 at V bn H P;rw[p]at z hz2⊢;have m1:eN 1 (xs.length+1-k)=1:=bP (by omega);have m2:eN (xs.length-k) (xs.length+1-(k+1))=xs.length-k:=bP (by omega);rw[m1];have xr9:SRow h9 (some ⟨m,0,none⟩) (1*1) X:=mD P (by rw[c]) (by rw[de,bJ];rw[c];omega)
    refine⟨by omega,?_⟩;rw[kP (by omega)];refine mo xr9 y bn (by simp only[ad,j,C];omega) fun h11 N o=>⟨by omega,?_⟩
    simp only[Bd];rw[kP (by omega),kP (by omega),m2];refine⟨by omega,?_⟩;have D:=o.get H (fun e=>Q e.symm)
    have br:SRow h11 (some ⟨b,0+k*1,none⟩) ((xs.length-k)*1) B:=mD D w (by
     rw[aU,az,←j,gr,←w,gV])
    refine mo br g N ?_ fun h16 F L=>?_
    ·simp only[ad,aP,aZ,j,C,c];omega
    ·refine hK _ _ ⟨by simp;omega,sG,z,.inr ⟨h.size,eh (E-(xs.length+1)) [.pointer none],rfl,hM _ (ao _),?_,by rw[mX];rfl⟩⟩ ((V.wide.trans (M':=(· =h.size)) o fun b u=>.inl (u▸hM _ (ao _))).trans (M':=(· =h.size)) L fun b u=>.inl (u▸hM _ (ao _)))
     rw[F,a];have:=L6 (A:=A) (X:=X) (B:=B) (Z1:=eh (xs.length+1-k) [.pointer none]) (Z2:=eh (E-(xs.length+1)) [.pointer none]) (r:=(xs.length-k)*1) j c (by rw[C,←hP];congr 1;omega);rw[p,←this];simp only[aU,hP,sy]
 ·have I:xs.length+1≤s.cap:=by omega
  refine⟨by omega,?_⟩;simp only[Bd,fC];rw[sub_zero,kP (show s.cap≠k+1 by omega),kP (show s.cap≠k by omega)]
  refine⟨by omega,?_⟩;have hrl:1≤d.length:=by rw[hr];exact qF _ (by omega)
  refine L1 hv hc G (by rw[df,ad];omega) ?_;refine aA.2 ⟨by omega,by omega,?_⟩
  have m1:eN 1 (xs.length+1-k)=1:=bP (by omega);have m2:eN (xs.length+1-k) (xs.length+1-(k+1))=xs.length-k:=by
   rw[show xs.length+1-(k+1)=xs.length-k by omega];exact rt (by omega)
  rw[m2];have br:SRow h (some ⟨b,0+k*1,none⟩) ((xs.length-k)*1) B:=mD hc w (by
   rw[aU,az,←j,gr,←w,gV])
  refine mo br g hc (by simp only[ad,j,w];omega) fun h1 hb1 T=>⟨by omega,?_⟩
  rw[m1];have Z:SRow h1 (some ⟨m,0,none⟩) (1*1) X:=mD (T.get hv G) (by rw[c]) (by rw[de,bJ];rw[c];omega);refine mo Z y hb1 (by simp only[ad,aP,aZ,j,w];omega) fun h2 hb2 hu2=>?_
  refine hK _ _ ⟨by simp;omega,sG,I,.inr ⟨b,d.drop 1,rfl,u,?_,?_⟩⟩ ((T.mono fun _ e=>.inl (e▸u)).tr (hu2.mono fun _ e=>.inl (e▸u)))
  ·rw[hb2,a]
   have:=Qq (A:=A) (X:=X) (B:=B) (R:=d) (q:=1) (r:=(xs.length-k)*1) j w hrl;rw[←this];simp only[aU,hP,sy]
  ·rw[aZ,hr]
   simp only;rw[n];omega
abbrev m9(x:Option Addr):List Value:= [.pointer x]
theorem p7(x:Option Addr):(m9 x).length=1∧0<1:=⟨rfl,by omega⟩
theorem Gk:∀xs:List (Option Addr),cH (xs.flatMap m9)=true
 | []=>rfl
 |x::xs=>by rw[ba];exact kA rfl (Gk xs)
theorem LZ{h:af}{a b o d c f cb:Nat}{g cw:Array Value}{i tb:TypeId}(hv:h[a]? =some (.cells g i (0,0))) (k:h[b]? =some (.cells cw tb (0,0))) (m:a≠b) (p:cw.size≠0) {K:Bool→af→Prop} (n:K false h):
  HC PG iw [.slice (some ⟨a,0,none⟩) d c,.slice (some ⟨b,o,none⟩) f cb] [.c .bool] K h:=by
 refine⟨fun w j=>.inr ⟨.bool false,w,?_,Tame.refl w,false,rfl,j▸n⟩⟩
 subst j;rw[rj];have:=Lib.run_overlaps_apart (P:=PG) w qT j7 bw (by kernel_rfl) (cy PG bw) (rX (by kernel_rfl)) ⟨a,0,none⟩ ⟨b,o,none⟩ d c f cb m i tb g.size cw.size
  (by simp[World.shape?,hv]) (by simp[World.shape?,k]) p (by simp[World.frozen?,hv]) (by simp[World.frozen?,hv])
 rw[show([Value.slice (some ⟨a,0,none⟩) d c,Value.slice (some ⟨b,o,none⟩) f cb]:List Value).toArray= #[.slice (some ⟨a,0,none⟩) d c,.slice (some ⟨b,o,none⟩) f cb]from rfl,this]
 rfl
set_option maxRecDepth 4000 in
theorem Qn{M:Nat→Prop}{h:af}{s:SliceV}{xs:List (Option Addr)}(W:OwnS m9 1 bw M h s xs){k:Nat}(Y:k≤xs.length)(hn:(xs.length+1)*8≤140737488355328){x:Option Addr}{m:Nat}(hv:h[m]? =some (.cells (m9 x).toArray bw (0,0)))
  (hvM:¬M m) (hM:∀b,h.size≤b→M b) {K:SliceV→af→Prop} (hK:∀s' O,OwnS m9 1 bw M O s' (xs.take k++x::xs.drop k)→Upd M h O→K s' O):
  HC PG ff [.slice s.a s.len s.cap,.int .i64 k,.slice (some ⟨m,0,none⟩) 1 1] [.c .slice] K h:=by
 refine lF s k ⟨some ⟨m,0,none⟩,1,1⟩ ?_;unfold gL;have n:=W.len;have hcap:=W.cap;have J:SRow h (some ⟨m,0,none⟩) (1*1) (m9 x):=⟨rfl,.inr ⟨_,rfl,rC hv fun i v hi=>by simpa using hi⟩⟩
 refine⟨by omega,aj.2 ?_⟩;refine CondP.intro (fun e=>?_) fun e=>?_
 ·have e:k=xs.length:=by have:=of_decide_eq_true (by simpa using e:decide ((k:Int)=(s.len:Int))=true);omega
  subst e;refine⟨_,J,AppP.own (ys:= [x]) W rfl (by simp) rfl rfl (by omega) (by simp;omega) (hM _ (ao _)) fun s' O ho hu=>hK s' O ?_ hu⟩
  rw[cp,ry];exact ho
 have hlt:k<xs.length:=by
  rcases bO k xs.length with h|h
  ·exact h
  ·have:((k:Int)==(s.len:Int))=true:=by rw[beq_iff_eq];omega
   rw[this]at e;cases e
 rcases W.blk with h0|⟨b,d,ha,u,hc,hr⟩
 ·omega
 have j:((xs.take k).flatMap m9).length=k*1:=by rw[l0 p7,aP,bP Y]
 have w:((xs.drop k).flatMap m9).length=(xs.length-k)*1:=by rw[l0 p7,aZ]
 have G:m≠b:=fun e=>hvM (e▸u)
 rw[BH (f:=m9) xs k]at hc;have a:(xs.take k++x::xs.drop k).flatMap m9=(xs.take k).flatMap m9++(m9 x++(xs.drop k).flatMap m9):=by rw[bN,ba]
 have g:=Gk (xs.drop k);have c:(m9 x).length=1:=rfl;have y:cH (m9 x)=true:=rfl;generalize hAe:(xs.take k).flatMap m9=A at j hc a;generalize hBe:(xs.drop k).flatMap m9=B at w hc a g;generalize m9 x=X at J c hv a y;rw[ha];have w1:IntKind.wrap .i64 ((xs.length:Int)+((1:Nat):Int))=((xs.length+1:Nat):Int):=by rw[jj (by omega)];omega
 have w2:IntKind.wrap .i64 ((k:Int)+((1:Nat):Int))=((k+1:Nat):Int):=by rw[jj (by omega)];omega
 have w3:IntKind.wrap .i64 (((xs.length+1:Nat):Int)-(k:Int))=((xs.length+1-k:Nat):Int):=by rw[jj (by omega)];omega
 simp only[w1,w2,w3,aX,n];refine aM (fun hgt=>?_) fun hle=>?_
 ·
  have I:s.cap=xs.length:=by omega
  refine Join.plain ⟨by omega,⟨by omega,by omega,by omega,by omega⟩,fun hin=>?_,fun S=>?_⟩
  ·omega
  ·refine⟨A,_,?_,rfl,by omega,Go.growslice_fits S (by omega),fun E z=>?_⟩
   ·rw[sub_zero]
    exact mD hc (by rw[j];omega) (by simp only[de,fC];rw[az,←j,gf (ao _),cp])
   ·simp only[aX]at z⊢
    have V:=Upd.hnew No h (A++eh (xs.length+1-k) [.pointer none]++eh (E-(k-0+(xs.length+1-k))) [.pointer none]) bw;have bn:=dq h (A++eh (xs.length+1-k) [.pointer none]++eh (E-(k-0+(xs.length+1-k))) [.pointer none]) bw;have C:(eh (xs.length+1-k) [.pointer none]).length=(xs.length+1-k)*1:=mX _ _;have hz2:(eh (E-(k-0+(xs.length+1-k))) [.pointer none]).length=(E-(k-0+(xs.length+1-k)))*1:=mX _ _
    have p:k-0+(xs.length+1-k)=xs.length+1:=by omega
    rw[fX];have hsz:h.size≠m:=fun e=>by have:=aL hv;omega
    have Q:h.size≠b:=fun e=>by have:=aL hc;omega
    have H:=V.get0 hc;have P:=V.get0 hv;generalize hnew h _ bw=h9 at V bn H P;rw[p]at z hz2⊢;have m1:eN 1 (xs.length+1-k)=1:=bP (by omega);have m2:eN (xs.length-k) (xs.length+1-(k+1))=xs.length-k:=bP (by omega);rw[m1];have xr9:SRow h9 (some ⟨m,0,none⟩) (1*1) X:=mD P (by rw[c]) (by rw[de,bJ];rw[c];omega)
    refine⟨by omega,?_⟩;rw[kP (by omega)];refine mo xr9 y bn (by simp only[ad,j,C];omega) fun h11 N o=>⟨by omega,?_⟩
    simp only[Bd];rw[kP (by omega),kP (by omega),m2];refine⟨by omega,?_⟩;have D:=o.get H (fun e=>Q e.symm)
    have br:SRow h11 (some ⟨b,0+k*1,none⟩) ((xs.length-k)*1) B:=mD D w (by
     rw[aU,az,←j,gr,←w,gV])
    refine mo br g N ?_ fun h16 F L=>?_
    ·simp only[ad,aP,aZ,j,C,c];omega
    ·refine hK _ _ ⟨by simp;omega,p7,z,.inr ⟨h.size,eh (E-(xs.length+1)) [.pointer none],rfl,hM _ (ao _),?_,by rw[mX];rfl⟩⟩ ((V.wide.trans (M':=(· =h.size)) o fun b u=>.inl (u▸hM _ (ao _))).trans (M':=(· =h.size)) L fun b u=>.inl (u▸hM _ (ao _)))
     rw[F,a];have:=L6 (A:=A) (X:=X) (B:=B) (Z1:=eh (xs.length+1-k) [.pointer none]) (Z2:=eh (E-(xs.length+1)) [.pointer none]) (r:=(xs.length-k)*1) j c (by rw[C,←hP];congr 1;omega);rw[p,←this];simp only[aU,hP,sy]
 ·have I:xs.length+1≤s.cap:=by omega
  refine⟨by omega,?_⟩;simp only[Bd,fC];rw[sub_zero,kP (show s.cap≠k+1 by omega),kP (show s.cap≠k by omega)]
  refine⟨by omega,?_⟩;have hrl:1≤d.length:=by rw[hr];exact qF _ (by omega)
  refine LZ hv hc G (by rw[df,ad];omega) ?_;refine aA.2 ⟨by omega,by omega,?_⟩
  have m1:eN 1 (xs.length+1-k)=1:=bP (by omega);have m2:eN (xs.length+1-k) (xs.length+1-(k+1))=xs.length-k:=by
   rw[show xs.length+1-(k+1)=xs.length-k by omega];exact rt (by omega)
  rw[m2];have br:SRow h (some ⟨b,0+k*1,none⟩) ((xs.length-k)*1) B:=mD hc w (by
   rw[aU,az,←j,gr,←w,gV])
  refine mo br g hc (by simp only[ad,j,w];omega) fun h1 hb1 T=>⟨by omega,?_⟩
  rw[m1];have Z:SRow h1 (some ⟨m,0,none⟩) (1*1) X:=mD (T.get hv G) (by rw[c]) (by rw[de,bJ];rw[c];omega);refine mo Z y hb1 (by simp only[ad,aP,aZ,j,w];omega) fun h2 hb2 hu2=>?_
  refine hK _ _ ⟨by simp;omega,p7,I,.inr ⟨b,d.drop 1,rfl,u,?_,?_⟩⟩ ((T.mono fun _ e=>.inl (e▸u)).tr (hu2.mono fun _ e=>.inl (e▸u)))
  ·rw[hb2,a]
   have:=Qq (A:=A) (X:=X) (B:=B) (R:=d) (q:=1) (r:=(xs.length-k)*1) j w hrl;rw[←this];simp only[aU,hP,sy]
  ·rw[aZ,hr]
   simp only;rw[n];omega
end Go.Proofs
namespace Go.Proofs
open Go Go.Lift
theorem Ah{W:Nat→Prop}{h:af}{s:SliceV}{xs:List (ByteArray×ByteArray)}(g:Sl fe 2 W h s xs)(n:xs.length*32≤140737488355328){K:SliceV→af→Prop}
  (j:∀s' c,OwnS fe 2 ay (fun b=>h.size≤b) c s' xs→Upd No h c→K s' c):HC PG cU [.slice s.a s.len s.cap] [.c .slice] K h:=by
 refine oB s ?_;unfold js lf;refine CondP.intro (fun d=>?_) (fun p=>?_)
 ·have d:s.a=none:=by simpa using d
  have hx:xs= []:=by
   by_cases hx:xs= []
   ·exact hx
   ·obtain⟨a,i,_⟩:=g.row hx
    rw[d]at i;cases i
  subst hx;exact j _ _ (OwnS.nil jx) (Upd.refl _ _)
 ·have o:=g.upd (Upd.hnew No h [] ay) (fun _ h=>h.elim)
  refine⟨_,o.srow,?_⟩;refine AppP.own (f:=fe) (M:=fun b=>h.size≤b) (xs:= []) (ys:=xs) ⟨rfl,jx,ao _,.inl rfl⟩ g.len rfl (zW xs) rfl (by omega) (by simpa using n) (by rw[ki];omega) fun s' c q m=>?_
  exact j _ _ q ((Upd.hnew No h [] ay).trans m fun b k=>.inr k)
theorem QG{M:Nat→Prop}{h:af}{s:SliceV}{xs:List (ByteArray×ByteArray)}(v:OwnS fe 2 ay M h s xs){k:Nat}(q:k<xs.length)(R:xs.length≤4398046511104)
  {K:SliceV→af→Prop}(I:∀s' h',OwnS fe 2 ay M h' s' (xs.take k++xs.drop (k+1))→Upd M h h'→K s' h'):
  HC PG fZ [.slice s.a s.len s.cap,.int .i64 k,.int .i64 ((k+1:Nat):Int)] [.c .slice] K h:=by
 refine oc s k ((k+1:Nat):Int) ?_;unfold iZ lf;have d:=v.len;have F:=v.cap;rcases v.blk with Q|⟨b,a,L,y,hc,J⟩
 ·omega
 have p:((xs.take k).flatMap fe).length=k*2:=by rw[l0 jx,aP,bP (by omega)]
 have m:((xs.drop (k+1)).flatMap fe).length=(xs.length-(k+1))*2:=by rw[l0 jx,aZ]
 have N:xs.flatMap fe=(xs.take k).flatMap fe++(fe xs[k]++(xs.drop (k+1)).flatMap fe):=by
  rw[←ba,←fp q];exact BH xs k
 rw[N]at hc;have f:=zW (xs.drop (k+1));have c:(xs.take k++xs.drop (k+1)).flatMap fe=(xs.take k).flatMap fe++(xs.drop (k+1)).flatMap fe:=bN;have H:(fe xs[k]).length=2:=rfl;generalize (xs.take k).flatMap fe=A at p hc c;generalize (xs.drop (k+1)).flatMap fe=B at m hc f c;generalize fe xs[k]=X at H hc;rw[L];simp only[d,aX];refine⟨by omega,by omega,by omega,CondP.intro (fun e=>?_) fun _=>?_⟩
 ·have:(k:Int)=((k+1:Nat):Int):=by simpa using e
  omega
 refine Join.plain ⟨by omega,by omega,B,?_,?_⟩
 ·by_cases g:xs.length=k+1
  ·exact⟨m,.inl (aO.1 (by rw[m,g,gu,tN]))⟩
  rw[kP (by omega)];refine mD hc m ?_;have:(A++X).length=0+(k+1)*2:=by rw[ad];omega
  rw[show A++(X++B)++a=(A++X)++(B++a) by simp only[az],cR this,dD m]
 ·rw[sub_zero]
  refine QP hc (by simp only[ad];omega) (by omega) f fun P i E=>?_
  have z:a.length=(s.cap-xs.length)*2:=by rw[J,d]
  refine⟨by dsimp only;omega,by dsimp only;omega,?_⟩
  simp only[Bd];rw[kP (by omega)];have G:xs.length-(k-0+(xs.length-(k+1)))=1:=by omega
  have w:(A++(X++B)++a).drop ((k-0)*2+B.length)=(X++B).drop B.length++a:=by
   rw[az,←dW,cR (show A.length=(k-0)*2 by rw[p,fC]),gg (by rw[ad];omega)]
  have u:(A++(X++B)++a).take ((k-0)*2)=A:=by rw[az,dD (show A.length=(k-0)*2 by rw[p,fC])]
  rw[w,u]at i;have o:((X++B).drop B.length).length=2:=by rw[aZ,ad];omega
  generalize (X++B).drop B.length=D at o i;rw[G];have hz:(eh 1 [.string (⟨#[]⟩:ByteArray),.string (⟨#[]⟩:ByteArray)]).length=2:=rfl;have j:(A++B).length=0+(k-0+(xs.length-(k+1)))*2:=by rw[ad,p,m];omega
  refine LV i (by simp only[ad]at j⊢;omega) fun O n C=>?_
  rw[dD j,←dW,cR j]at n;refine I _ _ ⟨by simp;omega,jx,by simp only;omega,.inr ⟨b,eh 1 [.string (⟨#[]⟩:ByteArray),.string (⟨#[]⟩:ByteArray)]++(D++a).drop (eh 1 [.string (⟨#[]⟩:ByteArray),.string (⟨#[]⟩:ByteArray)]).length,rfl,y,?_,?_⟩⟩ ((E.mono fun _ e=>.inl (e▸y)).tr (C.mono fun _ e=>.inl (e▸y)))
  ·rw[n,c];simp only[az]
  ·simp only[ad,aZ,hz,o,z]
   omega
theorem K6{W:Nat→Prop}{h:af}{s:SliceV}{xs:List (Option Addr)}(g:Sl rG 1 W h s xs)(n:xs.length*8≤140737488355328){K:SliceV→af→Prop}
  (j:∀s' c,OwnS rG 1 bZ (fun b=>h.size≤b) c s' xs→Upd No h c→K s' c):HC PG dY [.slice s.a s.len s.cap] [.c .slice] K h:=by
 refine mF s ?_;unfold im;refine CondP.intro (fun d=>?_) (fun p=>?_)
 ·have d:s.a=none:=by simpa using d
  have hx:xs= []:=by
   by_cases hx:xs= []
   ·exact hx
   ·obtain⟨a,i,_⟩:=g.row hx
    rw[d]at i;cases i
  subst hx;exact j _ _ (OwnS.nil sG) (Upd.refl _ _)
 ·have o:=g.upd (Upd.hnew No h [] bZ) (fun _ h=>h.elim)
  refine⟨_,o.srow,?_⟩;refine AppP.own (f:=rG) (M:=fun b=>h.size≤b) (xs:= []) (ys:=xs) ⟨rfl,sG,ao _,.inl rfl⟩ g.len rfl (Gl xs) rfl (by omega) (by simpa using n) (by rw[ki];omega) fun s' c q m=>?_
  exact j _ _ q ((Upd.hnew No h [] bZ).trans m fun b k=>.inr k)
theorem QH{M:Nat→Prop}{h:af}{s:SliceV}{xs:List (Option Addr)}(v:OwnS rG 1 bZ M h s xs){k:Nat}(q:k<xs.length)(R:xs.length≤4398046511104)
  {K:SliceV→af→Prop}(I:∀s' h',OwnS rG 1 bZ M h' s' (xs.take k++xs.drop (k+1))→Upd M h h'→K s' h'):
  HC PG fw [.slice s.a s.len s.cap,.int .i64 k,.int .i64 ((k+1:Nat):Int)] [.c .slice] K h:=by
 refine mq s k ((k+1:Nat):Int) ?_;unfold hJ;have d:=v.len;have F:=v.cap;rcases v.blk with Q|⟨b,a,L,y,hc,J⟩
 ·omega
 have p:((xs.take k).flatMap rG).length=k*1:=by rw[l0 sG,aP,bP (by omega)]
 have m:((xs.drop (k+1)).flatMap rG).length=(xs.length-(k+1))*1:=by rw[l0 sG,aZ]
 have N:xs.flatMap rG=(xs.take k).flatMap rG++(rG xs[k]++(xs.drop (k+1)).flatMap rG):=by
  rw[←ba,←fp q];exact BH xs k
 rw[N]at hc;have f:=Gl (xs.drop (k+1));have c:(xs.take k++xs.drop (k+1)).flatMap rG=(xs.take k).flatMap rG++(xs.drop (k+1)).flatMap rG:=bN;have H:(rG xs[k]).length=1:=rfl;generalize (xs.take k).flatMap rG=A at p hc c;generalize (xs.drop (k+1)).flatMap rG=B at m hc f c;generalize rG xs[k]=X at H hc;rw[L];simp only[d,aX];refine⟨by omega,by omega,by omega,CondP.intro (fun e=>?_) fun _=>?_⟩
 ·have:(k:Int)=((k+1:Nat):Int):=by simpa using e
  omega
 refine Join.plain ⟨by omega,by omega,B,?_,?_⟩
 ·by_cases g:xs.length=k+1
  ·exact⟨m,.inl (aO.1 (by rw[m,g,gu,tN]))⟩
  rw[kP (by omega)];refine mD hc m ?_;have:(A++X).length=0+(k+1)*1:=by rw[ad];omega
  rw[show A++(X++B)++a=(A++X)++(B++a) by simp only[az],cR this,dD m]
 ·rw[sub_zero]
  refine QP hc (by simp only[ad];omega) (by omega) f fun P i E=>?_
  have z:a.length=(s.cap-xs.length)*1:=by rw[J,d]
  refine⟨by dsimp only;omega,by dsimp only;omega,?_⟩
  simp only[Bd];rw[kP (by omega)];have G:xs.length-(k-0+(xs.length-(k+1)))=1:=by omega
  have w:(A++(X++B)++a).drop ((k-0)*1+B.length)=(X++B).drop B.length++a:=by
   rw[az,←dW,cR (show A.length=(k-0)*1 by rw[p,fC]),gg (by rw[ad];omega)]
  have u:(A++(X++B)++a).take ((k-0)*1)=A:=by rw[az,dD (show A.length=(k-0)*1 by rw[p,fC])]
  rw[w,u]at i;have o:((X++B).drop B.length).length=1:=by rw[aZ,ad];omega
  generalize (X++B).drop B.length=D at o i;rw[G];have hz:(eh 1 [.pointer none]).length=1:=rfl;have j:(A++B).length=0+(k-0+(xs.length-(k+1)))*1:=by rw[ad,p,m];omega
  refine LV i (by simp only[ad]at j⊢;omega) fun O n C=>?_
  rw[dD j,←dW,cR j]at n;refine I _ _ ⟨by simp;omega,sG,by simp only;omega,.inr ⟨b,eh 1 [.pointer none]++(D++a).drop (eh 1 [.pointer none]).length,rfl,y,?_,?_⟩⟩ ((E.mono fun _ e=>.inl (e▸y)).tr (C.mono fun _ e=>.inl (e▸y)))
  ·rw[n,c];simp only[az]
  ·simp only[ad,aZ,hz,o,z]
   omega
theorem K5{W:Nat→Prop}{h:af}{s:SliceV}{xs:List (Option Addr)}(g:Sl m9 1 W h s xs)(n:xs.length*8≤140737488355328){K:SliceV→af→Prop}
  (j:∀s' c,OwnS m9 1 bw (fun b=>h.size≤b) c s' xs→Upd No h c→K s' c):HC PG dJ [.slice s.a s.len s.cap] [.c .slice] K h:=by
 refine l8 s ?_;unfold gT;refine CondP.intro (fun d=>?_) (fun p=>?_)
 ·have d:s.a=none:=by simpa using d
  have hx:xs= []:=by
   by_cases hx:xs= []
   ·exact hx
   ·obtain⟨a,i,_⟩:=g.row hx
    rw[d]at i;cases i
  subst hx;exact j _ _ (OwnS.nil p7) (Upd.refl _ _)
 ·have o:=g.upd (Upd.hnew No h [] bw) (fun _ h=>h.elim)
  refine⟨_,o.srow,?_⟩;refine AppP.own (f:=m9) (M:=fun b=>h.size≤b) (xs:= []) (ys:=xs) ⟨rfl,p7,ao _,.inl rfl⟩ g.len rfl (Gk xs) rfl (by omega) (by simpa using n) (by rw[ki];omega) fun s' c q m=>?_
  exact j _ _ q ((Upd.hnew No h [] bw).trans m fun b k=>.inr k)
theorem QF{M:Nat→Prop}{h:af}{s:SliceV}{xs:List (Option Addr)}(v:OwnS m9 1 bw M h s xs){k:Nat}(q:k<xs.length)(R:xs.length≤4398046511104)
  {K:SliceV→af→Prop}(I:∀s' h',OwnS m9 1 bw M h' s' (xs.take k++xs.drop (k+1))→Upd M h h'→K s' h'):
  HC PG fg [.slice s.a s.len s.cap,.int .i64 k,.int .i64 ((k+1:Nat):Int)] [.c .slice] K h:=by
 refine lG s k ((k+1:Nat):Int) ?_;unfold gM;have d:=v.len;have F:=v.cap;rcases v.blk with Q|⟨b,a,L,y,hc,J⟩
 ·omega
 have p:((xs.take k).flatMap m9).length=k*1:=by rw[l0 p7,aP,bP (by omega)]
 have m:((xs.drop (k+1)).flatMap m9).length=(xs.length-(k+1))*1:=by rw[l0 p7,aZ]
 have N:xs.flatMap m9=(xs.take k).flatMap m9++(m9 xs[k]++(xs.drop (k+1)).flatMap m9):=by
  rw[←ba,←fp q];exact BH xs k
 rw[N]at hc;have f:=Gk (xs.drop (k+1));have c:(xs.take k++xs.drop (k+1)).flatMap m9=(xs.take k).flatMap m9++(xs.drop (k+1)).flatMap m9:=bN;have H:(m9 xs[k]).length=1:=rfl;generalize (xs.take k).flatMap m9=A at p hc c;generalize (xs.drop (k+1)).flatMap m9=B at m hc f c;generalize m9 xs[k]=X at H hc;rw[L];simp only[d,aX];refine⟨by omega,by omega,by omega,CondP.intro (fun e=>?_) fun _=>?_⟩
 ·have:(k:Int)=((k+1:Nat):Int):=by simpa using e
  omega
 refine Join.plain ⟨by omega,by omega,B,?_,?_⟩
 ·by_cases g:xs.length=k+1
  ·exact⟨m,.inl (aO.1 (by rw[m,g,gu,tN]))⟩
  rw[kP (by omega)];refine mD hc m ?_;have:(A++X).length=0+(k+1)*1:=by rw[ad];omega
  rw[show A++(X++B)++a=(A++X)++(B++a) by simp only[az],cR this,dD m]
 ·rw[sub_zero]
  refine QP hc (by simp only[ad];omega) (by omega) f fun P i E=>?_
  have z:a.length=(s.cap-xs.length)*1:=by rw[J,d]
  refine⟨by dsimp only;omega,by dsimp only;omega,?_⟩
  simp only[Bd];rw[kP (by omega)];have G:xs.length-(k-0+(xs.length-(k+1)))=1:=by omega
  have w:(A++(X++B)++a).drop ((k-0)*1+B.length)=(X++B).drop B.length++a:=by
   rw[az,←dW,cR (show A.length=(k-0)*1 by rw[p,fC]),gg (by rw[ad];omega)]
  have u:(A++(X++B)++a).take ((k-0)*1)=A:=by rw[az,dD (show A.length=(k-0)*1 by rw[p,fC])]
  rw[w,u]at i;have o:((X++B).drop B.length).length=1:=by rw[aZ,ad];omega
  generalize (X++B).drop B.length=D at o i;rw[G];have hz:(eh 1 [.pointer none]).length=1:=rfl;have j:(A++B).length=0+(k-0+(xs.length-(k+1)))*1:=by rw[ad,p,m];omega
  refine LV i (by simp only[ad]at j⊢;omega) fun O n C=>?_
  rw[dD j,←dW,cR j]at n;refine I _ _ ⟨by simp;omega,p7,by simp only;omega,.inr ⟨b,eh 1 [.pointer none]++(D++a).drop (eh 1 [.pointer none]).length,rfl,y,?_,?_⟩⟩ ((E.mono fun _ e=>.inl (e▸y)).tr (C.mono fun _ e=>.inl (e▸y)))
  ·rw[n,c];simp only[az]
  ·simp only[ad,aZ,hz,o,z]
   omega
end Go.Proofs
namespace Go.Proofs
open Go.Lift
abbrev Pr:=ByteArray×ByteArray
theorem Ey{a b:ByteArray}:a.toList=b.toList↔a=b:=by
 constructor
 ·intro h
  rw[ByteArray.toList_eq,ByteArray.toList_eq]at h;cases a;cases b;simp at h;subst h;rfl
 ·rintro rfl;rfl
def kl(a b:ByteArray):Prop:=Op.bytesLess a.toList b.toList=true
instance (a b:ByteArray):Decidable (kl a b):=inferInstanceAs (Decidable (_=true))
theorem Qe{a b:ByteArray}:kl a b↔a.toList<b.toList:=by unfold kl;rw[bytesLess_eq,decide_eq_true_iff]
theorem cM(a:ByteArray):¬kl a a:=by rw[Qe];exact List.lt_irrefl _
theorem jo{a b c:ByteArray}(h:kl a b)(k:kl b c):kl a c:=by rw[Qe]at*;exact List.lt_trans h k
theorem tri:∀x y:List UInt8,Op.bytesLess x y=false→x≠y→Op.bytesLess y x=true
 | [],[],_,h=>absurd rfl h
 | [],_::_,h,_=>by simp[Op.bytesLess]at h
 |_::_,[],_,_=>rfl
 |a::x,b::y,h,hn=>by
  simp only[Op.bytesLess,Bool.or_eq_false_iff,decide_eq_false_iff_not,Bool.and_eq_false_iff]at h;simp only[Op.bytesLess,Bool.or_eq_true,decide_eq_true_iff,Bool.and_eq_true];by_cases e:a=b
  ·subst e
   right;refine⟨by simp,tri x y ?_ fun e=>hn (by rw[e])⟩
   rcases h.2 with h|h
   ·simp at h
   ·exact h
  ·left
   have c:=h.1;rw[UInt8.lt_iff_toNat_lt]at c⊢;have:a.toNat≠b.toNat:=fun h=>e (UInt8.toNat_inj.1 h)
   omega
theorem sH{a b:ByteArray}(h:¬kl a b)(k:a≠b):kl b a:=tri _ _ (by unfold kl at h;simpa using h) fun e=>k (Ey.1 e)
def Mp(a b:ByteArray):Int:=if kl a b then-1 else if a=b then 0 else 1
theorem N6{x:ByteArray}{h:af}{K:Bool→af→Prop}(a:K false h):HC PG o9 [.string x] [.c .bool] K h:=by
 refine Gc x ?_;unfold yD;simpa using a
theorem QJ{a b:ByteArray}{h:af}{K:Int→af→Prop}(c:K (Mp a b) h):HC PG qq [.string a,.string b] [.c (.int .i64)] K h:=by
 refine Dx a b ?_;unfold vN;refine N6 (N6 (aj.2 (aj.2 ?_)));unfold Mp at c;refine CondP.intro (fun e=>?_) fun e=>?_
 ·rw[if_pos (show kl a b from e)]at c;exact c
 ·have f:¬kl a b:=fun h=>by rw[show Op.bytesLess a.toList b.toList=true from h]at e;cases e
  rw[if_neg f]at c;rw[e];refine CondP.intro (fun d=>?_) fun d=>?_
  ·rw[if_neg (fun h=>by subst h;simp at d)]at c;exact c
  ·have:a.toList=b.toList:=by simpa using d
   rw[if_pos (Ey.1 this)]at c;exact c
theorem NW{p:Pr}{k:ByteArray}{h:af}{K:Int→af→Prop}(a:∀h',Upd No h h'→K (Mp p.1 k) h'):HC PG qk [.agg #[.string p.1,.string p.2],.string k] [.c (.int .i64)] K h:=by
 refine MJ p k ?_;unfold DI aD tc jm;have b1:=dq h [.string p.1,.string p.2] ay;refine⟨p.1,by rw[fX,cd,bI b1];rfl,QJ (a _ (Upd.hnew No h _ _))⟩
abbrev cA(l:List Pr):Prop:=l.Pairwise fun p q=>kl p.1 q.1
def pp(l:List Pr)(k:ByteArray):Nat:=(l.takeWhile fun p=>decide (kl p.1 k)).length
def cI(l:List Pr)(k:ByteArray):Bool:=l.any fun p=>decide (p.1=k)
theorem VD{l:List Pr}{k:ByteArray}{i:Nat}(hi:i≤l.length)(b:∀j (h:j<l.length),j<i→kl l[j].1 k)(a:∀(h:i<l.length),¬kl l[i].1 k):pp l k=i:=by
 unfold pp;induction l generalizing i with
 |nil=>simp at hi;simp[hi]
 |cons p l ih=>
  rw[List.takeWhile_cons];cases i with
  |zero=>
   have:=a (by simp);simp only[List.getElem_cons_zero]at this;rw[if_neg (by simpa using this)];rfl
  |succ i=>
   have:=b 0 (by simp) (by omega);simp only[List.getElem_cons_zero]at this;rw[if_pos (by simpa using this),aH];congr 1
   refine ih (by simpa using hi) (fun j d c=>?_) fun h=>?_
   ·have:=b (j+1) (by simpa using d) (by omega)
    simpa using this
   ·have:=a (by simpa using h)
    simpa using this
theorem VE(l:List Pr)(k:ByteArray):pp l k≤l.length:=by
 unfold pp;exact(List.takeWhile_prefix _).length_le
theorem Mc{W:Nat→Prop}{h:af}{s:SliceV}{l:List Pr}(Y:Sl fe 2 W h s l)(hr:cA l)(hn:l.length≤1000000000)(k:ByteArray){K:Int×Bool→af→Prop}
  (F:∀z,Upd No h z→K ((pp l k:Int),cI l k) z):HC PG r6 [.slice s.a s.len s.cap,.string k] [.c (.int .i64),.c .bool] K h:=by
 refine OU s k ?_;unfold FO;refine jO s k _ ?_;unfold fF cS bo oZ yH;have T:=Y.len;have G:∀{p:Pr} {h:af} {K:Int→af→Prop},(∀z,Upd No h z→K (Mp p.1 k) z)→HV PG (.func (.func qk) #[] #[]) [.agg #[.string p.1,.string p.2],.string k] [.c (.int .i64)] K h:=fun F=>HV.mk' (NW F)
 refine LoopP.ghost (fun(g:Nat×Nat) (t:Int×Int) z=>t.1=(g.1:Int)∧t.2=(g.2:Int)∧g.1≤g.2∧g.2≤l.length∧Upd No h z∧(∀j (P:j<l.length),j<g.1→kl l[j].1 k)∧(∀j (P:j<l.length),g.2≤j→¬kl l[j].1 k)) (fun g=>g.2-g.1) (0,l.length)
  ⟨rfl,by simp only;omega,by simp,by simp,Upd.refl _ _,fun j P h=>by omega,fun j P h=>by simp only at h;omega⟩ ?_
 rintro I ⟨i,j⟩ ⟨ti,tj⟩ z ⟨e1,V,C,B,H,n,u⟩ X;simp only at e1 V C B n u;subst e1 V;have J:=Y.upd H fun _ h=>h.elim
 have mono:∀a b (E:a<l.length) (Z:b<l.length),a<b→kl l[a].1 l[b].1:=fun a b E Z Q=>cJ.1 hr a b E Z Q
 refine aM (fun v=>?_) fun S=>?_
 ·have v:i<j:=by have:(i:Int)<(j:Int):=v;omega
  have em:IntKind.wrap .i64 (fl (IntKind.wrap .u64 (IntKind.wrap .i64 ((i:Int)+(j:Int)))) (2^(min (1:Int).toNat (IntKind.bits .u64))))=(((i+j)/2:Nat):Int):=by
   have e3:(2^(min (1:Int).toNat (IntKind.bits .u64)):Int)=2:=rfl;rw[e3,jj (x:=(i:Int)+(j:Int)) (by omega),Go.IntWalk.u64_in _ (by omega),jY _ (by omega),jj (by omega)];omega
  refine⟨by decide,?_⟩;simp only[Bd];rw[em];generalize hm:(i+j)/2=m;have A:m<l.length:=by omega
  obtain⟨a,E,_,hv⟩:=J.at (ag A);refine⟨by omega,a,E,l[m].1,hv 0 _ rfl,l[m].2,hv 1 _ rfl,G fun h2 w=>?_⟩
  refine aM (fun f=>?_) fun M=>?_
  ·have c:kl l[m].1 k:=by
    unfold Mp at f;by_cases c:kl l[m].1 k
    ·exact c
    ·rw[if_neg c]at f;split at f<;>omega
   refine X (m+1,j) _ _ ⟨by simp only;rw[jj (by omega)];omega,rfl,by simp only;omega,B,H.tr w,fun q y D=>?_,u⟩ (by simp only;omega)
   simp only at D;rcases bO q m with h|h
   ·exact jo (mono q m y A h) c
   ·have:q=m:=by omega
    subst this;exact c
  ·have d:¬kl l[m].1 k:=fun c=>M (by unfold Mp;rw[if_pos c];decide)
   refine X (i,m) _ _ ⟨rfl,rfl,by simp only;omega,by simp only;omega,H.tr w,n,fun q y D L=>?_⟩ (by simp only;omega)
   simp only at D;rcases bO m q with h|h
   ·exact d (jo (mono m q A y h) L)
   ·have:q=m:=by omega
    subst this;exact d L
 ·have C:i=j:=by have:¬(i:Int)<(j:Int):=S;omega
  subst C;have N:pp l k=i:=VD B n fun hi=>u i hi (ao _)
  rw[N]at F;refine aM (fun v=>?_) fun O=>?_
  ·have o:i<l.length:=by have:(i:Int)<(s.len:Int):=v;omega
   obtain⟨a,E,_,hv⟩:=J.at (ag o);refine⟨by simp only;omega,a,E,l[i].1,hv 0 _ rfl,l[i].2,hv 1 _ rfl,G fun h2 w=>?_⟩
   have d:=u i o (ao _);have R:(Mp l[i].1 k==(0:Int))=cI l k:=by
    unfold Mp cI;rw[if_neg d,pf,cL];constructor
    ·intro h
     split at h
     ·rename_i e;exact⟨l[i],List.getElem_mem o,decide_eq_true e⟩
     ·simp at h
    ·rintro⟨p,N,e⟩
     have e:=of_decide_eq_true e;obtain⟨q,y,rfl⟩:=List.mem_iff_getElem.1 N;have:q=i:=by
      rcases Nat.lt_trichotomy q i with h|h|h
      ·exact absurd (e▸n q y h) (cM _)
      ·exact h
      ·exact absurd (e▸mono i q o y h) d
     subst this;rw[if_pos e];rfl
   rw[R];exact F _ (H.tr w)
  ·have o:i=l.length:=by have:¬(i:Int)<(s.len:Int):=O;omega
   have R:cI l k=false:=by
    unfold cI;rw[List.any_eq_false];intro p N e;have e:=of_decide_eq_true e;obtain⟨q,y,rfl⟩:=List.mem_iff_getElem.1 N;exact absurd (e▸n q y (by omega)) (cM _)
   rw[R]at F;exact F _ H
end Go.Proofs
namespace Go.Proofs
open Go.Lift
theorem OwnS.zero{α:Type}{f:α→List Value}{sz:Nat}{t:TypeId}{M:Nat→Prop}{h:af}{s:SliceV}{xs:List α}(c:OwnS f sz t M h s xs):OwnS f sz t M h ⟨bq s.a 0 s.cap sz,0-0,s.cap-0⟩ []:=by
 have g:∀x,(f x).length=sz∧0<sz:=c.ne;have d:=c.len;have i:=c.cap;refine⟨rfl,g,by simp only;omega,?_⟩
 rcases c.blk with n|⟨b,a,m,j,hc,k⟩
 ·exact .inl (by simp only;omega)
 ·refine .inr ⟨b,xs.flatMap f++a,by rw[m,sub_zero],j,hc,?_⟩
  rw[ad,l0 g,k,←Nat.add_mul];simp only;congr 1;omega
def Ln:Pr:=(⟨#[]⟩,⟨#[]⟩)
theorem RA(n:Nat):eh n [.string (⟨#[]⟩:ByteArray),.string (⟨#[]⟩:ByteArray)]=(eD n Ln).flatMap fe:=by
 unfold eh;induction n with
 |zero=>rfl
 |succ n ih=>rw[jt,jt,ba,←ih];rfl
theorem Yq{n:Nat}(i:n*32≤140737488355328){h:af}{K:SliceV→af→Prop}(c:∀s' a,OwnS fe 2 ay (fun b=>h.size≤b) a s' []→Upd No h a→K s' a):
  HC PG gm [.slice none 0 0,.int .i64 n] [.c .slice] K h:=by
 refine oT ⟨none,0,0⟩ n ?_;unfold jE lf;have e:IntKind.wrap .i64 ((n:Int)-IntKind.wrap .i64 (((0:Nat):Int)-((0:Nat):Int)))=(n:Int):=by rw[jj (x:=((0:Nat):Int)-((0:Nat):Int)) (by omega),jj (by omega)];omega
 refine Join.plain (aM (fun h=>by omega) fun _=>?_)
 simp only[Bd];rw[e];refine aM (fun k=>?_) fun hz=>c _ _ (OwnS.nil jx) (Upd.refl _ _)
 refine⟨by omega,⟨by omega,by omega,by omega,by omega⟩,?_⟩
 refine AppP.own (f:=fe) (M:=fun b=>h.size≤b) (xs:= []) (ys:=eD n Ln) (OwnS.nil jx) (by simp) (RA _) (by rw[RA];exact zW _) rfl (by omega) (by simpa using i) (ao _) fun s' a j g=>?_
 exact⟨by omega,c _ _ (OwnS.zero j) (g.mono fun b d=>.inr d)⟩
abbrev abv(s:SliceV):List Value:= [.slice s.a s.len s.cap]
def ParS(h:af):List SliceV→List (List Pr)→Prop
 | [],[]=>True
 |v::vs,l::ls=>Sl fe 2 No h v l∧ParS h vs ls
 |_,_=>False
theorem ParS.upd{h a:af}(k:Upd No h a):∀{vs:List SliceV} {ls:List (List Pr)},ParS h vs ls→ParS a vs ls
 | [],[],_=>trivial
 |_::_,_::_,q=>⟨q.1.upd k fun _ h=>h.elim,ParS.upd k q.2⟩
 | [],_::_,q=>q.elim
 |_::_,[],q=>q.elim
theorem ParS.len{h:af}:∀{vs:List SliceV} {ls:List (List Pr)},ParS h vs ls→vs.length=ls.length
 | [],[],_=>rfl
 |_::_,_::_,q=>by rw[aH,aH,ParS.len q.2]
 | [],_::_,q=>q.elim
 |_::_,[],q=>q.elim
theorem ParS.at{h:af}:∀{vs:List SliceV} {ls:List (List Pr)},ParS h vs ls→∀{i:Nat} (h1:i<vs.length) (h2:i<ls.length),Sl fe 2 No h vs[i] ls[i]
 |_::_,_::_,q,0,_,_=>q.1
 |_::_,_::_,q,i+1,h1,h2=>ParS.at q.2 (by simpa using h1) (by simpa using h2)
theorem KV(ls:List (List Pr)){i:Nat}(hi:i<ls.length):(ls.take (i+1)).flatten=(ls.take i).flatten++ls[i]:=by
 rw[List.take_succ_eq_append_getElem hi,eO,fa,ot,List.append_nil]
theorem Sn(ls:List (List Pr))(i:Nat):(ls.take i).flatten.length≤ls.flatten.length:=by
 have:ls.flatten=(ls.take i).flatten++(ls.drop i).flatten:=by rw[←eO,List.take_append_drop]
 rw[this,ad];omega
theorem K2{h:af}{s:SliceV}{vs:List SliceV}{ls:List (List Pr)}(z:Sl abv 1 No h s vs)(E:ParS h vs ls)(O:ls.flatten.length*32≤140737488355328)(hv:vs.length≤1000)
  {K:SliceV→af→Prop}(P:∀s' g,OwnS fe 2 ay (fun b=>h.size≤b) g s' ls.flatten→Upd No h g→K s' g):HC PG eJ [.slice s.a s.len s.cap] [.c .slice] K h:=by
 refine oe s ?_;unfold ja bH cS lf;have H:=z.len;have d:=E.len;refine LoopP.ghost (fun(i:Nat) (t:Int×Int) g=>t.2=(i:Int)∧i≤vs.length∧t.1=((ls.take i).flatten.length:Int)∧g=h) (fun i=>vs.length-i) 0 ⟨rfl,bj _,by simp,rfl⟩ ?_
 rintro I i ⟨S,ti⟩ g ⟨q,hi,J,rfl⟩ L;simp only at q J;subst q J;refine aM (fun c=>?_) fun D=>?_
 ·have c:i<vs.length:=by have:(i:Int)<(s.len:Int):=c;omega
  obtain⟨a,C,_,k⟩:=z.at (ag c);have Q:=(E.at c (d▸c)).len;have f:=congrArg eL (KV ls (d▸c));rw[ad]at f;have w:=Sn ls (i+1);refine Join.plain ⟨by simp only;omega,a,C,_,k 0 _ rfl,?_⟩;simp only;have ew:IntKind.wrap .i64 (((ls.take i).flatten.length:Int)+((vs[i]).len:Int))=((ls.take (i+1)).flatten.length:Int):=by rw[jj (by omega)];omega
  rw[ew];refine aM (fun h=>by omega) fun _=>?_
  rw[cO c (by omega)];exact L (i+1) _ _ ⟨rfl,c,rfl,rfl⟩ (by omega)
 ·have R:i=vs.length:=by have:¬(i:Int)<(s.len:Int):=D;omega
  rw[bJ (by omega)];refine Yq O fun s0 Z y F=>?_
  refine LoopP.ghost (fun(i:Nat) (t:SliceV×Int) v=>t.2=(i:Int)∧i≤vs.length∧OwnS fe 2 ay (fun b=>g.size≤b) v t.1 (ls.take i).flatten∧Upd No g v) (fun i=>vs.length-i) 0 ⟨rfl,bj _,by simpa using y,F⟩ ?_
  rintro Y j ⟨W,X⟩ v ⟨q,V,u,m⟩ A;simp only at q u;subst q;refine aM (fun c=>?_) fun n=>?_
  ·have c:j<vs.length:=by have:(j:Int)<(s.len:Int):=c;omega
   obtain⟨a,C,_,k⟩:=(z.upd m fun _ h=>h.elim).at (ag c)
   have o:=((E.upd m).at c (d▸c));have f:=KV ls (d▸c);have p:=congrArg eL f;rw[ad]at p;have w:=Sn ls (j+1);refine Join.plain ⟨by simp only;omega,a,C,_,k 0 _ rfl,_,o.srow,?_⟩;refine AppP.own (ys:=ls[j]) u o.len rfl (zW _) rfl (by omega) (by omega) m.size fun s2 T B G=>?_
   simp only;rw[cO c (by omega)];exact A (j+1) _ _ ⟨rfl,c,f▸B,m.trans G fun b N=>.inr N⟩ (by omega)
  ·have M:j=vs.length:=by have:¬(j:Int)<(s.len:Int):=n;omega
   rw[bJ (by omega)]at u;exact P _ _ u m
def Qr(l:List Pr)(p:Pr):List Pr:=l.take (pp l p.1)++p::l.drop (if cI l p.1 then pp l p.1+1 else pp l p.1)
def T7(l:List Pr)(k:ByteArray):List Pr:=if cI l k then l.take (pp l k)++l.drop (pp l k+1)else l
theorem LW{l:List Pr}(d:cA l){k:ByteArray}(c:cI l k=true):∃h:pp l k<l.length,l[pp l k].1=k:=by
 unfold cI at c;obtain⟨p,g,e⟩:=cL.1 c;have e:=of_decide_eq_true e;obtain⟨q,b,rfl⟩:=List.mem_iff_getElem.1 g;have:pp l k=q:=VD (by omega) (fun j f a=>by rw[←e];exact cJ.1 d j q f b a) fun h=>by rw[←e];exact cM _
 subst this;exact⟨b,e⟩
theorem LH{h:af}{s:SliceV}{l:List Pr}(a:Sl fe 2 No h s l){i j m:Nat}(f:i≤j)(b:j≤l.length)(d:j≤m)(c:Nat):Sl fe 2 No h ⟨bq s.a i m 2,j-i,c⟩ ((l.drop i).take (j-i)):=Sl.sub a f b d
theorem P6{h:af}{s:SliceV}{l:List Pr}(w:Sl fe 2 No h s l)(hc:s.len≤s.cap)(y:cA l)(L:l.length≤1000000000)(p:Pr)
  {K:SliceV→af→Prop}(M:∀s' a,OwnS fe 2 ay (fun b=>h.size≤b) a s' (Qr l p)→Upd No h a→K s' a):HC PG BD [.slice s.a s.len s.cap,.agg #[.string p.1,.string p.2]] [.c .slice] K h:=by
 refine Re s p ?_;unfold IQ aD Cl tc jm;have d:=w.len;have k1:=Upd.hnew No h [.string p.1,.string p.2] ay;have b1:=dq h [.string p.1,.string p.2] ay;refine ce ?_;simp only[fX h];generalize hnew h [.string p.1,.string p.2] ay=h1 at k1 b1;refine⟨p.1,by rw[cd,bI b1];rfl,Mc (w.upd k1 fun _ h=>h.elim) y L p.1 fun F k=>?_⟩
 have D:=VE l p.1;have c:=k1.tr k;refine⟨by simp only;omega,?_⟩;let q:=if cI l p.1 then pp l p.1+1 else pp l p.1
 have N:q≤l.length:=by
  show(if cI l p.1 then pp l p.1+1 else pp l p.1)≤l.length
  split
  ·rename_i ht;obtain⟨h,_⟩:=LW y ht;omega
  ·exact D
 refine Join.intro (fun t a=>a=F∧t=⟨bq s.a q s.cap 2,s.len-q,s.cap-q⟩) (fun R C=>?_) ?_
 ·refine CondP.intro (fun e=>?_) fun e=>C _ _ ⟨rfl,?_⟩
  ·have e:cI l p.1=true:=e
   obtain⟨G,_⟩:=LW y e;have ew:IntKind.wrap .i64 ((pp l p.1:Int)+1)=((pp l p.1+1:Nat):Int):=by rw[jj (by omega)];omega
   simp only;rw[ew];refine⟨by omega,C _ _ ⟨rfl,?_⟩⟩;have:q=pp l p.1+1:=by show(if cI l p.1 then _ else _)=_;rw[if_pos e]
   rw[this];rfl
  ·have e:cI l p.1=false:=e
   have:q=pp l p.1:=by show(if cI l p.1 then _ else _)=_;rw[if_neg (by rw[e];decide)]
   rw[this];rfl
 ·rintro t a ⟨rfl,rfl⟩
  have b2:=k.get0 b1;refine⟨by simp only;omega,p.1,by rw[cd,bI b2];rfl,p.2,by rw[cd,bI b2];rfl,?_⟩
  have u:=Upd.hnew No a [.string p.1,.string p.2] ay;have b3:=dq a [.string p.1,.string p.2] ay;refine ce ?_;simp only[fX a];generalize hnew a [.string p.1,.string p.2] ay=h3 at u b3;refine ce ?_;have g:=(w.upd c fun _ h=>h.elim).upd u fun _ h=>h.elim
  have n:=Upd.hnew No h3 [.slice (bq s.a 0 s.cap 2) ((pp l p.1:Int).toNat-0) (s.cap-0),.slice (some ⟨a.size,0,none⟩) 1 1,.slice (bq s.a q s.cap 2) (s.len-q) (s.cap-q)] dL;have E:=dq h3 [.slice (bq s.a 0 s.cap 2) ((pp l p.1:Int).toNat-0) (s.cap-0),.slice (some ⟨a.size,0,none⟩) 1 1,.slice (bq s.a q s.cap 2) (s.len-q) (s.cap-q)] dL;have B:=LH g (i:=0) (j:=pp l p.1) (m:=s.cap) (bj _) D (by omega) (s.cap-0)
  have J:Sl fe 2 No h3 ⟨some ⟨a.size,0,none⟩,1,1⟩ [p]:=⟨rfl,jx,fun _=>⟨_,rfl,fun h=>h.elim,rC b3 fun i v hv=>by simpa using hv⟩⟩
  have z:=LH g (i:=q) (j:=l.length) (m:=s.cap) N (ao _) (by omega) (s.cap-q);rw[←d]at z;rw[de]at B;rw[bJ (by rw[aZ];omega)]at z;have H:Qr l p= [l.take (pp l p.1-0),[p],l.drop q].flatten:=by simp[Qr,q]
  refine K2 (s:=⟨some (aI h3),3,3⟩) (vs:= [⟨bq s.a 0 s.cap 2,(pp l p.1:Int).toNat-0,s.cap-0⟩,⟨some ⟨a.size,0,none⟩,1,1⟩,⟨bq s.a q s.cap 2,s.len-q,s.cap-q⟩]) (ls:= [l.take (pp l p.1-0),[p],l.drop q])
   ⟨rfl,fun x=>⟨rfl,Nat.one_pos⟩,fun _=>⟨_,rfl,fun h=>h.elim,rC E fun i v hv=>by simpa[abv]using hv⟩⟩ ⟨B.upd n fun _ h=>h.elim,J.upd n fun _ h=>h.elim,z.upd n fun _ h=>h.elim,trivial⟩ ?_ (by simp) fun P O f o=>?_
  ·simp only[fa,ot,ad,aP,aZ,List.length_singleton,List.length_nil];omega
  ·rw[←H]at f
   have A:=((c.tr u).tr n);exact M _ _ (f.more fun b I=>Nat.le_trans A.size I) (A.tr o)
end Go.Proofs
namespace Go.Proofs
open Go.Lift
def xp(n d:Nat):Nat:=(dh n).countP (d.testBit ·)
theorem Gy(m n d:Nat):xp (m+n) d=xp m d+xp n (d>>>m):=by
 unfold xp;rw[uM,List.countP_append,List.countP_map];congr 1
 refine List.countP_congr fun i _=>?_
 simp[qD]
theorem SA(d:Nat)(i:Nat):∀n,i≤n→xp n (d&&&(2^i-1))=xp i d:=by
 intro n a;obtain⟨m,rfl⟩:=Nat.exists_eq_add_of_le a;rw[Gy];have c:xp i (d&&&(2^i-1))=xp i d:=by
  unfold xp;refine List.countP_congr fun j b=>?_
  have:=gq.1 b;simp[jh,mU,this]
 have f:xp m ((d&&&(2^i-1))>>>i)=0:=by
  unfold xp;rw[List.countP_eq_zero];intro j _;simp[qD,jh,mU];intro h;omega
 omega
theorem Z6(d:Nat):xp 8 (d&&&255)=xp 8 d:=SA d 8 8 (ao _)
theorem BJ(n d:Nat):xp n d≤n:=by
 have:=List.countP_le_length (p:=(d.testBit ·)) (l:=dh n)
 simpa[xp]using this
theorem nx(d n:Nat):fl (d:Int) (2^n)=((d>>>n:Nat):Int):=by
 rw[jY _ (by exact Int.le_of_lt (Int.pow_pos (by decide))),cN];simp
theorem W4(a b:Nat):(aw (IntKind.bits .u32) (a:Int)&&&aw (IntKind.bits .u32) (b:Int)).toNat=(a%4294967296)&&&(b%4294967296):=by
 simp[IntKind.bits,BitVec.toNat_and,BitVec.toNat_ofInt];rfl
theorem Cj{n:Nat}(h:n<4294967296):IntKind.wrap .u32 (n:Int)=(n:Int):=Go.IntWalk.u32_in _ (by omega)
theorem Hg{i:Nat}(hi:i<32){h:af}{K:Bool→af→Prop}(a:K true h):HC PG oM [.int .i64 i] [.c .bool] K h:=by
 refine JF i ?_;unfold A8;refine aM (fun _=>?_) fun h=>absurd (Int.natCast_nonneg i) h
 rw[decide_eq_true (by omega)];exact a
theorem MA{a b:Nat}(h:b<4294967296):a&&&b<4294967296:=gz Nat.and_le_right h
theorem Ej{d i:Nat}(hd:d<4294967296)(hi:i<32){h:af}{K:Bool→af→Prop}(c:K (d.testBit i) h):HC PG gD [.int .u32 d,.int .i64 i] [.c .bool] K h:=by
 refine ES d i ?_;unfold xn;refine Hg hi (aA.2 ⟨by omega,?_⟩);have e:min (i:Int).toNat (IntKind.bits .u32)=i:=by rw[aX];exact bP (by show i≤32;omega)
 rw[e,nx];have b:=W4 (d>>>i) 1;have a:d>>>i<4294967296:=gz (jc d i) hd;rw[dS a,show(1:Nat)%4294967296=1 from rfl]at b
 simp only[Bd];rw[show((1:Nat):Int)=(1:Int)from rfl]at b
 rw[b,Cj (MA (by omega))];have f:(((d>>>i&&&1:Nat):Int)==(1:Int))=d.testBit i:=by
  rw[pf,beq_iff_eq,Nat.testBit,Nat.and_comm];simp only[bne_iff_ne,ne_eq,Nat.one_and_eq_mod_two];have:(d>>>i)%2<2:=Nat.mod_lt _ (by omega);omega
 rw[f];exact c
theorem Uh{d i:Nat}(hd:d<4294967296)(hi:i<32):∃w:Nat,IntKind.wrap .u32 (aw (IntKind.bits .u32) (d:Int)|||aw (IntKind.bits .u32) (IntKind.wrap .u32 (1*2^(min (i:Int).toNat (IntKind.bits .u32))))).toNat=(w:Int)∧w<4294967296∧∀j,w.testBit j=(d.testBit j||decide (j=i)):=by
 have e:min (i:Int).toNat (IntKind.bits .u32)=i:=by rw[aX];exact bP (by show i≤32;omega)
 have b:2^i<4294967296:=Nat.pow_lt_pow_right (by omega) (show i<32 from hi)
 have f:(1*2^i:Int)=((2^i:Nat):Int):=by simp
 rw[e,f,Cj b];refine⟨_,Cj (BitVec.isLt _),BitVec.isLt _,fun j=>?_⟩
 rw[BitVec.testBit_toNat,BitVec.getLsbD_or,fQ,fQ,nL,nL,oC];by_cases a:j<32
 ·have:decide (j<IntKind.bits .u32)=true:=decide_eq_true a
  rw[this];simp[eq_comm]
 ·have g:decide (j<IntKind.bits .u32)=false:=decide_eq_false a
  have c:d.testBit j=false:=gU (bG hd (fM (n:=2) (by omega) (show 32≤j by omega)))
  rw[g,c];simp;omega
theorem RF{d i:Nat}(hd:d<4294967296)(hi:i<32){h:af}{K:Int→af→Prop}(a:∀w:Nat,w<4294967296→(∀j,w.testBit j=(d.testBit j||decide (j=i)))→K (w:Int) h):HC PG ge [.int .u32 d,.int .i64 i] [.c (.int .u32)] K h:=by
 refine Dy d i ?_;unfold vO;refine Hg hi (aj.2 ⟨by omega,?_⟩);obtain⟨w,e,c,b⟩:=Uh hd hi;simp only[Bd];rw[e];exact a w c b
theorem My{d i:Nat}(hd:d<4294967296)(hi:i<32):∃w:Nat,IntKind.wrap .u32 (aw (IntKind.bits .u32) (d:Int)&&& ~~~aw (IntKind.bits .u32) (IntKind.wrap .u32 (1*2^(min (i:Int).toNat (IntKind.bits .u32))))).toNat=(w:Int)∧w<4294967296∧∀j,w.testBit j=(d.testBit j&&decide (j≠i)):=by
 have e:min (i:Int).toNat (IntKind.bits .u32)=i:=by rw[aX];exact bP (by show i≤32;omega)
 have b:2^i<4294967296:=Nat.pow_lt_pow_right (by omega) (show i<32 from hi)
 have f:(1*2^i:Int)=((2^i:Nat):Int):=by simp
 rw[e,f,Cj b];refine⟨_,Cj (BitVec.isLt _),BitVec.isLt _,fun j=>?_⟩
 rw[BitVec.testBit_toNat,BitVec.getLsbD_and,BitVec.getLsbD_not,fQ,fQ,nL,nL,oC];by_cases a:j<32
 ·have:decide (j<IntKind.bits .u32)=true:=decide_eq_true a
  rw[this];simp[eq_comm]
 ·have g:decide (j<IntKind.bits .u32)=false:=decide_eq_false a
  have c:d.testBit j=false:=gU (bG hd (fM (n:=2) (by omega) (show 32≤j by omega)))
  rw[g,c];simp
theorem GE{d i:Nat}(hd:d<4294967296)(hi:i<32){h:af}{K:Int→af→Prop}(a:∀w:Nat,w<4294967296→(∀j,w.testBit j=(d.testBit j&&decide (j≠i)))→K (w:Int) h):HC PG kH [.int .u32 d,.int .i64 i] [.c (.int .u32)] K h:=by
 refine zA d i ?_;unfold su;refine Hg hi (aj.2 ⟨by omega,?_⟩);obtain⟨w,e,c,b⟩:=My hd hi;simp only[Bd];rw[e];exact a w c b
abbrev aaG:ByteArray:=⟨#[0,1,1,2,1,2,2,3,1,2,2,3,2,3,3,4,1,2,2,3,2,3,3,4,2,3,3,4,3,4,4,5,1,2,2,3,2,3,3,4,2,3,3,4,3,4,4,5,2,3,3,4,3,4,4,5,3,4,4,5,4,5,5,6,1,2,2,3,2,3,3,4,2,3,3,4,3,4,4,5,2,3,3,4,3,4,4,5,3,4,4,5,4,5,5,6,2,3,3,4,3,4,4,5,3,4,4,5,4,5,5,6,3,4,4,5,4,5,5,6,4,5,5,6,5,6,6,7,1,2,2,3,2,3,3,4,2,3,3,4,3,4,4,5,2,3,3,4,3,4,4,5,3,4,4,5,4,5,5,6,2,3,3,4,3,4,4,5,3,4,4,5,4,5,5,6,3,4,4,5,4,5,5,6,4,5,5,6,5,6,6,7,2,3,3,4,3,4,4,5,3,4,4,5,4,5,5,6,3,4,4,5,4,5,5,6,4,5,5,6,5,6,6,7,3,4,4,5,4,5,5,6,4,5,5,6,5,6,6,7,4,5,5,6,5,6,6,7,5,6,6,7,6,7,7,8]⟩
theorem XF:(dh 256).all (fun b=>decide (aaG[b]? =some (gF (xp 8 b))))=true:=by decide+kernel
theorem LB{b:Nat}(h:b<256):aaG[b]? =some (gF (xp 8 b)):=of_decide_eq_true (List.all_eq_true.1 XF b (gq.2 h))
theorem Mn(b:Nat):(gF (xp 8 b)).toNat=xp 8 b:=by
 have:=BJ 8 b;simp;omega
theorem abO(d:Nat):xp 32 d=xp 8 (d>>>24)+xp 8 ((d>>>16)&&&255)+xp 8 ((d>>>8)&&&255)+xp 8 (d&&&255):=by
 rw[Z6,Z6,Z6,show(32:Nat)=8+(8+(8+8))from rfl,Gy,Gy,Gy]
 simp only[←Nat.shiftRight_add,Nat.reduceAdd];omega
set_option maxRecDepth 100000 in
theorem Ya{d:Nat}(hd:d<4294967296){h:af}{K:Int→af→Prop}(k:K (xp 32 d:Int) h):HC PG lw [.int .u32 d] [.c (.int .i64)] K h:=by
 refine wT d ?_;unfold pX;have g:fl (d:Int) (2^(min (24:Int).toNat (IntKind.bits .u32)))=((d>>>24:Nat):Int):=nx d 24;have c:fl (d:Int) (2^(min (16:Int).toNat (IntKind.bits .u32)))=((d>>>16:Nat):Int):=nx d 16;have o:fl (d:Int) (2^(min (8:Int).toNat (IntKind.bits .u32)))=((d>>>8:Nat):Int):=nx d 8;have b:∀x:Nat,x<4294967296→IntKind.wrap .u32 (aw (IntKind.bits .u32) (x:Int)&&&aw (IntKind.bits .u32) 255).toNat=((x&&&255:Nat):Int):=fun x hx=>by
  have:=W4 x 255;rw[dS hx]at this;rw[show((255:Nat):Int)=(255:Int)from rfl]at this
  rw[this,Cj (MA (by omega))]
 have a:d>>>24<256:=by rw[cN];omega
 have i:∀x:Nat,x&&&255<256:=fun x=>gz Nat.and_le_right (by omega)
 have f:d>>>16<4294967296:=gz (jc d 16) hd;have m:d>>>8<4294967296:=gz (jc d 8) hd;simp only[Bd];rw[g,c,o,b _ f,b _ m,b _ hd];refine⟨by decide,_,by omega,LB (b:=d>>>24) a,by decide,_,by omega,LB (i _),by decide,_,by omega,LB (i _),_,by omega,LB (i _),?_⟩
 rw[Mn,Mn,Mn,Mn];simp only[aX];have s:=BJ 8 (d>>>24);have u:=BJ 8 (d>>>16&&&255);have p:=BJ 8 (d>>>8&&&255);have q4:=BJ 8 (d&&&255);rw[abO]at k;have j:∀n:Nat,n≤255→IntKind.wrap .u8 (n:Int)=(n:Int):=fun n q=>Go.IntWalk.u8_in _ (by omega)
 rw[←Int.natCast_add,j _ (by omega),←Int.natCast_add,j _ (by omega),←Int.natCast_add,j _ (by omega),jj (by omega)];exact k
theorem rE{d i:Nat}(hd:d<4294967296)(hi:i<32){h:af}{K:Int→af→Prop}(a:K (xp i d:Int) h):HC PG dU [.int .u32 d,.int .i64 i] [.c (.int .i64)] K h:=by
 refine Dz d i ?_;unfold vP;refine aM (fun g=>?_) fun g=>?_
 ·have:i=0:=by omega
  subst this;exact a
 ·refine aM (fun h=>by omega) fun _=>⟨by omega,?_⟩
  have e:min (i:Int).toNat (IntKind.bits .u32)=i:=by rw[aX];exact bP (by show i≤32;omega)
  have f:2^i<4294967296:=Nat.pow_lt_pow_right (by omega) (show i<32 from hi)
  have c:0<2^i:=Nat.pow_pos (by omega);have j:(1*2^i:Int)=((2^i:Nat):Int):=by simp
  have b:(((2^i:Nat):Int)-1)=((2^i-1:Nat):Int):=by omega
  simp only[Bd];rw[e,j,Cj f,b,Cj (show 2^i-1<4294967296 by omega),W4,dS hd,dS (show 2^i-1<4294967296 by omega),Cj (MA (by omega))]
  refine B6 _ ?_;unfold uJ;refine Ya (MA (by omega)) ?_;rw[SA d i 32 (by omega)];exact a
end Go.Proofs
namespace Go.Proofs
open Go.Lift
def fm{β:Type}(g:Nat→Option β)(n:Nat):List β:=(dh n).filterMap g
def upd{β:Type}(g:Nat→Option β)(i:Nat)(x:Option β)(j:Nat):Option β:=if j=i then x else g j
theorem aa3{β:Type}{f g:Nat→Option β}:∀l:List Nat,(∀j∈l,f j=g j)→l.filterMap f=l.filterMap g
 | [],_=>rfl
 |j::l,h=>by
  rw[List.filterMap_cons,List.filterMap_cons,h j (List.mem_cons_self ..),aa3 l fun k a=>h k (List.mem_cons_of_mem _ a)]
section
variable {β:Type} {g:Nat→Option β} {d:Nat}
theorem HK(hd:∀c,c<32→d.testBit c=(g c).isSome){i:Nat}(hi:i≤32):(fm g i).length=xp i d:=by
 unfold fm xp;rw[List.length_filterMap_eq_countP];exact List.countP_congr fun j a=>by rw[hd j (by have:=gq.1 a;omega)]
theorem rY{i n:Nat}(hi:i<n):fm g n=fm g i++((g i).toList++(dh (n-(i+1))).filterMap fun j=>g (i+1+j)):=by
 unfold fm;have e:n=i+(1+(n-(i+1))):=by omega
 rw[e,uM,qQ,uM];have a:i+(1+(n-(i+1)))-(i+1)=n-(i+1):=by omega
 rw[a];congr 1
 rw[List.map_append,qQ,List.map_map];congr 1
 rw[List.filterMap_map];refine aa3 _ fun j _=>?_
 show g (i+(1+j))=_
 rw[Nat.add_assoc]
theorem Bu{i:Nat}{x:Option β}:fm (upd g i x) i=fm g i:=by
 unfold fm;refine aa3 _ fun j a=>?_
 have:=gq.1 a;unfold upd;rw[if_neg (by omega)]
theorem y3{i m:Nat}{x:Option β}:((dh m).filterMap fun j=>upd g i x (i+1+j))=(dh m).filterMap fun j=>g (i+1+j):=by
 refine aa3 _ fun j _=>?_
 unfold upd;rw[if_neg (by omega)]
theorem V5{i:Nat}(hi:i<32)(hd:∀c,c<32→d.testBit c=(g c).isSome)(b:g i=none)(x:β):fm (upd g i (some x)) 32=(fm g 32).take (xp i d)++x::(fm g 32).drop (xp i d):=by
 have a:=HK hd (i:=i) (by omega);rw[rY (g:=upd g i (some x)) hi,rY (g:=g) hi,Bu,y3,b,dD a,cR a];simp[upd]
theorem V4{i:Nat}(hi:i<32)(hd:∀c,c<32→d.testBit c=(g c).isSome){y:β}(b:g i=some y)(x:β):fm (upd g i (some x)) 32=(fm g 32).take (xp i d)++x::(fm g 32).drop (xp i d+1):=by
 have a:=HK hd (i:=i) (by omega);rw[rY (g:=upd g i (some x)) hi,rY (g:=g) hi,Bu,y3,b,dD a,←dW,cR a];simp[upd]
theorem V6{i:Nat}(hi:i<32)(hd:∀c,c<32→d.testBit c=(g c).isSome){y:β}(b:g i=some y):fm (upd g i none) 32=(fm g 32).take (xp i d)++(fm g 32).drop (xp i d+1):=by
 have a:=HK hd (i:=i) (by omega);rw[rY (g:=upd g i none) hi,rY (g:=g) hi,Bu,y3,b,dD a,←dW,cR a];simp[upd]
theorem V7{i:Nat}(hi:i<32)(hd:∀c,c<32→d.testBit c=(g c).isSome){y:β}(b:g i=some y):(fm g 32)[xp i d]? =some y:=by
 have a:=HK hd (i:=i) (by omega);rw[rY (g:=g) hi,b,List.getElem?_append_right (by omega),a,gu];rfl
theorem KU{i:Nat}(hi:i<32)(hd:∀c,c<32→d.testBit c=(g c).isSome){y:β}(a:g i=some y):xp i d<(fm g 32).length:=(List.getElem?_eq_some_iff.1 (V7 hi hd a)).1
theorem Y0{i:Nat}(hi:i<32)(hd:∀c,c<32→d.testBit c=(g c).isSome):xp i d≤(fm g 32).length:=by
 have a:=HK hd (i:=i) (by omega);rw[rY (g:=g) hi,ad];omega
theorem yi:(fm g 32).length≤32:=by
 have:=List.length_filterMap_le g (dh 32);simpa[fm]using this
end
end Go.Proofs
namespace Go.Proofs
open Go.Lift
abbrev sv(s:SliceV):Value:=.slice s.a s.len s.cap
structure Slots where
 p:Nat→Option Pr
 k:Nat→Option (Option Addr)
def gj(d n:Nat)(sp sk:SliceV)(a:Bool)(ow:Option Addr):Array Value:= #[.int .u32 (d:Int),.int .u32 (n:Int),sv sp,sv sk,.bool a,.pointer ow]
structure BitsOf(d n:Nat)(s:Slots):Prop where
 d32:d<4294967296
 n32:n<4294967296
 dp:∀c,c<32→d.testBit c=(s.p c).isSome
 nk:∀c,c<32→n.testBit c=(s.k c).isSome
def OwOk(W:Nat→Prop)(h:af)(ow:Option Addr):Prop:=∀a,ow=some a→¬W a.block∧fA h a
theorem OwOk.upd{W M:Nat→Prop}{h g:af}{ow:Option Addr}(o:OwOk W h ow)(k:Upd M h g)(hm:∀b,M b→W b∨h.size≤b):OwOk W g ow:=fun a e=>by
 obtain⟨f,c,t,d,hz⟩:=o a e;exact⟨f,c,t,k.get d (fun hM=>(hm _ hM).elim f fun h=>by have:=aL d;omega),hz⟩
theorem OwOk.less{W W':Nat→Prop}{h:af}{ow:Option Addr}(o:OwOk W h ow)(hm:∀b,W' b→W b∨h.size≤b):OwOk W' h ow:=fun a e=>by
 obtain⟨f,c,t,d,hz⟩:=o a e;exact⟨fun hx=>(hm _ hx).elim f fun h=>by have:=aL d;omega,c,t,d,hz⟩
theorem mA{W:Nat→Prop}{h:af}:OwOk W h none:=fun _ e=>by cases e
structure NodeAt(W:Nat→Prop)(h:af)(b:Nat)(s:Slots):Prop where
 ex:∃d n sp sk ow,h[b]? =some (.cells (gj d n sp sk false ow) cj (0,0))∧BitsOf d n s∧Sl fe 2 W h sp (fm s.p 32)∧Sl rG 1 W h sk (fm s.k 32)∧sp.len≤sp.cap∧sk.len≤sk.cap∧OwOk W h ow
 nw:¬W b
theorem NodeAt.upd{W M:Nat→Prop}{h c:af}{b:Nat}{s:Slots}(n:NodeAt W h b s)(k:Upd M h c)(hm:∀b,M b→W b∨h.size≤b):NodeAt W c b s:=by
 obtain⟨d,m,sp,sk,ow,a,j,q,o,p,i,g⟩:=n.ex;exact⟨⟨d,m,sp,sk,ow,k.get a (fun f=>(hm _ f).elim n.nw fun h=>by have:=aL a;omega),j,q.upd k hm,o.upd k hm,p,i,g.upd k hm⟩,n.nw⟩
structure OwnN(M:Nat→Prop)(h:af)(b d n:Nat)(sp sk:SliceV)(s:Slots)(ow:Option Addr):Prop where
 blk:h[b]? =some (.cells (gj d n sp sk false ow) cj (0,0))
 bits:BitsOf d n s
 ex:∃A B:Nat→Prop,OwnS fe 2 ay A h sp (fm s.p 32)∧OwnS rG 1 bZ B h sk (fm s.k 32)∧(∀x,A x→M x∧¬B x∧x≠b∧x<h.size)∧(∀x,B x→M x∧x≠b∧x<h.size)
 mb:M b
theorem OwnN.upd{M M':Nat→Prop}{h g:af}{b d n:Nat}{sp sk:SliceV}{s:Slots}{ow:Option Addr}(o:OwnN M h b d n sp sk s ow)(k:Upd M' h g)(hm:∀x,M' x→¬M x):OwnN M g b d n sp sk s ow:=by
 obtain⟨A,B,m,j,a,c⟩:=o.ex;have z:=k.size;exact⟨k.get o.blk fun i=>hm _ i o.mb,o.bits,⟨A,B,m.upd k fun x hx f=>hm _ f (a x hx).1,j.upd k fun x hx f=>hm _ f (c x hx).1,fun x hx=>⟨(a x hx).1,(a x hx).2.1,(a x hx).2.2.1,by have:=(a x hx).2.2.2;omega⟩,fun x hx=>⟨(c x hx).1,(c x hx).2.1,by have:=(c x hx).2.2;omega⟩⟩,o.mb⟩
end Go.Proofs
