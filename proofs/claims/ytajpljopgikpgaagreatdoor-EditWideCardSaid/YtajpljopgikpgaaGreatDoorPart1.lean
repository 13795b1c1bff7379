/- A part of the proof that the named laws of this program answer true, whatever the input. -/
import Derived.Test.YtajpljopgikpgaaGreatDoorPart0
import Derived.Test.YtajpljopgikpgaaGreatDoorLift3
import Derived.Lib.Overlaps
import Derived.Sort.Walk0
open BitVec renaming ofInt→ah,ofInt_natCast→eh,getLsbD_ofNat→kI
open Bool renaming eq_iff_iff→l3
open Int renaming toNat_natCast→aE,fdiv→fa,fdiv_eq_ediv_of_nonneg→kG
open List renaming flatMap_cons→aU,take_length→bN,drop_length→nU,length_take→aG,length_drop→aI,flatMap_append→bj,drop_zero→dd,append_assoc→ao,take_append_of_le_length→eM,take_of_length_le→bp,length_append→ae,drop_left→gj,take_left→g5,size_toArray→cH,drop_eq_getElem_cons→dJ,length_eq_zero_iff→bO,drop_left'→ce,take_left'→cI,drop_drop→de,drop_append_of_le_length→eP,length_cons→aL,pairwise_iff_getElem→cy,getElem?_eq_getElem→ag,any_eq_true→bV,replicate→eY,replicate_succ→lC,flatten_append→du,flatten_cons→eO,flatten_nil→ll,length→fP,range→cC,range_add→qi,mem_range→gh,filterMap_append→nz
open Nat renaming le_refl→al,lt_or_ge→bD,min_eq_left→aZ,sub_zero→eD,min→di,zero_add→aB,add_one_mul→fM,one_mul→oI,le_mul_of_pos_left→nf,min_eq_right→nR,sub_self→m8,zero_mul→pB,zero_le→aV,testBit_shiftRight→m7,testBit_and→gy,testBit_two_pow_sub_one→j2,shiftRight_eq_div_pow→bZ,lt_of_le_of_lt→fg,shiftRight_le→gr,mod_eq_of_lt→cF,testBit_two_pow→lA,testBit_lt_two_pow→fC,lt_of_lt_of_le→cg,pow_le_pow_right→d9
open UInt8 renaming ofNat→dH
namespace Go.Proofs
open Go Go.Lift
abbrev gC(x:ByteArray×ByteArray):List Value:= [.string x.1,.string x.2]
theorem hJ(x:ByteArray×ByteArray):(gC x).length=2∧0<2:=⟨rfl,by omega⟩
theorem uO:∀xs:List (ByteArray×ByteArray),bS (xs.flatMap gC)=true
 | []=>rfl
 |x::xs=>by rw[aU];exact kP rfl (uO xs)
theorem E5{h:ad}{a b o c d e cb:Nat}{g cw:Array Value}{f tb:TypeId}(hv:h[a]? =some (.cells g f (0,0))) (k:h[b]? =some (.cells cw tb (0,0))) (m:a≠b) (n:cw.size≠0) {K:Bool→ad→Prop} (j:K false h):
  HC PG gH [.slice (some ⟨a,0,none⟩) c d,.slice (some ⟨b,o,none⟩) e cb] [.c .bool] K h:=by
 refine⟨fun w i=>.inr ⟨.bool false,w,?_,Tame.refl w,false,rfl,i▸j⟩⟩
 subst i;rw[py];have:=Lib.run_overlaps_apart (P:=PG) w gd re ay (by kernel_rfl) (bK PG ay) (oy (by kernel_rfl)) ⟨a,0,none⟩ ⟨b,o,none⟩ c d e cb m f tb g.size cw.size
  (by simp[World.shape?,hv]) (by simp[World.shape?,k]) n (by simp[World.frozen?,hv]) (by simp[World.frozen?,hv])
 rw[show([Value.slice (some ⟨a,0,none⟩) c d,Value.slice (some ⟨b,o,none⟩) e cb]:List Value).toArray= #[.slice (some ⟨a,0,none⟩) c d,.slice (some ⟨b,o,none⟩) e cb]from rfl,this]
 rfl
set_option maxRecDepth 4000 in
theorem IX{M:Nat→Prop}{h:ad}{s:SliceV}{xs:List (ByteArray×ByteArray)}(T:OwnS gC 2 ay M h s xs){k:Nat}(V:k≤xs.length)(hn:(xs.length+1)*32≤140737488355328){x:ByteArray×ByteArray}{m:Nat}(hv:h[m]? =some (.cells (gC x).toArray ay (0,0)))
  (hvM:¬M m) (hM:∀b,h.size≤b→M b) {K:SliceV→ad→Prop} (hK:∀s' H,OwnS gC 2 ay M H s' (xs.take k++x::xs.drop k)→Upd M h H→K s' H):
  HC PG cE [.slice s.a s.len s.cap,.int .i64 k,.slice (some ⟨m,0,none⟩) 1 1] [.c .slice] K h:=by
 refine kZ s k ⟨some ⟨m,0,none⟩,1,1⟩ ?_;unfold gn mC;have t:=T.len;have hcap:=T.cap;have P:SRow h (some ⟨m,0,none⟩) (1*2) (gC x):=⟨rfl,.inr ⟨_,rfl,mH hv fun i v hi=>by simpa using hi⟩⟩
 refine⟨by omega,aj.2 ?_⟩;refine CondP.intro (fun e=>?_) fun e=>?_
 ·have e:k=xs.length:=by have:=of_decide_eq_true (by simpa using e:decide ((k:Int)=(s.len:Int))=true);omega
  subst e;refine⟨_,P,AppP.own (ys:= [x]) T rfl (by simp) rfl rfl (by omega) (by simp;omega) (hM _ (al _)) fun s' H ho hu=>hK s' H ?_ hu⟩
  rw[bN,nU];exact ho
 have hlt:k<xs.length:=by
  rcases bD k xs.length with h|h
  ·exact h
  ·have:((k:Int)==(s.len:Int))=true:=by rw[beq_iff_eq];omega
   rw[this]at e;cases e
 rcases T.blk with h0|⟨b,g,ha,o,hc,hr⟩
 ·omega
 have j:((xs.take k).flatMap gC).length=k*2:=by rw[jp hJ,aG,aZ V]
 have n:((xs.drop k).flatMap gC).length=(xs.length-k)*2:=by rw[jp hJ,aI]
 have Q:m≠b:=fun e=>hvM (e▸o)
 rw[wJ (f:=gC) xs k]at hc;have a:(xs.take k++x::xs.drop k).flatMap gC=(xs.take k).flatMap gC++(gC x++(xs.drop k).flatMap gC):=by rw[bj,aU]
 have d:=uO (xs.drop k);have c:(gC x).length=2:=rfl;have z:bS (gC x)=true:=rfl;generalize hAe:(xs.take k).flatMap gC=A at j hc a;generalize hBe:(xs.drop k).flatMap gC=B at n hc a d;generalize gC x=X at P c hv a z;rw[ha];have w1:IntKind.wrap .i64 ((xs.length:Int)+((1:Nat):Int))=((xs.length+1:Nat):Int):=by rw[nq (by omega)];omega
 have w2:IntKind.wrap .i64 ((k:Int)+((1:Nat):Int))=((k+1:Nat):Int):=by rw[nq (by omega)];omega
 have w3:IntKind.wrap .i64 (((xs.length+1:Nat):Int)-(k:Int))=((xs.length+1-k:Nat):Int):=by rw[nq (by omega)];omega
 simp only[w1,w2,w3,aE,t];refine aH (fun hgt=>?_) fun hle=>?_
 ·
  have L:s.cap=xs.length:=by omega
  refine Join.plain ⟨by omega,⟨by omega,by omega,by omega,by omega⟩,fun hin=>?_,fun F=>?_⟩
  ·omega
  ·refine⟨A,_,?_,rfl,by omega,Go.growslice_fits F (by omega),fun D C=>?_⟩
   ·rw[sub_zero]
    exact jQ hc (by rw[j];omega) (by simp only[dd,eD];rw[ao,←j,eM (al _),bN])
   ·simp only[aE]at C⊢
    have U:=Upd.hnew No h (A++df (xs.length+1-k) [.string (⟨#[]⟩:ByteArray),.string (⟨#[]⟩:ByteArray)]++df (D-(k-0+(xs.length+1-k))) [.string (⟨#[]⟩:ByteArray),.string (⟨#[]⟩:ByteArray)]) ay;have bn:=cJ h (A++df (xs.length+1-k) [.string (⟨#[]⟩:ByteArray),.string (⟨#[]⟩:ByteArray)]++df (D-(k-0+(xs.length+1-k))) [.string (⟨#[]⟩:ByteArray),.string (⟨#[]⟩:ByteArray)]) ay
    have y:(df (xs.length+1-k) [.string (⟨#[]⟩:ByteArray),.string (⟨#[]⟩:ByteArray)]).length=(xs.length+1-k)*2:=j3 _ _;have hz2:(df (D-(k-0+(xs.length+1-k))) [.string (⟨#[]⟩:ByteArray),.string (⟨#[]⟩:ByteArray)]).length=(D-(k-0+(xs.length+1-k)))*2:=j3 _ _;have p:k-0+(xs.length+1-k)=xs.length+1:=by omega
    rw[fy];have hsz:h.size≠m:=fun e=>by have:=aD hv;omega
    have S:h.size≠b:=fun e=>by have:=aD hc;omega
    have I:=U.get0 hc;have G:=U.get0 hv;generalize hnew h _ ay=h9 at U bn I G;rw[p]at C hz2⊢;have m1:di 1 (xs.length+1-k)=1:=aZ (by omega);have Z:di (xs.length-k) (xs.length+1-(k+1))=xs.length-k:=aZ (by omega);rw[m1];have xr9:SRow h9 (some ⟨m,0,none⟩) (1*2) X:=jQ G (by rw[c]) (by rw[dd,bp];rw[c];omega)
    refine⟨by omega,?_⟩;rw[iy (by omega)];refine jD xr9 z bn (by simp only[ae,j,y];omega) fun h11 J u=>⟨by omega,?_⟩
    simp only[Bd];rw[iy (by omega),iy (by omega),Z];refine⟨by omega,?_⟩;have w:=u.get I (fun e=>S e.symm)
    have br:SRow h11 (some ⟨b,0+k*2,none⟩) ((xs.length-k)*2) B:=jQ w n (by
     rw[aB,ao,←j,gj,←n,g5])
    refine jD br d J ?_ fun h16 N O=>?_
    ·simp only[ae,aG,aI,j,y,c];omega
    ·refine hK _ _ ⟨by simp;omega,hJ,C,.inr ⟨h.size,df (D-(xs.length+1)) [.string (⟨#[]⟩:ByteArray),.string (⟨#[]⟩:ByteArray)],rfl,hM _ (al _),?_,by rw[j3];rfl⟩⟩ ((U.wide.trans (M':=(· =h.size)) u fun b o=>.inl (o▸hM _ (al _))).trans (M':=(· =h.size)) O fun b o=>.inl (o▸hM _ (al _)))
     rw[N,a];have:=Fe (A:=A) (X:=X) (B:=B) (Z1:=df (xs.length+1-k) [.string (⟨#[]⟩:ByteArray),.string (⟨#[]⟩:ByteArray)]) (Z2:=df (D-(xs.length+1)) [.string (⟨#[]⟩:ByteArray),.string (⟨#[]⟩:ByteArray)]) (r:=(xs.length-k)*2) j c (by rw[y,←fM];congr 1;omega);rw[p,←this];simp only[aB,fM,oI]
 ·have L:xs.length+1≤s.cap:=by omega
  refine⟨by omega,?_⟩;simp only[Bd,eD];rw[sub_zero,iy (show s.cap≠k+1 by omega),iy (show s.cap≠k by omega)]
  refine⟨by omega,?_⟩;have W:2≤g.length:=by rw[hr];exact nf _ (by omega)
  refine E5 hv hc Q (by rw[cH,ae];omega) ?_;refine ax.2 ⟨by omega,by omega,?_⟩
  have m1:di 1 (xs.length+1-k)=1:=aZ (by omega);have Z:di (xs.length+1-k) (xs.length+1-(k+1))=xs.length-k:=by
   rw[show xs.length+1-(k+1)=xs.length-k by omega];exact nR (by omega)
  rw[Z];have br:SRow h (some ⟨b,0+k*2,none⟩) ((xs.length-k)*2) B:=jQ hc n (by
   rw[aB,ao,←j,gj,←n,g5])
  refine jD br d hc (by simp only[ae,j,n];omega) fun h1 hb1 E=>⟨by omega,?_⟩
  rw[m1];have xr1:SRow h1 (some ⟨m,0,none⟩) (1*2) X:=jQ (E.get hv Q) (by rw[c]) (by rw[dd,bp];rw[c];omega);refine jD xr1 z hb1 (by simp only[ae,aG,aI,j,n];omega) fun h2 hb2 Y=>?_
  refine hK _ _ ⟨by simp;omega,hJ,L,.inr ⟨b,g.drop 2,rfl,o,?_,?_⟩⟩ ((E.mono fun _ e=>.inl (e▸o)).tr (Y.mono fun _ e=>.inl (e▸o)))
  ·rw[hb2,a]
   have:=IZ (A:=A) (X:=X) (B:=B) (R:=g) (q:=2) (r:=(xs.length-k)*2) j n W;rw[←this];simp only[aB,fM,oI]
  ·rw[aI,hr]
   simp only;rw[t];omega
abbrev oJ(x:Option Addr):List Value:= [.pointer x]
theorem pL(x:Option Addr):(oJ x).length=1∧0<1:=⟨rfl,by omega⟩
theorem AU:∀xs:List (Option Addr),bS (xs.flatMap oJ)=true
 | []=>rfl
 |x::xs=>by rw[aU];exact kP rfl (AU xs)
theorem E6{h:ad}{a b o c d e cb:Nat}{g cw:Array Value}{f tb:TypeId}(hv:h[a]? =some (.cells g f (0,0))) (k:h[b]? =some (.cells cw tb (0,0))) (m:a≠b) (n:cw.size≠0) {K:Bool→ad→Prop} (j:K false h):
  HC PG gf [.slice (some ⟨a,0,none⟩) c d,.slice (some ⟨b,o,none⟩) e cb] [.c .bool] K h:=by
 refine⟨fun w i=>.inr ⟨.bool false,w,?_,Tame.refl w,false,rfl,i▸j⟩⟩
 subst i;rw[oE];have:=Lib.run_overlaps_apart (P:=PG) w oM re bA (by kernel_rfl) (bK PG bA) (oy (by kernel_rfl)) ⟨a,0,none⟩ ⟨b,o,none⟩ c d e cb m f tb g.size cw.size
  (by simp[World.shape?,hv]) (by simp[World.shape?,k]) n (by simp[World.frozen?,hv]) (by simp[World.frozen?,hv])
 rw[show([Value.slice (some ⟨a,0,none⟩) c d,Value.slice (some ⟨b,o,none⟩) e cb]:List Value).toArray= #[.slice (some ⟨a,0,none⟩) c d,.slice (some ⟨b,o,none⟩) e cb]from rfl,this]
 rfl
set_option maxRecDepth 4000 in
theorem IY{M:Nat→Prop}{h:ad}{s:SliceV}{xs:List (Option Addr)}(T:OwnS oJ 1 bA M h s xs){k:Nat}(V:k≤xs.length)(hn:(xs.length+1)*8≤140737488355328){x:Option Addr}{m:Nat}(hv:h[m]? =some (.cells (oJ x).toArray bA (0,0)))
  (hvM:¬M m) (hM:∀b,h.size≤b→M b) {K:SliceV→ad→Prop} (hK:∀s' H,OwnS oJ 1 bA M H s' (xs.take k++x::xs.drop k)→Upd M h H→K s' H):
  HC PG cp [.slice s.a s.len s.cap,.int .i64 k,.slice (some ⟨m,0,none⟩) 1 1] [.c .slice] K h:=by
 refine jE s k ⟨some ⟨m,0,none⟩,1,1⟩ ?_;unfold fJ;have t:=T.len;have hcap:=T.cap;have P:SRow h (some ⟨m,0,none⟩) (1*1) (oJ x):=⟨rfl,.inr ⟨_,rfl,mH hv fun i v hi=>by simpa using hi⟩⟩
 refine⟨by omega,aj.2 ?_⟩;refine CondP.intro (fun e=>?_) fun e=>?_
 ·have e:k=xs.length:=by have:=of_decide_eq_true (by simpa using e:decide ((k:Int)=(s.len:Int))=true);omega
  subst e;refine⟨_,P,AppP.own (ys:= [x]) T rfl (by simp) rfl rfl (by omega) (by simp;omega) (hM _ (al _)) fun s' H ho hu=>hK s' H ?_ hu⟩
  rw[bN,nU];exact ho
 have hlt:k<xs.length:=by
  rcases bD k xs.length with h|h
  ·exact h
  ·have:((k:Int)==(s.len:Int))=true:=by rw[beq_iff_eq];omega
   rw[this]at e;cases e
 rcases T.blk with h0|⟨b,g,ha,o,hc,hr⟩
 ·omega
 have j:((xs.take k).flatMap oJ).length=k*1:=by rw[jp pL,aG,aZ V]
 have n:((xs.drop k).flatMap oJ).length=(xs.length-k)*1:=by rw[jp pL,aI]
 have Q:m≠b:=fun e=>hvM (e▸o)
 rw[wJ (f:=oJ) xs k]at hc;have a:(xs.take k++x::xs.drop k).flatMap oJ=(xs.take k).flatMap oJ++(oJ x++(xs.drop k).flatMap oJ):=by rw[bj,aU]
 have d:=AU (xs.drop k);have c:(oJ x).length=1:=rfl;have z:bS (oJ x)=true:=rfl;generalize hAe:(xs.take k).flatMap oJ=A at j hc a;generalize hBe:(xs.drop k).flatMap oJ=B at n hc a d;generalize oJ x=X at P c hv a z;rw[ha];have w1:IntKind.wrap .i64 ((xs.length:Int)+((1:Nat):Int))=((xs.length+1:Nat):Int):=by rw[nq (by omega)];omega
 have w2:IntKind.wrap .i64 ((k:Int)+((1:Nat):Int))=((k+1:Nat):Int):=by rw[nq (by omega)];omega
 have w3:IntKind.wrap .i64 (((xs.length+1:Nat):Int)-(k:Int))=((xs.length+1-k:Nat):Int):=by rw[nq (by omega)];omega
 simp only[w1,w2,w3,aE,t];refine aH (fun hgt=>?_) fun hle=>?_
 ·
  have L:s.cap=xs.length:=by omega
  refine Join.plain ⟨by omega,⟨by omega,by omega,by omega,by omega⟩,fun hin=>?_,fun F=>?_⟩
  ·omega
  ·refine⟨A,_,?_,rfl,by omega,Go.growslice_fits F (by omega),fun D C=>?_⟩
   ·rw[sub_zero]
    exact jQ hc (by rw[j];omega) (by simp only[dd,eD];rw[ao,←j,eM (al _),bN])
   ·simp only[aE]at C⊢
    have U:=Upd.hnew No h (A++df (xs.length+1-k) [.pointer none]++df (D-(k-0+(xs.length+1-k))) [.pointer none]) bA;have bn:=cJ h (A++df (xs.length+1-k) [.pointer none]++df (D-(k-0+(xs.length+1-k))) [.pointer none]) bA;have y:(df (xs.length+1-k) [.pointer none]).length=(xs.length+1-k)*1:=j3 _ _;have hz2:(df (D-(k-0+(xs.length+1-k))) [.pointer none]).length=(D-(k-0+(xs.length+1-k)))*1:=j3 _ _
    have p:k-0+(xs.length+1-k)=xs.length+1:=by omega
    rw[fy];have hsz:h.size≠m:=fun e=>by have:=aD hv;omega
    have S:h.size≠b:=fun e=>by have:=aD hc;omega
    have I:=U.get0 hc;have G:=U.get0 hv;generalize hnew h _ bA=h9 at U bn I G;rw[p]at C hz2⊢;have m1:di 1 (xs.length+1-k)=1:=aZ (by omega);have Z:di (xs.length-k) (xs.length+1-(k+1))=xs.length-k:=aZ (by omega);rw[m1];have xr9:SRow h9 (some ⟨m,0,none⟩) (1*1) X:=jQ G (by rw[c]) (by rw[dd,bp];rw[c];omega)
    refine⟨by omega,?_⟩;rw[iy (by omega)];refine jD xr9 z bn (by simp only[ae,j,y];omega) fun h11 J u=>⟨by omega,?_⟩
    simp only[Bd];rw[iy (by omega),iy (by omega),Z];refine⟨by omega,?_⟩;have w:=u.get I (fun e=>S e.symm)
    have br:SRow h11 (some ⟨b,0+k*1,none⟩) ((xs.length-k)*1) B:=jQ w n (by
     rw[aB,ao,←j,gj,←n,g5])
    refine jD br d J ?_ fun h16 N O=>?_
    ·simp only[ae,aG,aI,j,y,c];omega
    ·refine hK _ _ ⟨by simp;omega,pL,C,.inr ⟨h.size,df (D-(xs.length+1)) [.pointer none],rfl,hM _ (al _),?_,by rw[j3];rfl⟩⟩ ((U.wide.trans (M':=(· =h.size)) u fun b o=>.inl (o▸hM _ (al _))).trans (M':=(· =h.size)) O fun b o=>.inl (o▸hM _ (al _)))
     rw[N,a];have:=Fe (A:=A) (X:=X) (B:=B) (Z1:=df (xs.length+1-k) [.pointer none]) (Z2:=df (D-(xs.length+1)) [.pointer none]) (r:=(xs.length-k)*1) j c (by rw[y,←fM];congr 1;omega);rw[p,←this];simp only[aB,fM,oI]
 ·have L:xs.length+1≤s.cap:=by omega
  refine⟨by omega,?_⟩;simp only[Bd,eD];rw[sub_zero,iy (show s.cap≠k+1 by omega),iy (show s.cap≠k by omega)]
  refine⟨by omega,?_⟩;have W:1≤g.length:=by rw[hr];exact nf _ (by omega)
  refine E6 hv hc Q (by rw[cH,ae];omega) ?_;refine ax.2 ⟨by omega,by omega,?_⟩
  have m1:di 1 (xs.length+1-k)=1:=aZ (by omega);have Z:di (xs.length+1-k) (xs.length+1-(k+1))=xs.length-k:=by
   rw[show xs.length+1-(k+1)=xs.length-k by omega];exact nR (by omega)
  rw[Z];have br:SRow h (some ⟨b,0+k*1,none⟩) ((xs.length-k)*1) B:=jQ hc n (by
   rw[aB,ao,←j,gj,←n,g5])
  refine jD br d hc (by simp only[ae,j,n];omega) fun h1 hb1 E=>⟨by omega,?_⟩
  rw[m1];have xr1:SRow h1 (some ⟨m,0,none⟩) (1*1) X:=jQ (E.get hv Q) (by rw[c]) (by rw[dd,bp];rw[c];omega);refine jD xr1 z hb1 (by simp only[ae,aG,aI,j,n];omega) fun h2 hb2 Y=>?_
  refine hK _ _ ⟨by simp;omega,pL,L,.inr ⟨b,g.drop 1,rfl,o,?_,?_⟩⟩ ((E.mono fun _ e=>.inl (e▸o)).tr (Y.mono fun _ e=>.inl (e▸o)))
  ·rw[hb2,a]
   have:=IZ (A:=A) (X:=X) (B:=B) (R:=g) (q:=1) (r:=(xs.length-k)*1) j n W;rw[←this];simp only[aB,fM,oI]
  ·rw[aI,hr]
   simp only;rw[t];omega
abbrev kK(x:Option Addr):List Value:= [.pointer x]
theorem mG(x:Option Addr):(kK x).length=1∧0<1:=⟨rfl,by omega⟩
theorem AS:∀xs:List (Option Addr),bS (xs.flatMap kK)=true
 | []=>rfl
 |x::xs=>by rw[aU];exact kP rfl (AS xs)
theorem E4{h:ad}{a b o c d e cb:Nat}{g cw:Array Value}{f tb:TypeId}(hv:h[a]? =some (.cells g f (0,0))) (k:h[b]? =some (.cells cw tb (0,0))) (m:a≠b) (n:cw.size≠0) {K:Bool→ad→Prop} (j:K false h):
  HC PG fZ [.slice (some ⟨a,0,none⟩) c d,.slice (some ⟨b,o,none⟩) e cb] [.c .bool] K h:=by
 refine⟨fun w i=>.inr ⟨.bool false,w,?_,Tame.refl w,false,rfl,i▸j⟩⟩
 subst i;rw[nN];have:=Lib.run_overlaps_apart (P:=PG) w nB re aR (by kernel_rfl) (bK PG aR) (oy (by kernel_rfl)) ⟨a,0,none⟩ ⟨b,o,none⟩ c d e cb m f tb g.size cw.size
  (by simp[World.shape?,hv]) (by simp[World.shape?,k]) n (by simp[World.frozen?,hv]) (by simp[World.frozen?,hv])
 rw[show([Value.slice (some ⟨a,0,none⟩) c d,Value.slice (some ⟨b,o,none⟩) e cb]:List Value).toArray= #[.slice (some ⟨a,0,none⟩) c d,.slice (some ⟨b,o,none⟩) e cb]from rfl,this]
 rfl
set_option maxRecDepth 4000 in
theorem IW{M:Nat→Prop}{h:ad}{s:SliceV}{xs:List (Option Addr)}(T:OwnS kK 1 aR M h s xs){k:Nat}(V:k≤xs.length)(hn:(xs.length+1)*8≤140737488355328){x:Option Addr}{m:Nat}(hv:h[m]? =some (.cells (kK x).toArray aR (0,0)))
  (hvM:¬M m) (hM:∀b,h.size≤b→M b) {K:SliceV→ad→Prop} (hK:∀s' H,OwnS kK 1 aR M H s' (xs.take k++x::xs.drop k)→Upd M h H→K s' H):
  HC PG dA [.slice s.a s.len s.cap,.int .i64 k,.slice (some ⟨m,0,none⟩) 1 1] [.c .slice] K h:=by
 refine iW s k ⟨some ⟨m,0,none⟩,1,1⟩ ?_;unfold fu;have t:=T.len;have hcap:=T.cap;have P:SRow h (some ⟨m,0,none⟩) (1*1) (kK x):=⟨rfl,.inr ⟨_,rfl,mH hv fun i v hi=>by simpa using hi⟩⟩
 refine⟨by omega,aj.2 ?_⟩;refine CondP.intro (fun e=>?_) fun e=>?_
 ·have e:k=xs.length:=by have:=of_decide_eq_true (by simpa using e:decide ((k:Int)=(s.len:Int))=true);omega
  subst e;refine⟨_,P,AppP.own (ys:= [x]) T rfl (by simp) rfl rfl (by omega) (by simp;omega) (hM _ (al _)) fun s' H ho hu=>hK s' H ?_ hu⟩
  rw[bN,nU];exact ho
 have hlt:k<xs.length:=by
  rcases bD k xs.length with h|h
  ·exact h
  ·have:((k:Int)==(s.len:Int))=true:=by rw[beq_iff_eq];omega
   rw[this]at e;cases e
 rcases T.blk with h0|⟨b,g,ha,o,hc,hr⟩
 ·omega
 have j:((xs.take k).flatMap kK).length=k*1:=by rw[jp mG,aG,aZ V]
 have n:((xs.drop k).flatMap kK).length=(xs.length-k)*1:=by rw[jp mG,aI]
 have Q:m≠b:=fun e=>hvM (e▸o)
 rw[wJ (f:=kK) xs k]at hc;have a:(xs.take k++x::xs.drop k).flatMap kK=(xs.take k).flatMap kK++(kK x++(xs.drop k).flatMap kK):=by rw[bj,aU]
 have d:=AS (xs.drop k);have c:(kK x).length=1:=rfl;have z:bS (kK x)=true:=rfl;generalize hAe:(xs.take k).flatMap kK=A at j hc a;generalize hBe:(xs.drop k).flatMap kK=B at n hc a d;generalize kK x=X at P c hv a z;rw[ha];have w1:IntKind.wrap .i64 ((xs.length:Int)+((1:Nat):Int))=((xs.length+1:Nat):Int):=by rw[nq (by omega)];omega
 have w2:IntKind.wrap .i64 ((k:Int)+((1:Nat):Int))=((k+1:Nat):Int):=by rw[nq (by omega)];omega
 have w3:IntKind.wrap .i64 (((xs.length+1:Nat):Int)-(k:Int))=((xs.length+1-k:Nat):Int):=by rw[nq (by omega)];omega
 simp only[w1,w2,w3,aE,t];refine aH (fun hgt=>?_) fun hle=>?_
 ·
  have L:s.cap=xs.length:=by omega
  refine Join.plain ⟨by omega,⟨by omega,by omega,by omega,by omega⟩,fun hin=>?_,fun F=>?_⟩
  ·omega
  ·refine⟨A,_,?_,rfl,by omega,Go.growslice_fits F (by omega),fun D C=>?_⟩
   ·rw[sub_zero]
    exact jQ hc (by rw[j];omega) (by simp only[dd,eD];rw[ao,←j,eM (al _),bN])
   ·simp only[aE]at C⊢
    have U:=Upd.hnew No h (A++df (xs.length+1-k) [.pointer none]++df (D-(k-0+(xs.length+1-k))) [.pointer none]) aR;have bn:=cJ h (A++df (xs.length+1-k) [.pointer none]++df (D-(k-0+(xs.length+1-k))) [.pointer none]) aR;have y:(df (xs.length+1-k) [.pointer none]).length=(xs.length+1-k)*1:=j3 _ _;have hz2:(df (D-(k-0+(xs.length+1-k))) [.pointer none]).length=(D-(k-0+(xs.length+1-k)))*1:=j3 _ _
    have p:k-0+(xs.length+1-k)=xs.length+1:=by omega
    rw[fy];have hsz:h.size≠m:=fun e=>by have:=aD hv;omega
    have S:h.size≠b:=fun e=>by have:=aD hc;omega
    have I:=U.get0 hc;have G:=U.get0 hv;generalize hnew h _ aR=h9 at U bn I G;rw[p]at C hz2⊢;have m1:di 1 (xs.length+1-k)=1:=aZ (by omega);have Z:di (xs.length-k) (xs.length+1-(k+1))=xs.length-k:=aZ (by omega);rw[m1];have xr9:SRow h9 (some ⟨m,0,none⟩) (1*1) X:=jQ G (by rw[c]) (by rw[dd,bp];rw[c];omega)
    refine⟨by omega,?_⟩;rw[iy (by omega)];refine jD xr9 z bn (by simp only[ae,j,y];omega) fun h11 J u=>⟨by omega,?_⟩
    simp only[Bd];rw[iy (by omega),iy (by omega),Z];refine⟨by omega,?_⟩;have w:=u.get I (fun e=>S e.symm)
    have br:SRow h11 (some ⟨b,0+k*1,none⟩) ((xs.length-k)*1) B:=jQ w n (by
     rw[aB,ao,←j,gj,←n,g5])
    refine jD br d J ?_ fun h16 N O=>?_
    ·simp only[ae,aG,aI,j,y,c];omega
    ·refine hK _ _ ⟨by simp;omega,mG,C,.inr ⟨h.size,df (D-(xs.length+1)) [.pointer none],rfl,hM _ (al _),?_,by rw[j3];rfl⟩⟩ ((U.wide.trans (M':=(· =h.size)) u fun b o=>.inl (o▸hM _ (al _))).trans (M':=(· =h.size)) O fun b o=>.inl (o▸hM _ (al _)))
     rw[N,a];have:=Fe (A:=A) (X:=X) (B:=B) (Z1:=df (xs.length+1-k) [.pointer none]) (Z2:=df (D-(xs.length+1)) [.pointer none]) (r:=(xs.length-k)*1) j c (by rw[y,←fM];congr 1;omega);rw[p,←this];simp only[aB,fM,oI]
 ·have L:xs.length+1≤s.cap:=by omega
  refine⟨by omega,?_⟩;simp only[Bd,eD];rw[sub_zero,iy (show s.cap≠k+1 by omega),iy (show s.cap≠k by omega)]
  refine⟨by omega,?_⟩;have W:1≤g.length:=by rw[hr];exact nf _ (by omega)
  refine E4 hv hc Q (by rw[cH,ae];omega) ?_;refine ax.2 ⟨by omega,by omega,?_⟩
  have m1:di 1 (xs.length+1-k)=1:=aZ (by omega);have Z:di (xs.length+1-k) (xs.length+1-(k+1))=xs.length-k:=by
   rw[show xs.length+1-(k+1)=xs.length-k by omega];exact nR (by omega)
  rw[Z];have br:SRow h (some ⟨b,0+k*1,none⟩) ((xs.length-k)*1) B:=jQ hc n (by
   rw[aB,ao,←j,gj,←n,g5])
  refine jD br d hc (by simp only[ae,j,n];omega) fun h1 hb1 E=>⟨by omega,?_⟩
  rw[m1];have xr1:SRow h1 (some ⟨m,0,none⟩) (1*1) X:=jQ (E.get hv Q) (by rw[c]) (by rw[dd,bp];rw[c];omega);refine jD xr1 z hb1 (by simp only[ae,aG,aI,j,n];omega) fun h2 hb2 Y=>?_
  refine hK _ _ ⟨by simp;omega,mG,L,.inr ⟨b,g.drop 1,rfl,o,?_,?_⟩⟩ ((E.mono fun _ e=>.inl (e▸o)).tr (Y.mono fun _ e=>.inl (e▸o)))
  ·rw[hb2,a]
   have:=IZ (A:=A) (X:=X) (B:=B) (R:=g) (q:=1) (r:=(xs.length-k)*1) j n W;rw[←this];simp only[aB,fM,oI]
  ·rw[aI,hr]
   simp only;rw[t];omega
end Go.Proofs
namespace Go.Proofs
open Go Go.Lift
theorem zl{W:Nat→Prop}{h:ad}{s:SliceV}{xs:List (ByteArray×ByteArray)}(d:Sl gC 2 W h s xs)(m:xs.length*32≤140737488355328){K:SliceV→ad→Prop}
  (g:∀s' c,OwnS gC 2 ay (fun b=>h.size≤b) c s' xs→Upd No h c→K s' c):HC PG cK [.slice s.a s.len s.cap] [.c .slice] K h:=by
 refine lz s ?_;unfold gF mC;refine CondP.intro (fun e=>?_) (fun o=>?_)
 ·have e:s.a=none:=by simpa using e
  have hx:xs= []:=by
   by_cases hx:xs= []
   ·exact hx
   ·obtain⟨a,i,_⟩:=d.row hx
    rw[e]at i;cases i
  subst hx;exact g _ _ (OwnS.nil hJ) (Upd.refl _ _)
 ·have p:=d.upd (Upd.hnew No h [] ay) (fun _ h=>h.elim)
  refine⟨_,p.srow,?_⟩;refine AppP.own (f:=gC) (M:=fun b=>h.size≤b) (xs:= []) (ys:=xs) ⟨rfl,hJ,al _,.inl rfl⟩ d.len rfl (uO xs) rfl (by omega) (by simpa using m) (by rw[jM];omega) fun s' c j n=>?_
  exact g _ _ j ((Upd.hnew No h [] ay).trans n fun b k=>.inr k)
theorem Jl{M:Nat→Prop}{h:ad}{s:SliceV}{xs:List (ByteArray×ByteArray)}(u:OwnS gC 2 ay M h s xs){k:Nat}(t:k<xs.length)(L:xs.length≤4398046511104)
  {K:SliceV→ad→Prop}(H:∀s' h',OwnS gC 2 ay M h' s' (xs.take k++xs.drop (k+1))→Upd M h h'→K s' h'):
  HC PG eC [.slice s.a s.len s.cap,.int .i64 k,.int .i64 ((k+1:Nat):Int)] [.c .slice] K h:=by
 refine ld s k ((k+1:Nat):Int) ?_;unfold gp mC;have d:=u.len;have C:=u.cap;rcases u.blk with O|⟨b,a,J,v,hc,G⟩
 ·omega
 have p:((xs.take k).flatMap gC).length=k*2:=by rw[jp hJ,aG,aZ (by omega)]
 have m:((xs.drop (k+1)).flatMap gC).length=(xs.length-(k+1))*2:=by rw[jp hJ,aI]
 have E:xs.flatMap gC=(xs.take k).flatMap gC++(gC xs[k]++(xs.drop (k+1)).flatMap gC):=by
  rw[←aU,←dJ t];exact wJ xs k
 rw[E]at hc;have f:=uO (xs.drop (k+1));have c:(xs.take k++xs.drop (k+1)).flatMap gC=(xs.take k).flatMap gC++(xs.drop (k+1)).flatMap gC:=bj;have I:(gC xs[k]).length=2:=rfl;generalize (xs.take k).flatMap gC=A at p hc c;generalize (xs.drop (k+1)).flatMap gC=B at m hc f c;generalize gC xs[k]=X at I hc;rw[J];simp only[d,aE];refine⟨by omega,by omega,by omega,CondP.intro (fun e=>?_) fun _=>?_⟩
 ·have:(k:Int)=((k+1:Nat):Int):=by simpa using e
  omega
 refine Join.plain ⟨by omega,by omega,B,?_,?_⟩
 ·by_cases i:xs.length=k+1
  ·exact⟨m,.inl (bO.1 (by rw[m,i,m8,pB]))⟩
  rw[iy (by omega)];refine jQ hc m ?_;have:(A++X).length=0+(k+1)*2:=by rw[ae];omega
  rw[show A++(X++B)++a=(A++X)++(B++a) by simp only[ao],ce this,cI m]
 ·rw[sub_zero]
  refine Jt hc (by simp only[ae];omega) (by omega) f fun N j q=>?_
  have z:a.length=(s.cap-xs.length)*2:=by rw[G,d]
  refine⟨by dsimp only;omega,by dsimp only;omega,?_⟩
  simp only[Bd];rw[iy (by omega)];have F:xs.length-(k-0+(xs.length-(k+1)))=1:=by omega
  have y:(A++(X++B)++a).drop ((k-0)*2+B.length)=(X++B).drop B.length++a:=by
   rw[ao,←de,ce (show A.length=(k-0)*2 by rw[p,eD]),eP (by rw[ae];omega)]
  have w:(A++(X++B)++a).take ((k-0)*2)=A:=by rw[ao,cI (show A.length=(k-0)*2 by rw[p,eD])]
  rw[y,w]at j;have n:((X++B).drop B.length).length=2:=by rw[aI,ae];omega
  generalize (X++B).drop B.length=D at n j;rw[F];have hz:(df 1 [.string (⟨#[]⟩:ByteArray),.string (⟨#[]⟩:ByteArray)]).length=2:=rfl;have g:(A++B).length=0+(k-0+(xs.length-(k+1)))*2:=by rw[ae,p,m];omega
  refine E0 j (by simp only[ae]at g⊢;omega) fun P o x=>?_
  rw[cI g,←de,ce g]at o;refine H _ _ ⟨by simp;omega,hJ,by simp only;omega,.inr ⟨b,df 1 [.string (⟨#[]⟩:ByteArray),.string (⟨#[]⟩:ByteArray)]++(D++a).drop (df 1 [.string (⟨#[]⟩:ByteArray),.string (⟨#[]⟩:ByteArray)]).length,rfl,v,?_,?_⟩⟩ ((q.mono fun _ e=>.inl (e▸v)).tr (x.mono fun _ e=>.inl (e▸v)))
  ·rw[o,c];simp only[ao]
  ·simp only[ae,aI,hz,n,z]
   omega
theorem Eo{W:Nat→Prop}{h:ad}{s:SliceV}{xs:List (Option Addr)}(d:Sl oJ 1 W h s xs)(m:xs.length*8≤140737488355328){K:SliceV→ad→Prop}
  (g:∀s' c,OwnS oJ 1 bA (fun b=>h.size≤b) c s' xs→Upd No h c→K s' c):HC PG cY [.slice s.a s.len s.cap] [.c .slice] K h:=by
 refine jR s ?_;unfold fV;refine CondP.intro (fun e=>?_) (fun o=>?_)
 ·have e:s.a=none:=by simpa using e
  have hx:xs= []:=by
   by_cases hx:xs= []
   ·exact hx
   ·obtain⟨a,i,_⟩:=d.row hx
    rw[e]at i;cases i
  subst hx;exact g _ _ (OwnS.nil pL) (Upd.refl _ _)
 ·have p:=d.upd (Upd.hnew No h [] bA) (fun _ h=>h.elim)
  refine⟨_,p.srow,?_⟩;refine AppP.own (f:=oJ) (M:=fun b=>h.size≤b) (xs:= []) (ys:=xs) ⟨rfl,pL,al _,.inl rfl⟩ d.len rfl (AU xs) rfl (by omega) (by simpa using m) (by rw[jM];omega) fun s' c j n=>?_
  exact g _ _ j ((Upd.hnew No h [] bA).trans n fun b k=>.inr k)
theorem Jm{M:Nat→Prop}{h:ad}{s:SliceV}{xs:List (Option Addr)}(u:OwnS oJ 1 bA M h s xs){k:Nat}(t:k<xs.length)(L:xs.length≤4398046511104)
  {K:SliceV→ad→Prop}(H:∀s' h',OwnS oJ 1 bA M h' s' (xs.take k++xs.drop (k+1))→Upd M h h'→K s' h'):
  HC PG dK [.slice s.a s.len s.cap,.int .i64 k,.int .i64 ((k+1:Nat):Int)] [.c .slice] K h:=by
 refine jF s k ((k+1:Nat):Int) ?_;unfold fK;have d:=u.len;have C:=u.cap;rcases u.blk with O|⟨b,a,J,v,hc,G⟩
 ·omega
 have p:((xs.take k).flatMap oJ).length=k*1:=by rw[jp pL,aG,aZ (by omega)]
 have m:((xs.drop (k+1)).flatMap oJ).length=(xs.length-(k+1))*1:=by rw[jp pL,aI]
 have E:xs.flatMap oJ=(xs.take k).flatMap oJ++(oJ xs[k]++(xs.drop (k+1)).flatMap oJ):=by
  rw[←aU,←dJ t];exact wJ xs k
 rw[E]at hc;have f:=AU (xs.drop (k+1));have c:(xs.take k++xs.drop (k+1)).flatMap oJ=(xs.take k).flatMap oJ++(xs.drop (k+1)).flatMap oJ:=bj;have I:(oJ xs[k]).length=1:=rfl;generalize (xs.take k).flatMap oJ=A at p hc c;generalize (xs.drop (k+1)).flatMap oJ=B at m hc f c;generalize oJ xs[k]=X at I hc;rw[J];simp only[d,aE];refine⟨by omega,by omega,by omega,CondP.intro (fun e=>?_) fun _=>?_⟩
 ·have:(k:Int)=((k+1:Nat):Int):=by simpa using e
  omega
 refine Join.plain ⟨by omega,by omega,B,?_,?_⟩
 ·by_cases i:xs.length=k+1
  ·exact⟨m,.inl (bO.1 (by rw[m,i,m8,pB]))⟩
  rw[iy (by omega)];refine jQ hc m ?_;have:(A++X).length=0+(k+1)*1:=by rw[ae];omega
  rw[show A++(X++B)++a=(A++X)++(B++a) by simp only[ao],ce this,cI m]
 ·rw[sub_zero]
  refine Jt hc (by simp only[ae];omega) (by omega) f fun N j q=>?_
  have z:a.length=(s.cap-xs.length)*1:=by rw[G,d]
  refine⟨by dsimp only;omega,by dsimp only;omega,?_⟩
  simp only[Bd];rw[iy (by omega)];have F:xs.length-(k-0+(xs.length-(k+1)))=1:=by omega
  have y:(A++(X++B)++a).drop ((k-0)*1+B.length)=(X++B).drop B.length++a:=by
   rw[ao,←de,ce (show A.length=(k-0)*1 by rw[p,eD]),eP (by rw[ae];omega)]
  have w:(A++(X++B)++a).take ((k-0)*1)=A:=by rw[ao,cI (show A.length=(k-0)*1 by rw[p,eD])]
  rw[y,w]at j;have n:((X++B).drop B.length).length=1:=by rw[aI,ae];omega
  generalize (X++B).drop B.length=D at n j;rw[F];have hz:(df 1 [.pointer none]).length=1:=rfl;have g:(A++B).length=0+(k-0+(xs.length-(k+1)))*1:=by rw[ae,p,m];omega
  refine E0 j (by simp only[ae]at g⊢;omega) fun P o x=>?_
  rw[cI g,←de,ce g]at o;refine H _ _ ⟨by simp;omega,pL,by simp only;omega,.inr ⟨b,df 1 [.pointer none]++(D++a).drop (df 1 [.pointer none]).length,rfl,v,?_,?_⟩⟩ ((q.mono fun _ e=>.inl (e▸v)).tr (x.mono fun _ e=>.inl (e▸v)))
  ·rw[o,c];simp only[ao]
  ·simp only[ae,aI,hz,n,z]
   omega
theorem En{W:Nat→Prop}{h:ad}{s:SliceV}{xs:List (Option Addr)}(d:Sl kK 1 W h s xs)(m:xs.length*8≤140737488355328){K:SliceV→ad→Prop}
  (g:∀s' c,OwnS kK 1 aR (fun b=>h.size≤b) c s' xs→Upd No h c→K s' c):HC PG cM [.slice s.a s.len s.cap] [.c .slice] K h:=by
 refine jq s ?_;unfold fB;refine CondP.intro (fun e=>?_) (fun o=>?_)
 ·have e:s.a=none:=by simpa using e
  have hx:xs= []:=by
   by_cases hx:xs= []
   ·exact hx
   ·obtain⟨a,i,_⟩:=d.row hx
    rw[e]at i;cases i
  subst hx;exact g _ _ (OwnS.nil mG) (Upd.refl _ _)
 ·have p:=d.upd (Upd.hnew No h [] aR) (fun _ h=>h.elim)
  refine⟨_,p.srow,?_⟩;refine AppP.own (f:=kK) (M:=fun b=>h.size≤b) (xs:= []) (ys:=xs) ⟨rfl,mG,al _,.inl rfl⟩ d.len rfl (AS xs) rfl (by omega) (by simpa using m) (by rw[jM];omega) fun s' c j n=>?_
  exact g _ _ j ((Upd.hnew No h [] aR).trans n fun b k=>.inr k)
theorem Jk{M:Nat→Prop}{h:ad}{s:SliceV}{xs:List (Option Addr)}(u:OwnS kK 1 aR M h s xs){k:Nat}(t:k<xs.length)(L:xs.length≤4398046511104)
  {K:SliceV→ad→Prop}(H:∀s' h',OwnS kK 1 aR M h' s' (xs.take k++xs.drop (k+1))→Upd M h h'→K s' h'):
  HC PG dB [.slice s.a s.len s.cap,.int .i64 k,.int .i64 ((k+1:Nat):Int)] [.c .slice] K h:=by
 refine iX s k ((k+1:Nat):Int) ?_;unfold fw;have d:=u.len;have C:=u.cap;rcases u.blk with O|⟨b,a,J,v,hc,G⟩
 ·omega
 have p:((xs.take k).flatMap kK).length=k*1:=by rw[jp mG,aG,aZ (by omega)]
 have m:((xs.drop (k+1)).flatMap kK).length=(xs.length-(k+1))*1:=by rw[jp mG,aI]
 have E:xs.flatMap kK=(xs.take k).flatMap kK++(kK xs[k]++(xs.drop (k+1)).flatMap kK):=by
  rw[←aU,←dJ t];exact wJ xs k
 rw[E]at hc;have f:=AS (xs.drop (k+1));have c:(xs.take k++xs.drop (k+1)).flatMap kK=(xs.take k).flatMap kK++(xs.drop (k+1)).flatMap kK:=bj;have I:(kK xs[k]).length=1:=rfl;generalize (xs.take k).flatMap kK=A at p hc c;generalize (xs.drop (k+1)).flatMap kK=B at m hc f c;generalize kK xs[k]=X at I hc;rw[J];simp only[d,aE];refine⟨by omega,by omega,by omega,CondP.intro (fun e=>?_) fun _=>?_⟩
 ·have:(k:Int)=((k+1:Nat):Int):=by simpa using e
  omega
 refine Join.plain ⟨by omega,by omega,B,?_,?_⟩
 ·by_cases i:xs.length=k+1
  ·exact⟨m,.inl (bO.1 (by rw[m,i,m8,pB]))⟩
  rw[iy (by omega)];refine jQ hc m ?_;have:(A++X).length=0+(k+1)*1:=by rw[ae];omega
  rw[show A++(X++B)++a=(A++X)++(B++a) by simp only[ao],ce this,cI m]
 ·rw[sub_zero]
  refine Jt hc (by simp only[ae];omega) (by omega) f fun N j q=>?_
  have z:a.length=(s.cap-xs.length)*1:=by rw[G,d]
  refine⟨by dsimp only;omega,by dsimp only;omega,?_⟩
  simp only[Bd];rw[iy (by omega)];have F:xs.length-(k-0+(xs.length-(k+1)))=1:=by omega
  have y:(A++(X++B)++a).drop ((k-0)*1+B.length)=(X++B).drop B.length++a:=by
   rw[ao,←de,ce (show A.length=(k-0)*1 by rw[p,eD]),eP (by rw[ae];omega)]
  have w:(A++(X++B)++a).take ((k-0)*1)=A:=by rw[ao,cI (show A.length=(k-0)*1 by rw[p,eD])]
  rw[y,w]at j;have n:((X++B).drop B.length).length=1:=by rw[aI,ae];omega
  generalize (X++B).drop B.length=D at n j;rw[F];have hz:(df 1 [.pointer none]).length=1:=rfl;have g:(A++B).length=0+(k-0+(xs.length-(k+1)))*1:=by rw[ae,p,m];omega
  refine E0 j (by simp only[ae]at g⊢;omega) fun P o x=>?_
  rw[cI g,←de,ce g]at o;refine H _ _ ⟨by simp;omega,mG,by simp only;omega,.inr ⟨b,df 1 [.pointer none]++(D++a).drop (df 1 [.pointer none]).length,rfl,v,?_,?_⟩⟩ ((q.mono fun _ e=>.inl (e▸v)).tr (x.mono fun _ e=>.inl (e▸v)))
  ·rw[o,c];simp only[ao]
  ·simp only[ae,aI,hz,n,z]
   omega
end Go.Proofs
namespace Go.Proofs
open Go.Lift
abbrev Pr:=ByteArray×ByteArray
theorem zm{a b:ByteArray}:a.toList=b.toList↔a=b:=by
 constructor
 ·intro h
  rw[ByteArray.toList_eq,ByteArray.toList_eq]at h;cases a;cases b;simp at h;subst h;rfl
 ·rintro rfl;rfl
def kl(a b:ByteArray):Prop:=Op.bytesLess a.toList b.toList=true
instance (a b:ByteArray):Decidable (kl a b):=inferInstanceAs (Decidable (_=true))
theorem IK{a b:ByteArray}:kl a b↔a.toList<b.toList:=by unfold kl;rw[bytesLess_eq,decide_eq_true_iff]
theorem cA(a:ByteArray):¬kl a a:=by rw[IK];exact List.lt_irrefl _
theorem iP{a b c:ByteArray}(h:kl a b)(k:kl b c):kl a c:=by rw[IK]at*;exact List.lt_trans h k
theorem tri:∀x y:List UInt8,Op.bytesLess x y=false→x≠y→Op.bytesLess y x=true
 | [],[],_,h=>absurd rfl h
 | [],_::_,h,_=>by simp[Op.bytesLess]at h
 |_::_,[],_,_=>rfl
 |a::x,b::y,h,hn=>by
  simp only[Op.bytesLess,Bool.or_eq_false_iff,decide_eq_false_iff_not,Bool.and_eq_false_iff]at h;simp only[Op.bytesLess,Bool.or_eq_true,decide_eq_true_iff,Bool.and_eq_true];by_cases e:a=b
  ·subst e
   right;refine⟨by simp,tri x y ?_ fun e=>hn (by rw[e])⟩
   rcases h.2 with h|h
   ·simp at h
   ·exact h
  ·left
   have c:=h.1;rw[UInt8.lt_iff_toNat_lt]at c⊢;have:a.toNat≠b.toNat:=fun h=>e (UInt8.toNat_inj.1 h)
   omega
theorem tW{a b:ByteArray}(h:¬kl a b)(k:a≠b):kl b a:=tri _ _ (by unfold kl at h;simpa using h) fun e=>k (zm.1 e)
def Hf(a b:ByteArray):Int:=if kl a b then-1 else if a=b then 0 else 1
theorem GV{x:ByteArray}{h:ad}{K:Bool→ad→Prop}(a:K false h):HC PG lZ [.string x] [.c .bool] K h:=by
 refine AJ x ?_;unfold tD;simpa using a
theorem Jn{a b:ByteArray}{h:ad}{K:Int→ad→Prop}(c:K (Hf a b) h):HC PG mZ [.string a,.string b] [.c (.int .i64)] K h:=by
 refine yn a b ?_;unfold qU;refine GV (GV (aj.2 (aj.2 ?_)));unfold Hf at c;refine CondP.intro (fun e=>?_) fun e=>?_
 ·rw[if_pos (show kl a b from e)]at c;exact c
 ·have f:¬kl a b:=fun h=>by rw[show Op.bytesLess a.toList b.toList=true from h]at e;cases e
  rw[if_neg f]at c;rw[e];refine CondP.intro (fun d=>?_) fun d=>?_
  ·rw[if_neg (fun h=>by subst h;simp at d)]at c;exact c
  ·have:a.toList=b.toList:=by simpa using d
   rw[if_pos (zm.1 this)]at c;exact c
theorem Nq{p:Pr}{k:ByteArray}{h:ad}{K:Int→ad→Prop}(a:∀h',Upd No h h'→K (Hf p.1 k) h'):HC PG pt [.agg #[.string p.1,.string p.2],.string k] [.c (.int .i64)] K h:=by
 refine FR p k ?_;unfold yy az jO tG;have b1:=cJ h [.string p.1,.string p.2] ay;refine⟨p.1,by rw[fy,bF,aY b1];rfl,Jn (a _ (Upd.hnew No h _ _))⟩
abbrev cB(l:List Pr):Prop:=l.Pairwise fun p q=>kl p.1 q.1
def l9(l:List Pr)(k:ByteArray):Nat:=(l.takeWhile fun p=>decide (kl p.1 k)).length
def bW(l:List Pr)(k:ByteArray):Bool:=l.any fun p=>decide (p.1=k)
theorem Nk{l:List Pr}{k:ByteArray}{i:Nat}(hi:i≤l.length)(b:∀j (h:j<l.length),j<i→kl l[j].1 k)(a:∀(h:i<l.length),¬kl l[i].1 k):l9 l k=i:=by
 unfold l9;induction l generalizing i with
 |nil=>simp at hi;simp[hi]
 |cons p l ih=>
  rw[List.takeWhile_cons];cases i with
  |zero=>
   have:=a (by simp);simp only[List.getElem_cons_zero]at this;rw[if_neg (by simpa using this)];rfl
  |succ i=>
   have:=b 0 (by simp) (by omega);simp only[List.getElem_cons_zero]at this;rw[if_pos (by simpa using this),aL];congr 1
   refine ih (by simpa using hi) (fun j c d=>?_) fun h=>?_
   ·have:=b (j+1) (by simpa using c) (by omega)
    simpa using this
   ·have:=a (by simpa using h)
    simpa using this
theorem Nl(l:List Pr)(k:ByteArray):l9 l k≤l.length:=by
 unfold l9;exact(List.takeWhile_prefix _).length_le
theorem Fl{W:Nat→Prop}{h:ad}{s:SliceV}{l:List Pr}(U:Sl gC 2 W h s l)(hr:cB l)(hn:l.length≤1000000000)(k:ByteArray){K:Int×Bool→ad→Prop}
  (E:∀y,Upd No h y→K ((l9 l k:Int),bW l k) y):HC PG oB [.slice s.a s.len s.cap,.string k] [.c (.int .i64),.c .bool] K h:=by
 refine Hv s k ?_;unfold Av;refine gP s k _ ?_;unfold dW dz rC AB bI;have Y:=U.len;have G:∀{p:Pr} {h:ad} {K:Int→ad→Prop},(∀y,Upd No h y→K (Hf p.1 k) y)→HV PG (.func (.func pt) #[] #[]) [.agg #[.string p.1,.string p.2],.string k] [.c (.int .i64)] K h:=fun E=>HV.mk' (Nq E)
 refine LoopP.ghost (fun(g:Nat×Nat) (t:Int×Int) y=>t.1=(g.1:Int)∧t.2=(g.2:Int)∧g.1≤g.2∧g.2≤l.length∧Upd No h y∧(∀j (R:j<l.length),j<g.1→kl l[j].1 k)∧(∀j (R:j<l.length),g.2≤j→¬kl l[j].1 k)) (fun g=>g.2-g.1) (0,l.length)
  ⟨rfl,by simp only;omega,by simp,by simp,Upd.refl _ _,fun j R h=>by omega,fun j R h=>by simp only at h;omega⟩ ?_
 rintro I ⟨i,j⟩ ⟨ti,tj⟩ y ⟨T,Z,C,B,L,f,v⟩ X;simp only at T Z C B f v;subst T Z;have H:=U.upd L fun _ h=>h.elim
 have mono:∀a b (F:a<l.length) (V:b<l.length),a<b→kl l[a].1 l[b].1:=fun a b F V Q=>cy.1 hr a b F V Q
 refine aH (fun w=>?_) fun P=>?_
 ·have w:i<j:=by have:(i:Int)<(j:Int):=w;omega
  have em:IntKind.wrap .i64 (fa (IntKind.wrap .u64 (IntKind.wrap .i64 ((i:Int)+(j:Int)))) (2^(min (1:Int).toNat (IntKind.bits .u64))))=(((i+j)/2:Nat):Int):=by
   have e3:(2^(min (1:Int).toNat (IntKind.bits .u64)):Int)=2:=rfl;rw[e3,nq (x:=(i:Int)+(j:Int)) (by omega),Go.IntWalk.u64_in _ (by omega),kG _ (by omega),nq (by omega)];omega
  refine⟨by decide,?_⟩;simp only[Bd];rw[em];generalize hm:(i+j)/2=m;have A:m<l.length:=by omega
  obtain⟨a,F,_,hv⟩:=H.at (ag A);refine⟨by omega,a,F,l[m].1,hv 0 _ rfl,l[m].2,hv 1 _ rfl,G fun h2 u=>?_⟩
  refine aH (fun n=>?_) fun M=>?_
  ·have c:kl l[m].1 k:=by
    unfold Hf at n;by_cases c:kl l[m].1 k
    ·exact c
    ·rw[if_neg c]at n;split at n<;>omega
   refine X (m+1,j) _ _ ⟨by simp only;rw[nq (by omega)];omega,rfl,by simp only;omega,B,L.tr u,fun q z D=>?_,v⟩ (by simp only;omega)
   simp only at D;rcases bD q m with h|h
   ·exact iP (mono q m z A h) c
   ·have:q=m:=by omega
    subst this;exact c
  ·have o:¬kl l[m].1 k:=fun c=>M (by unfold Hf;rw[if_pos c];decide)
   refine X (i,m) _ _ ⟨rfl,rfl,by simp only;omega,by simp only;omega,L.tr u,f,fun q z D N=>?_⟩ (by simp only;omega)
   simp only at D;rcases bD m q with h|h
   ·exact o (iP (mono m q A z h) N)
   ·have:q=m:=by omega
    subst this;exact o N
 ·have C:i=j:=by have:¬(i:Int)<(j:Int):=P;omega
  subst C;have J:l9 l k=i:=Nk B f fun hi=>v i hi (al _)
  rw[J]at E;refine aH (fun w=>?_) fun S=>?_
  ·have d:i<l.length:=by have:(i:Int)<(s.len:Int):=w;omega
   obtain⟨a,F,_,hv⟩:=H.at (ag d);refine⟨by simp only;omega,a,F,l[i].1,hv 0 _ rfl,l[i].2,hv 1 _ rfl,G fun h2 u=>?_⟩
   have o:=v i d (al _);have O:(Hf l[i].1 k==(0:Int))=bW l k:=by
    unfold Hf bW;rw[if_neg o,l3,bV];constructor
    ·intro h
     split at h
     ·rename_i e;exact⟨l[i],List.getElem_mem d,decide_eq_true e⟩
     ·simp at h
    ·rintro⟨p,J,e⟩
     have e:=of_decide_eq_true e;obtain⟨q,z,rfl⟩:=List.mem_iff_getElem.1 J;have:q=i:=by
      rcases Nat.lt_trichotomy q i with h|h|h
      ·exact absurd (e▸f q z h) (cA _)
      ·exact h
      ·exact absurd (e▸mono i q d z h) o
     subst this;rw[if_pos e];rfl
   rw[O];exact E _ (L.tr u)
  ·have d:i=l.length:=by have:¬(i:Int)<(s.len:Int):=S;omega
   have O:bW l k=false:=by
    unfold bW;rw[List.any_eq_false];intro p J e;have e:=of_decide_eq_true e;obtain⟨q,z,rfl⟩:=List.mem_iff_getElem.1 J;exact absurd (e▸f q z (by omega)) (cA _)
   rw[O]at E;exact E _ L
end Go.Proofs
namespace Go.Proofs
open Go.Lift
theorem OwnS.zero{α:Type}{f:α→List Value}{c:Nat}{t:TypeId}{M:Nat→Prop}{h:ad}{s:SliceV}{xs:List α}(d:OwnS f c t M h s xs):OwnS f c t M h ⟨aW s.a 0 s.cap c,0-0,s.cap-0⟩ []:=by
 have g:∀x,(f x).length=c∧0<c:=d.ne;have e:=d.len;have i:=d.cap;refine⟨rfl,g,by simp only;omega,?_⟩
 rcases d.blk with n|⟨b,a,j,k,hc,m⟩
 ·exact .inl (by simp only;omega)
 ·refine .inr ⟨b,xs.flatMap f++a,by rw[j,sub_zero],k,hc,?_⟩
  rw[ae,jp g,m,←Nat.add_mul];simp only;congr 1;omega
def HT:Pr:=(⟨#[]⟩,⟨#[]⟩)
theorem Ka(n:Nat):df n [.string (⟨#[]⟩:ByteArray),.string (⟨#[]⟩:ByteArray)]=(eY n HT).flatMap gC:=by
 unfold df;induction n with
 |zero=>rfl
 |succ n ih=>rw[lC,lC,aU,←ih];rfl
theorem PE{n:Nat}(i:n*32≤140737488355328){h:ad}{K:SliceV→ad→Prop}(c:∀s' a,OwnS gC 2 ay (fun b=>h.size≤b) a s' []→Upd No h a→K s' a):
  HC PG eW [.slice none 0 0,.int .i64 n] [.c .slice] K h:=by
 refine lS ⟨none,0,0⟩ n ?_;unfold gM mC;have e:IntKind.wrap .i64 ((n:Int)-IntKind.wrap .i64 (((0:Nat):Int)-((0:Nat):Int)))=(n:Int):=by rw[nq (x:=((0:Nat):Int)-((0:Nat):Int)) (by omega),nq (by omega)];omega
 refine Join.plain (aH (fun h=>by omega) fun _=>?_)
 simp only[Bd];rw[e];refine aH (fun k=>?_) fun hz=>c _ _ (OwnS.nil hJ) (Upd.refl _ _)
 refine⟨by omega,⟨by omega,by omega,by omega,by omega⟩,?_⟩
 refine AppP.own (f:=gC) (M:=fun b=>h.size≤b) (xs:= []) (ys:=eY n HT) (OwnS.nil hJ) (by simp) (Ka _) (by rw[Ka];exact uO _) rfl (by omega) (by simpa using i) (al _) fun s' a d j=>?_
 exact⟨by omega,c _ _ (OwnS.zero d) (j.mono fun b g=>.inr g)⟩
abbrev Su(s:SliceV):List Value:= [.slice s.a s.len s.cap]
def ParS(h:ad):List SliceV→List (List Pr)→Prop
 | [],[]=>True
 |v::vs,l::ls=>Sl gC 2 No h v l∧ParS h vs ls
 |_,_=>False
theorem ParS.upd{h a:ad}(k:Upd No h a):∀{vs:List SliceV} {ls:List (List Pr)},ParS h vs ls→ParS a vs ls
 | [],[],_=>trivial
 |_::_,_::_,q=>⟨q.1.upd k fun _ h=>h.elim,ParS.upd k q.2⟩
 | [],_::_,q=>q.elim
 |_::_,[],q=>q.elim
theorem ParS.len{h:ad}:∀{vs:List SliceV} {ls:List (List Pr)},ParS h vs ls→vs.length=ls.length
 | [],[],_=>rfl
 |_::_,_::_,q=>by rw[aL,aL,ParS.len q.2]
 | [],_::_,q=>q.elim
 |_::_,[],q=>q.elim
theorem ParS.at{h:ad}:∀{vs:List SliceV} {ls:List (List Pr)},ParS h vs ls→∀{i:Nat} (h1:i<vs.length) (h2:i<ls.length),Sl gC 2 No h vs[i] ls[i]
 |_::_,_::_,q,0,_,_=>q.1
 |_::_,_::_,q,i+1,h1,h2=>ParS.at q.2 (by simpa using h1) (by simpa using h2)
theorem Eg(ls:List (List Pr)){i:Nat}(hi:i<ls.length):(ls.take (i+1)).flatten=(ls.take i).flatten++ls[i]:=by
 rw[List.take_succ_eq_append_getElem hi,du,eO,ll,List.append_nil]
theorem KM(ls:List (List Pr))(i:Nat):(ls.take i).flatten.length≤ls.flatten.length:=by
 have:ls.flatten=(ls.take i).flatten++(ls.drop i).flatten:=by rw[←du,List.take_append_drop]
 rw[this,ae];omega
theorem Ek{h:ad}{s:SliceV}{vs:List SliceV}{ls:List (List Pr)}(v:Sl Su 1 No h s vs)(A:ParS h vs ls)(L:ls.flatten.length*32≤140737488355328)(hv:vs.length≤1000)
  {K:SliceV→ad→Prop}(N:∀s' f,OwnS gC 2 ay (fun b=>h.size≤b) f s' ls.flatten→Upd No h f→K s' f):HC PG dh [.slice s.a s.len s.cap] [.c .slice] K h:=by
 refine lf s ?_;unfold gq cT dz mC;have F:=v.len;have d:=A.len;refine LoopP.ghost (fun(i:Nat) (t:Int×Int) f=>t.2=(i:Int)∧i≤vs.length∧t.1=((ls.take i).flatten.length:Int)∧f=h) (fun i=>vs.length-i) 0 ⟨rfl,aV _,by simp,rfl⟩ ?_
 rintro I i ⟨R,ti⟩ f ⟨k,hi,G,rfl⟩ M;simp only at k G;subst k G;refine aH (fun c=>?_) fun C=>?_
 ·have c:i<vs.length:=by have:(i:Int)<(s.len:Int):=c;omega
  obtain⟨a,E,_,g⟩:=v.at (ag c);have O:=(A.at c (d▸c)).len;have e:=congrArg fP (Eg ls (d▸c));rw[ae]at e;have u:=KM ls (i+1);refine Join.plain ⟨by simp only;omega,a,E,_,g 0 _ rfl,?_⟩;simp only;have ew:IntKind.wrap .i64 (((ls.take i).flatten.length:Int)+((vs[i]).len:Int))=((ls.take (i+1)).flatten.length:Int):=by rw[nq (by omega)];omega
  rw[ew];refine aH (fun h=>by omega) fun _=>?_
  rw[ci c (by omega)];exact M (i+1) _ _ ⟨rfl,c,rfl,rfl⟩ (by omega)
 ·have H:i=vs.length:=by have:¬(i:Int)<(s.len:Int):=C;omega
  rw[bp (by omega)];refine PE L fun s0 T x y=>?_
  refine LoopP.ghost (fun(i:Nat) (t:SliceV×Int) z=>t.2=(i:Int)∧i≤vs.length∧OwnS gC 2 ay (fun b=>f.size≤b) z t.1 (ls.take i).flatten∧Upd No f z) (fun i=>vs.length-i) 0 ⟨rfl,aV _,by simpa using x,y⟩ ?_
  rintro X j ⟨V,Q⟩ z ⟨k,U,q,o⟩ D;simp only at k q;subst k;refine aH (fun c=>?_) fun p=>?_
  ·have c:j<vs.length:=by have:(j:Int)<(s.len:Int):=c;omega
   obtain⟨a,E,_,g⟩:=(v.upd o fun _ h=>h.elim).at (ag c)
   have n:=((A.upd o).at c (d▸c));have e:=Eg ls (d▸c);have m:=congrArg fP e;rw[ae]at m;have u:=KM ls (j+1);refine Join.plain ⟨by simp only;omega,a,E,_,g 0 _ rfl,_,n.srow,?_⟩;refine AppP.own (ys:=ls[j]) q n.len rfl (uO _) rfl (by omega) (by omega) o.size fun S W B w=>?_
   simp only;rw[ci c (by omega)];exact D (j+1) _ _ ⟨rfl,c,e▸B,o.trans w fun b J=>.inr J⟩ (by omega)
  ·have P:j=vs.length:=by have:¬(j:Int)<(s.len:Int):=p;omega
   rw[bp (by omega)]at q;exact N _ _ q o
def I0(l:List Pr)(p:Pr):List Pr:=l.take (l9 l p.1)++p::l.drop (if bW l p.1 then l9 l p.1+1 else l9 l p.1)
def L4(l:List Pr)(k:ByteArray):List Pr:=if bW l k then l.take (l9 l k)++l.drop (l9 l k+1)else l
theorem E1{l:List Pr}(g:cB l){k:ByteArray}(c:bW l k=true):∃h:l9 l k<l.length,l[l9 l k].1=k:=by
 unfold bW at c;obtain⟨p,d,e⟩:=bV.1 c;have e:=of_decide_eq_true e;obtain⟨q,b,rfl⟩:=List.mem_iff_getElem.1 d;have:l9 l k=q:=Nk (by omega) (fun j f a=>by rw[←e];exact cy.1 g j q f b a) fun h=>by rw[←e];exact cA _
 subst this;exact⟨b,e⟩
theorem EO{h:ad}{s:SliceV}{l:List Pr}(b:Sl gC 2 No h s l){i j m:Nat}(e:i≤j)(d:j≤l.length)(a:j≤m)(c:Nat):Sl gC 2 No h ⟨aW s.a i m 2,j-i,c⟩ ((l.drop i).take (j-i)):=Sl.sub b e d a
theorem IC{h:ad}{s:SliceV}{l:List Pr}(o:Sl gC 2 No h s l)(hc:s.len≤s.cap)(u:cB l)(G:l.length≤1000000000)(p:Pr)
  {K:SliceV→ad→Prop}(H:∀s' a,OwnS gC 2 ay (fun b=>h.size≤b) a s' (I0 l p)→Upd No h a→K s' a):HC PG wE [.slice s.a s.len s.cap,.agg #[.string p.1,.string p.2]] [.c .slice] K h:=by
 refine JM s p ?_;unfold CM az jO yO tG;have g:=o.len;have k1:=Upd.hnew No h [.string p.1,.string p.2] ay;have b1:=cJ h [.string p.1,.string p.2] ay;refine bL ?_;simp only[fy h];generalize hnew h [.string p.1,.string p.2] ay=h1 at k1 b1;refine⟨p.1,by rw[bF,aY b1];rfl,Fl (o.upd k1 fun _ h=>h.elim) u G p.1 fun N d=>?_⟩
 have A:=Nl l p.1;have c:=k1.tr d;refine⟨by simp only;omega,?_⟩;let q:=if bW l p.1 then l9 l p.1+1 else l9 l p.1
 have I:q≤l.length:=by
  show(if bW l p.1 then l9 l p.1+1 else l9 l p.1)≤l.length
  split
  ·rename_i ht;obtain⟨h,_⟩:=E1 u ht;omega
  ·exact A
 refine Join.intro (fun t a=>a=N∧t=⟨aW s.a q s.cap 2,s.len-q,s.cap-q⟩) (fun R B=>?_) ?_
 ·refine CondP.intro (fun e=>?_) fun e=>B _ _ ⟨rfl,?_⟩
  ·have e:bW l p.1=true:=e
   obtain⟨L,_⟩:=E1 u e;have ew:IntKind.wrap .i64 ((l9 l p.1:Int)+1)=((l9 l p.1+1:Nat):Int):=by rw[nq (by omega)];omega
   simp only;rw[ew];refine⟨by omega,B _ _ ⟨rfl,?_⟩⟩;have:q=l9 l p.1+1:=by show(if bW l p.1 then _ else _)=_;rw[if_pos e]
   rw[this];rfl
  ·have e:bW l p.1=false:=e
   have:q=l9 l p.1:=by show(if bW l p.1 then _ else _)=_;rw[if_neg (by rw[e];decide)]
   rw[this];rfl
 ·rintro t a ⟨rfl,rfl⟩
  have b2:=d.get0 b1;refine⟨by simp only;omega,p.1,by rw[bF,aY b2];rfl,p.2,by rw[bF,aY b2];rfl,?_⟩
  have y:=Upd.hnew No a [.string p.1,.string p.2] ay;have b3:=cJ a [.string p.1,.string p.2] ay;refine bL ?_;simp only[fy a];generalize hnew a [.string p.1,.string p.2] ay=h3 at y b3;refine bL ?_;have k:=(o.upd c fun _ h=>h.elim).upd y fun _ h=>h.elim
  have n:=Upd.hnew No h3 [.slice (aW s.a 0 s.cap 2) ((l9 l p.1:Int).toNat-0) (s.cap-0),.slice (some ⟨a.size,0,none⟩) 1 1,.slice (aW s.a q s.cap 2) (s.len-q) (s.cap-q)] gd;have M:=cJ h3 [.slice (aW s.a 0 s.cap 2) ((l9 l p.1:Int).toNat-0) (s.cap-0),.slice (some ⟨a.size,0,none⟩) 1 1,.slice (aW s.a q s.cap 2) (s.len-q) (s.cap-q)] gd;have D:=EO k (i:=0) (j:=l9 l p.1) (m:=s.cap) (aV _) A (by omega) (s.cap-0)
  have E:Sl gC 2 No h3 ⟨some ⟨a.size,0,none⟩,1,1⟩ [p]:=⟨rfl,hJ,fun _=>⟨_,rfl,fun h=>h.elim,mH b3 fun i v hv=>by simpa using hv⟩⟩
  have w:=EO k (i:=q) (j:=l.length) (m:=s.cap) I (al _) (by omega) (s.cap-q);rw[←g]at w;rw[dd]at D;rw[bp (by rw[aI];omega)]at w;have J:I0 l p= [l.take (l9 l p.1-0),[p],l.drop q].flatten:=by simp[I0,q]
  refine Ek (s:=⟨some (aA h3),3,3⟩) (vs:= [⟨aW s.a 0 s.cap 2,(l9 l p.1:Int).toNat-0,s.cap-0⟩,⟨some ⟨a.size,0,none⟩,1,1⟩,⟨aW s.a q s.cap 2,s.len-q,s.cap-q⟩]) (ls:= [l.take (l9 l p.1-0),[p],l.drop q])
   ⟨rfl,fun x=>⟨rfl,Nat.one_pos⟩,fun _=>⟨_,rfl,fun h=>h.elim,mH M fun i v hv=>by simpa[Su]using hv⟩⟩ ⟨D.upd n fun _ h=>h.elim,E.upd n fun _ h=>h.elim,w.upd n fun _ h=>h.elim,trivial⟩ ?_ (by simp) fun O P f z=>?_
  ·simp only[eO,ll,ae,aG,aI,List.length_singleton,List.length_nil];omega
  ·rw[←J]at f
   have C:=((c.tr y).tr n);exact H _ _ (f.more fun b F=>Nat.le_trans C.size F) (C.tr z)
end Go.Proofs
namespace Go.Proofs
open Go.Lift
def r8(n d:Nat):Nat:=(cC n).countP (d.testBit ·)
theorem A7(m n d:Nat):r8 (m+n) d=r8 m d+r8 n (d>>>m):=by
 unfold r8;rw[qi,List.countP_append,List.countP_map];congr 1
 refine List.countP_congr fun i _=>?_
 simp[m7]
theorem KV(d:Nat)(i:Nat):∀n,i≤n→r8 n (d&&&(2^i-1))=r8 i d:=by
 intro n a;obtain⟨m,rfl⟩:=Nat.exists_eq_add_of_le a;rw[A7];have e:r8 i (d&&&(2^i-1))=r8 i d:=by
  unfold r8;refine List.countP_congr fun j b=>?_
  have:=gh.1 b;simp[gy,j2,this]
 have c:r8 m ((d&&&(2^i-1))>>>i)=0:=by
  unfold r8;rw[List.countP_eq_zero];intro j _;simp[m7,gy,j2];intro h;omega
 omega
theorem Q3(d:Nat):r8 8 (d&&&255)=r8 8 d:=KV d 8 8 (al _)
theorem wK(n d:Nat):r8 n d≤n:=by
 have:=List.countP_le_length (p:=(d.testBit ·)) (l:=cC n)
 simpa[r8]using this
theorem kq(d n:Nat):fa (d:Int) (2^n)=((d>>>n:Nat):Int):=by
 rw[kG _ (by exact Int.le_of_lt (Int.pow_pos (by decide))),bZ];simp
theorem Oq(a b:Nat):(ah (IntKind.bits .u32) (a:Int)&&&ah (IntKind.bits .u32) (b:Int)).toNat=(a%4294967296)&&&(b%4294967296):=by
 simp[IntKind.bits,BitVec.toNat_and,BitVec.toNat_ofInt];rfl
theorem xf{n:Nat}(h:n<4294967296):IntKind.wrap .u32 (n:Int)=(n:Int):=Go.IntWalk.u32_in _ (by omega)
theorem BH{i:Nat}(hi:i<32){h:ad}{K:Bool→ad→Prop}(a:K true h):HC PG lO [.int .i64 i] [.c .bool] K h:=by
 refine Dm i ?_;unfold vT;refine aH (fun _=>?_) fun h=>absurd (Int.natCast_nonneg i) h
 rw[decide_eq_true (by omega)];exact a
theorem FH{a b:Nat}(h:b<4294967296):a&&&b<4294967296:=fg Nat.and_le_right h
theorem y5{d i:Nat}(hd:d<4294967296)(hi:i<32){h:ad}{K:Bool→ad→Prop}(f:K (d.testBit i) h):HC PG fl [.int .u32 d,.int .i64 i] [.c .bool] K h:=by
 refine zI d i ?_;unfold r6;refine BH hi (ax.2 ⟨by omega,?_⟩);have e:min (i:Int).toNat (IntKind.bits .u32)=i:=by rw[aE];exact aZ (by show i≤32;omega)
 rw[e,kq];have a:=Oq (d>>>i) 1;have b:d>>>i<4294967296:=fg (gr d i) hd;rw[cF b,show(1:Nat)%4294967296=1 from rfl]at a
 simp only[Bd];rw[show((1:Nat):Int)=(1:Int)from rfl]at a
 rw[a,xf (FH (by omega))];have c:(((d>>>i&&&1:Nat):Int)==(1:Int))=d.testBit i:=by
  rw[l3,beq_iff_eq,Nat.testBit,Nat.and_comm];simp only[bne_iff_ne,ne_eq,Nat.one_and_eq_mod_two];have:(d>>>i)%2<2:=Nat.mod_lt _ (by omega);omega
 rw[c];exact f
theorem Mc{d i:Nat}(hd:d<4294967296)(hi:i<32):∃w:Nat,IntKind.wrap .u32 (ah (IntKind.bits .u32) (d:Int)|||ah (IntKind.bits .u32) (IntKind.wrap .u32 (1*2^(min (i:Int).toNat (IntKind.bits .u32))))).toNat=(w:Int)∧w<4294967296∧∀j,w.testBit j=(d.testBit j||decide (j=i)):=by
 have e:min (i:Int).toNat (IntKind.bits .u32)=i:=by rw[aE];exact aZ (by show i≤32;omega)
 have g:2^i<4294967296:=Nat.pow_lt_pow_right (by omega) (show i<32 from hi)
 have b:(1*2^i:Int)=((2^i:Nat):Int):=by simp
 rw[e,b,xf g];refine⟨_,xf (BitVec.isLt _),BitVec.isLt _,fun j=>?_⟩
 rw[BitVec.testBit_toNat,BitVec.getLsbD_or,eh,eh,kI,kI,lA];by_cases a:j<32
 ·have:decide (j<IntKind.bits .u32)=true:=decide_eq_true a
  rw[this];simp[eq_comm]
 ·have c:decide (j<IntKind.bits .u32)=false:=decide_eq_false a
  have f:d.testBit j=false:=fC (cg hd (d9 (n:=2) (by omega) (show 32≤j by omega)))
  rw[c,f];simp;omega
theorem Kf{d i:Nat}(hd:d<4294967296)(hi:i<32){h:ad}{K:Int→ad→Prop}(b:∀w:Nat,w<4294967296→(∀j,w.testBit j=(d.testBit j||decide (j=i)))→K (w:Int) h):HC PG eL [.int .u32 d,.int .i64 i] [.c (.int .u32)] K h:=by
 refine yo d i ?_;unfold qV;refine BH hi (aj.2 ⟨by omega,?_⟩);obtain⟨w,e,c,a⟩:=Mc hd hi;simp only[Bd];rw[e];exact b w c a
theorem FF{d i:Nat}(hd:d<4294967296)(hi:i<32):∃w:Nat,IntKind.wrap .u32 (ah (IntKind.bits .u32) (d:Int)&&& ~~~ah (IntKind.bits .u32) (IntKind.wrap .u32 (1*2^(min (i:Int).toNat (IntKind.bits .u32))))).toNat=(w:Int)∧w<4294967296∧∀j,w.testBit j=(d.testBit j&&decide (j≠i)):=by
 have e:min (i:Int).toNat (IntKind.bits .u32)=i:=by rw[aE];exact aZ (by show i≤32;omega)
 have g:2^i<4294967296:=Nat.pow_lt_pow_right (by omega) (show i<32 from hi)
 have b:(1*2^i:Int)=((2^i:Nat):Int):=by simp
 rw[e,b,xf g];refine⟨_,xf (BitVec.isLt _),BitVec.isLt _,fun j=>?_⟩
 rw[BitVec.testBit_toNat,BitVec.getLsbD_and,BitVec.getLsbD_not,eh,eh,kI,kI,lA];by_cases a:j<32
 ·have:decide (j<IntKind.bits .u32)=true:=decide_eq_true a
  rw[this];simp[eq_comm]
 ·have c:decide (j<IntKind.bits .u32)=false:=decide_eq_false a
  have f:d.testBit j=false:=fC (cg hd (d9 (n:=2) (by omega) (show 32≤j by omega)))
  rw[c,f];simp
theorem Bc{d i:Nat}(hd:d<4294967296)(hi:i<32){h:ad}{K:Int→ad→Prop}(b:∀w:Nat,w<4294967296→(∀j,w.testBit j=(d.testBit j&&decide (j≠i)))→K (w:Int) h):HC PG iq [.int .u32 d,.int .i64 i] [.c (.int .u32)] K h:=by
 refine uz d i ?_;unfold oH;refine BH hi (aj.2 ⟨by omega,?_⟩);obtain⟨w,e,c,a⟩:=FF hd hi;simp only[Bd];rw[e];exact b w c a
abbrev RE:ByteArray:=⟨#[0,1,1,2,1,2,2,3,1,2,2,3,2,3,3,4,1,2,2,3,2,3,3,4,2,3,3,4,3,4,4,5,1,2,2,3,2,3,3,4,2,3,3,4,3,4,4,5,2,3,3,4,3,4,4,5,3,4,4,5,4,5,5,6,1,2,2,3,2,3,3,4,2,3,3,4,3,4,4,5,2,3,3,4,3,4,4,5,3,4,4,5,4,5,5,6,2,3,3,4,3,4,4,5,3,4,4,5,4,5,5,6,3,4,4,5,4,5,5,6,4,5,5,6,5,6,6,7,1,2,2,3,2,3,3,4,2,3,3,4,3,4,4,5,2,3,3,4,3,4,4,5,3,4,4,5,4,5,5,6,2,3,3,4,3,4,4,5,3,4,4,5,4,5,5,6,3,4,4,5,4,5,5,6,4,5,5,6,5,6,6,7,2,3,3,4,3,4,4,5,3,4,4,5,4,5,5,6,3,4,4,5,4,5,5,6,4,5,5,6,5,6,6,7,3,4,4,5,4,5,5,6,4,5,5,6,5,6,6,7,4,5,5,6,5,6,6,7,5,6,6,7,6,7,7,8]⟩
theorem OY:(cC 256).all (fun b=>decide (RE[b]? =some (dH (r8 8 b))))=true:=by decide+kernel
theorem EL{b:Nat}(h:b<256):RE[b]? =some (dH (r8 8 b)):=of_decide_eq_true (List.all_eq_true.1 OY b (gh.2 h))
theorem Fw(b:Nat):(dH (r8 8 b)).toNat=r8 8 b:=by
 have:=wK 8 b;simp;omega
theorem SM(d:Nat):r8 32 d=r8 8 (d>>>24)+r8 8 ((d>>>16)&&&255)+r8 8 ((d>>>8)&&&255)+r8 8 (d&&&255):=by
 rw[Q3,Q3,Q3,show(32:Nat)=8+(8+(8+8))from rfl,A7,A7,A7]
 simp only[←Nat.shiftRight_add,Nat.reduceAdd];omega
set_option maxRecDepth 100000 in
theorem Pp{d:Nat}(hd:d<4294967296){h:ad}{K:Int→ad→Prop}(j:K (r8 32 d:Int) h):HC PG iS [.int .u32 d] [.c (.int .i64)] K h:=by
 refine rL d ?_;unfold mA;have a:fa (d:Int) (2^(min (24:Int).toNat (IntKind.bits .u32)))=((d>>>24:Nat):Int):=kq d 24;have i:fa (d:Int) (2^(min (16:Int).toNat (IntKind.bits .u32)))=((d>>>16:Nat):Int):=kq d 16;have m:fa (d:Int) (2^(min (8:Int).toNat (IntKind.bits .u32)))=((d>>>8:Nat):Int):=kq d 8;have b:∀x:Nat,x<4294967296→IntKind.wrap .u32 (ah (IntKind.bits .u32) (x:Int)&&&ah (IntKind.bits .u32) 255).toNat=((x&&&255:Nat):Int):=fun x hx=>by
  have:=Oq x 255;rw[cF hx]at this;rw[show((255:Nat):Int)=(255:Int)from rfl]at this
  rw[this,xf (FH (by omega))]
 have e:d>>>24<256:=by rw[bZ];omega
 have g:∀x:Nat,x&&&255<256:=fun x=>fg Nat.and_le_right (by omega)
 have f:d>>>16<4294967296:=fg (gr d 16) hd;have k:d>>>8<4294967296:=fg (gr d 8) hd;simp only[Bd];rw[a,i,m,b _ f,b _ k,b _ hd];refine⟨by decide,_,by omega,EL (b:=d>>>24) e,by decide,_,by omega,EL (g _),by decide,_,by omega,EL (g _),_,by omega,EL (g _),?_⟩
 rw[Fw,Fw,Fw,Fw];simp only[aE];have p:=wK 8 (d>>>24);have s:=wK 8 (d>>>16&&&255);have o:=wK 8 (d>>>8&&&255);have q4:=wK 8 (d&&&255);rw[SM]at j;have c:∀n:Nat,n≤255→IntKind.wrap .u8 (n:Int)=(n:Int):=fun n q=>Go.IntWalk.u8_in _ (by omega)
 rw[←Int.natCast_add,c _ (by omega),←Int.natCast_add,c _ (by omega),←Int.natCast_add,c _ (by omega),nq (by omega)];exact j
theorem nZ{d i:Nat}(hd:d<4294967296)(hi:i<32){h:ad}{K:Int→ad→Prop}(a:K (r8 i d:Int) h):HC PG cW [.int .u32 d,.int .i64 i] [.c (.int .i64)] K h:=by
 refine yp d i ?_;unfold qW;refine aH (fun g=>?_) fun g=>?_
 ·have:i=0:=by omega
  subst this;exact a
 ·refine aH (fun h=>by omega) fun _=>⟨by omega,?_⟩
  have e:min (i:Int).toNat (IntKind.bits .u32)=i:=by rw[aE];exact aZ (by show i≤32;omega)
  have j:2^i<4294967296:=Nat.pow_lt_pow_right (by omega) (show i<32 from hi)
  have f:0<2^i:=Nat.pow_pos (by omega);have b:(1*2^i:Int)=((2^i:Nat):Int):=by simp
  have c:(((2^i:Nat):Int)-1)=((2^i-1:Nat):Int):=by omega
  simp only[Bd];rw[e,b,xf j,c,xf (show 2^i-1<4294967296 by omega),Oq,cF hd,cF (show 2^i-1<4294967296 by omega),xf (FH (by omega))]
  refine w6 _ ?_;unfold qf;refine Pp (FH (by omega)) ?_;rw[KV d i 32 (by omega)];exact a
end Go.Proofs
namespace Go.Proofs
open Go.Lift
def fm{β:Type}(g:Nat→Option β)(n:Nat):List β:=(cC n).filterMap g
def upd{β:Type}(g:Nat→Option β)(i:Nat)(x:Option β)(j:Nat):Option β:=if j=i then x else g j
theorem RY{β:Type}{f g:Nat→Option β}:∀l:List Nat,(∀j∈l,f j=g j)→l.filterMap f=l.filterMap g
 | [],_=>rfl
 |j::l,h=>by
  rw[List.filterMap_cons,List.filterMap_cons,h j (List.mem_cons_self ..),RY l fun k a=>h k (List.mem_cons_of_mem _ a)]
section
variable {β:Type} {g:Nat→Option β} {d:Nat}
theorem B6(hd:∀c,c<32→d.testBit c=(g c).isSome){i:Nat}(hi:i≤32):(fm g i).length=r8 i d:=by
 unfold fm r8;rw[List.length_filterMap_eq_countP];exact List.countP_congr fun j a=>by rw[hd j (by have:=gh.1 a;omega)]
theorem oz{i n:Nat}(hi:i<n):fm g n=fm g i++((g i).toList++(cC (n-(i+1))).filterMap fun j=>g (i+1+j)):=by
 unfold fm;have e:n=i+(1+(n-(i+1))):=by omega
 rw[e,qi,nz,qi];have a:i+(1+(n-(i+1)))-(i+1)=n-(i+1):=by omega
 rw[a];congr 1
 rw[List.map_append,nz,List.map_map];congr 1
 rw[List.filterMap_map];refine RY _ fun j _=>?_
 show g (i+(1+j))=_
 rw[Nat.add_assoc]
theorem wy{i:Nat}{x:Option β}:fm (upd g i x) i=fm g i:=by
 unfold fm;refine RY _ fun j a=>?_
 have:=gh.1 a;unfold upd;rw[if_neg (by omega)]
theorem ua{i m:Nat}{x:Option β}:((cC m).filterMap fun j=>upd g i x (i+1+j))=(cC m).filterMap fun j=>g (i+1+j):=by
 refine RY _ fun j _=>?_
 unfold upd;rw[if_neg (by omega)]
theorem NH{i:Nat}(hi:i<32)(hd:∀c,c<32→d.testBit c=(g c).isSome)(b:g i=none)(x:β):fm (upd g i (some x)) 32=(fm g 32).take (r8 i d)++x::(fm g 32).drop (r8 i d):=by
 have a:=B6 hd (i:=i) (by omega);rw[oz (g:=upd g i (some x)) hi,oz (g:=g) hi,wy,ua,b,cI a,ce a];simp[upd]
theorem NG{i:Nat}(hi:i<32)(hd:∀c,c<32→d.testBit c=(g c).isSome){y:β}(b:g i=some y)(x:β):fm (upd g i (some x)) 32=(fm g 32).take (r8 i d)++x::(fm g 32).drop (r8 i d+1):=by
 have a:=B6 hd (i:=i) (by omega);rw[oz (g:=upd g i (some x)) hi,oz (g:=g) hi,wy,ua,b,cI a,←de,ce a];simp[upd]
theorem NI{i:Nat}(hi:i<32)(hd:∀c,c<32→d.testBit c=(g c).isSome){y:β}(b:g i=some y):fm (upd g i none) 32=(fm g 32).take (r8 i d)++(fm g 32).drop (r8 i d+1):=by
 have a:=B6 hd (i:=i) (by omega);rw[oz (g:=upd g i none) hi,oz (g:=g) hi,wy,ua,b,cI a,←de,ce a];simp[upd]
theorem NJ{i:Nat}(hi:i<32)(hd:∀c,c<32→d.testBit c=(g c).isSome){y:β}(b:g i=some y):(fm g 32)[r8 i d]? =some y:=by
 have a:=B6 hd (i:=i) (by omega);rw[oz (g:=g) hi,b,List.getElem?_append_right (by omega),a,m8];rfl
theorem Ef{i:Nat}(hi:i<32)(hd:∀c,c<32→d.testBit c=(g c).isSome){y:β}(a:g i=some y):r8 i d<(fm g 32).length:=(List.getElem?_eq_some_iff.1 (NJ hi hd a)).1
theorem P6{i:Nat}(hi:i<32)(hd:∀c,c<32→d.testBit c=(g c).isSome):r8 i d≤(fm g 32).length:=by
 have a:=B6 hd (i:=i) (by omega);rw[oz (g:=g) hi,ae];omega
theorem uc:(fm g 32).length≤32:=by
 have:=List.length_filterMap_le g (cC 32);simpa[fm]using this
end
end Go.Proofs
namespace Go.Proofs
open Go.Lift
abbrev sv(s:SliceV):Value:=.slice s.a s.len s.cap
structure Slots where
 p:Nat→Option Pr
 k:Nat→Option (Option Addr)
def ff(d n:Nat)(sp sk:SliceV)(a:Bool)(ow:Option Addr):Array Value:= #[.int .u32 (d:Int),.int .u32 (n:Int),sv sp,sv sk,.bool a,.pointer ow]
structure BitsOf(d n:Nat)(s:Slots):Prop where
 d32:d<4294967296
 n32:n<4294967296
 dp:∀c,c<32→d.testBit c=(s.p c).isSome
 nk:∀c,c<32→n.testBit c=(s.k c).isSome
def OwOk(W:Nat→Prop)(h:ad)(ow:Option Addr):Prop:=∀a,ow=some a→¬W a.block∧dQ h a
theorem OwOk.upd{W M:Nat→Prop}{h g:ad}{ow:Option Addr}(o:OwOk W h ow)(k:Upd M h g)(hm:∀b,M b→W b∨h.size≤b):OwOk W g ow:=fun a e=>by
 obtain⟨d,c,t,f,hz⟩:=o a e;exact⟨d,c,t,k.get f (fun hM=>(hm _ hM).elim d fun h=>by have:=aD f;omega),hz⟩
theorem OwOk.less{W W':Nat→Prop}{h:ad}{ow:Option Addr}(o:OwOk W h ow)(hm:∀b,W' b→W b∨h.size≤b):OwOk W' h ow:=fun a e=>by
 obtain⟨f,c,t,d,hz⟩:=o a e;exact⟨fun hx=>(hm _ hx).elim f fun h=>by have:=aD d;omega,c,t,d,hz⟩
theorem jL{W:Nat→Prop}{h:ad}:OwOk W h none:=fun _ e=>by cases e
structure NodeAt(W:Nat→Prop)(h:ad)(b:Nat)(s:Slots):Prop where
 ex:∃d n sp sk ow,h[b]? =some (.cells (ff d n sp sk false ow) bE (0,0))∧BitsOf d n s∧Sl gC 2 W h sp (fm s.p 32)∧Sl oJ 1 W h sk (fm s.k 32)∧sp.len≤sp.cap∧sk.len≤sk.cap∧OwOk W h ow
 nw:¬W b
theorem NodeAt.upd{W M:Nat→Prop}{h c:ad}{b:Nat}{s:Slots}(n:NodeAt W h b s)(k:Upd M h c)(hm:∀b,M b→W b∨h.size≤b):NodeAt W c b s:=by
 obtain⟨d,m,sp,sk,ow,a,j,i,g,p,o,e⟩:=n.ex;exact⟨⟨d,m,sp,sk,ow,k.get a (fun f=>(hm _ f).elim n.nw fun h=>by have:=aD a;omega),j,i.upd k hm,g.upd k hm,p,o,e.upd k hm⟩,n.nw⟩
structure OwnN(M:Nat→Prop)(h:ad)(b d n:Nat)(sp sk:SliceV)(s:Slots)(ow:Option Addr):Prop where
 blk:h[b]? =some (.cells (ff d n sp sk false ow) bE (0,0))
 bits:BitsOf d n s
 ex:∃A B:Nat→Prop,OwnS gC 2 ay A h sp (fm s.p 32)∧OwnS oJ 1 bA B h sk (fm s.k 32)∧(∀x,A x→M x∧¬B x∧x≠b∧x<h.size)∧(∀x,B x→M x∧x≠b∧x<h.size)
 mb:M b
theorem OwnN.upd{M M':Nat→Prop}{h f:ad}{b d n:Nat}{sp sk:SliceV}{s:Slots}{ow:Option Addr}(o:OwnN M h b d n sp sk s ow)(k:Upd M' h f)(hm:∀x,M' x→¬M x):OwnN M f b d n sp sk s ow:=by
 obtain⟨A,B,g,j,a,c⟩:=o.ex;have z:=k.size;exact⟨k.get o.blk fun i=>hm _ i o.mb,o.bits,⟨A,B,g.upd k fun x hx e=>hm _ e (a x hx).1,j.upd k fun x hx e=>hm _ e (c x hx).1,fun x hx=>⟨(a x hx).1,(a x hx).2.1,(a x hx).2.2.1,by have:=(a x hx).2.2.2;omega⟩,fun x hx=>⟨(c x hx).1,(c x hx).2.1,by have:=(c x hx).2.2;omega⟩⟩,o.mb⟩
end Go.Proofs
