/- A part of the proof that the named laws of this program answer true, whatever the input. -/
import Derived.Test.YtncppacbfagpgaaGreatDoorPart1
import Derived.Test.YtncppacbfagpgaaGreatDoorPart0
open ByteArray renaming mk→pr,data_extract→jE
open Int renaming toNat_natCast→aM
open List renaming flatMap_cons→aN,map_cons→di,length_singleton→aw,range→eZ,range_succ→ij,map_append→cr,length_append→ac,append_assoc→ao,flatMap_append→bC,take_of_length_le→bj,mem_cons_self→au,mem_cons_of_mem→aH,length_cons→ap,take_succ_eq_append_getElem→aX,flatMap_nil→jc,append_nil→aE,getElem?_eq_getElem→ae,getElem_mem→bN,mem_of_mem_take→kN,length_take→aD,sum_append→ii,map_nil→r9,sum_cons→jQ,sum_nil→r8,flatten_append→dI,mem_singleton→aJ,flatten_cons→eK,length_nil→aI,getElem_cons_drop→jD,take_append_drop→aA,take_length→bQ,cons_append→cR,append_inj→oT,cons→eg,pairwise_cons→aS,mem_cons→az,zip_cons_cons→eY,mem_append→bP,zip_eq_zipWith→lB,length_drop→aV,set_eq_take_append_cons_drop→fo,extract_eq_take_drop→eI,mem_map→gI,pairwise_append→cK,lt_irrefl→p6,length_map→cg
open List.Pairwise renaming nil→gk
open Nat renaming le_refl→ag,zero_le→aK,min_eq_left→bL,le_trans→bh,lt_or_ge→cf,mul_le_mul_right→bZ,pow_succ→lp,testBit_lt_two_pow→gH,lt_of_lt_of_le→bH,pow_le_pow_right→fg,add_zero→cQ,add_mul→gQ,mul_le_mul_left→iT,not_lt_zero→gp,shiftRight_eq_div_pow→cj,mod_eq_of_lt→de
open Option renaming some→bF,map_eq_some_iff→m9
open Prod renaming mk→po
open UInt8 renaming ofNat→fe
namespace Go.Proofs
open Go.Lift
abbrev l8(b:UInt8):List Value:= [.int .u8 (b.toNat:Int)]
theorem oL(b:UInt8):(l8 b).length=1∧0<1:=⟨rfl,Nat.one_pos⟩
theorem wB:∀xs:List UInt8,cq (xs.flatMap l8)=true
 | []=>rfl
 |x::xs=>by rw[aN];exact ir rfl (wB xs)
theorem mC(s:ByteArray):dd s=s.data.toList.flatMap l8:=by
 unfold dd;generalize s.data.toList=l;induction l with
 |nil=>rfl
 |cons b l ih=>rw[di,aN,ih];rfl
theorem ri{M:Nat→Prop}{h:ad}{so:SliceV}{out:List UInt8}{v:Int}{b:UInt8}(hv:v=(b.toNat:Int)){K:SliceV→ad→Prop}(ho:OwnS l8 1 ci M h so out)(hM:∀b,h.size≤b→M b)(hn:out.length+1≤140737488355328)
  (hk:∀s' h',OwnS l8 1 ci M h' s' (out++ [b])→Upd M h h'→K s' h'):
  ∃xs,SRow (hnew h [.int .u8 v] ci) (some (aC h)) (1*1) xs∧AppP (some [.int .u8 0]) 1 1 ci so.a so.len so.cap 1 xs (hnew h [.int .u8 v] ci) K:=by
 subst hv;have k:=Upd.hnew No h [.int .u8 (b.toNat:Int)] ci;have h1:OwnS l8 1 ci (fun _=>True) (hnew h [.int .u8 (b.toNat:Int)] ci) ⟨some (aC h),1,1⟩ [b]:=⟨rfl,oL,ag _,.inr ⟨h.size,[],rfl,trivial,dj ..,rfl⟩⟩
 refine⟨_,(h1.sl (W:=No) fun _ _ _ h=>h).srow,?_⟩
 refine AppP.own (ys:= [b]) (ho.upd k fun _ _ h=>h) rfl rfl rfl rfl (by omega) (by simp only[aw];omega) (hM _ (by rw[f9];omega)) fun s' h' ho' hu=>?_
 exact hk s' h' ho' ((Upd.hnew M h _ _).tr hu)
def kB(n k:Nat):List UInt8:=(eZ k).map fun i=>fe (n>>>(8*i))
theorem ub(n k:Nat):kB n (k+1)=kB n k++ [fe (n>>>(8*k))]:=by unfold kB;rw[ij,cr];rfl
theorem cY(n k:Nat):(kB n k).length=k:=by simp[kB]
theorem HI{M:Nat→Prop}{h:ad}{s:SliceV}{xs:List UInt8}(ho:OwnS l8 1 ci M h s xs)(hM:∀b,h.size≤b→M b){n k:Nat}(hn:n<18446744073709551616)(hk8:k≤8)(hl:xs.length+k≤140737488355328){K:SliceV→ad→Prop}
  (hk:∀s' h',OwnS l8 1 ci M h' s' (xs++kB n k)→Upd M h h'→K s' h'):HC PG kF [.slice s.a s.len s.cap,.int .u64 n,.int .i64 k] [.c .slice] K h:=by
 refine zd s n k ?_;unfold tO;refine LoopP.ghost (fun(i:Nat) (t:SliceV×Int) h'=>t.2=(i:Int)∧i≤k∧OwnS l8 1 ci M h' t.1 (xs++kB n i)∧Upd M h h') (fun i=>k-i) 0 ⟨rfl,aK _,by simpa[kB]using ho,Upd.refl _ _⟩ ?_
 rintro I i ⟨so,ti⟩ h' ⟨e1,hi,ho',hu⟩ hI;simp only at e1 ho';subst e1;refine av (fun hlt=>?_) fun hge=>?_
 ·have hlt:i<k:=by have:(i:Int)<(k:Int):=hlt;omega
  have e8:IntKind.wrap .i64 (8*(i:Int))=((8*i:Nat):Int):=by rw[fL (by omega)];omega
  have em:min (((8*i:Nat):Int)).toNat (IntKind.bits .u64)=8*i:=by rw[aM];exact bL (by show 8*i≤64;omega)
  refine Join.plain ?_;simp only[Bd];rw[e8,em,kE];refine⟨by omega,bM ?_⟩;refine ri (b:=fe (n>>>(8*i))) ?_ ho' (fun b hb=>hM b (bh hu.size hb)) (by rw[ac,cY];omega) fun s2 h2 ho2 hu2=>?_
  ·rw[IntKind.wrap_u8];simp
  ·rw[cl hlt (by omega)]
   refine hI (i+1) _ _ ⟨rfl,hlt,?_,hu.tr hu2⟩ (by omega);rw[ub,←ao];exact ho2
 ·have hik:i=k:=by have:¬(i:Int)<(k:Int):=hge;omega
  subst hik;exact hk _ _ ho' hu
end Go.Proofs
namespace Go.Proofs
open Go Go.Lift
theorem Gk{α:Type}{f:α→List Value}{sz bytes:Nat}{t:TypeId}{W:Nat→Prop}{h:ad}{base:Option Addr}{sl sc xl:Nat}{xs ys:List α}{ysv z:List Value}{K:SliceV→ad→Prop}
  (hs:Sl f sz W h ⟨base,sl,sc⟩ xs)(hxl:xl=ys.length)(hys:ysv=ys.flatMap f)(hz:z.length=sz)(hb:0<bytes)(hout:sc<sl+xl)(hfit:(xs.length+ys.length)*bytes≤140737488355328)
  (hk:∀s' h',OwnS f sz t (fun b=>h.size≤b) h' s' (xs++ys)→Upd No h h'→K s' h'):AppP (some z) sz bytes t base sl sc xl ysv h K:=by
 have hlen:sl=xs.length:=hs.len;subst hxl hys;refine⟨fun hin=>by omega,fun _=>?_⟩
 refine⟨xs.flatMap f,z,hs.srow,rfl,hb,Go.growslice_fits hout (by rw[hlen];exact hfit),fun nc hnc=>?_⟩
 refine hk _ _ ⟨by simp[hlen],hs.ne,hnc,.inr ⟨h.size,dR (nc-(sl+ys.length)) z,rfl,ag _,?_,?_⟩⟩ (Upd.hnew No h _ _)
 ·rw[dj,bC]
 ·rw[nY,hz]
theorem N3{h:ad}{s:SliceV}{xs:List UInt8}(hs:Sl l8 1 No h s xs)(hc:s.cap=s.len){n k:Nat}(hk8:k≤8)(hk0:0<k)(hl:xs.length+k≤140737488355328){K:SliceV→ad→Prop}
  (hk:∀s' h',OwnS l8 1 ci (fun b=>h.size≤b) h' s' (xs++kB n k)→Upd No h h'→K s' h'):HC PG kF [.slice s.a s.len s.cap,.int .u64 n,.int .i64 k] [.c .slice] K h:=by
 refine zd s n k ?_;unfold tO;refine LoopP.ghost (fun(i:Nat) (t:SliceV×Int) h'=>t.2=(i:Int)∧i≤k∧((i=0∧t.1=s∧h'=h)∨OwnS l8 1 ci (fun b=>h.size≤b) h' t.1 (xs++kB n i))∧Upd No h h') (fun i=>k-i) 0 ⟨rfl,aK _,.inl ⟨rfl,rfl,rfl⟩,Upd.refl _ _⟩ ?_
 rintro I i ⟨so,ti⟩ h' ⟨e1,hi,ho',hu⟩ hI;simp only at e1 ho';subst e1;refine av (fun hlt=>?_) fun hge=>?_
 ·have hlt:i<k:=by have:(i:Int)<(k:Int):=hlt;omega
  have e8:IntKind.wrap .i64 (8*(i:Int))=((8*i:Nat):Int):=by rw[fL (by omega)];omega
  have em:min (((8*i:Nat):Int)).toNat (IntKind.bits .u64)=8*i:=by rw[aM];exact bL (by show 8*i≤64;omega)
  refine Join.plain ?_;simp only[Bd];rw[e8,em,kE];refine⟨by omega,bM ?_⟩;have ev:IntKind.wrap .u8 ((n>>>(8*i):Nat):Int)=((fe (n>>>(8*i))).toNat:Int):=by rw[IntKind.wrap_u8];simp
  rcases ho' with⟨rfl,rfl,rfl⟩|ho'
  ·rw[ev]
   have k1:=Upd.hnew No h' [.int .u8 ((fe (n>>>(8*0))).toNat:Int)] ci;have h1:OwnS l8 1 ci (fun _=>True) (hnew h' [.int .u8 ((fe (n>>>(8*0))).toNat:Int)] ci) ⟨some (aC h'),1,1⟩ [fe (n>>>(8*0))]:=⟨rfl,oL,ag _,.inr ⟨h'.size,[],rfl,trivial,dj ..,rfl⟩⟩
   refine⟨_,(h1.sl (W:=No) fun _ _ _ h=>h).srow,?_⟩
   refine Gk (ys:= [fe (n>>>(8*0))]) (hs.upd k1 fun _ h=>h.elim) rfl rfl rfl (by omega) (by omega) (by simp only[aw];omega) fun s2 h2 ho2 hu2=>?_
   rw[cl hlt (by omega)];refine hI 1 _ _ ⟨rfl,hlt,.inr ?_,k1.tr hu2⟩ (by omega);exact ho2.more fun b hb=>bh k1.size hb
  ·refine ri ev ho' (fun b hb=>bh hu.size hb) (by rw[ac,cY];omega) fun s2 h2 ho2 hu2=>?_
   rw[cl hlt (by omega)];refine hI (i+1) _ _ ⟨rfl,hlt,.inr ?_,hu.trans hu2 fun b hb=>.inr hb⟩ (by omega)
   rw[ub,←ao];exact ho2
 ·have hik:i=k:=by have:¬(i:Int)<(k:Int):=hge;omega
  subst hik;rcases ho' with⟨e,_⟩|ho'
  ·omega
  ·exact hk _ _ ho' hu
def lF(s:ByteArray):List UInt8:=kB s.size 2++s.data.toList
theorem zK{W:Nat→Prop}{h:ad}{s:SliceV}{xs:List UInt8}(hs:Sl l8 1 W h s xs)(hc:s.len≤s.cap)(b:ByteArray)(hb:b.size≤1000000)(hl:xs.length+2+b.size≤140737488355328){K:SliceV→ad→Prop}
  (hk:∀s' h',OwnS l8 1 ci (fun x=>h.size≤x) h' s' (xs++lF b)→Upd No h h'→K s' h'):HC PG kV [.slice s.a s.len s.cap,.string b] [.c .slice] K h:=by
 refine EM s b ?_;unfold xy;have hlen:=hs.len;refine⟨by omega,by omega,?_⟩
 simp only[aM];have hs1:Sl l8 1 No h ⟨aZ s.a 0 s.len 1,s.len-0,s.len-0⟩ xs:=by
  have:=Sl.sub (hs.less (W':=No) fun _ h=>h.elim) (l:=0) (hi:=s.len) (m:=s.len) (c:=s.len-0) (aK _) (by omega) (ag _)
  rw[List.drop_zero,bj (by omega)]at this;exact this
 have ew:IntKind.wrap .u64 (b.size:Int)=(b.size:Int):=Go.IntWalk.u64_in _ (by omega);rw[ew];refine N3 hs1 rfl (n:=b.size) (k:=2) (by omega) (by omega) (by omega) fun s2 h2 ho2 hu2=>?_
 refine AppP.own (ys:=b.data.toList) ho2 (by simp) (mC b) (by rw[mC];exact wB _) rfl (by omega) ?_ hu2.size fun s3 h3 ho3 hu3=>?_
 ·simp only[ac,cY]
  have:b.data.toList.length=b.size:=by simp
  omega
 ·refine hk s3 h3 ?_ (hu2.trans hu3 fun x hx=>.inr hx)
  rw[lF,←ao];exact ho3
end Go.Proofs
namespace Go.Proofs
open Go Go.Lift
def yV(p:Pr):List UInt8:=lF p.1++lF p.2
def iW(l:List Pr):List UInt8:=l.flatMap yV
theorem gR(b:ByteArray):(lF b).length=2+b.size:=by simp[lF,cY]
def Fit(l:List Pr):Prop:=∀p∈l,p.1.size≤10000∧p.2.size≤10000
theorem Km{p:Pr}(h:p.1.size≤10000∧p.2.size≤10000):(yV p).length≤20004:=by
 unfold yV;rw[ac,gR,gR];omega
theorem kA:∀{l:List Pr},Fit l→(iW l).length≤l.length*20004
 | [],_=>by simp[iW]
 |p::l,h=>by
  have h1:=Km (h p (au ..));have h2:=kA (l:=l) fun q hq=>h q (aH _ hq)
  unfold iW at*;rw[aN,ac,ap];omega
theorem yU{l:List Pr}{i:Nat}(hi:i<l.length):iW (l.take (i+1))=iW (l.take i)++yV l[i]:=by
 unfold iW;rw[aX hi,bC,aN,jc,aE]
theorem Av{M W:Nat→Prop}{h:ad}{s sp:SliceV}{xs:List UInt8}{l:List Pr}(ho:OwnS l8 1 ci M h s xs)(hM:∀b,h.size≤b→M b)(hs:Sl dD 2 W h sp l)(hW:∀x,M x→x<h.size→W x)(hf:Fit l)(hn:l.length≤1000000)(hl:xs.length+l.length*20004≤140737488355328){K:SliceV→ad→Prop}
  (hk:∀s' h',OwnS l8 1 ci M h' s' (xs++iW l)→Upd M h h'→K s' h'):HC PG nT [.slice s.a s.len s.cap,.slice sp.a sp.len sp.cap] [.c .slice] K h:=by
 refine Cu s sp ?_;unfold uR cn nv jm aL aF im xS;have hlen:=hs.len;have hMW:∀b,M b→W b∨h.size≤b:=fun b hb=>by
  rcases cf b h.size with hx|hx
  ·exact .inl (hW b hb hx)
  ·exact .inr hx
 refine LoopP.ghost (fun(i:Nat) (t:SliceV×Int) h'=>t.2=(i:Int)∧i≤l.length∧OwnS l8 1 ci M h' t.1 (xs++iW (l.take i))∧Upd M h h') (fun i=>l.length-i) 0 ⟨rfl,aK _,by simpa[iW]using ho,Upd.refl _ _⟩ ?_
 rintro I i ⟨so,ti⟩ h' ⟨e1,hi,ho',hu⟩ hI;simp only at e1 ho';subst e1;refine av (fun hlt=>?_) fun hge=>?_
 ·have hlt:i<l.length:=by have:(i:Int)<(sp.len:Int):=hlt;omega
  obtain⟨a,ha,_,hv⟩:=(hs.upd hu hMW).at (ae hlt);have hfi:=hf l[i] (bN hlt);have htl:=kA (l:=l.take i) fun q hq=>hf q (kN hq)
  rw[aD,bL hi]at htl;have k1:=Upd.hnew No h' [.string (⟨#[]⟩:ByteArray),.string (⟨#[]⟩:ByteArray)] al;have b1:=dj h' [.string (⟨#[]⟩:ByteArray),.string (⟨#[]⟩:ByteArray)] al;refine⟨by simp only;omega,a,ha,l[i].1,hv 0 _ rfl,l[i].2,hv 1 _ rfl,bM ?_⟩;simp only[fk h'];generalize hnew h' [.string (⟨#[]⟩:ByteArray),.string (⟨#[]⟩:ByteArray)] al=h1 at k1 b1
  have b1':h1[h'.size]? =some (.cells #[.string OK.1,.string OK.2] al (0,0)):=b1;refine L4 (p:=l[i]) b1' fun h2 b2 hu2=>?_
  have hu12:Upd No h' h2:=k1.trans hu2 fun x hx=>.inr (Nat.le_of_eq hx.symm)
  have ho2:=ho'.upd hu12 fun _ _ h=>h
  refine⟨l[i].1,by rw[cc,bo b2];rfl,l[i].2,by rw[cc,bo b2];rfl,?_⟩
  have hmul:i*20004+20004≤l.length*20004:=by rw[←Nat.succ_mul];exact bZ _ hlt
  refine zK (W:=No) (ho2.sl fun _ _ _ h=>h) ho2.cap l[i].1 (by omega) (by rw[ac];omega) fun s3 h3 ho3 hu3=>⟨by rw[cc,bo (hu3.get0 b2)];rfl,?_⟩
  refine zK (W:=No) (ho3.sl fun _ _ _ h=>h) ho3.cap l[i].2 (by omega) (by rw[ac,ac,gR];omega) fun s4 h4 ho4 hu4=>?_
  have hu04:Upd M h h4:=hu.tr ((hu12.tr (hu3.tr hu4)).wide);rw[cl hlt (by omega)];refine hI (i+1) _ _ ⟨rfl,hlt,?_,hu04⟩ (by omega);rw[yU hlt,yV,←ao,←ao];exact ho4.more fun b hb=>hM b (bh (hu.tr ((hu12.tr hu3).wide)).size hb)
 ·have hil:i=l.length:=by have:¬(i:Int)<(sp.len:Int):=hge;omega
  rw[bj (by omega)]at ho';exact hk _ _ ho' hu
end Go.Proofs
namespace Go.Proofs
open Go Go.Lift
def g5(q:Nat→Bool):Nat→Nat
 |0=>0
 |n+1=>g5 q n+(if q n then 2^n else 0)
theorem kH(q:Nat→Bool):∀n,g5 q n<2^n
 |0=>by simp[g5]
 |n+1=>by
  have:=kH q n;unfold g5;rw[lp];split<;>omega
theorem yp(q:Nat→Bool)(c:Nat):∀n,(g5 q n).testBit c=(decide (c<n)&&q c)
 |0=>by simp[g5]
 |n+1=>by
  have hlt:=kH q n;have ih:=yp q c n;unfold g5;by_cases hq:q n=true
  ·rw[if_pos hq,Nat.add_comm]
   rcases Nat.lt_trichotomy c n with h|h|h
   ·rw[Nat.testBit_two_pow_add_gt h,ih,decide_eq_true h,decide_eq_true (by omega)]
   ·subst h
    rw[Nat.testBit_two_pow_add_eq,gH hlt,decide_eq_true (by omega),hq];rfl
   ·have h1:2^n+g5 q n<2^c:=bH (by rw[lp];omega:2^n+g5 q n<2^(n+1)) (fg (by omega) h)
    rw[gH h1,decide_eq_false (by omega)];rfl
  ·rw[if_neg hq,cQ,ih]
   by_cases h:c<n
   ·rw[decide_eq_true h,decide_eq_true (by omega)]
   ·by_cases e:c=n
    ·subst e;have:q c=false:=by simpa using hq
     rw[this];simp
    ·rw[decide_eq_false h,decide_eq_false (by omega)]
theorem DJ{d:Nat}{q:Nat→Bool}(hd:d<4294967296)(h:∀c,c<32→d.testBit c=q c):d=g5 q 32:=by
 refine Nat.eq_of_testBit_eq fun c=>?_
 rw[yp];by_cases hc:c<32
 ·rw[h c hc,decide_eq_true hc];rfl
 ·rw[decide_eq_false hc,gH (bH hd (fg (n:=2) (by omega) (show 32≤c by omega)))];rfl
end Go.Proofs
namespace Go.Proofs
open Go Go.Lift
def fM(l:List Pr):Option Pr:=match l with| [p]=>some p|_=>none
def dU(l:List Pr):Option (List Pr):=if 2≤l.length then some l else none
def fP(x:Hs)(lev:Nat)(l:List Pr):List Pr:=fm (fun c=>fM (part x lev c l)) 32
def iL(x:Hs)(lev:Nat)(l:List Pr):List (List Pr):=fm (fun c=>dU (part x lev c l)) 32
def eD(x:Hs):Nat→List Pr→List UInt8
 |0,l=>1::(kB l.length 2++iW l)
 |m+1,l=>0::(kB (g5 (fun c=>(fM (part x (12-m) c l)).isSome) 32) 4++(kB (g5 (fun c=>(dU (part x (12-m) c l)).isSome) 32) 4++(iW (fP x (12-m) l)++(iL x (12-m) l).flatMap (eD x m))))
theorem As{W:Nat→Prop}{x:Hs}{h:ad}{m:Nat}{s:Slots}{c:Nat}{l:List Pr}(t:SlotIs W x h m s c l):s.p c=fM l∧(s.k c).isSome=(dU l).isSome:=by
 rcases t with⟨rfl,h1,h2⟩|⟨p,rfl,h1,h2⟩|⟨h0,h1,kb,h2,_⟩
 ·rw[h1,h2];exact⟨rfl,rfl⟩
 ·rw[h1,h2];exact⟨rfl,rfl⟩
 ·rw[h1,h2]
  refine⟨?_,by simp[dU,h0]⟩
  match l,h0 with
  |a::b::l,_=>rfl
def KidsAt(W:Nat→Prop)(x:Hs)(h:ad)(m:Nat):List (Option Addr)→List (List Pr)→Prop
 | [],[]=>True
 |k::ks,l::ls=>(∃kb,k=some ⟨kb,0,none⟩∧TrieAt W x h m kb l)∧KidsAt W x h m ks ls
 |_,_=>False
theorem KidsAt.app{W:Nat→Prop}{x:Hs}{h:ad}{m:Nat}:∀{ks ks':List (Option Addr)} {ls ls':List (List Pr)},KidsAt W x h m ks ls→KidsAt W x h m ks' ls'→KidsAt W x h m (ks++ks') (ls++ls')
 | [],_,[],_,_,q=>q
 |_::_,_,_::_,_,q,q'=>⟨q.1,KidsAt.app q.2 q'⟩
 | [],_,_::_,_,q,_=>q.elim
 |_::_,_,[],_,q,_=>q.elim
theorem fE{β:Type}(g:Nat→Option β)(n:Nat):fm g (n+1)=fm g n++(g n).toList:=by
 unfold fm;rw[ij,List.filterMap_append];cases h:g n<;>simp[h]
theorem HQ{W:Nat→Prop}{x:Hs}{h:ad}{m lev:Nat}{s:Slots}{l:List Pr}:∀n,(∀c,c<n→SlotIs W x h m s c (part x lev c l))→KidsAt W x h m (fm s.k n) (fm (fun c=>dU (part x lev c l)) n)
 |0,_=>trivial
 |n+1,hs=>by
  rw[fE,fE];refine KidsAt.app (HQ n fun c hc=>hs c (by omega)) ?_
  rcases hs n (by omega)with⟨h0,_,h2⟩|⟨p,h0,_,h2⟩|⟨h0,_,kb,h2,h3⟩
  ·rw[h2,h0];exact trivial
  ·rw[h2,h0];exact trivial
  ·rw[h2]
   have:dU (part x lev n l)=some (part x lev n l):=by unfold dU;rw[if_pos h0]
   simp only[this];exact⟨⟨kb,rfl,h3⟩,trivial⟩
theorem D6{W:Nat→Prop}{x:Hs}{h:ad}{m lev:Nat}{s:Slots}{l:List Pr}(hs:∀c,c<32→SlotIs W x h m s c (part x lev c l)):fm s.p 32=fP x lev l:=
 P2 _ fun c hc=>(As (hs c (List.mem_range.1 hc))).1
end Go.Proofs
namespace Go.Proofs
open Go Go.Lift
theorem ra(x:Hs)(lev:Nat)(l:List Pr):∀n,(((eZ n).map fun c=>(part x lev c l).length).sum)=(l.filter fun p=>decide (ck x lev p.1<n)).length
 |0=>by
  have:(l.filter fun p=>decide (ck x lev p.1<0))= []:=List.filter_eq_nil_iff.2 fun p _=>by simp
  rw[this];rfl
 |n+1=>by
  rw[ij,cr,ii,ra x lev l n];simp only[di,r9,jQ,r8,cQ];unfold part;clear ra;induction l with
  |nil=>rfl
  |cons p l ih=>
   simp only[List.filter_cons,decide_eq_true_iff];split<;>split<;>split<;>first|omega|(simp only[ap];omega)
theorem xW(x:Hs)(lev:Nat)(l:List Pr):(fP x lev l).length+(iL x lev l).flatten.length≤l.length:=by
 have h:=ra x lev l 32;have hle:(l.filter fun p=>decide (ck x lev p.1<32)).length≤l.length:=List.length_filter_le ..
 have:∀n,(fm (fun c=>fM (part x lev c l)) n).length+(fm (fun c=>dU (part x lev c l)) n).flatten.length≤((eZ n).map fun c=>(part x lev c l).length).sum:=by
  intro n;induction n with
  |zero=>simp[fm]
  |succ n ih=>
   rw[fE,fE,ij,cr,ii];simp only[ac,dI,di,r9,jQ,r8,cQ];generalize part x lev n l=q;have:(fM q).toList.length+(dU q).toList.flatten.length≤q.length:=by
    match q with
    | []=>simp[fM,dU]
    | [a]=>simp[fM,dU]
    |a::b::q=>simp[fM,dU]
   omega
 have:=this 32;unfold fP iL;omega
end Go.Proofs
namespace Go.Proofs
open Go Go.Lift
theorem rc{x:Hs}{lev:Nat}{l:List Pr}{p:Pr}(h:p∈fP x lev l):p∈l:=by
 unfold fP fm at h;obtain⟨c,_,hc⟩:=List.mem_filterMap.1 h;unfold fM at hc;split at hc
 ·rename_i q hq
  cases hc;have:p∈part x lev c l:=by rw[hq];exact aJ.2 rfl
  exact(sW.1 this).1
 ·cases hc
theorem nx{x:Hs}{lev:Nat}{l L:List Pr}(h:L∈iL x lev l):2≤L.length∧∃c,L=part x lev c l:=by
 unfold iL fm at h;obtain⟨c,_,hc⟩:=List.mem_filterMap.1 h;unfold dU at hc;split at hc
 ·cases hc;exact⟨by assumption,c,rfl⟩
 ·cases hc
theorem Fit.part{x:Hs}{lev c:Nat}{l:List Pr}(h:Fit l):Fit (part x lev c l):=fun p hp=>h p (sW.1 hp).1
theorem zM{B:Nat}{f:List Pr→List UInt8}:∀{ls:List (List Pr)},(∀L∈ls,2≤L.length∧(f L).length≤9+L.length*B)→(ls.flatMap f).length≤ls.flatten.length*(B+9)
 | [],_=>by simp
 |L::ls,h=>by
  have h1:=h L (au ..);have h2:=zM (ls:=ls) fun M hM=>h M (aH _ hM)
  rw[aN,ac,eK,ac,gQ];have:L.length*(B+9)=L.length*B+L.length*9:=Nat.mul_add ..;omega
theorem me{x:Hs}:∀(m:Nat) {l:List Pr},Fit l→(eD x m l).length≤9+l.length*(20004+9*(m+1))
 |0,l,h=>by
  have:=kA h;unfold eD;rw[ap,ac,cY];have:l.length*20004≤l.length*(20004+9*(0+1)):=iT _ (by omega);omega
 |m+1,l,h=>by
  have h1:=kA (l:=fP x (12-m) l) fun p hp=>h p (rc hp)
  have h2:=zM (f:=eD x m) (ls:=iL x (12-m) l) (B:=20004+9*(m+1)) fun L hL=>by
   obtain⟨h3,c,rfl⟩:=nx hL;exact⟨h3,me m h.part⟩
  have h4:=xW x (12-m) l;unfold eD;rw[ap,ac,ac,ac,cY,cY];have h5:(fP x (12-m) l).length*20004≤(fP x (12-m) l).length*(20004+9*(m+1+1)):=iT _ (by omega);have h6:((fP x (12-m) l).length+(iL x (12-m) l).flatten.length)*(20004+9*(m+1+1))≤l.length*(20004+9*(m+1+1)):=bZ _ h4;rw[gQ]at h6
  have h7:20004+9*(m+1)+9=20004+9*(m+1+1):=by omega
  rw[h7]at h2;omega
end Go.Proofs
namespace Go.Proofs
open Go Go.Lift
theorem HD{h:ad}{b d n:Nat}{sp sk:SliceV}{bu:Bool}{ow:Option Addr}(hb:h[b]? =some (.cells (fb d n sp sk bu ow) bm (0,0))) (hl:sp.len+sk.len≤1000000000) {K:Int→ad→Prop} (hk:K ((sp.len+sk.len:Nat):Int) h):HC PG oJ [.pointer (some ⟨b,0,none⟩)] [.c (.int .i64)] K h:=by
 refine zD _ ?_;unfold sC bU;refine aj.2 ⟨_,rfl,sp,d7 (i:=2) hb,_,rfl,sk,d7 (i:=3) hb,?_⟩;rw[fL (by omega)];exact_mod_cast hk
def Bes(M:Nat→Prop)(h h1:ad)(b:Nat):Prop:=M b∧(b<h.size∨h1.size≤b)
theorem Bes.own{α:Type}{f:α→List Value}{sz:Nat}{t:TypeId}{M:Nat→Prop}{h h1:ad}{s:SliceV}{xs:List α}(ho:OwnS f sz t M h s xs)(hu:Upd No h h1):OwnS f sz t (Bes M h h1) h1 s xs:=
 (ho.within.upd hu fun _ _ h=>h).more fun _ hb=>⟨hb.1,.inl hb.2⟩
theorem Bes.sl{α:Type}{f:α→List Value}{sz:Nat}{t:TypeId}{M:Nat→Prop}{h h1:ad}{s:SliceV}{xs:List α}(ho:OwnS f sz t (fun x=>h.size≤x) h1 s xs):Sl f sz (Bes M h h1) h1 s xs:=
 ho.sl fun b hb hlt hx=>by rcases hx.2 with h|h<;>omega
theorem Bes.hM{M:Nat→Prop}{h h1:ad}(hM:∀b,h.size≤b→M b)(hu:Upd No h h1):∀b,h1.size≤b→Bes M h h1 b:=fun b hb=>⟨hM b (bh hu.size hb),.inr hb⟩
theorem LQ{W:Nat→Prop}{x:Hs}:∀(m:Nat),m≤13→∀{b:Nat} {l:List Pr} {h0 h:ad} {M:Nat→Prop} {s:SliceV} {xs:List UInt8},TrieAt W x h0 m b l→Upd No h0 h→(∀y,M y→h0.size≤y)→OwnS l8 1 ci M h s xs→(∀y,h.size≤y→M y)→Fit l→l.length≤60000→
  xs.length+(9+l.length*(20004+9*(m+1)))≤140737488355328→∀{K:SliceV→ad→Prop},(∀s' h',OwnS l8 1 ci M h' s' (xs++eD x m l)→Upd M h h'→K s' h')→
  HC PG qf [.slice s.a s.len s.cap,.pointer (some ⟨b,0,none⟩),.int .i64 ((13-m:Nat):Int)] [.c .slice] K h:=by
 intro m;induction m with
 |zero=>
  intro _ b l h0 h M s xs t hu0 hM0 ho hM hf hn hx K hk;refine za s (some ⟨b,0,none⟩) ((13-0:Nat):Int) ?_;unfold tN bR cn GO bV JR Nn mG;have st:∀{h'},Upd M h h'→Upd No h0 h':=fun k=>hu0.trans k fun y hy=>.inr (hM0 y hy)
  have bk:∀{h'},Upd M h h'→BuckAt W h' b l:=fun k=>BuckAt.upd t (st k) fun _ h=>h.elim
  have hM':∀{h'},Upd M h h'→∀y,h'.size≤y→M y:=fun k y hy=>hM y (bh k.size hy)
  obtain⟨sp,sk,ow,hb,_⟩:=(bk (Upd.refl M h)).ex;refine oh hb (aB.2 (bM ?_));refine ri (b:=1) rfl ho hM (by omega) fun s1 h1 ho1 hu1=>?_
  obtain⟨sp1,sk1,ow1,hb1,hsp1,hsk1,_⟩:=(bk hu1).ex;have e1:=hsp1.len;have e2:=hsk1.len;rw[aI]at e2;refine HD hb1 (by omega) ?_;have ew:IntKind.wrap .u64 ((sp1.len+sk1.len:Nat):Int)=((l.length:Nat):Int):=by rw[Go.IntWalk.u64_in _ (by omega)];omega
  rw[ew];have hl2:l.length*20004≤l.length*(20004+9*(0+1)):=iT _ (by omega);refine HI ho1 (hM' hu1) (n:=l.length) (k:=2) (by omega) (by omega) (by rw[ac,aw];omega) fun s2 h2 ho2 hu2=>?_
  have hu02:=hu1.tr hu2;obtain⟨sp2,sk2,ow2,hb2,hsp2,_⟩:=(bk hu02).ex;refine rb hb2 hsp2 (by omega) fun s3 h3 ho3 hu3=>?_
  refine Av (M:=Bes M h2 h3) (W:=Bes M h2 h3) (Bes.own ho2 hu3) (Bes.hM (hM' hu02) hu3) (Bes.sl ho3) (fun _ h _=>h) hf (by omega) (by rw[ac,ac,aw,cY];omega) fun s4 h4 ho4 hu4=>?_
  refine hk s4 h4 ?_ (hu02.tr (hu3.wide.tr (hu4.mono fun y hy=>.inl hy.1)))
  have:=ho4.more (M':=M) fun y hy=>hy.1
  rw[eD,List.append_cons,←ao];exact this
 |succ m ih=>
  intro hm b l h0 h M s xs t hu0 hM0 ho hM hf hn hx K hk;refine za s (some ⟨b,0,none⟩) ((13-(m+1):Nat):Int) ?_;unfold tN bR cn GO bV JR Nn mG;have st:∀{h'},Upd M h h'→Upd No h0 h':=fun k=>hu0.trans k fun y hy=>.inr (hM0 y hy)
  have hM':∀{h'},Upd M h h'→∀y,h'.size≤y→M y:=fun k y hy=>hM y (bh k.size hy)
  obtain⟨sl,nd,hs0⟩:=t;have hs:∀c,c<32→SlotIs W x h0 m sl c (part x (12-m) c l):=hs0;have hd:∀{h'},Upd M h h'→∃d n sp sk ow,h'[b]? =some (.cells (fb d n sp sk false ow) bm (0,0))∧d=g5 (fun c=>(fM (part x (12-m) c l)).isSome) 32∧n=g5 (fun c=>(dU (part x (12-m) c l)).isSome) 32∧Sl dD 2 W h' sp (fP x (12-m) l)∧Sl oX 1 W h' sk (fm sl.k 32):=fun{h'} k=>by
   obtain⟨d,n,sp,sk,ow,hb,bits,h3,h4,_⟩:=(nd.upd (st k) fun _ h=>h.elim).ex
   refine⟨d,n,sp,sk,ow,hb,DJ bits.d32 fun c hc=>?_,DJ bits.n32 fun c hc=>?_,?_,h4⟩
   ·rw[bits.dp c hc,(As (hs c hc)).1]
   ·rw[bits.nk c hc,(As (hs c hc)).2]
   ·rw[←D6 hs];exact h3
  have hka:KidsAt W x h0 m (fm sl.k 32) (iL x (12-m) l):=HQ 32 hs;have hlen:=me (x:=x) (m+1) hf;have hlen2:=hlen;have hml:∀L∈iL x (12-m) l,Fit L∧L.length≤60000:=fun L hL=>by
   obtain⟨_,c,rfl⟩:=nx hL;exact⟨hf.part,bh nZ hn⟩
  have hsf:Fit (fP x (12-m) l):=fun p hp=>hf p (rc hp)
  have hsl:=xW x (12-m) l;unfold eD at hk hlen;have ebits:∀q:Nat→Bool,g5 q 32<4294967296:=fun q=>kH q 32
  have hd32:=ebits fun c=>(fM (part x (12-m) c l)).isSome
  have hn32:=ebits fun c=>(dU (part x (12-m) c l)).isSome
  generalize g5 (fun c=>(fM (part x (12-m) c l)).isSome) 32=D at hk hd hlen hd32
  generalize g5 (fun c=>(dU (part x (12-m) c l)).isSome) 32=N at hk hd hlen hn32
  have hS:(fP x (12-m) l).length≤60000:=by omega
  have hSb:(fP x (12-m) l).length*20004≤l.length*(20004+9*(m+1+1)):=Nat.mul_le_mul (by omega) (by omega);have hML:∀L∈iL x (12-m) l,2≤L.length∧(eD x m L).length≤9+L.length*(20004+9*(m+1)):=fun L hL=>by
   obtain⟨h3,c,rfl⟩:=nx hL;exact⟨h3,me m hf.part⟩
  have hbud:9+(fP x (12-m) l).length*20004+(iL x (12-m) l).flatten.length*(20004+9*(m+1)+9)≤9+l.length*(20004+9*(m+1+1)):=by
   have h5:(fP x (12-m) l).length*20004≤(fP x (12-m) l).length*(20004+9*(m+1+1)):=iT _ (by omega);have h6:((fP x (12-m) l).length+(iL x (12-m) l).flatten.length)*(20004+9*(m+1+1))≤l.length*(20004+9*(m+1+1)):=bZ _ hsl;rw[gQ]at h6;have h7:20004+9*(m+1)+9=20004+9*(m+1+1):=by omega
   rw[h7];omega
  have hps:=kA hsf;generalize fP x (12-m) l=So at hk hd hsf hS hSb hbud hlen hps;generalize iL x (12-m) l=Ma at hk hka hml hML hbud hlen;obtain⟨d,n,sp,sk,ow,hb,_⟩:=hd (Upd.refl M h);refine oh hb (aj.2 (Join.intro (fun s' h'=>OwnS l8 1 ci M h' s' (xs++(0::(kB D 4++kB N 4)))∧Upd M h h') (fun R hR=>bM ?_) ?_))
  ·refine ri (b:=0) rfl ho hM (by omega) fun s1 h1 ho1 hu1=>?_
   obtain⟨d1,n1,sp1,sk1,ow1,hb1,rfl,rfl,_⟩:=hd hu1;refine Ew hb1 ?_;rw[Go.IntWalk.u64_in _ (by omega)];refine HI ho1 (hM' hu1) (n:=d1) (k:=4) (by omega) (by omega) (by rw[ac,aw];omega) fun s2 h2 ho2 hu2=>?_
   obtain⟨d2,n2,sp2,sk2,ow2,hb2,rfl,rfl,_⟩:=hd (hu1.tr hu2);refine AM hb2 ?_;rw[Go.IntWalk.u64_in _ (by omega)];refine HI ho2 (hM' (hu1.tr hu2)) (n:=n2) (k:=4) (by omega) (by omega) (by rw[ac,ac,aw,cY];omega) fun s3 h3 ho3 hu3=>?_
   refine hR _ _ ⟨?_,(hu1.tr hu2).tr hu3⟩;rw[List.append_cons,←ao];exact ho3
  ·rintro s' h1 ⟨ho1,hu1⟩
   obtain⟨d1,n1,sp1,sk1,ow1,hb1,_,_,hsp1,_⟩:=hd hu1;refine rb hb1 hsp1 (by omega) fun s2 h2 ho2 hu2=>?_
   refine Av (M:=Bes M h1 h2) (W:=Bes M h1 h2) (Bes.own ho1 hu2) (Bes.hM (hM' hu1) hu2) (Bes.sl ho2) (fun _ h _=>h) hsf (by omega) (by rw[ac,ap,ac,cY,cY];omega) fun s3 h3 ho3 hu3=>?_
   have ho3:=ho3.more (M':=M) fun y hy=>hy.1
   have hu03:Upd M h h3:=hu1.tr (hu2.wide.tr (hu3.mono fun y hy=>.inl hy.1))
   have e13:(((13-(m+1):Nat):Int)==(13:Int))=false:=by rw[beq_eq_false_iff_ne];omega
   rw[e13];refine aj.2 ?_;obtain⟨d3,n3,sp3,sk3,ow3,hb3,_,_,_,hsk3⟩:=hd hu03;have hk32:=wQ (g:=sl.k);refine Ek hb3 hsk3 (by omega) fun s4 h4 ho4 hu4=>?_
   have hsk4:Sl oX 1 (Bes M h3 h4) h4 s4 (fm sl.k 32):=Bes.sl ho4;have hlk:=hsk4.len;have ew:IntKind.wrap .i64 (((13-(m+1):Nat):Int)+1)=((13-m:Nat):Int):=by rw[fL (by omega)];omega
   rw[ew];have hMb:=Bes.hM (hM' hu03) hu4;have hob:=Bes.own ho3 hu4;have hu04:Upd M h h4:=hu03.tr hu4.wide;have hMM:∀y,Bes M h3 h4 y→M y:=fun y hy=>hy.1
   have st4:∀{h'},Upd (Bes M h3 h4) h4 h'→Upd M h h':=fun k=>hu04.tr (k.mono fun y hy=>.inl hy.1)
   generalize Bes M h3 h4=B at hsk4 hMb hob hMM st4;have hkl:∀{ks:List (Option Addr)} {ls:List (List Pr)},KidsAt W x h0 m ks ls→ks.length=ls.length∧∀i (hi:i<ls.length),∃kb,ks[i]? =some (some ⟨kb,0,none⟩)∧TrieAt W x h0 m kb ls[i]:=by
    intro ks;induction ks with
    |nil=>intro ls;cases ls with
     |nil=>intro _;exact⟨rfl,fun i hi=>absurd hi (gp _)⟩
     |cons a ls=>intro h;exact h.elim
    |cons k ks ihk=>intro ls;cases ls with
     |nil=>intro h;exact h.elim
     |cons a ls=>
      rintro⟨⟨kb,rfl,tk⟩,h⟩;obtain⟨e,hr⟩:=ihk h;refine⟨by simp[e],fun i hi=>?_⟩
      cases i with
      |zero=>exact⟨kb,rfl,tk⟩
      |succ i=>simp only[List.getElem?_cons_succ,List.getElem_cons_succ];exact hr i (by simpa using hi)
   obtain⟨hkl,hkt⟩:=hkl hka;have hbase:(xs++(0::(kB D 4++kB N 4))++iW So).length≤xs.length+(9+So.length*20004):=by
    rw[ac,ac,ap,ac,cY,cY];omega
   refine LoopP.ghost (fun(i:Nat) (t:SliceV×Int) h'=>t.2=(i:Int)∧i≤Ma.length∧OwnS l8 1 ci B h' t.1 (xs++(0::(kB D 4++kB N 4))++iW So++(Ma.take i).flatMap (eD x m))∧Upd B h4 h') (fun i=>Ma.length-i) 0 ⟨rfl,aK _,by simpa using hob,Upd.refl _ _⟩ ?_
   rintro I i ⟨so,ti⟩ h' ⟨e1,hi,ho',hu'⟩ hI;simp only at e1 ho';subst e1;refine av (fun hlt=>?_) fun hge=>?_
   ·have hlt:i<Ma.length:=by have:(i:Int)<(s4.len:Int):=hlt;omega
    obtain⟨kb,hk1,tk⟩:=hkt i hlt;obtain⟨a,ha,_,hv⟩:=(hsk4.upd hu' fun y hy=>.inl hy).at0 hk1
    refine⟨⟨by simp only;omega,by simp only;omega⟩,a,ha,some ⟨kb,0,none⟩,hv,?_⟩
    have hmem:Ma[i]∈Ma:=bN hlt;have htl:=zM (f:=eD x m) (ls:=Ma.take i) (B:=20004+9*(m+1)) fun L hL=>hML L (kN hL)
    have hsp:(Ma.take i).flatten.length+Ma[i].length≤Ma.flatten.length:=by
     have e:Ma=Ma.take i++Ma[i]::Ma.drop (i+1):=by rw[jD,aA]
     have:=congrArg (fun L=>(List.flatten L).length) e
     simp only[dI,eK,ac]at this;omega
    have hsp2:=bZ (20004+9*(m+1)+9) hsp;rw[gQ]at hsp2;have h2l:=(hML _ hmem).1;have hone:9+Ma[i].length*(20004+9*(m+1))≤Ma[i].length*(20004+9*(m+1)+9):=by rw[Nat.mul_add (Ma[i].length) (20004+9*(m+1)) 9];omega
    refine ih (by omega) tk (hu0.trans (st4 hu') fun y hy=>.inr (hM0 y hy)) (fun y hy=>hM0 y (hMM y hy)) ho' (fun y hy=>hMb y (bh hu'.size hy)) (hml _ hmem).1 (hml _ hmem).2 (by rw[ac];omega) fun s5 h5 ho5 hu5=>?_
    rw[cl hlt (by omega)];refine hI (i+1) _ _ ⟨rfl,hlt,?_,hu'.tr hu5⟩ (by omega);rw[aX hlt,bC,aN,jc,aE,←ao];exact ho5
   ·have hil:i=Ma.length:=by have:¬(i:Int)<(s4.len:Int):=hge;omega
    subst hil;rw[bQ]at ho';refine hk _ _ ?_ (st4 hu');have:=ho'.more hMM;simp only[ao,cR]at this⊢;exact this
end Go.Proofs
namespace Go.Proofs
open Go Go.Lift
theorem Ny{W:Nat→Prop}{x:Hs}{h:ad}{b:Nat}{l:List Pr}(t:TrieAt W x h 13 b l)(hf:Fit l)(hn:l.length≤60000){K:SliceV→ad→Prop}(hk:∀s' h',OwnS l8 1 ci (fun y=>h.size≤y) h' s' (eD x 13 l)→Upd No h h'→K s' h'):HC PG vF [.pointer (some ⟨b,0,none⟩)] [.c .slice] K h:=by
 refine Ir _ ?_;unfold BG;refine aj.2 ?_;have hb:l.length*(20004+9*(13+1))≤60000*(20004+9*(13+1)):=bZ _ hn;exact LQ (x:=x) 13 (ag _) (s:=⟨none,0,0⟩) (xs:= []) (M:=fun y=>h.size≤y) t (Upd.refl _ _) (fun _ h=>h) (OwnS.nil oL) (fun _ h=>h) hf hn (by rw[aI];omega) fun s' h' ho hu=>hk s' h' ho (hu.mono fun y hy=>.inr hy)
theorem H9{W W':Nat→Prop}{h:ad}{s s':SliceV}{xs ys:List UInt8}(hs:Sl l8 1 W h s xs)(hs':Sl l8 1 W' h s' ys){K:Bool→ad→Prop}(hk:K (decide (xs=ys)) h):HC PG qO [.slice s.a s.len s.cap,.slice s'.a s'.len s'.cap] [.c .bool] K h:=by
 refine CE s s' ?_;unfold vd;have h1:=hs.srow;have h2:=hs'.srow;rw[Nat.mul_one]at h1 h2;refine⟨⟨xs.toArray⟩,by rw[mC];exact h1,⟨ys.toArray⟩,by rw[mC];exact h2,?_⟩
 have:((⟨xs.toArray⟩:ByteArray).toList==(⟨ys.toArray⟩:ByteArray).toList)=decide (xs=ys):=by
  rw[ByteArray.toList_eq,ByteArray.toList_eq,Bool.eq_iff_iff,beq_iff_eq,decide_eq_true_iff]
 rw[this];exact hk
theorem FP:∀{a b:Nat} (k:Nat),kB a k=kB b k→a%2^(8*k)=b%2^(8*k)
 |_,_,0,_=>by simp[Nat.mod_one]
 |a,b,k+1,h=>by
  rw[ub,ub]at h;obtain⟨h1,h2⟩:=oT h (by rw[cY,cY]);have ih:=FP k h1;have h3:=congrArg UInt8.toNat (eg.inj h2).1;rw[UInt8.toNat_ofNat',UInt8.toNat_ofNat',cj,cj]at h3;have e:2^(8*(k+1))=2^(8*k)*2^8:=by rw[Nat.mul_add,Nat.pow_add]
  rw[e,Nat.mod_mul,Nat.mod_mul,ih,h3]
theorem rd{a b k:Nat}{r r':List UInt8}(ha:a<2^(8*k))(hb:b<2^(8*k))(h:kB a k++r=kB b k++r'):a=b∧r=r':=by
 obtain⟨h1,h2⟩:=oT h (by rw[cY,cY]);have:=FP k h1;rw[de ha,de hb]at this;exact⟨this,h2⟩
theorem tX{a b:ByteArray}{r r':List UInt8}(ha:a.size≤10000)(hb:b.size≤10000)(h:lF a++r=lF b++r'):a=b∧r=r':=by
 unfold lF at h;rw[ao,ao]at h;obtain⟨h1,h2⟩:=rd (k:=2) (by omega) (by omega) h;obtain⟨h3,h4⟩:=oT h2 (by simpa using h1);refine⟨?_,h4⟩;cases a;cases b;exact congrArg pr (Array.toList_inj.1 h3)
theorem vv:∀{l l':List Pr} {r r':List UInt8},Fit l→Fit l'→l.length=l'.length→iW l++r=iW l'++r'→l=l'∧r=r'
 | [],[],_,_,_,_,_,h=>⟨rfl,h⟩
 | [],_::_,_,_,_,_,e,_=>by simp at e
 |_::_,[],_,_,_,_,e,_=>by simp at e
 |p::l,q::l',r,r',hf,hf',e,h=>by
  unfold iW at h;rw[aN,aN,yV,yV]at h;simp only[ao]at h;have h1:=hf p (au ..);have h2:=hf' q (au ..);obtain⟨e1,h⟩:=tX h1.1 h2.1 h;obtain⟨e2,h⟩:=tX h1.2 h2.2 h;obtain⟨e3,h⟩:=vv (l:=l) (l':=l') (fun z hz=>hf z (aH _ hz)) (fun z hz=>hf' z (aH _ hz)) (by simpa using e) h
  exact⟨by rw[e3,Prod.ext e1 e2],h⟩
theorem zW{β γ:Type}{g:Nat→Option β}{g':Nat→Option γ}:∀n,(∀c,c<n→(g c).isSome=(g' c).isSome)→(fm g n).length=(fm g' n).length
 |0,_=>rfl
 |n+1,h=>by
  rw[fE,fE,ac,ac,zW n fun c hc=>h c (by omega)]
  have:=h n (by omega);cases h1:g n<;>cases h2:g' n<;>rw[h1,h2]at this<;>first|rfl|cases this
theorem H1{β:Type}{g g':Nat→Option β}:∀n,(∀c,c<n→(g c).isSome=(g' c).isSome)→fm g n=fm g' n→∀c,c<n→g c=g' c
 |0,_,_,c,hc=>absurd hc (gp _)
 |n+1,h,e,c,hc=>by
  rw[fE,fE]at e;obtain⟨e1,e2⟩:=oT e (zW n fun c hc=>h c (by omega))
  rcases cf c n with hl|hl
  ·exact H1 n (fun c hc=>h c (by omega)) e1 c hl
  ·have:c=n:=by omega
   subst this;cases h1:g c<;>cases h2:g' c<;>rw[h1,h2]at e2<;>simp at e2⊢
   exact e2
theorem x6:∀{l l':List Pr},d9 l→d9 l'→(∀p,p∈l↔p∈l')→l=l'
 | [],[],_,_,_=>rfl
 | [],q::l',_,_,h=>absurd ((h q).2 (au ..)) (by simp)
 |p::l,[],_,_,h=>absurd ((h p).1 (au ..)) (by simp)
 |p::l,q::l',hr,hr',h=>by
  have hr:=aS.1 hr;have hr':=aS.1 hr';have e:p=q:=by
   rcases az.1 ((h p).1 (au ..))with e|hp
   ·exact e
   ·rcases az.1 ((h q).2 (au ..))with e|hq
    ·exact e.symm
    ·exact absurd (jG (hr.1 q hq) (hr'.1 p hp)) (dw _)
  subst e;rw[x6 hr.2 hr'.2 fun z=>?_]
  constructor
  ·intro hz
   rcases az.1 ((h z).1 (aH _ hz))with e|hz'
   ·exact absurd (hr.1 z hz) (by rw[e];exact dw _)
   ·exact hz'
  ·intro hz
   rcases az.1 ((h z).2 (aH _ hz))with e|hz'
   ·exact absurd (hr'.1 z hz) (by rw[e];exact dw _)
   ·exact hz'
theorem L9{x:Hs}{lev:Nat}{l l':List Pr}(hr:d9 l)(hr':d9 l')(h:∀c,c<32→part x lev c l=part x lev c l'):l=l':=by
 refine x6 hr hr' fun p=>?_
 have e:=h (ck x lev p.1) (JD ..);have h1:=sW (x:=x) (lev:=lev) (c:=ck x lev p.1) (l:=l) (p:=p);have h2:=sW (x:=x) (lev:=lev) (c:=ck x lev p.1) (l:=l') (p:=p);rw[e]at h1;constructor
 ·intro hp;exact(h2.1 (h1.2 ⟨hp,rfl⟩)).1
 ·intro hp;exact(h1.1 (h2.2 ⟨hp,rfl⟩)).1
theorem JX{q q':List Pr}(h1:fM q=fM q')(h2:dU q=dU q'):q=q':=by
 match q,q' with
 | [],[]=>rfl
 | [a],[b]=>simp[fM]at h1;rw[h1]
 | [],[b]=>simp[fM]at h1
 | [a],[]=>simp[fM]at h1
 | [],b::c::q'=>simp[dU]at h2
 | [a],b::c::q'=>simp[dU]at h2
 |b::c::q',[]=>simp[dU]at h2
 |b::c::q',[a]=>simp[dU]at h2
 |a::b::q,c::d::q'=>simpa[dU]using h2
theorem F5{f:List Pr→List UInt8}:∀{ls ls':List (List Pr)} {r r':List UInt8},ls.length=ls'.length→(∀L∈ls,∀L'∈ls',∀r r',f L++r=f L'++r'→L=L'∧r=r')→ls.flatMap f++r=ls'.flatMap f++r'→ls=ls'∧r=r'
 | [],[],_,_,_,_,h=>⟨rfl,h⟩
 | [],_::_,_,_,e,_,_=>by simp at e
 |_::_,[],_,_,e,_,_=>by simp at e
 |L::ls,L'::ls',r,r',e,hf,h=>by
  rw[aN,aN,ao,ao]at h;obtain⟨e1,h⟩:=hf L (au ..) L' (au ..) _ _ h;obtain⟨e2,h⟩:=F5 (by simpa using e) (fun A hA B hB=>hf A (aH _ hA) B (aH _ hB)) h
  exact⟨by rw[e1,e2],h⟩
theorem Au{x:Hs}:∀(m:Nat) {l l':List Pr} {r r':List UInt8},Fit l→Fit l'→l.length≤60000→l'.length≤60000→d9 l→d9 l'→eD x m l++r=eD x m l'++r'→l=l'∧r=r'
 |0,l,l',r,r',hf,hf',hn,hn',_,_,h=>by
  unfold eD at h;rw[cR,cR,ao,ao]at h;obtain⟨e,h⟩:=rd (k:=2) (by omega) (by omega) (eg.inj h).2;exact vv hf hf' e h
 |m+1,l,l',r,r',hf,hf',hn,hn',hr,hr',h=>by
  unfold eD at h;simp only[cR,ao]at h;obtain⟨b1,h⟩:=rd (k:=4) (kH _ 32) (kH _ 32) (eg.inj h).2;obtain⟨b2,h⟩:=rd (k:=4) (kH _ 32) (kH _ 32) h;have bits:∀{q q':Nat→Bool},g5 q 32=g5 q' 32→∀c,c<32→q c=q' c:=fun{q q'} e c hc=>by
   have:=congrArg (fun n=>n.testBit c) e
   simp only[yp,decide_eq_true hc,Bool.true_and]at this;exact this
  have b1:=bits b1;have b2:=bits b2;obtain⟨e1,h⟩:=vv (fun p hp=>hf p (rc hp)) (fun p hp=>hf' p (rc hp)) (zW 32 b1) h
  obtain⟨e2,h⟩:=F5 (zW 32 b2) (fun L hL L' hL' r r' e=>by
   obtain⟨_,c,rfl⟩:=nx hL
   obtain⟨_,c',rfl⟩:=nx hL'
   exact Au m hf.part hf'.part (bh nZ hn) (bh nZ hn') (rD hr) (rD hr') e) h
  have s1:=H1 32 b1 e1;have s2:=H1 32 b2 e2;exact⟨L9 hr hr' fun c hc=>JX (s1 c hc) (s2 c hc),h⟩
end Go.Proofs
namespace Go.Proofs
open Go Go.Lift
def Nf(lab:ByteArray)(has:Bool)(val:ByteArray)(s:SliceV)(ow:Option Addr):Array Value:= #[.string lab,.bool has,.string val,sv s,.pointer ow]
theorem vw{w:Option ByteArray}{val:ByteArray}(h:val=w.getD ⟨#[]⟩):∀v,w=some v→val=v:=fun v e=>by rw[h,e];rfl
def RxF(W:Nat→Prop)(h:ad):Fo→List (Option Addr)→Prop
 | .nil,ks=>ks= []
 | .cons lab w kids rest,ks=>∃b sl val s ow ks1 ks',ks=some ⟨b,0,none⟩::ks'∧sl.data.toList=lab∧h[b]? =some (.cells (Nf sl w.isSome val s ow) fp (0,0))∧val=w.getD ⟨#[]⟩∧Sl yQ 1 W h s ks1∧(s.len≤s.cap∧¬W b)∧RxF W h kids ks1∧RxF W h rest ks'
def RxN(W:Nat→Prop)(h:ad)(b:Nat)(sl:ByteArray)(w:Option ByteArray)(F:Fo):Prop:=∃val s ow ks,h[b]? =some (.cells (Nf sl w.isSome val s ow) fp (0,0))∧val=w.getD ⟨#[]⟩∧Sl yQ 1 W h s ks∧(s.len≤s.cap∧¬W b)∧RxF W h F ks
def Kid(W:Nat→Prop)(h:ad)(k:Option Addr)(n:Bn):Prop:=∃b sl,k=some ⟨b,0,none⟩∧sl.data.toList=n.1∧RxN W h b sl n.2.1 n.2.2
def RxL(W:Nat→Prop)(h:ad)(ks:List (Option Addr))(L:List Bn):Prop:=ks.length=L.length∧∀p∈ks.zip L,Kid W h p.1 p.2
theorem rB{W:Nat→Prop}{h:ad}:∀{F:Fo} {ks:List (Option Addr)},RxF W h F ks↔RxL W h ks F.toL
 | .nil,ks=>by
  unfold RxF RxL;simp[Fo.toL]
 | .cons lab w kids rest,ks=>by
  unfold RxF RxL;rw[Fo.toL_cons];constructor
  ·rintro⟨b,sl,val,s,ow,ks1,ks',rfl,e1,e2,e3,e4,e5,e6,e7⟩
   obtain⟨e8,e9⟩:=rB.1 e7;refine⟨by simp[e8],fun p hp=>?_⟩
   rw[eY]at hp;rcases az.1 hp with rfl|hp
   ·exact⟨b,sl,rfl,e1,val,s,ow,ks1,e2,e3,e4,e5,e6⟩
   ·exact e9 p hp
  ·cases ks with
   |nil=>rintro⟨e,_⟩;simp at e
   |cons k ks'=>
    rintro⟨e,hp⟩;rw[eY]at hp;obtain⟨b,sl,e0,e1,val,s,ow,ks1,e2,e3,e4,e5,e6⟩:=hp _ (au ..);refine⟨b,sl,val,s,ow,ks1,ks',by rw[←e0],e1,e2,e3,e4,e5,e6,rB.2 ⟨by simpa using e,fun p hp'=>hp p (aH _ hp')⟩⟩
theorem RxF.upd0{W:Nat→Prop}{h h':ad}(k:Upd No h h'):∀{F:Fo} {ks:List (Option Addr)},RxF W h F ks→RxF W h' F ks
 | .nil,_,r=>r
 | .cons _ _ _ _,_,⟨b,sl,val,s,ow,ks1,ks',e0,e1,e2,e3,e4,e5,e6,e7⟩=>⟨b,sl,val,s,ow,ks1,ks',e0,e1,k.get0 e2,e3,e4.upd k fun _ h=>h.elim,e5,RxF.upd0 k e6,RxF.upd0 k e7⟩
theorem RxN.upd0{W:Nat→Prop}{h h':ad}(k:Upd No h h'){b:Nat}{sl:ByteArray}{w:Option ByteArray}{F:Fo}:RxN W h b sl w F→RxN W h' b sl w F
 |⟨val,s,ow,ks,e2,e3,e4,e5,e6⟩=>⟨val,s,ow,ks,k.get0 e2,e3,e4.upd k fun _ h=>h.elim,e5,RxF.upd0 k e6⟩
theorem Kid.upd0{W:Nat→Prop}{h h':ad}(k:Upd No h h'){a:Option Addr}{n:Bn}:Kid W h a n→Kid W h' a n
 |⟨b,sl,e1,e2,e3⟩=>⟨b,sl,e1,e2,e3.upd0 k⟩
theorem RxF.less{W W':Nat→Prop}{h:ad}(hm:∀b,W' b→W b∨h.size≤b):∀{F:Fo} {ks:List (Option Addr)},RxF W h F ks→RxF W' h F ks
 | .nil,_,r=>r
 | .cons _ _ _ _,_,⟨b,sl,val,s,ow,ks1,ks',e0,e1,e2,e3,e4,e5,e6,e7⟩=>⟨b,sl,val,s,ow,ks1,ks',e0,e1,e2,e3,e4.less hm,⟨e5.1,fun hx=>(hm _ hx).elim e5.2 fun h=>by have:=bw e2;omega⟩,RxF.less hm e6,RxF.less hm e7⟩
theorem RxN.less{W W':Nat→Prop}{h:ad}(hm:∀b,W' b→W b∨h.size≤b){b:Nat}{sl:ByteArray}{w:Option ByteArray}{F:Fo}:RxN W h b sl w F→RxN W' h b sl w F
 |⟨val,s,ow,ks,e2,e3,e4,e5,e6⟩=>⟨val,s,ow,ks,e2,e3,e4.less hm,⟨e5.1,fun hx=>(hm _ hx).elim e5.2 fun h=>by have:=bw e2;omega⟩,RxF.less hm e6⟩
theorem RxF.updM{W M:Nat→Prop}{h h':ad}(k:Upd M h h')(hm:∀b,M b→W b∨h.size≤b):∀{F:Fo} {ks:List (Option Addr)},RxF W h F ks→RxF W h' F ks
 | .nil,_,r=>r
 | .cons _ _ _ _,_,⟨b,sl,val,s,ow,ks1,ks',e0,e1,e2,e3,e4,e5,e6,e7⟩=>⟨b,sl,val,s,ow,ks1,ks',e0,e1,k.get e2 (fun hx=>(hm _ hx).elim e5.2 fun h=>by have:=bw e2;omega),e3,e4.upd k hm,e5,RxF.updM k hm e6,RxF.updM k hm e7⟩
theorem RxN.updM{W M:Nat→Prop}{h h':ad}(k:Upd M h h')(hm:∀b,M b→W b∨h.size≤b){b:Nat}{sl:ByteArray}{w:Option ByteArray}{F:Fo}:RxN W h b sl w F→RxN W h' b sl w F
 |⟨val,s,ow,ks,e2,e3,e4,e5,e6⟩=>⟨val,s,ow,ks,k.get e2 (fun hx=>(hm _ hx).elim e5.2 fun h=>by have:=bw e2;omega),e3,e4.upd k hm,e5,RxF.updM k hm e6⟩
theorem RxL.upd0{W:Nat→Prop}{h h':ad}(k:Upd No h h'){ks:List (Option Addr)}{L:List Bn}(r:RxL W h ks L):RxL W h' ks L:=⟨r.1,fun p hp=>(r.2 p hp).upd0 k⟩
theorem RxL.app{W:Nat→Prop}{h:ad}{ks ks':List (Option Addr)}{L L':List Bn}(r:RxL W h ks L)(r':RxL W h ks' L'):RxL W h (ks++ks') (L++L'):=by
 refine⟨by rw[ac,ac,r.1,r'.1],fun p hp=>?_⟩
 rw[List.zip_append r.1]at hp;rcases bP.1 hp with hp|hp
 ·exact r.2 p hp
 ·exact r'.2 p hp
theorem RxL.one{W:Nat→Prop}{h:ad}{k:Option Addr}{n:Bn}(c:Kid W h k n):RxL W h [k] [n]:=⟨rfl,fun p hp=>by rw[eY,List.zip_nil_left]at hp;rw[aJ.1 hp];exact c⟩
theorem RxL.take{W:Nat→Prop}{h:ad}{ks:List (Option Addr)}{L:List Bn}(r:RxL W h ks L)(i:Nat):RxL W h (ks.take i) (L.take i):=by
 refine⟨by rw[aD,aD,r.1],fun p hp=>r.2 p ?_⟩
 have:(ks.take i).zip (L.take i)=(ks.zip L).take i:=by rw[lB,lB,List.take_zipWith]
 rw[this]at hp;exact kN hp
theorem RxL.drop{W:Nat→Prop}{h:ad}{ks:List (Option Addr)}{L:List Bn}(r:RxL W h ks L)(i:Nat):RxL W h (ks.drop i) (L.drop i):=by
 refine⟨by rw[aV,aV,r.1],fun p hp=>r.2 p ?_⟩
 have:(ks.drop i).zip (L.drop i)=(ks.zip L).drop i:=by rw[lB,lB,List.drop_zipWith]
 rw[this]at hp;exact List.mem_of_mem_drop hp
theorem RxL.set{W:Nat→Prop}{h:ad}{ks:List (Option Addr)}{L:List Bn}(r:RxL W h ks L){i:Nat}(hi:i<L.length){k:Option Addr}{n:Bn}(c:Kid W h k n):RxL W h (ks.set i k) (L.set i n):=by
 have:=(r.take i).app ((RxL.one c).app (r.drop (i+1)));rw[fo,fo,if_pos (by rw[r.1];exact hi),if_pos hi];exact this
theorem RxL.at{W:Nat→Prop}{h:ad}{ks:List (Option Addr)}{L:List Bn}(r:RxL W h ks L){i:Nat}(hi:i<L.length):∃b sl,ks[i]? =some (some ⟨b,0,none⟩)∧sl.data.toList=L[i].1∧RxN W h b sl L[i].2.1 L[i].2.2:=by
 have hk:i<ks.length:=by rw[r.1];exact hi
 have hz:i<(ks.zip L).length:=by rw[List.length_zip];omega
 have:=r.2 _ (bN hz);rw[List.getElem_zip]at this;obtain⟨b,sl,e1,e2,e3⟩:=this;exact⟨b,sl,by rw[ae hk];exact congrArg some e1,e2,e3⟩
theorem tZ:∀{L:List Bn} {c:Nat},L.Pairwise (fun m n=>hd m.1<hd n.1)→(∀n∈L,c≤hd n.1)→L= []∨c+L.length≤256
 | [],_,_,_=>.inl rfl
 |n::L,c,hp,hc=>by
  have hp:=aS.1 hp;have h0:=hc n (au ..);have h1:=P1 n.1;rcases tZ (c:=hd n.1+1) hp.2 fun m hm=>hp.1 m hm with e|e
  ·rw[e];right;simp only[aw];omega
  ·right;rw[ap];omega
theorem kY{F:Fo}(h:jA F):F.toL.length≤256:=by
 rcases tZ (c:=0) (lO.1 h).1 fun _ _=>aK _ with e|e
 ·rw[e];simp
 ·omega
theorem ji{h:ad}{b i:Nat}{c:Array Value}(hb:h[b]? =some (.cells c fp (0,0))):aO h (adr ⟨b,0,none⟩ i)=c[i]?:=by rw[cc,Nat.zero_add];exact bo hb
theorem F3(s:ByteArray)(i:Nat):s[i]? =s.data.toList[i]?:=by
 rw[Array.getElem?_toList];by_cases h:i<s.size
 ·rw[getElem?_pos s i h,getElem?_pos s.data i h];rfl
 ·rw[getElem?_neg s i h,getElem?_neg s.data i h]
theorem Mn{s:ByteArray}(hs:s.data.toList≠[]):∃c:UInt8,s[0]? =some c∧c.toNat=hd s.data.toList:=by
 rw[F3];match s.data.toList,hs with
 |c::l,_=>exact⟨c,rfl,rfl⟩
end Go.Proofs
namespace Go.Proofs
open Go Go.Lift
abbrev rx0:List Value:= [.string (⟨#[]⟩:ByteArray),.bool false,.string (⟨#[]⟩:ByteArray),.slice none 0 0,.pointer none]
theorem Mw(s:ByteArray)(c:Nat):(s.extract 0 c).data.toList=s.data.toList.take c:=by
 rw[jE,Array.toList_extract,eI];simp
theorem Mx(s:ByteArray)(c:Nat):(s.extract c s.size).data.toList=s.data.toList.drop c:=by
 rw[jE,Array.toList_extract,eI,bj];rw[aV];simp
end Go.Proofs
namespace Go.Proofs
open Go Go.Lift
theorem DI:∀{x y:List UInt8} {i:Nat},i≤x.length→i≤y.length→(∀j,j<i→x[j]? =y[j]?)→(i=x.length∨i=y.length∨x[i]?≠y[i]?)→cm x y=i
 | [],_,i,h1,_,_,_=>by simp at h1;simp[cm,h1]
 |_::_,[],i,_,h2,_,_=>by simp at h2;simp[cm,h2]
 |a::x,b::y,0,_,_,_,h=>by
  unfold cm;rw[if_neg];rintro rfl;rcases h with h|h|h<;>simp at h
 |a::x,b::y,i+1,h1,h2,h3,h4=>by
  have:=h3 0 (by omega);simp only[List.getElem?_cons_zero,bF.injEq]at this;unfold cm;rw[if_pos this,DI (i:=i) (by simpa using h1) (by simpa using h2) (fun j hj=>by simpa using h3 (j+1) (by omega)) (by simpa using h4)]
theorem KB{a b:ByteArray}(ha:a.size≤1000000){h:ad}{K:Int→ad→Prop}(hk:K (cm a.data.toList b.data.toList:Nat) h):HC PG qJ [.string a,.string b] [.c (.int .i64)] K h:=by
 refine Ct a b ?_;unfold uQ;simp only[Bd];have hmin:(if(b.size:Int)<(a.size:Int)then(b.size:Int)else(a.size:Int))=((min a.size b.size:Nat):Int):=by split<;>omega
 rw[hmin];have la:a.data.toList.length=a.size:=by simp
 have lb:b.data.toList.length=b.size:=by simp
 refine LoopP.ghost (fun(i:Nat) (t:Int) h'=>t=(i:Int)∧i≤min a.size b.size∧h'=h∧∀j,j<i→a.data.toList[j]? =b.data.toList[j]?) (fun i=>min a.size b.size-i) 0 ⟨rfl,aK _,rfl,fun j hj=>absurd hj (gp _)⟩ ?_
 rintro I i t h' ⟨rfl,hi,rfl,he⟩ hI;refine av (fun hlt=>?_) fun hge=>?_
 ·have hlt:i<min a.size b.size:=by omega
  have hia:i<a.size:=by omega
  have hib:i<b.size:=by omega
  refine⟨a[i],by omega,by rw[aM,getElem?_pos a i hia],b[i],by omega,by rw[aM,getElem?_pos b i hib],?_⟩
  have e1:a.data.toList[i]? =some a[i]:=by rw[←F3,getElem?_pos a i hia]
  have e2:b.data.toList[i]? =some b[i]:=by rw[←F3,getElem?_pos b i hib]
  refine CondP.intro (fun hne=>?_) fun heq=>?_
  ·rw[DI (i:=i) (by omega) (by omega) he (.inr (.inr fun e=>?_))]at hk
   ·exact hk
   ·rw[e1,e2]at e
    rw[bF.inj e]at hne;simp at hne
  ·have heq:a[i]=b[i]:=by
    have:((a[i].toNat:Int))=(b[i].toNat:Int):=by simpa using heq
    exact UInt8.toNat_inj.1 (by omega)
   rw[cl hlt (by omega)];refine hI (i+1) _ _ ⟨rfl,hlt,rfl,fun j hj=>?_⟩ (by omega)
   rcases cf j i with hl|hl
   ·exact he j hl
   ·have:j=i:=by omega
    subst this;rw[e1,e2,heq]
 ·have hii:i=min a.size b.size:=by omega
  rw[DI (i:=i) (by omega) (by omega) he (by omega)]at hk;rw[←hii];exact hk
end Go.Proofs
namespace Go.Proofs
open Go Go.Lift
def ur:Fo→List (List UInt8×ByteArray)
 | .nil=> []
 | .cons lab w kids rest=>((w.map fun v=>(([]:List UInt8),v)).toList++ur kids).map (fun p=>(lab++p.1,p.2))++ur rest
def lv(w:Option ByteArray)(F:Fo):List (List UInt8×ByteArray):=(w.map fun v=>(([]:List UInt8),v)).toList++ur F
theorem qb:∀{F:Fo} {k:List UInt8} {v:ByteArray},(k,v)∈ur F↔y9 F k v
 | .nil,_,_=>by simp[ur,y9]
 | .cons lab w kids rest,k,v=>by
  unfold ur y9;rw[bP,qb (F:=rest)];refine or_congr ?_ Iff.rfl;rw[gI];constructor
  ·rintro⟨⟨r,u⟩,hm,he⟩
   simp only[po.injEq]at he;obtain⟨rfl,rfl⟩:=he;refine⟨r,rfl,?_⟩;rcases bP.1 hm with h|h
   ·left
    rw[Option.mem_toList,m9]at h;obtain⟨a,ha,he⟩:=h;simp only[po.injEq]at he;exact⟨he.1.symm,by rw[ha,he.2]⟩
   ·exact .inr (qb.1 h)
  ·rintro⟨r,rfl,h⟩
   refine⟨(r,v),bP.2 ?_,rfl⟩;rcases h with⟨rfl,h⟩|h
   ·left;rw[h];simp
   ·exact .inr (qb.2 h)
theorem od{w:Option ByteArray}{F:Fo}{k:List UInt8}{v:ByteArray}:(k,v)∈lv w F↔Gn w F k v:=by
 unfold lv Gn;rw[bP,qb];refine or_congr ?_ Iff.rfl;cases w with
 |none=>simp
 |some u=>simp[Prod.ext_iff,eq_comm]
abbrev Up(l:List (List UInt8×ByteArray)):Prop:=l.Pairwise fun p q=>p.1<q.1
theorem Pv{a x y:List UInt8}(h:x<y):a++x<a++y:=by
 induction a with
 |nil=>exact h
 |cons c a ih=>exact List.Lex.cons ih
theorem Mm{x y:List UInt8}(hy:y≠[])(h:hd x<hd y):x<y:=by
 match x,y,hy with
 | [],b::y,_=>exact List.Lex.nil
 |a::x,b::y,_=>exact List.Lex.rel (UInt8.lt_iff_toNat_lt.2 h)
theorem Hv:∀{F:Fo},jA F→Up (ur F)
 | .nil,_=>gk
 | .cons lab w kids rest,h=>by
  unfold ur;refine cK.2 ⟨?_,Hv h.2.2.2.2,?_⟩
  ·rw[List.pairwise_map]
   refine List.Pairwise.imp (R:=fun p q:List UInt8×ByteArray=>p.1<q.1) (fun hab=>Pv hab) ?_
   refine cK.2 ⟨?_,Hv h.2.2.1,?_⟩
   ·cases w<;>simp
   ·intro a ha b hb
    have hne:b.1≠[]:=qI h.2.2.1 (qb (F:=kids).1 (show(b.1,b.2)∈_ from hb))
    have ha0:a.1= []:=by
     rw[Option.mem_toList,m9]at ha;obtain⟨v,_,e⟩:=ha;rw[←e]
    rw[ha0];match b.1,hne with
    |c::l,_=>exact List.Lex.nil
  ·intro a ha b hb
   obtain⟨p,_,rfl⟩:=gI.1 ha;obtain⟨n,hn,e,_⟩:=vB h.2.2.2.2 (qb (F:=rest).1 (show(b.1,b.2)∈_ from hb))
   have hne:b.1≠[]:=qI h.2.2.2.2 (qb (F:=rest).1 (show(b.1,b.2)∈_ from hb))
   have:=h.2.2.2.1 n hn;exact Mm hne (by rw[vC h.1];omega)
theorem NN{w:Option ByteArray}{F:Fo}(h:jA F):Up (lv w F):=by
 refine cK.2 ⟨by cases w<;>simp,Hv h,?_⟩
 intro a ha b hb;have hne:b.1≠[]:=qI h (qb (F:=F).1 (show(b.1,b.2)∈_ from hb))
 have ha0:a.1= []:=by
  rw[Option.mem_toList,m9]at ha;obtain⟨v,_,e⟩:=ha;rw[←e]
 rw[ha0];match b.1,hne with
 |c::l,_=>exact List.Lex.nil
theorem Lw:∀{l l':List (List UInt8×ByteArray)},Up l→Up l'→(∀p,p∈l↔p∈l')→l=l'
 | [],[],_,_,_=>rfl
 | [],q::l',_,_,h=>absurd ((h q).2 (au ..)) (by simp)
 |p::l,[],_,_,h=>absurd ((h p).1 (au ..)) (by simp)
 |p::l,q::l',hr,hr',h=>by
  have hr:=aS.1 hr;have hr':=aS.1 hr';have e:p=q:=by
   rcases az.1 ((h p).1 (au ..))with e|hp
   ·exact e
   ·rcases az.1 ((h q).2 (au ..))with e|hq
    ·exact e.symm
    ·exact absurd (List.lt_trans (hr.1 q hq) (hr'.1 p hp)) (p6 _)
  subst e;rw[Lw hr.2 hr'.2 fun z=>?_]
  constructor
  ·intro hz
   rcases az.1 ((h z).1 (aH _ hz))with e|hz'
   ·exact absurd (hr.1 z hz) (by rw[e];exact p6 _)
   ·exact hz'
  ·intro hz
   rcases az.1 ((h z).2 (aH _ hz))with e|hz'
   ·exact absurd (hr'.1 z hz) (by rw[e];exact p6 _)
   ·exact hz'
def wY:Fo→Nat
 | .nil=>0
 | .cons _ _ kids rest=>1+wY kids+wY rest
theorem zZ:∀{F:Fo},jA F→wY F+F.toL.length≤2*(ur F).length
 | .nil,_=>by simp[wY,Fo.toL]
 | .cons lab w kids rest,h=>by
  have h1:=zZ h.2.2.1;have h2:=zZ h.2.2.2.2;have h3:=h.2.1;rw[Fo.toL_cons];unfold wY ur;rw[ac,cg,ac,ap];cases w with
  |none=>
   simp only[Option.map_none,Option.toList_none,aI];have:2≤kids.toL.length:=h3.resolve_left (by simp);omega
  |some v=>simp only[Option.map_some,Option.toList_some,aw];omega
def EY:Fo→Prop
 | .nil=>True
 | .cons lab w kids rest=>lab.length≤10000∧(∀v,w=some v→v.size≤10000)∧kids.toL.length≤256∧EY kids∧EY rest
theorem H2:∀{F:Fo},jA F→(∀k v,y9 F k v→k.length≤10000∧v.size≤10000)→EY F
 | .nil,_,_=>trivial
 | .cons lab w kids rest,h,hl=>by
  obtain⟨r,v,hr⟩:=ol h _ (au ..);have h1:=(hl _ v (j1.2 ⟨_,au ..,r,rfl,hr⟩)).1;rw[ac]at h1;simp only at h1;refine⟨by omega,fun v hv=>(hl lab v (.inl ⟨[],(aE _).symm,.inl ⟨rfl,hv⟩⟩)).2,kY h.2.2.1,H2 h.2.2.1 fun k v hk=>?_,H2 h.2.2.2.2 fun k v hk=>hl k v (.inr hk)⟩
  have:=hl (lab++k) v (.inl ⟨k,rfl,.inr hk⟩);rw[ac]at this;exact⟨by omega,this.2⟩
def qF:Option ByteArray→List UInt8
 |some v=>1::lF v
 |none=> [0]
def oW(lab:List UInt8)(w:Option ByteArray)(n:Nat):List UInt8:=lF ⟨lab.toArray⟩++(qF w++kB n 2)
def mf:Fo→List UInt8
 | .nil=> []
 | .cons lab w kids rest=>oW lab w kids.toL.length++(mf kids++mf rest)
def gm(n:Bn):List UInt8:=oW n.1 n.2.1 n.2.2.toL.length++mf n.2.2
theorem sM:∀F:Fo,mf F=F.toL.flatMap gm
 | .nil=>rfl
 | .cons lab w kids rest=>by
  rw[Fo.toL_cons,aN,←sM rest];show oW lab w kids.toL.length++(mf kids++mf rest)=(oW lab w kids.toL.length++mf kids)++mf rest
  rw[ao]
theorem Di{lab:List UInt8}{w:Option ByteArray}{n:Nat}(h1:lab.length≤10000)(h2:∀v,w=some v→v.size≤10000):(oW lab w n).length≤20010:=by
 unfold oW;rw[ac,ac,gR,cY];have e:(pr lab.toArray).size=lab.length:=by simp[ByteArray.size]
 rw[e];cases w with
 |none=>simp only[qF,aw];omega
 |some v=>have:=h2 v rfl;simp only[qF,ap,gR];omega
theorem vo:∀{F:Fo},EY F→(mf F).length≤wY F*20010
 | .nil,_=>by simp[mf]
 | .cons lab w kids rest,h=>by
  have h1:=Di (n:=kids.toL.length) h.1 h.2.1;have h2:=vo h.2.2.2.1;have h3:=vo h.2.2.2.2;unfold mf wY;rw[ac,ac,gQ,gQ];omega
theorem Dj{lab lab':List UInt8}{w w':Option ByteArray}{n n':Nat}{r r':List UInt8}(h1:lab.length≤10000)(h1':lab'.length≤10000)(h2:∀v,w=some v→v.size≤10000)(h2':∀v,w'=some v→v.size≤10000)(hn:n≤256)(hn':n'≤256)(h:oW lab w n++r=oW lab' w' n'++r'):lab=lab'∧w=w'∧n=n'∧r=r':=by
 unfold oW at h;simp only[ao]at h;have z:∀l:List UInt8,(pr l.toArray).size=l.length:=fun l=>by simp[ByteArray.size]
 obtain⟨e1,h⟩:=tX (by rw[z];exact h1) (by rw[z];exact h1') h;have e1:lab=lab':=by
  have:=congrArg (fun b:ByteArray=>b.data.toList) e1
  simpa using this
 cases w with
 |none=>
  cases w' with
  |none=>
   simp only[qF,cR,List.nil_append,eg.injEq,true_and]at h;obtain⟨e2,h⟩:=rd (k:=2) (by omega) (by omega) h;exact⟨e1,rfl,e2,h⟩
  |some v=>simp[qF]at h
 |some v=>
  cases w' with
  |none=>simp[qF]at h
  |some v'=>
   simp only[qF,cR,eg.injEq,true_and]at h;obtain⟨e3,h⟩:=tX (h2 v rfl) (h2' v' rfl) h;obtain⟨e2,h⟩:=rd (k:=2) (by omega) (by omega) h;exact⟨e1,by rw[e3],e2,h⟩
theorem vp:∀{F F':Fo} {r r':List UInt8},EY F→EY F'→F.toL.length=F'.toL.length→mf F++r=mf F'++r'→F=F'∧r=r'
 | .nil,.nil,_,_,_,_,_,h=>⟨rfl,h⟩
 | .nil,.cons ..,_,_,_,_,e,_=>by simp[Fo.toL]at e
 | .cons ..,.nil,_,_,_,_,e,_=>by simp[Fo.toL]at e
 | .cons lab w kids rest,.cons lab' w' kids' rest',r,r',h1,h2,e,h=>by
  unfold mf at h;simp only[ao]at h;obtain⟨e1,e2,e3,h⟩:=Dj h1.1 h2.1 h1.2.1 h2.2.1 h1.2.2.1 h2.2.2.1 h;obtain⟨e4,h⟩:=vp h1.2.2.2.1 h2.2.2.2.1 e3 h;obtain⟨e5,h⟩:=vp h1.2.2.2.2 h2.2.2.2.2 (by rw[Fo.toL_cons,Fo.toL_cons]at e;simpa using e) h;exact⟨by rw[e1,e2,e4,e5],h⟩
end Go.Proofs
namespace Go.Proofs
open Go Go.Lift
theorem Oo{M:Nat→Prop}{h:ad}{so:SliceV}{out ys:List UInt8}{vs:List Value}(hv:vs=ys.flatMap l8){n:Nat}(hn':n=ys.length){K:SliceV→ad→Prop}(ho:OwnS l8 1 ci M h so out)(hM:∀b,h.size≤b→M b)(hn:out.length+ys.length≤140737488355328)
  (hk:∀s' h',OwnS l8 1 ci M h' s' (out++ys)→Upd M h h'→K s' h'):
  ∃xs,SRow (hnew h vs ci) (some (aC h)) (n*1) xs∧AppP (some [.int .u8 0]) 1 1 ci so.a so.len so.cap n xs (hnew h vs ci) K:=by
 subst hv hn';have k:=Upd.hnew No h (ys.flatMap l8) ci;have h1:OwnS l8 1 ci (fun _=>True) (hnew h (ys.flatMap l8) ci) ⟨some (aC h),ys.length,ys.length⟩ ys:=⟨rfl,oL,ag _,.inr ⟨h.size,[],rfl,trivial,by rw[aE];exact dj ..,by simp⟩⟩
 refine⟨_,(h1.sl (W:=No) fun _ _ _ h=>h).srow,?_⟩
 refine AppP.own (ys:=ys) (ho.upd k fun _ _ h=>h) rfl rfl (wB _) rfl (by omega) (by omega) (hM _ (by rw[f9];omega)) fun s' h' ho' hu=>?_
 exact hk s' h' ho' ((Upd.hnew M h _ _).tr hu)
def QH(W:Nat→Prop)(n:Bn):Prop:=∀{b:Nat} {sl:ByteArray} {h0 h:ad} {M:Nat→Prop} {s:SliceV} {xs:List UInt8},RxN W h0 b sl n.2.1 n.2.2→sl.data.toList=n.1→Upd No h0 h→(∀y,M y→h0.size≤y)→OwnS l8 1 ci M h s xs→(∀y,h.size≤y→M y)→
 xs.length+(gm n).length≤140737488355328→∀{K:SliceV→ad→Prop},(∀s' h',OwnS l8 1 ci M h' s' (xs++gm n)→Upd M h h'→K s' h')→HC PG iQ [.pointer (some ⟨b,0,none⟩),.slice s.a s.len s.cap] [.c .slice] K h
theorem LP{W:Nat→Prop}{lab:List UInt8}{w:Option ByteArray}{kids:Fo}(hl:lab.length≤10000)(hw:∀v,w=some v→v.size≤10000)(hk256:kids.toL.length≤256)(ih:∀m∈kids.toL,QH W m):QH W (lab,w,kids):=by
 intro b sl h0 h M s xs r hsl hu0 hM0 ho hM hx K hk;simp only at r hsl;have hsle:(⟨lab.toArray⟩:ByteArray)=sl:=by rw[←hsl]
 refine uw (some ⟨b,0,none⟩) s ?_;unfold oZ bR cn aL hH bU xS OO Nm;obtain⟨val,s1,ow,ks,hb0,hv,hs,hcap,hF⟩:=r;have hL:=rB.1 hF;have st:∀{h'},Upd M h h'→Upd No h0 h':=fun k=>hu0.trans k fun y hy=>.inr (hM0 y hy)
 have blk:∀{h'},Upd M h h'→h'[b]? =some (.cells (Nf sl w.isSome val s1 ow) fp (0,0)):=fun k=>(st k).get0 hb0
 have hM':∀{h'},Upd M h h'→∀y,h'.size≤y→M y:=fun k y hy=>hM y (bh k.size hy)
 have hsz:sl.size=lab.length:=by rw[←hsl];simp
 have hsl1:=hs.len;rw[hL.1]at hsl1;unfold gm at hx hk;rw[sM]at hx hk;simp only at hx hk;rw[ac]at hx;have hnl:(oW lab w kids.toL.length).length=2+lab.length+((qF w).length+2):=by
  unfold oW;rw[ac,ac,gR,cY,hsle,hsz]
 refine⟨_,rfl,sl,ji (i:=0) (blk (Upd.refl M h)),?_⟩;refine zK (W:=No) (ho.sl fun _ _ _ h=>h) ho.cap sl (by omega) (by omega) fun s2 h2 ho2 hu2=>?_
 have ho2:=ho2.more hM;have hu02:Upd M h h2:=hu2.wide;refine Join.intro (fun t h'=>OwnS l8 1 ci M h' t (xs++lF sl++(qF w))∧Upd M h h') (fun R hR=>⟨_,rfl,w.isSome,ji (i:=1) (blk hu02),?_⟩) ?_
 ·cases w with
  |none=>
   refine aj.2 (bM ?_);refine ri (b:=0) rfl ho2 (hM' hu02) ?_ fun s3 h3 ho3 hu3=>hR _ _ ⟨ho3,hu02.tr hu3⟩
   rw[ac,gR];simp only[qF,aw]at hnl;omega
  |some v=>
   have hve:=vw hv v rfl;subst hve;have hvs:=hw val rfl;simp only[qF,ap,gR]at hnl;have k3:Upd M h (hnew h2 [.int .u8 1] ci):=hu02.tr (Upd.hnew M h2 _ _);refine aB.2 ⟨_,rfl,val,ji (i:=2) (blk hu02),bM ⟨ji (i:=2) (blk k3),?_⟩⟩;refine ri (b:=1) rfl ho2 (hM' hu02) (by rw[ac,gR];omega) fun s3 h3 ho3 hu3=>⟨ji (i:=2) (blk (hu02.tr hu3)),?_⟩
   refine zK (W:=No) (ho3.sl fun _ _ _ h=>h) ho3.cap val (by omega) (by rw[ac,ac,gR,aw];omega) fun s4 h4 ho4 hu4=>hR _ _ ⟨?_,(hu02.tr hu3).tr hu4.wide⟩
   have ho4:=ho4.more (hM' (hu02.tr hu3));simp only[qF,ao,List.singleton_append]at ho4⊢;exact ho4
 ·rintro s3 h3 ⟨ho3,hu3⟩
  have e8:Int.fdiv (s1.len:Int) (2^(min (8:Int).toNat (IntKind.bits .i64)))=((kids.toL.length>>>8:Nat):Int):=by
   have:(2^(min (8:Int).toNat (IntKind.bits .i64)):Int)=2^8:=rfl;rw[this,hsl1,kE]
  refine Join.intro (fun t h'=>OwnS l8 1 ci M h' t (xs++oW lab w kids.toL.length)∧Upd M h h') (fun R hR=>⟨_,rfl,s1,ji (i:=3) (blk hu3),_,rfl,s1,ji (i:=3) (blk hu3),by omega,?_⟩) ?_
  ·simp only[Bd]
   rw[e8];have k4:Upd M h (hnew h3 [.int .u8 (IntKind.wrap .u8 (s1.len:Int)),.int .u8 (IntKind.wrap .u8 ((kids.toL.length>>>8:Nat):Int))] ci):=hu3.tr (Upd.hnew M h3 _ _);refine bM ⟨ji (i:=3) (blk k4),ji (i:=3) (blk k4),?_⟩;refine Oo (ys:=kB kids.toL.length 2) ?_ rfl ho3 (hM' hu3) ?_ fun s5 h5 ho5 hu5=>⟨ji (i:=3) (blk (hu3.tr hu5)),ji (i:=3) (blk (hu3.tr hu5)),hR _ _ ⟨?_,hu3.tr hu5⟩⟩
   ·rw[hsl1,IntKind.wrap_u8,IntKind.wrap_u8]
    simp[kB,ij]
   ·rw[ac,ac,gR,cY];omega
   ·unfold oW
    rw[hsle,←ao,←ao];exact ho5
  ·rintro s4 h4 ⟨ho4,hu4⟩
   refine⟨_,rfl,s1,ji (i:=3) (blk hu4),?_⟩;have hs4:∀{h'},Upd M h h'→Sl yQ 1 W h' s1 ks:=fun k=>hs.upd (st k) fun _ h=>h.elim
   refine LoopP.ghost (fun(i:Nat) (t:SliceV×Int) h'=>t.2=(i:Int)∧i≤kids.toL.length∧OwnS l8 1 ci M h' t.1 (xs++oW lab w kids.toL.length++(kids.toL.take i).flatMap gm)∧Upd M h h') (fun i=>kids.toL.length-i) 0 ⟨rfl,aK _,by simpa using ho4,hu4⟩ ?_
   rintro I i ⟨so,ti⟩ h' ⟨e1,hi,ho',hu'⟩ hI;simp only at e1 ho';subst e1;have hsplit:∀hlt:i<kids.toL.length,((kids.toL.take i).flatMap gm).length+(gm kids.toL[i]).length≤(kids.toL.flatMap gm).length:=fun hlt=>by
    have e:kids.toL=kids.toL.take i++kids.toL[i]::kids.toL.drop (i+1):=by rw[jD,aA]
    have:=congrArg (fun L=>(List.flatMap gm L).length) e
    simp only[bC,aN,ac]at this;omega
   refine av (fun hlt=>?_) fun hge=>?_
   ·have hlt:i<kids.toL.length:=by have:(i:Int)<(s1.len:Int):=hlt;omega
    obtain⟨kb,ksl,hki,hkl,hkn⟩:=hL.at hlt;obtain⟨a,ha,_,hvv⟩:=(hs4 hu').at0 hki;have hsp:=hsplit hlt;refine⟨⟨by simp only;omega,by simp only;omega⟩,a,ha,some ⟨kb,0,none⟩,hvv,?_⟩
    refine ih _ (bN hlt) hkn hkl (st hu') hM0 ho' (hM' hu') (by rw[ac,ac];omega) fun s5 h5 ho5 hu5=>?_
    rw[cl hlt (by omega)];refine hI (i+1) _ _ ⟨rfl,hlt,?_,hu'.tr hu5⟩ (by omega);rw[aX hlt,bC,aN,jc,aE,←ao];exact ho5
   ·have hil:i=kids.toL.length:=by have:¬(i:Int)<(s1.len:Int):=hge;omega
    subst hil;rw[bQ]at ho';refine hk _ _ ?_ hu';rw[←ao];exact ho'
theorem D7{W:Nat→Prop}:∀{F:Fo},EY F→∀n∈F.toL,QH W n
 | .nil,_,n,hn=>by simp[Fo.toL]at hn
 | .cons lab w kids rest,h,n,hn=>by
  rcases az.1 hn with rfl|hn
  ·exact LP h.1 h.2.1 h.2.2.1 (D7 h.2.2.2.1)
  ·exact D7 h.2.2.2.2 n hn
structure RadAt(W:Nat→Prop)(h:ad)(b:Nat)(l:List Pr):Prop where
 ex:∃w F,RxN W h b ⟨#[]⟩ w F∧jA F∧∀k v,(k,v)∈lv w F↔∃p∈l,p.1.data.toList=k∧p.2=v
theorem RadAt.upd0{W:Nat→Prop}{h h':ad}{b:Nat}{l:List Pr}(k:Upd No h h')(r:RadAt W h b l):RadAt W h' b l:=by
 obtain⟨w,F,r1,r2,r3⟩:=r.ex;exact⟨w,F,r1.upd0 k,r2,r3⟩
theorem RadAt.less{W W':Nat→Prop}{h:ad}(hm:∀b,W' b→W b∨h.size≤b){b:Nat}{l:List Pr}(r:RadAt W h b l):RadAt W' h b l:=by
 obtain⟨w,F,r1,r2,r3⟩:=r.ex;exact⟨w,F,r1.less hm,r2,r3⟩
theorem RadAt.updM{W M:Nat→Prop}{h h':ad}(k:Upd M h h')(hm:∀b,M b→W b∨h.size≤b){b:Nat}{l:List Pr}(r:RadAt W h b l):RadAt W h' b l:=by
 obtain⟨w,F,r1,r2,r3⟩:=r.ex;exact⟨w,F,r1.updM k hm,r2,r3⟩
def Al(l:List Pr):List (List UInt8×ByteArray):=l.map fun p=>(p.1.data.toList,p.2)
theorem OV{l:List Pr}(hr:d9 l):Up (Al l):=by
 unfold Al Up;rw[List.pairwise_map];refine List.Pairwise.imp (R:=fun p q:Pr=>kl p.1 q.1) (fun{a b} h=>?_) hr
 rw[HL,ByteArray.toList_eq,ByteArray.toList_eq]at h;exact h
theorem D3:∀{l l':List Pr},Al l=Al l'→l=l'
 | [],[],_=>rfl
 | [],_::_,h=>by simp[Al]at h
 |_::_,[],h=>by simp[Al]at h
 |p::l,q::l',h=>by
  unfold Al at h;simp only[di,eg.injEq,po.injEq]at h;obtain⟨⟨h1,h2⟩,h3⟩:=h;have e:p.1=q.1:=by
   generalize p.1=a at h1;generalize q.1=b at h1;cases a;cases b;exact congrArg pr (Array.toList_inj.1 h1)
  rw[D3 h3,Prod.ext e h2]
theorem zO{w:Option ByteArray}{F:Fo}{l:List Pr}(hc:jA F)(hr:d9 l)(he:∀k v,(k,v)∈lv w F↔∃p∈l,p.1.data.toList=k∧p.2=v):lv w F=Al l:=by
 refine Lw (NN hc) (OV hr) fun p=>?_
 have:=he p.1 p.2;rw[show(p.1,p.2)=p from rfl]at this
 rw[this];unfold Al;rw[gI];constructor
 ·rintro⟨q,hq,e1,e2⟩;exact⟨q,hq,Prod.ext e1 e2⟩
 ·rintro⟨q,hq,e⟩;rw[←e];exact⟨q,hq,rfl,rfl⟩
theorem LV{w w':Option ByteArray}{F F':Fo}(hc:jA F)(hc':jA F')(h:lv w F=lv w' F'):w=w'∧F=F':=by
 have hm:∀k v,Gn w F k v↔Gn w' F' k v:=fun k v=>by rw[←od,←od,h]
 refine⟨Option.ext fun v=>?_,H8 hc hc' fun k v=>?_⟩
 ·have:=hm [] v
  constructor
  ·intro e
   rcases this.1 (.inl ⟨rfl,e⟩)with⟨_,h⟩|h
   ·exact h
   ·exact absurd rfl (qI hc' h)
  ·intro e
   rcases this.2 (.inl ⟨rfl,e⟩)with⟨_,h⟩|h
   ·exact h
   ·exact absurd rfl (qI hc h)
 ·constructor
  ·intro hi
   rcases(hm k v).1 (.inr hi)with⟨e,_⟩|h
   ·exact absurd e (qI hc hi)
   ·exact h
  ·intro hi
   rcases(hm k v).2 (.inr hi)with⟨e,_⟩|h
   ·exact absurd e (qI hc' hi)
   ·exact h
end Go.Proofs
namespace Go.Proofs
open Go Go.Lift
theorem yX{p q:Pr}:∀{l:List Pr},d9 l→(q∈lI p l↔q=p∨(q∈l∧q.1≠p.1))
 | [],_=>by simp[lI]
 |r::l,hr=>by
  have hr:=aS.1 hr;rw[iX];by_cases h1:kl r.1 p.1
  ·have hne:r.1≠p.1:=fun e=>by rw[e]at h1;exact dw _ h1
   rw[if_pos h1,az,az,yX hr.2];constructor
   ·rintro(rfl|h|⟨h,h'⟩)
    ·exact .inr ⟨.inl rfl,hne⟩
    ·exact .inl h
    ·exact .inr ⟨.inr h,h'⟩
   ·rintro(h|⟨h|h,h'⟩)
    ·exact .inr (.inl h)
    ·exact .inl h
    ·exact .inr (.inr ⟨h,h'⟩)
  ·rw[if_neg h1]
   by_cases h2:r.1=p.1
   ·rw[if_pos h2,az,az]
    constructor
    ·rintro(h|h)
     ·exact .inl h
     ·refine .inr ⟨.inr h,fun e=>?_⟩
      have:=hr.1 q h;rw[e,h2]at this;exact dw _ this
    ·rintro(h|⟨rfl|h,h'⟩)
     ·exact .inl h
     ·exact absurd h2 h'
     ·exact .inr h
   ·rw[if_neg h2,az,az]
    have h3:=rH h1 h2;constructor
    ·rintro(h|rfl|h)
     ·exact .inl h
     ·exact .inr ⟨.inl rfl,h2⟩
     ·refine .inr ⟨.inr h,fun e=>?_⟩
      have:=jG h3 (hr.1 q h);rw[e]at this;exact dw _ this
    ·rintro(h|⟨rfl|h,h'⟩)
     ·exact .inl h
     ·exact .inr (.inl rfl)
     ·exact .inr (.inr h)
def RadRoot(W:Nat→Prop)(h:ad)(r:Option Addr)(l:List Pr):Prop:=(r=none∧l= [])∨∃b,r=some ⟨b,0,none⟩∧RadAt W h b l
theorem RadRoot.upd0{W:Nat→Prop}{h h':ad}{r:Option Addr}{l:List Pr}(k:Upd No h h')(t:RadRoot W h r l):RadRoot W h' r l:=t.imp id fun⟨b,e,t⟩=>⟨b,e,t.upd0 k⟩
theorem vO{a b:ByteArray}:a.data.toList=b.data.toList↔a=b:=by
 constructor
 ·intro h;cases a;cases b;exact congrArg pr (Array.toList_inj.1 h)
 ·rintro rfl;rfl
theorem Ha{W:Nat→Prop}{h:ad}(hW:∀y,W y→y<h.size){K:Option Addr→ad→Prop}(hk:∀h' b,RadAt W h' b []→Upd No h h'→K (some ⟨b,0,none⟩) h'):HC PG qL [] [.c .ptr] K h:=by
 refine Cy ?_;unfold uV PE;refine bM (hk _ h.size ⟨none,.nil,⟨⟨#[]⟩,⟨none,0,0⟩,none,[],dj h rx0 fp,rfl,Sl.nil vr,⟨ag _,fun hx=>Nat.lt_irrefl _ (hW _ hx)⟩,rfl⟩,trivial,fun k v=>?_⟩ (Upd.hnew No h _ _))
 simp[lv,ur]
def Ii(l:List Pr)(xs:List UInt8):Prop:=∃w F,jA F∧lv w F=Al l∧xs=gm ([],w,F)
theorem tg{w:Option ByteArray}{F:Fo}{l:List Pr}(hc:jA F)(hp:lv w F=Al l)(hf:Fit l):EY F∧∀v,w=some v→v.size≤10000:=by
 have hm:∀k v,Gn w F k v→k.length≤10000∧v.size≤10000:=fun k v hi=>by
  have:=od.2 hi;rw[hp]at this;obtain⟨q,hq,e⟩:=gI.1 this;cases e;have:=hf q hq;exact⟨by simpa using this.1,this.2⟩
 exact⟨H2 hc fun k v hi=>hm k v (.inr hi),fun v hv=>(hm [] v (.inl ⟨rfl,hv⟩)).2⟩
theorem NF{l l':List Pr}{xs xs':List UInt8}(h:Ii l xs)(h':Ii l' xs')(hf:Fit l)(hf':Fit l'):xs=xs'↔l=l':=by
 obtain⟨w,F,c,e,rfl⟩:=h;obtain⟨w',F',c',e',rfl⟩:=h';have f1:=tg c e hf;have f2:=tg c' e' hf';constructor
 ·intro hx
  have hx:gm ([],w,F)++ []=gm ([],w',F')++ []:=by rw[hx]
  unfold gm at hx;simp only[ao]at hx;obtain⟨_,e2,e3,hx⟩:=Dj (aK _) (aK _) f1.2 f2.2 (kY c) (kY c') hx;obtain⟨e4,_⟩:=vp f1.1 f2.1 e3 hx;exact D3 (by rw[←e,←e',e2,e4])
 ·rintro rfl
  obtain⟨e2,e4⟩:=LV c c' (e.trans e'.symm);rw[e2,e4]
theorem wy{l:List Pr}{xs:List UInt8}(h:Ii l xs)(hf:Fit l):xs.length≤20010+2*l.length*20010:=by
 obtain⟨w,F,c,e,rfl⟩:=h;have f1:=tg c e hf;have h1:=Di (lab:= []) (n:=F.toL.length) (aK _) f1.2;have h2:=vo f1.1;have h3:=zZ c;have h4:=congrArg List.length e;unfold lv Al at h4;rw[ac,cg]at h4;have h5:wY F*20010≤2*l.length*20010:=bZ _ (by omega);unfold gm;rw[ac];simp only;omega
theorem Ft{W:Nat→Prop}{h:ad}{b:Nat}{l:List Pr}(t:RadAt W h b l)(hr:d9 l)(hf:Fit l)(hn:l.length≤60000){K:SliceV→ad→Prop}
  (hk:∀s' h' xs,Ii l xs→OwnS l8 1 ci (fun y=>h.size≤y) h' s' xs→Upd No h h'→K s' h'):HC PG qK [.pointer (some ⟨b,0,none⟩)] [.c .slice] K h:=by
 refine Cx _ ?_;unfold uU;refine aj.2 ?_;obtain⟨w,F,r1,r2,r3⟩:=t.ex;have hp:=zO r2 hr r3;have f1:=tg r2 hp hf;have hv:Ii l (gm ([],w,F)):=⟨w,F,r2,hp,rfl⟩;have hl:=wy hv hf;exact LP (lab:= []) (aK _) f1.2 (kY r2) (D7 f1.1) (s:=⟨none,0,0⟩) (xs:= []) (M:=fun y=>h.size≤y) r1 rfl (Upd.refl _ _) (fun _ h=>h) (OwnS.nil oL) (fun _ h=>h) (by rw[aI];omega) fun s' h' ho hu=>hk s' h' _ hv ho (hu.mono fun y hy=>.inr hy)
end Go.Proofs
