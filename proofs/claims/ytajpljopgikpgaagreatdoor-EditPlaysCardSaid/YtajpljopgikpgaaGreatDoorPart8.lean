/- A part of the proof that the named laws of this program answer true, whatever the input. -/
import Derived.Test.YtajpljopgikpgaaGreatDoorPart7
import Derived.Test.YtajpljopgikpgaaGreatDoorPart6
open Bool renaming false_eq_true→dX
open ByteArray renaming data_append→qR
open Iff renaming rfl→vT
open List renaming cons_append→dB,cons→fH,take_succ_cons→dH,length_cons→aH,take_append_drop→aS,length→eL,length_drop→aZ,length_nil→bL,pairwise_append→cE,mem_append_left→dQ,mem_append_right→fy,mem_cons_self→aC,mem_of_getLast?→iT,mem_cons→aB,pairwise_cons→bA,mem_append→bM,mem_singleton→au,take_length→cp,append_nil→bB,length_take→aP,mem_cons_of_mem→aV,append_assoc→az,drop_eq_nil_of_le→f9,getElem?_eq_getElem→ag,length_append→ad,size_toArray→df,zip_cons_cons→gA,map_cons→cG,flatMap_cons→ba,map_append→bU,map_map→tQ,sum_cons→kS,mem_map→iK,length_map→bF,length_singleton→aF,getElem?_append_right→bh,mem_range→gq,flatMap_append→bN
open List.Pairwise renaming nil→fc
open Nat renaming le_refl→ao,lt_or_ge→bO,zero_add→aU,add_zero→dd,zero_le→bj,sub_self→gu,le_of_eq→f6,lt_of_lt_of_le→bG,le_trans→bv,testBit_zero→lB,testBit_succ→iC,eq_zero_or_pos→fq,zero_testBit→gG,testBit_and→jh
open Prod renaming mk→rP
namespace Go.Proofs
open Go Go.Lift
theorem zZ{a b:ByteArray}:kl a b↔Op.bytesLess a.data.toList b.data.toList=true:=by unfold kl;rw[ByteArray.toList_eq,ByteArray.toList_eq]
theorem Ak{a b:UInt8}{x y:List UInt8}:Op.bytesLess (a::x) (b::y)=true↔a.toNat<b.toNat∨(a=b∧Op.bytesLess x y=true):=by
 simp only[Op.bytesLess,Bool.or_eq_true,decide_eq_true_iff,Bool.and_eq_true,beq_iff_eq,UInt8.lt_iff_toNat_lt]
theorem QN(x:List UInt8):Op.bytesLess x []=false:=by cases x<;>rfl
theorem Mx{x y:List UInt8}:∀pre:List UInt8,Op.bytesLess (pre++x) (pre++y)=true↔Op.bytesLess x y=true
 | []=>vT
 |a::pre=>by rw[dB,dB,Ak,Mx pre];simp
theorem abc{x y:List UInt8}(h:Op.bytesLess x y=true)(hx:x≠[])(c:y≠[]):hd x≤hd y:=by
 match x,y,hx,c with
 |a::x,b::y,_,_=>
  show a.toNat≤b.toNat
  rcases Ak.1 h with h|⟨rfl,_⟩<;>omega
theorem Nq:∀(t:Nat) {f p g:List UInt8},t≤cm f g→(f=p∨Op.bytesLess f p=true)→(p=g∨Op.bytesLess p g=true)→p.take t=f.take t∧t≤p.length
 |0,f,p,g,_,_,_=>by simp
 |t+1,[],p,g,h,_,_=>by simp[cm]at h
 |t+1,a::f,p,[],h,_,_=>by simp[cm]at h
 |t+1,a::f,p,b::g,h,d,i=>by
  unfold cm at h;split at h
  ·rename_i e
   subst e;rcases p with _|⟨c,p⟩
   ·rcases d with d|d
    ·cases d
    ·rw[QN]at d;cases d
   ·have hc:c=a:=by
     rcases d with d|d
     ·exact(fH.inj d).1.symm
     ·rcases i with i|i
      ·exact(fH.inj i).1
      ·have k:=Ak.1 d
       have j:=Ak.1 i;rcases k with k|⟨k,_⟩
       ·rcases j with j|⟨j,_⟩
        ·omega
        ·exact j
       ·exact k.symm
    subst hc;have:=Nq t (f:=f) (p:=p) (g:=g) (by omega) (d.imp (fun h=>(fH.inj h).2) fun h=>by
     rcases Ak.1 h with h|⟨_,h⟩
     ·omega
     ·exact h) (i.imp (fun h=>(fH.inj h).2) fun h=>by
     rcases Ak.1 h with h|⟨_,h⟩
     ·omega
     ·exact h)
    rw[dH,dH,this.1,aH];exact⟨rfl,by omega⟩
  ·omega
theorem SC:∀f:List UInt8,cm f f=f.length
 | []=>rfl
 |a::f=>by unfold cm;rw[if_pos rfl,SC f];rfl
abbrev ky(p:Pr):List UInt8:=p.1.data.toList
def YL(l:List Pr)(a k:List UInt8)(v:ByteArray):Prop:=∃p∈l,ky p=a++k∧p.2=v
structure Beg(l:List Pr)(pre:List UInt8):Prop where
 up:cA l
 at_:∀p∈l,(ky p).take pre.length=pre∧pre.length<(ky p).length
theorem Beg.sub{l l':List Pr}{a:List UInt8}(b:Beg l a)(h:l'.Sublist l):Beg l' a:=⟨b.up.sublist h,fun p c=>b.at_ p (h.subset c)⟩
theorem Beg.split{l:List Pr}{a:List UInt8}(b:Beg l a){p:Pr}(c:p∈l):ky p=a++(ky p).drop a.length∧(ky p).drop a.length≠[]:=by
 obtain⟨d,f⟩:=b.at_ p c;refine⟨?_,fun e=>?_⟩
 ·conv=>lhs;rw[←aS a.length (ky p),d]
 ·have:=congrArg eL e
  rw[aZ,bL]at this;omega
def bt(n:Nat)(p:Pr):Nat:=hd ((ky p).drop n)
theorem Beg.mono{A B:List Pr}{a:List UInt8}(b:Beg (A++B) a){x y:Pr}(hx:x∈A)(c:y∈B):bt a.length x≤bt a.length y:=by
 have h:=(cE.1 b.up).2.2 x hx y c;rw[zZ]at h;obtain⟨d,g⟩:=b.split (dQ B hx);obtain⟨f,i⟩:=b.split (fy A c);change Op.bytesLess (ky x) (ky y)=true at h;rw[d,f,Mx]at h;exact abc h g i
theorem K7{l:List Pr}{d:List UInt8}{f g:Pr}(b:Beg l d)(M:∃r,l=f::r)(B:l.getLast? =some g)(K:bt d.length f=bt d.length g):
  d.length<cm (ky f) (ky g)∧cm (ky f) (ky g)≤(ky f).length∧(∀p∈l,(ky p).take (cm (ky f) (ky g))=(ky f).take (cm (ky f) (ky g)))∧(∀p∈l,p=f∨cm (ky f) (ky g)<(ky p).length)∧
   (cm (ky f) (ky g)<(ky f).length→cm (ky f) (ky g)<(ky g).length∧hd ((ky f).drop (cm (ky f) (ky g)))≠hd ((ky g).drop (cm (ky f) (ky g)))):=by
 obtain⟨r,rfl⟩:=M;have s:f∈f::r:=aC ..;have m:g∈f::r:=iT B;obtain⟨L,J⟩:=b.split s;obtain⟨H,I⟩:=b.split m;have A:d.length<cm (ky f) (ky g):=by
  have:∀(q x y:List UInt8),cm (q++x) (q++y)=q.length+cm x y:=by
   intro q x y;induction q with
   |nil=>simp
   |cons a q ih=>simp only[dB,cm,if_true,ih,aH];omega
  have u:=this d ((ky f).drop d.length) ((ky g).drop d.length);rw[←L,←H]at u;have F:=WL J I K;omega
 have z:=SD (ky f) (ky g);have w:∀p∈f::r,ky f=ky p∨Op.bytesLess (ky f) (ky p)=true:=fun p c=>by
  rcases aB.1 c with rfl|c
  ·exact .inl rfl
  ·exact .inr (zZ.1 ((bA.1 b.up).1 p c))
 have v:∀p∈f::r,ky p=ky g∨Op.bytesLess (ky p) (ky g)=true:=fun p c=>by
  rcases List.eq_nil_or_concat (f::r)with h|⟨l',y,h⟩
  ·cases h
  ·rw[List.concat_eq_append]at h
   rw[h,List.getLast?_concat]at B;cases B;have i:=b.up;rw[h]at c i;rcases bM.1 c with c|c
   ·exact .inr (zZ.1 ((cE.1 i).2.2 p c g (au.2 rfl)))
   ·rw[au.1 c];exact .inl rfl
 have k:∀p∈f::r,(ky p).take (cm (ky f) (ky g))=(ky f).take (cm (ky f) (ky g))∧cm (ky f) (ky g)≤(ky p).length:=fun p c=>Nq _ (ao _) (w p c) (v p c)
 have o:∀p∈f::r,p=f∨cm (ky f) (ky g)<(ky p).length:=fun p c=>by
  obtain⟨u,F⟩:=k p c;rcases bO (cm (ky f) (ky g)) (ky p).length with h|h
  ·exact .inr h
  ·left
   have G:(ky p).length=cm (ky f) (ky g):=by omega
   have e:ky p=(ky f).take (cm (ky f) (ky g)):=by rw[←u,←G,cp]
   rcases aB.1 c with rfl|c
   ·rfl
   ·have C:=zZ.1 ((bA.1 b.up).1 p c)
    change Op.bytesLess (ky f) (ky p)=true at C;exfalso;have E:ky f=ky p++(ky f).drop (cm (ky f) (ky g)):=by rw[e,aS]
    have D:Op.bytesLess (ky p++(ky f).drop (cm (ky f) (ky g))) (ky p++ [])=true:=by rw[bB,←E];exact C
    rw[Mx,QN]at D;cases D
 refine⟨A,z.1,fun p c=>(k p c).1,o,fun j=>?_⟩
 have n:cm (ky f) (ky g)<(ky g).length:=by
  rcases o g m with h|h
  ·exfalso
   rw[h,SC]at j;omega
  ·exact h
 exact⟨n,Mq _ _ j n⟩
theorem QL{l l':List Pr}{a:List UInt8}{f g:Pr}(b:Beg l a)(H:∃r,l=f::r)(G:l.getLast? =some g)(M:bt a.length f=bt a.length g){F:Fo}(hc:fU F)
  (d:l'=if(ky f).length=cm (ky f) (ky g)then l.drop 1 else l)(y:∀k v,qt F k v↔YL l' ((ky f).take (cm (ky f) (ky g))) k v){w:Option ByteArray}(z:w=if(ky f).length=cm (ky f) (ky g)then some f.2 else none){lab:List UInt8}(s:lab=((ky f).take (cm (ky f) (ky g))).drop a.length):
  O2 (lab,w,F)∧hd lab=bt a.length f∧∀k v,um (lab,w,F) k v↔YL l a k v:=by
 obtain⟨P,O,E,Q,K⟩:=K7 b H G M;obtain⟨r,rfl⟩:=H;have o:f∈f::r:=aC ..;have A:g∈f::r:=iT G;generalize cm (ky f) (ky g)=to at*;have i:a++lab=(ky f).take to:=by
  have:=(b.at_ f o).1;rw[s];conv=>rhs;rw[←aS a.length ((ky f).take to),List.take_take,Nat.min_eq_left (by omega),this]
 have j:lab≠[]:=fun e=>by
  have:=congrArg eL s;rw[e,bL,aZ,aP]at this;omega
 have C:∀k v,um (lab,w,F) k v↔YL (f::r) a k v:=by
  intro k v;constructor
  ·rintro⟨q,e,⟨rfl,m⟩|m⟩
   ·simp only at e m
    rw[bB]at e;subst e;rw[z]at m;split at m
    ·rename_i c
     cases m;refine⟨f,o,?_,rfl⟩;rw[i,←c,cp]
    ·cases m
   ·simp only at e m
    obtain⟨p,n,J,rfl⟩:=(y q v).1 m;refine⟨p,?_,?_,rfl⟩
    ·rw[d]at n
     split at n
     ·exact aV _ n
     ·exact n
    ·rw[J,e,←az,i]
  ·rintro⟨p,n,e,rfl⟩
   have u:=E p n;have I:ky p=a++(lab++(ky p).drop to):=by
    rw[←az,i,←u,aS]
   have ek:k=lab++(ky p).drop to:=List.append_cancel_left (e.symm.trans I);refine⟨(ky p).drop to,ek,?_⟩;by_cases c:(ky f).length=to
   ·rw[if_pos c]at z d
    rcases aB.1 n with rfl|n
    ·left
     refine⟨f9 (by omega),?_⟩;simp only;rw[z]
    ·right
     refine(y _ _).2 ⟨p,by rw[d];exact n,?_,rfl⟩
     rw[←u,aS]
   ·rw[if_neg c]at z d
    right;refine(y _ _).2 ⟨p,by rw[d];exact n,?_,rfl⟩
    rw[←u,aS]
 refine⟨⟨j,?_,hc⟩,?_,C⟩
 ·by_cases c:(ky f).length=to
  ·left;simp only;rw[z,if_pos c];rfl
  ·have B:to<(ky f).length:=by omega
   obtain⟨N,D⟩:=K B;refine(H7 hc).2 (.inr ⟨(ky f).drop to,(ky g).drop to,f.2,g.2,.inr ?_,.inr ?_,fun e=>?_,fun e=>?_,D⟩)
   ·exact(y _ _).2 ⟨f,by rw[d,if_neg c];exact o,(aS ..).symm,rfl⟩
   ·exact(y _ _).2 ⟨g,by rw[d,if_neg c];exact A,by rw[←E g A,aS],rfl⟩
   ·have:=congrArg eL e
    rw[aZ,bL]at this;omega
   ·have:=congrArg eL e
    rw[aZ,bL]at this;omega
 ·have e:=(b.split o).1
  unfold bt;have m:(ky f).drop a.length=lab++(ky f).drop to:=by
   have L:ky f=a++(lab++(ky f).drop to):=by rw[←az,i,aS]
   conv=>lhs;rw[L]
   rw[List.drop_left]
  rw[m,qf j]
structure Row(L:List Bn)(D T:List Pr)(pre:List UInt8):Prop where
 can:∀n∈L,O2 n
 up:L.Pairwise fun m n=>hd m.1<hd n.1
 lo:∀n∈L,∀p∈T,hd n.1<bt pre.length p
 got:∀k v,(∃n∈L,um n k v)↔YL D pre k v
theorem Row.nil(T:List Pr)(a:List UInt8):Row [] [] T a:=⟨fun n h=>(by cases h),fc,fun n h=>(by cases h),fun k v=>⟨fun⟨n,h,_⟩=>(by cases h),fun⟨p,h,_⟩=>(by cases h)⟩⟩
theorem Row.more{L:List Bn}{D A B:List Pr}{c:List UInt8}{n:Bn}{p:Pr}(r:Row L D (A++B) c)(u:Beg (A++B) c)(s:p∈A)(C:∀a∈A,bt c.length a=bt c.length p)(z:∀b f,B=b::f→bt c.length b≠bt c.length p)(hc:O2 n)(o:hd n.1=bt c.length p)(j:∀k v,um n k v↔YL A c k v):Row (L++ [n]) (D++A) B c:=by
 refine⟨fun m hm=>?_,cE.2 ⟨r.up,List.pairwise_singleton ..,fun a y b w=>?_⟩,fun m hm q d=>?_,fun k v=>?_⟩
 ·rcases bM.1 hm with hm|hm
  ·exact r.can m hm
  ·rw[au.1 hm];exact hc
 ·rw[au.1 w,o]
  exact r.lo a y p (dQ _ s)
 ·rcases bM.1 hm with hm|hm
  ·exact r.lo m hm q (fy _ d)
  ·rw[au.1 hm,o]
   rcases B with _|⟨i,f⟩
   ·cases d
   have F:=z i f rfl;have E:=u.mono s (aC (a:=i) (l:=f));rcases aB.1 d with rfl|d
   ·omega
   ·have g:Beg ([i]++f) c:=u.sub (List.sublist_append_right A _)
    have:=g.mono (au.2 rfl) d;omega
 ·constructor
  ·rintro⟨m,hm,hi⟩
   rcases bM.1 hm with hm|hm
   ·obtain⟨q,d,e⟩:=(r.got k v).1 ⟨m,hm,hi⟩
    exact⟨q,dQ _ d,e⟩
   ·rw[au.1 hm]at hi
    obtain⟨q,d,e⟩:=(j k v).1 hi;exact⟨q,fy _ d,e⟩
  ·rintro⟨q,d,e⟩
   rcases bM.1 d with d|d
   ·obtain⟨m,hm,hi⟩:=(r.got k v).2 ⟨q,d,e⟩
    exact⟨m,dQ _ hm,hi⟩
   ·exact⟨n,fy _ (au.2 rfl),(j k v).2 ⟨q,d,e⟩⟩
theorem Row.done{L:List Bn}{D:List Pr}{a:List UInt8}(r:Row L D [] a):fU (.ofL L)∧∀k v,qt (.ofL L) k v↔YL D a k v:=by
 refine⟨fi.2 ?_,fun k v=>?_⟩
 ·rw[Fo.to_of];exact⟨r.up,r.can⟩
 ·rw[fY,Fo.to_of];exact r.got k v
end Go.Proofs
namespace Go.Proofs
open Go Go.Lift
theorem Qj(s:ByteArray):s.data.toList.length=s.size:=by simp
theorem Kid.less{W W':Nat→Prop}{h:af}(hm:∀b,W' b→W b∨h.size≤b){a:Option Addr}{n:Bn}:Kid W h a n→Kid W' h a n
 |⟨b,sl,e1,e2,e3⟩=>⟨b,sl,e1,e2,e3.less hm⟩
theorem Kid.updM{W M:Nat→Prop}{h c:af}(k:Upd M h c)(hm:∀b,M b→W b∨h.size≤b){a:Option Addr}{n:Bn}:Kid W h a n→Kid W c a n
 |⟨b,sl,e1,e2,e3⟩=>⟨b,sl,e1,e2,e3.updM k hm⟩
theorem RxL.less{W W':Nat→Prop}{h:af}(hm:∀b,W' b→W b∨h.size≤b){ks:List (Option Addr)}{L:List Bn}(r:RxL W h ks L):RxL W' h ks L:=⟨r.1,fun p a=>(r.2 p a).less hm⟩
theorem RxL.updM{W M:Nat→Prop}{h a:af}(k:Upd M h a)(hm:∀b,M b→W b∨h.size≤b){ks:List (Option Addr)}{L:List Bn}(r:RxL W h ks L):RxL W a ks L:=⟨r.1,fun p c=>(r.2 p c).updM k hm⟩
theorem WQ{p:Pr}{n:Nat}(h:n<(ky p).length):∃b:UInt8,p.1[n]? =some b∧b.toNat=bt n p:=by
 rw[Og];refine⟨(ky p)[n],ag h,?_⟩;unfold bt hd;rw[List.drop_eq_getElem_cons h];rfl
end Go.Proofs
namespace Go.Proofs
open Go Go.Lift
theorem vY{h:af}{t:Tr}{k:af→Prop}(d:∀h',h'[h.size]? =some (.cells (lD t).toArray bm (0,0))→Upd No h h'→k h'):
  At (hnew h (lD yF) bm) (fun a=>vo a (some (aI h)) 0 (lD t)∧At (g8 a (aI h) 0 (lD t)) k):=
 aN fun a b1 k1=>cW (c:=lD yF) (vs:=lD t) b1 rfl fun f b2 b=>d f b2 (k1.own b (ao _))
end Go.Proofs
namespace Go.Proofs
open Go Go.Lift
theorem XQ{h:af}{b n:Nat}{t:TypeId}{c d vs:List Value}(a:h[b]? =some (.cells (c++d).toArray t (0,0))) (f:c.length=n) (m:vs.length=d.length) {k:af→Prop}
  (g:∀h',h'[b]? =some (.cells (c++vs).toArray t (0,0))→Upd (· =b) h h'→k h'):vo h (some (adr ⟨b,0,none⟩ n)) 0 vs∧At (g8 h (adr ⟨b,0,none⟩ n) 0 vs) k:=by
 rw[cd,aU];have e:=jH vs h 0 n (c++d) a (by rw[ad];omega);refine⟨.inr ⟨_,rfl,fun j i=>by rw[cd];exact jd a (by rw[df,ad];omega)⟩,ce ?_⟩
 rw[e];refine g _ ?_ (Upd.set h _ rfl);rw[jw a];congr 3
 subst f;rw[dd,List.take_left,f9 (by rw[ad];omega),bB]
abbrev edL(pb tb:Nat)(t:Tr):List Value:= [.pointer (some ⟨pb,0,none⟩),.pointer (some ⟨tb,0,none⟩)]++lD t
def EdAt(h:af)(eb pb tb:Nat)(t:Tr):Prop:=h[eb]? =some (.cells (edL pb tb t).toArray E3 (0,0))
theorem VS{h:af}{tb pb:Nat}{ti:Int}{a:Bool}(k:TokAt h tb pb ti a){K:Bool→af→Prop}(b:K a h):HC PG fK [.pointer (some ⟨tb,0,none⟩)] [.c .bool] K h:=by
 refine CP k.by_ ?_;cases a<;>exact b
theorem zm{h:af}{eb pb tb:Nat}{t:Tr}{ti:Int}{a:Bool}(e:EdAt h eb pb tb t)(k:TokAt h tb pb ti a){K:Bool→af→Prop}(b:K (!a) h):HC PG jS [.pointer (some ⟨eb,0,none⟩)] [.c .bool] K h:=by
 refine B4 _ ?_;unfold uH eH;exact aA.2 ⟨_,rfl,_,vc e 1,VS k b⟩
theorem tT{h:af}{eb pb tb:Nat}{t:Tr}{ti:Int}{a:Bool}(e:EdAt h eb pb tb t)(k:TokAt h tb pb ti a){K:Int→af→Prop}(b:K (if a then 0 else 5) h):HC PG ly [.pointer (some ⟨eb,0,none⟩)] [.c (.int .i64)] K h:=by
 refine ER _ ?_;unfold xm;refine aj.2 (zm e k ?_);cases a
 ·exact aA.2 b
 ·exact aj.2 b
theorem EdAt.upd{M:Nat→Prop}{h a:af}{eb pb tb:Nat}{t:Tr}(e:EdAt h eb pb tb t)(k:Upd M h a)(hm:¬M eb):EdAt a eb pb tb t:=k.get e hm
theorem TokAt.upd{M:Nat→Prop}{h b:af}{tb pb:Nat}{ti:Int}{a:Bool}(e:TokAt h tb pb ti a)(k:Upd M h b)(hm:¬M tb):TokAt b tb pb ti a:=k.get e hm
theorem HV.mono{P:Program}{V:Value}{args:List Value}{ks:List Kind}{K a:wR ks→af→Prop}{h:af}{f:FuncId}{cap:Array Value}(e:V=.func (.func f) #[] cap)(hc:HC P f (args++cap.toList) ks K h)(b:∀t h',K t h'→a t h'):HV P V args ks a h:=by
 subst e;exact HV.mk' (by simpa using hc.mono b)
abbrev Po:List Kind:= [.agg [.int .i64,.int .u64,.int .u64,.int .u64,.ptr,.ptr],.c (.int .i64)]
theorem Ft{h:af}{eb pb tb:Nat}{tu:Tr}{f:FuncId}{cap:Array Value}(e:EdAt h eb pb tb tu){K:Int→af→Prop}
  (hc:HC PG f ([.pointer (some ⟨tb,0,none⟩)]++cap.toList) Po (fun(z:Tr×Int) o=>EdAt o eb pb tb tu∧∀i,Upd No o i→((z.2=0→∀h',EdAt h' eb pb tb z.1→Upd (· =eb) i h'→K 0 h')∧(z.2≠0→K z.2 i))) h):HC PG lY [.pointer (some ⟨eb,0,none⟩),.func (.func f) #[] cap] [.c (.int .i64)] K h:=by
 refine BZ _ _ ?_;unfold uF aq nv bD aQ uO rF ZK Cm eH ph;refine⟨_,rfl,_,vc e 1,HV.mono rfl hc fun(z:Tr×Int) o hz=>?_⟩
 obtain⟨s,hz⟩:=hz;refine aN fun i w v=>cW (c:=lD yF) (vs:=lD z.1) w rfl fun u a m=>?_
 have g:=v.own m (ao _);obtain⟨j,k⟩:=hz u g;refine CondP.intro (fun b=>?_) fun b=>?_
 ·have b:z.2=0:=by simpa using b
  refine⟨_,vc a 0,_,vc a 1,_,vc a 2,_,vc a 3,_,vc a 4,_,vc a 5,_,rfl,?_⟩;refine XQ (c:= [.pointer (some ⟨pb,0,none⟩),.pointer (some ⟨tb,0,none⟩)]) (d:=lD tu) (vs:=lD z.1) (s.upd g id) rfl rfl fun p q n=>?_
  rw[b];exact j b p q n
 ·exact k (by simpa using b)
structure EdO(W S:Nat→Prop)(h:af)(eb pb tb:Nat)(ti:Int)(kind:Int)(x:Hs)(tu:Tr)(lu:List Pr):Prop where
 ed:EdAt h eb pb tb tu
 tk:TokAt h tb pb ti true
 iu:TreeO (some ⟨tb,0,none⟩) (fun y=>W y∨S y) h kind x tu lu S
 lt:∀y,(W y∨S y)→y<h.size
 we:W eb
 wt:W tb
 ap:∀y,S y→¬W y
 up:cA lu
 fit:Fit lu
theorem EdO.can{W S:Nat→Prop}{h:af}{eb pb tb:Nat}{ti:Int}{b:Int}{x:Hs}{tu:Tr}{lu:List Pr}(e:EdO W S h eb pb tb ti b x tu lu):Can (some ⟨tb,0,none⟩) (some ⟨tb,0,none⟩) (fun y=>W y∨S y) S h:=
 ⟨e.tk.by_,e.lt,fun y d=>.inr d,fun a h=>by cases h;exact .inl e.wt,fun a h c=>by cases h;exact e.ap _ c e.wt⟩
theorem EdO.fin{W S i:Nat→Prop}{h m o A B j:af}{eb pb tb b:Nat}{ti:Int}{d:Int}{x:Hs}{tu g:Tr}{lu f:List Pr}(e:EdO W S h eb pb tb ti d x tu lu)(w:Upd No h m)(C:Upd S m o)(L:TreeO (some ⟨tb,0,none⟩) (fun y=>Pro (fun y=>W y∨S y) h m y∨i y) o d x g f i)(k:∀y,i y→(S y∨m.size≤y)∧y<o.size)
  (s:Upd (· =b) o A)(F:h.size≤b)(E:b<m.size)(p:Upd No A B)(G:EdAt j eb pb tb g)(u:Upd (· =eb) B j)(up:cA f)(fit:Fit f):EdO W i j eb pb tb ti d x g f∧Upd (fun y=>S y∨y=eb) h j∧∀y,i y→(S y∨h.size≤y)∧y<j.size:=by
 have s3:=w.size;have O:=C.size;have P:=s.size;have M:=p.size;have N:=u.size;have q:∀y,S y→y<h.size:=fun y c=>e.lt y (.inr c)
 have K:=e.lt _ (.inl e.we);have I:=e.lt _ (.inl e.wt);have v:∀{z},W z→¬i z:=fun n h=>by
  rcases(k _ h).1 with h|h
  ·exact e.ap _ h n
  ·have:=e.lt _ (.inl n);omega
 have D:Upd (fun y=>S y∨y=eb) h j:=(((w.wide.tr (C.mono fun y c=>.inl (.inl c))).trans s fun y c=>.inr (by have c:y=b:=c;omega)).tr p.wide).trans u fun y c=>.inl (.inr c)
 have J:=L.loc s F E q k;have H:=(J.upd0 p).upd u (fun y c=>by have:=(k y c).2;omega) fun y c=>by
  have c:y=eb:=c;subst c;exact .inl ⟨.inl (.inl (.inl e.we)),v e.we⟩
 refine⟨⟨G,e.tk.upd D fun h=>?_,H.less fun y c=>.inl (c.imp (fun h=>.inl (.inl h)) id),fun y c=>c.elim (fun h=>?_) fun h=>?_,e.we,e.wt,fun y c n=>v n c,up,fit⟩,D,fun y c=>⟨(k y c).1.imp id fun h=>by omega,by have:=(k y c).2;omega⟩⟩
 ·rcases h with h|h
  ·exact e.ap _ h e.wt
  ·have a:=e.tk
   rw[h]at a;have a:=a.symm.trans e.ed;simp at a
 ·have:=e.lt y (.inl h);omega
 ·have:=(k y h).2;omega
set_option maxHeartbeats 1000000 in
theorem Oo{W S:Nat→Prop}{h:af}{eb pb tb:Nat}{ti:Int}{g:Int}{x:Hs}{tu:Tr}{lu:List Pr}(e:EdO W S h eb pb tb ti g x tu lu)(T:lu.length≤1000000)(p:Pr){K:Int→af→Prop}
  (F:∀n a o,EdO W o n eb pb tb ti g x a (mZ lu p)→Upd (fun y=>S y∨y=eb) h n→(∀y,o y→(S y∨h.size≤y)∧y<n.size)→K (DW p) n)(f:Fit (mZ lu p)):HC PG hE [.pointer (some ⟨eb,0,none⟩),.agg #[.string p.1,.string p.2]] [.c (.int .i64)] K h:=by
 refine yr _ p ?_;unfold sW tc;refine aN fun X b1 k1=>aN fun V b2 C=>?_
 have Y:=aL b1;have z2:=aL b2;have s1:=k1.size;have s2:=C.size;have c1:=C.get0 b1;have d:=k1.tr C;refine⟨_,vc c1 0,tT (e.ed.upd d id) (e.tk.upd d id) (aj.2 ⟨_,vc c1 0,?_⟩)⟩;refine Ft (e.ed.upd d id) (Du _ _ _ ?_);unfold vL aq bo eX bD aQ uO rF yM oZ gO ci eH;refine aN fun Z b3 A=>?_
 have H:=aL b3;have b:=d.tr A;have j:=e.ed.upd b id;have G:=A.get0 b2;have I:=A.get0 c1;refine⟨_,vc I 0,_,rfl,_,ga j 2 0,_,ga j 2 1,_,ga j 2 2,_,ga j 2 3,_,ga j 2 4,_,ga j 2 5,p.1,vc G 0,p.2,vc G 1,?_⟩;have q:∀y,S y→y<h.size:=fun y N=>e.lt y (.inr N)
 refine JZ (e.iu.pro b) (e.can.pro b) e.up T p fun h4 a o m L v R=>?_
 have s4:=m.size;refine⟨vc (m.get I fun u=>by have:=q _ u;omega) 0,?_⟩
 refine cW (c:=lD yF) (vs:=lD a) (m.get b3 fun u=>by have:=q _ u;omega) rfl fun O k i=>?_
 refine⟨_,vc k 0,_,vc k 1,_,vc k 2,_,vc k 3,_,vc k 4,_,vc k 5,?_⟩;have J:EdAt O eb pb tb tu:=(j.upd m fun u=>e.ap _ u e.we).upd i (by have:=e.lt _ (.inl e.we);omega)
 have s:cA (mZ lu p):=by
  unfold mZ;split
  ·exact zR p e.up
  ·exact e.up
 refine⟨J,fun Q w=>⟨fun hz n M z=>?_,fun hz=>?_⟩⟩
 ·obtain⟨B,D,E⟩:=e.fin b m L v i (by omega) H w M z s f
  have hz:DW p=0:=hz;rw[hz]at F;exact F n a o B D E
 ·have hz:DW p≠0:=hz
  have P:=R hz;subst P;obtain⟨B,D,E⟩:=e.fin b m L v i (by omega) H w (J.upd w id) (Upd.refl _ _) s f;exact F Q a o B D E
end Go.Proofs
namespace Go.Proofs
open Go Go.Lift
theorem G8{W:Nat→Prop}{h:af}{b:Nat}{sl:ByteArray}{w:Option ByteArray}{F:Fo}(r:RxN W h b sl w F){K:ByteArray→af→Prop}(a:K sl h):HC PG lX [.pointer (some ⟨b,0,none⟩)] [.c .str] K h:=by
 refine BW _ ?_;unfold uD bo;obtain⟨val,s,ow,ks,c,_⟩:=r;exact aj.2 ⟨_,rfl,sl,dI (i:=0) c,a⟩
theorem G5{W:Nat→Prop}{h:af}{b:Nat}{sl:ByteArray}{w:Option ByteArray}{F:Fo}(r:RxN W h b sl w F){K:ByteArray×Bool→af→Prop}(c:∀v,(∀u,w=some u→v=u)→K (v,w.isSome) h):HC PG iy [.pointer (some ⟨b,0,none⟩)] [.c .str,.c .bool] K h:=by
 refine uq _ ?_;unfold pI bo dZ;obtain⟨val,s,ow,ks,a,hv,_⟩:=r;exact aj.2 ⟨_,rfl,val,dI (i:=2) a,_,rfl,w.isSome,dI (i:=1) a,c val (vw hv)⟩
theorem Nt{W:Nat→Prop}{h:af}{b:Nat}{sl:ByteArray}{w:Option ByteArray}{F:Fo}(r:RxN W h b sl w F){K:ByteArray×Bool→af→Prop}(c:K (w.getD ⟨#[]⟩,w.isSome) h):HC PG iy [.pointer (some ⟨b,0,none⟩)] [.c .str,.c .bool] K h:=by
 refine uq _ ?_;unfold pI bo dZ;obtain⟨val,s,ow,ks,a,rfl,_⟩:=r;exact aj.2 ⟨_,rfl,_,dI (i:=2) a,_,rfl,w.isSome,dI (i:=1) a,c⟩
theorem Ke{W:Nat→Prop}{h:af}{b:Nat}{sl:ByteArray}{w:Option ByteArray}{F:Fo}(r:RxN W h b sl w F)(n:F.toL.length≤256){K:SliceV→af→Prop}(j:∀s' a ks,OwnS m9 1 bw (fun y=>h.size≤y) a s' ks→RxL W a ks F.toL→Upd No h a→K s' a):HC PG mO [.pointer (some ⟨b,0,none⟩)] [.c .slice] K h:=by
 refine Dl _ ?_;unfold vE aK;obtain⟨val,s,ow,ks,f,hv,k,_,g⟩:=r;have d:=rB.1 g;refine aj.2 ⟨_,rfl,s,dI (i:=3) f,?_⟩;refine K5 k (by rw[d.1];omega) fun s' a m c=>j s' a ks m (d.upd0 c) c
theorem N2(x:List UInt8):Op.bytesLess x []=false:=by cases x<;>rfl
theorem NZ:(⟨#[]⟩:ByteArray).toList= []:=by rw[ByteArray.toList_eq]
theorem X8{k:ByteArray}{h:af}{K:Bool→af→Prop}(b:∀a,Upd No h a→K false a):HC PG rc [.agg #[.string ⟨#[]⟩,.string ⟨#[]⟩,.bool true],.string k] [.c .bool] K h:=by
 refine EH (⟨#[]⟩,⟨#[]⟩,true) k ?_;unfold xa aD jm qW Jj;refine aN fun d b1 k1=>?_
 refine Join.intro (fun t a=>t=false∧a=d) (fun R c=>⟨true,vc b1 2,aj.2 (c _ _ ⟨rfl,rfl⟩)⟩) ?_
 rintro t a ⟨rfl,rfl⟩;refine aj.2 ⟨_,vc b1 0,?_⟩;rw[NZ,N2];exact aj.2 (b a k1)
theorem Oc{k:ByteArray}{h:af}{K:Bool→af→Prop}(a:∀h',Upd No h h'→K true h'):HC PG sJ [.agg #[.string ⟨#[]⟩,.string ⟨#[]⟩,.bool true],.string k] [.c .bool] K h:=by
 refine F4 (⟨#[]⟩,⟨#[]⟩,true) k ?_;unfold yv aD qW Jj;refine aN fun b b1 k1=>⟨_,vc b1 0,?_⟩
 rw[NZ,N2];exact aA.2 ⟨true,vc b1 2,aA.2 (a b k1)⟩
def It.Ok(W:Nat→Prop)(h:af)(i:It):Prop:=RxN W h i.b i.sl i.w i.F∧fU i.F∧i.key.length≤10000∧∀p∈ng i.w i.F,i.key.length+p.1.length≤10000
theorem It.Ok.updM{W M:Nat→Prop}{h a:af}(k:Upd M h a)(hm:∀b,M b→W b∨h.size≤b){i:It}(o:It.Ok W h i):It.Ok W a i:=⟨o.1.updM k hm,o.2⟩
theorem Se{W:Nat→Prop}{h:af}(ah:ByteArray):∀{ks:List (Option Addr)} {L:List Bn},RxL W h ks L→∃its:List It,its.map It.raw=ks.map (fun k=>(k,ah,false))∧its.map (fun i=>(i.sl.data.toList,i.w,i.F))=L∧∀i∈its,i.ah=ah∧i.own=false∧RxN W h i.b i.sl i.w i.F
 | [],[],_=>⟨[],rfl,rfl,by simp⟩
 | [],_::_,r=>absurd r.1 (by simp)
 |_::_,[],r=>absurd r.1 (by simp)
 |k::ks,n::L,r=>by
  obtain⟨its,j,g,m⟩:=Se ah (ks:=ks) (L:=L) ⟨by simpa using r.1,fun p f=>r.2 p (by rw[gA];exact aV _ f)⟩
  obtain⟨b,sl,a,d,c⟩:=r.2 (k,n) (by rw[gA];exact aC ..);simp only at a d c;refine⟨⟨b,ah,false,sl,n.2.1,n.2.2⟩::its,?_,?_,?_⟩
  ·rw[cG,cG,j,a];rfl
  ·rw[cG,g];simp only[d]
  ·intro i hi
   rcases aB.1 hi with rfl|hi
   ·exact⟨rfl,rfl,c⟩
   ·exact m i hi
theorem Kr(lab:List UInt8)(w:Option ByteArray)(a b:Fo):Ap (.cons lab w a b)=((w.map fun v=>(([]:List UInt8),v)).toList++Ap a).map (fun p=>(lab++p.1,p.2))++Ap b:=rfl
theorem T9(lab:List UInt8)(w:Option ByteArray)(a b:Fo):C3 (.cons lab w a b)=1+C3 a+C3 b:=rfl
theorem NN{ah:ByteArray}{key:List UInt8}(a:ah.data.toList=key):∀{F:Fo} {its:List It},its.map (fun i=>(i.sl.data.toList,i.w,i.F))=F.toL→(∀i∈its,i.ah=ah∧i.own=false)→its.flatMap It.prs=(Ap F).map fun p=>(key++p.1,p.2)
 | .nil,its,h,_=>by
  have:its= []:=by simpa[Fo.toL]using h
  rw[this];rfl
 | .cons lab w kids rest,[],h,_=>by simp[Fo.toL]at h
 | .cons lab w kids rest,i::its,h,ha=>by
  rw[Fo.toL_cons,cG,fH.injEq]at h;obtain⟨b,k⟩:=h;simp only[rP.injEq]at b;obtain⟨f,m,g⟩:=b;rw[ba,NN a k fun j d=>ha j (aV _ d)]
  obtain⟨n,c⟩:=ha i (aC ..);rw[Kr,bU,tQ];congr 1
  unfold It.prs It.key ng;rw[c,n,a,f,m,g];simp only[dX,if_false,az,bU,Function.comp_def]
theorem Oz:∀{F:Fo} {its:List It},its.map (fun i=>(i.sl.data.toList,i.w,i.F))=F.toL→(∀i∈its,i.own=false)→lP its=2*C3 F
 | .nil,its,h,_=>by
  have:its= []:=by simpa[Fo.toL]using h
  rw[this];rfl
 | .cons lab w kids rest,[],h,_=>by simp[Fo.toL]at h
 | .cons lab w kids rest,i::its,h,ha=>by
  rw[Fo.toL_cons,cG,fH.injEq]at h;obtain⟨a,b⟩:=h;simp only[rP.injEq]at a;have e:=Oz b fun j c=>ha j (aV _ c)
  unfold lP at e⊢;rw[cG,kS,e];rw[T9];unfold It.cost;rw[ha i (aC ..),a.2.2];simp only[dX,if_false];omega
theorem Hv:∀l:List It,l.length≤lP l
 | []=>ao _
 |i::l=>by
  have:=Hv l;unfold lP at this⊢;rw[cG,kS,aH];have:1≤i.cost:=by unfold It.cost;split<;>omega
  omega
abbrev Yy(s:SliceV):Array Value:= #[sv s,.string (⟨#[]⟩:ByteArray),.string (⟨#[]⟩:ByteArray),.bool true,.bool false]
structure Cur(W:Nat→Prop)(h:af)(cb:Nat)(C:Nat→Prop)(items:List It):Prop where
 ex:∃s,h[cb]? =some (.cells (Yy s) AI (0,0))∧OwnS SQ 3 eK C h s (items.map It.raw)
 ok:∀i∈items,It.Ok W h i
theorem ZJ{W:Nat→Prop}{h g:af}{i:It}(b:It.Ok W h i)(u:i.own=false){its:List It}(e:its.map (fun i=>(i.sl.data.toList,i.w,i.F))=i.F.toL){ah:ByteArray}(m:ah.data.toList=i.key)(hi:∀j∈its,j.ah=ah∧j.own=false∧RxN W g j.b j.sl j.w j.F):∀j∈its,It.Ok W g j:=by
 intro j f;obtain⟨q,s,n⟩:=hi j f;have hm:(j.sl.data.toList,j.w,j.F)∈i.F.toL:=by rw[←e];exact iK.2 ⟨j,f,rfl⟩
 have d:=(fi.1 b.2.1).2 _ hm;have a:∀p∈ng j.w j.F,j.key.length+p.1.length≤10000:=fun p o=>by
  have c:qt i.F (j.sl.data.toList++p.1) p.2:=fY.2 ⟨_,hm,p.1,rfl,kB.1 (show(p.1,p.2)∈_ from o)⟩
  have:=b.2.2.2 (j.sl.data.toList++p.1,p.2) (kB.2 (.inr c));unfold It.key at this⊢;rw[q,m];unfold It.key;simp only[ad]at this⊢;omega
 obtain⟨r,v,k⟩:=nq b.2.1 _ hm;have:=a (r,v) (kB.2 k);exact⟨n,d.2.2,by simp only at this;omega,a⟩
set_option maxHeartbeats 1000000 in
theorem X5{W C:Nat→Prop}{h:af}{cb:Nat}{d:List It}{i:It}(L:Cur W h cb C d)(E:It.Ok W h i)(ho:i.own=false)(hC:∀b,h.size≤b→C b)(u:∀b,C b→W b)(z:W cb)(Q:¬C cb)(hcost:lP d+i.cost≤100000000){K:Unit→af→Prop}
  (hk:∀D kids,Cur W D cb C (d++kids)→xA kids=i.prs→lP kids<i.cost→Upd (fun b=>C b∨b=cb) h D→K () D):HC PG pu [.pointer (some ⟨cb,0,none⟩),.agg #[.pointer (some ⟨i.b,0,none⟩),.string i.ah,.bool i.own]] [] K h:=by
 refine BP (some ⟨cb,0,none⟩) i.raw ?_;unfold uw bH cS bo aD aQ cz aK dZ Nd Ja Pf aaM;obtain⟨s,aR,hst⟩:=L.ex;refine aN fun h1 b1 k1=>?_
 have zc:=aL aR;have s1:=k1.size;refine⟨i.ah,vc b1 1,_,vc b1 0,?_⟩;have io1:=E.updM (k1.wide (M:=C)) fun b c=>.inl (u b c)
 refine G8 io1.1 ⟨vc b1 1,?_,?_⟩
 ·have:=E.2.2.1
  unfold It.key at this;rw[ad]at this;have e1:i.ah.data.toList.length=i.ah.size:=by simp
  have e2:i.sl.data.toList.length=i.sl.size:=by simp
  omega
 have c1:=k1.get0 aR;refine⟨_,rfl,_,ga c1 1 0,_,ga c1 1 1,true,ga c1 1 2,?_⟩;refine X8 fun y k2=>aj.2 ⟨_,vc (k2.get0 b1) 0,i.ah,vc (k2.get0 b1) 1,?_⟩
 have N:=k1.tr k2;refine aN fun A b3 k3=>⟨_,vc (k3.get0 (k2.get0 b1)) 0,?_⟩
 have X:=N.tr k3;have z3:=aL b3;have s2:=N.size;have io3:=E.updM (X.wide (M:=C)) fun b c=>.inl (u b c)
 have hn:=kJ E.2.1;refine Ke io3.1 hn fun s4 g ks ho4 T k4=>?_
 have F:=X.tr k4;have hs4:Sl m9 1 (fun b=>y.size≤b∧b<A.size∨g.size≤b) g s4 ks:=ho4.sl fun b c o hx=>by rcases hx with hx|hx<;>omega
 have hlk:ks.length≤256:=by rw[T.1];exact hn
 have hlen4:=hs4.len;have s34:=k4.size;let own:It:=⟨i.b,i.ah,true,i.sl,i.w,i.F⟩
 have o3:OwnS SQ 3 eK (fun b=>y.size≤b∧b<A.size∨g.size≤b) g ⟨some (aI y),1,1⟩ [own.raw]:=⟨rfl,Lq,ao _,.inr ⟨y.size,[],rfl,.inl ⟨ao _,z3⟩,k4.get0 b3,rfl⟩⟩
 have O:(i.ah++i.sl).data.toList=i.key:=by unfold It.key;rw[qR,Array.toList_append]
 obtain⟨its,e1,e2,e3⟩:=Se (i.ah++i.sl) T;have V:=(hst.within.upd F fun _ _ h=>h)
 have c4:=F.get0 aR;have hM:∀b,g.size≤b→(y.size≤b∧b<A.size∨g.size≤b):=fun b c=>.inr c
 refine LoopP.ghost (fun(n:Nat) (t:SliceV×Int) D=>t.2=(n:Int)∧n≤ks.length∧OwnS SQ 3 eK (fun b=>y.size≤b∧b<A.size∨g.size≤b) D t.1 (own.raw::(ks.take n).map fun k=>(k,i.ah++i.sl,false))∧Upd (fun b=>y.size≤b∧b<A.size∨g.size≤b) g D) (fun n=>ks.length-n) 0 ⟨rfl,bj _,by simpa using o3,Upd.refl _ _⟩ ?_
 rintro I n ⟨so,ti⟩ D ⟨et,hnk,B,P⟩ hI;simp only at et B;subst et;have hsz:=P.size;refine aM (fun o=>?_) fun hge=>?_
 ·have o:n<ks.length:=by have:(n:Int)<(s4.len:Int):=o;omega
  obtain⟨a,ha,_,hv⟩:=(hs4.upd P fun b c=>.inl c).at0 (ag o)
  refine Join.intro (fun t q=>OwnS SQ 3 eK (fun b=>y.size≤b∧b<A.size∨g.size≤b) q t (own.raw::(ks.take (n+1)).map fun k=>(k,i.ah++i.sl,false))∧Upd (fun b=>y.size≤b∧b<A.size∨g.size≤b) g q) (fun R hR=>⟨⟨by simp only;omega,by simp only;omega⟩,a,ha,ks[n],hv,aN fun h5 b5 k5=>?_⟩) ?_
  ·have o5:OwnS SQ 3 eK (fun _=>True) h5 ⟨some (aI D),1,1⟩ [(ks[n],i.ah++i.sl,false)]:=⟨rfl,Lq,ao _,.inr ⟨D.size,[],rfl,trivial,b5,rfl⟩⟩
   refine⟨_,(o5.sl (W:=No) fun _ _ _ h=>h).srow,?_⟩
   have s5:=k5.size;refine AppP.own (ys:= [(ks[n],i.ah++i.sl,false)]) (B.upd k5 fun _ _ h=>h) rfl rfl rfl rfl (by omega) (by rw[aH,bF,aP,aF];omega) (.inr (by omega)) fun s6 h6 w f=>hR _ _ ⟨?_,(P.tr k5.wide).tr f⟩
   rw[List.take_succ_eq_append_getElem o,bU];exact w
  ·rintro t q ⟨ho2,hu2⟩
   rw[cO o (by omega)];exact hI (n+1) _ _ ⟨rfl,o,ho2,hu2⟩ (by omega)
 ·have hnl:n=ks.length:=by have:¬(n:Int)<(s4.len:Int):=hge;omega
  subst hnl;rw[cp,←e1]at B;have m:∀b,(y.size≤b∧b<A.size∨g.size≤b)→h.size≤b:=fun b c=>by rcases c with c|c<;>omega
  have hlits:its.length=ks.length:=by have:=congrArg eL e1;simpa using this
  refine Join.intro (fun _ q=>OwnS SQ 3 eK (fun b=>y.size≤b∧b<A.size∨g.size≤b) q so (own.raw::its.map It.raw).reverse∧Upd (fun b=>y.size≤b∧b<A.size∨g.size≤b) g q) (fun R hR=>?_) ?_
  ·have c5:=P.get c4 (fun c=>by have:=m _ c;omega)
   refine⟨_,rfl,false,vc c5 4,aA.2 ?_⟩;exact PM B (by rw[aH,bF];omega) fun h6 w f=>hR _ _ ⟨w,P.tr f⟩
  ·rintro _ h6 ⟨w,f⟩
   have c6:=f.get c4 (fun c=>by have:=m _ c;omega)
   have Y:=V.upd f fun b c hx=>by have:=m _ hx;omega
   refine⟨_,rfl,s,vc c6 0,?_⟩;have s6:=f.size;refine⟨_,(w.sl (W:=No) fun _ _ _ h=>h).srow,?_⟩
   have hrl:=w.len;have hil:=Hv d;have Z:(own.raw::its.map It.raw).reverse=(its.reverse++ [own]).map It.raw:=by rw[List.reverse_cons,bU,List.map_reverse];rfl
   refine AppP.own (M:=C) (ys:=(own.raw::its.map It.raw).reverse) (Y.more fun b c=>c.1) hrl rfl (RX _) rfl (by omega) (by rw[List.length_reverse,aH,bF,bF];omega) (hC _ (by omega)) fun s7 h7 ho7 J=>?_
   have c7:=J.get c6 Q;refine⟨_,rfl,?_⟩;refine kU (i:=0) (c':=Yy s7) c7 (show 0<5 by decide) rfl fun h8 c8 H=>?_
   have ho8:=ho7.upd H fun b c e=>Q (by have e:b=cb:=e;rw[←e];exact c)
   rw[Z,←bU]at ho8;have G:Upd (fun b=>C b∨b=cb) h h8:=(((F.wide (M:=C)).trans f fun b c=>.inr (m b c)).tr J).mono (fun b c=>.inl (.inl c))|>.trans H fun b c=>.inl (.inr c)
   have S:∀{j:It},It.Ok W g j→It.Ok W h8 j:=fun oj=>((oj.updM f fun b c=>.inl (u b (hC b (m b c)))).updM J fun b c=>.inl (u b c)).updM H fun b c=>.inl (by have c:b=cb:=c;rw[c];exact z)
   refine hk h8 (its.reverse++ [own]) ⟨⟨s7,c8,ho8⟩,fun j p=>?_⟩ ?_ ?_ G
   ·rcases bM.1 p with p|p
    ·exact(L.ok j p).updM G fun b c=>.inl (c.elim (u b) fun e=>e▸z)
    ·rcases bM.1 p with p|p
     ·exact S (ZJ E ho e2 O e3 j (List.mem_reverse.1 p))
     ·rw[au.1 p]
      exact It.Ok.updM (i:=own) G (fun b c=>.inl (c.elim (u b) fun e=>e▸z)) ⟨E.1,E.2⟩
   ·rw[Kj]
    unfold xA;rw[List.reverse_reverse,NN O e2 fun j p=>⟨(e3 j p).1,(e3 j p).2.1⟩]
    show(i.w.map fun v=>(own.key,v)).toList++_=It.prs i
    have hke:own.key=i.key:=rfl;unfold It.prs ng;rw[ho,hke];simp only[dX,if_false,bU];congr 1
    cases i.w with
    |none=>rfl
    |some v=>simp
   ·rw[Ag]
    have hc1:lP its.reverse=lP its:=by unfold lP;rw[List.map_reverse,List.sum_reverse]
    rw[hc1,Oz e2 fun j p=>(e3 j p).2.1]
    have:lP [own]=1:=rfl;rw[this];unfold It.cost;rw[ho];simp only[dX,if_false];omega
end Go.Proofs
namespace Go.Proofs
open Go Go.Lift
theorem Cur.upd{W C M:Nat→Prop}{h j:af}{cb:Nat}{a:List It}(c:Cur W h cb C a)(k:Upd M h j)(o:∀b,M b→W b∨h.size≤b)(g:∀b,C b→b<h.size→¬M b)(f:¬M cb):Cur W j cb C a:=by
 obtain⟨s,n,m⟩:=c.ex;exact⟨⟨s,k.get n f,(m.within.upd k fun b d=>g b d.1 d.2).more fun b d=>d.1⟩,fun i hi=>(c.ok i hi).updM k o⟩
theorem Cur.sub{W C f:Nat→Prop}{h:af}{cb:Nat}{a:List It}(c:Cur W h cb C a)(g:∀b,C b→b<h.size→f b):Cur W h cb f a:=by
 obtain⟨s,j,i⟩:=c.ex;exact⟨⟨s,j,i.within.more fun b d=>g b d.1 d.2⟩,c.ok⟩
set_option maxHeartbeats 1000000 in
theorem Yc{W C:Nat→Prop}{h:af}{cb:Nat}{f:List It}(S:Cur W h cb C f)(hC:∀b,h.size≤b→C b)(hCW:∀b,C b→W b)(F:W cb)(hcb:¬C cb)(hcost:lP f≤100000000){K:(ByteArray×ByteArray)×Bool→af→Prop}
  (hn:∀n,xA f= []→Upd (fun b=>C b∨b=cb) h n→K (((⟨#[]⟩:ByteArray),(⟨#[]⟩:ByteArray)),false) n)
  (hs:∀n items' k v R,xA f=(k,v)::R→xA items'=R→lP items'≤lP f→Cur W n cb C items'→Upd (fun b=>C b∨b=cb) h n→K ((⟨k.toArray⟩,v),true) n):
  HC PG px [.pointer (some ⟨cb,0,none⟩)] [.agg [.str,.str],.c .bool] K h:=by
 refine BQ (some ⟨cb,0,none⟩) ?_;unfold ux bH cS bo aD eX aQ cz jm aK lf dZ qW Nd Ja Pf aaz;refine aN fun h1 b1 k1=>aj.2 ?_
 have z1:=aL b1;obtain⟨s0,hc0,_⟩:=S.ex;have zc:=aL hc0;have s1:=k1.size;have hC1:∀b,h1.size≤b→C b∧b≠h.size:=fun b g=>⟨hC b (by omega),by omega⟩
 have cur1:Cur W h1 cb (fun b=>C b∧b≠h.size) f:=(S.sub fun b g hlt=>(⟨g,by omega⟩:C b∧b≠h.size)).upd k1 (fun _ h=>h.elim) (fun _ _ _ h=>h) fun h=>h
 refine LoopP.ghost (fun(its:List It) (_:Unit) n=>Cur W n cb (fun b=>C b∧b≠h.size) its∧xA its=xA f∧lP its≤lP f∧n[h.size]? =some (.cells zPrL.toArray ay (0,0))∧Upd (fun b=>C b∨b=cb) h n∧h1.size≤n.size) lP f ⟨cur1,rfl,ao _,b1,k1.wide,ao _⟩ ?_
 rintro I its ⟨⟩ n ⟨cu,m,hco,bz,hu,hsz⟩ hI;obtain⟨s,aR,w⟩:=cu.ex;have A:=w.len;rw[bF]at A;refine⟨_,rfl,s,vc aR 0,?_⟩;refine aM (fun p=>?_) fun hnp=>?_
 ·have p:0<its.length:=by omega
  obtain⟨d,i,rfl⟩:∃d i,its=d++ [i]:=⟨its.dropLast,its.getLast (by intro e;rw[e]at p;simp at p),(List.dropLast_concat_getLast _).symm⟩;rw[bU]at w;rw[ad,aF]at A;have hil:=Hv (d++ [i]);rw[ad,aF]at hil;have D:IntKind.wrap .i64 ((s.len:Int)-1)=((d.length:Nat):Int):=by rw[jj (by omega)];omega
  have sl:=w.sl (W:=No) fun _ _ _ h=>h
  obtain⟨a,ha,_,hv⟩:=sl.at (i:=d.length) (x:=i.raw) (by rw[bh (by rw[bF];omega),bF,gu];rfl);have hio:=cu.ok i (fy _ (au.2 rfl));refine⟨_,rfl,s,vc aR 0,_,rfl,s,vc aR 0,?_⟩;rw[D];refine⟨⟨by omega,by omega⟩,a,ha,some ⟨i.b,0,none⟩,hv 0 _ rfl,i.ah,hv 1 _ rfl,i.own,hv 2 _ rfl,?_⟩
  refine aN fun h2 b2 k2=>?_
  have sl2:=sl.upd k2 fun _ h=>h.elim
  obtain⟨a',ha',_,N⟩:=sl2.at (i:=d.length) (x:=i.raw) (by rw[bh (by rw[bF];omega),bF,gu];rfl);rw[ha]at ha';cases ha';have c2:=k2.get0 aR;refine⟨⟨N 0 _ rfl,N 1 _ rfl,N 2 _ rfl⟩,vc c2 0,vc c2 0,?_⟩;refine cW (c:= [.pointer none,.string (⟨#[]⟩:ByteArray),.bool false]) (vs:= [.pointer (some ⟨i.b,0,none⟩),.string i.ah,.bool i.own]) b2 rfl fun h3 b3 hu3=>?_
  have Q:Upd No n h3:=k2.own hu3 (ao _);have c3:=Q.get0 aR;have zcb:=aL aR;have z3:=aL b3;have s3:=Q.size;refine⟨_,rfl,s,vc c3 0,_,rfl,s,vc c3 0,?_⟩;rw[D];have hcap:=w.cap;refine⟨⟨by omega,by omega⟩,?_⟩
  simp only[Bd];refine⟨_,rfl,?_⟩;refine kU (i:=0) (c':=Yy ⟨bq s.a 0 s.cap 3,d.length,s.cap⟩) c3 (show 0<5 by decide) rfl fun V c4 o=>?_
  have B:=o.oth b3 (by omega);have bz4:=o.oth (Q.get0 bz) (by omega);have hpop:=OwnS.pop w;have E:=((hpop.upd Q fun _ _ h=>h).upd o fun b g e=>hcb (by have e:b=cb:=e;rw[←e];exact g.1))
  rw[bF]at E;have huW:∀{j},It.Ok W n j→It.Ok W V j:=fun oj=>(oj.updM Q fun _ h=>h.elim).updM o fun b g=>.inl (by have g:b=cb:=g;rw[g];exact F)
  have Y:Cur W V cb (fun b=>C b∧b≠h.size) d:=⟨⟨_,c4,E⟩,fun j hj=>huW (cu.ok j (dQ _ hj))⟩
  have q:=huW hio;have J:Upd (fun b=>C b∨b=cb) h V:=(hu.tr Q.wide).trans o fun b g=>.inl (.inr g)
  have s4:=o.size;have hcs:lP (d++ [i])=lP d+i.cost:=by rw[Ag];rfl
  have O:=Kj d i;have hic:1≤i.cost:=by unfold It.cost;split<;>omega
  refine⟨i.own,vc B 2,?_⟩;cases how:i.own with
  |false=>
   refine aA.2 ⟨_,vc B 0,i.ah,vc B 1,i.own,vc B 2,?_⟩;refine X5 Y q how (fun b g=>hC1 b (by omega)) (fun b g=>hCW b g.1) F (fun hx=>hcb hx.1) (by omega) fun H kids z hr5 hc5 L=>?_
   have hu5':Upd (fun b=>C b∨b=cb) V H:=L.mono fun b g=>.inl (g.imp (fun h=>h.1) id)
   refine hI (d++kids) () H ⟨z,?_,?_,L.get bz4 (fun hx=>by rcases hx with hx|hx;exact hx.2 rfl;omega),J.tr hu5',by have:=L.size;omega⟩ ?_
   ·rw[Vu,hr5,←m,O]
   ·rw[Ag];omega
   ·rw[Ag];omega
  |true=>
   refine aj.2 ⟨i.ah,vc B 1,_,vc B 0,?_⟩;refine G8 q.1 ⟨vc B 1,?_,?_⟩
   ·have:=hio.2.2.1
    unfold It.key at this;rw[ad]at this;have e1:i.ah.data.toList.length=i.ah.size:=by simp
    have e2:i.sl.data.toList.length=i.sl.size:=by simp
    omega
   refine⟨_,vc B 0,G5 q.1 fun v hvw=>?_⟩
   have T:i.prs=(i.w.map fun v=>(i.key,v)).toList:=by unfold It.prs;rw[how];rfl
   have X:(⟨i.key.toArray⟩:ByteArray)=i.ah++i.sl:=by rw[←pE,qR,Array.toList_append];rfl
   refine Join.intro (fun t H=>t=i.w.isSome∧Upd No V H) (fun R hR=>?_) ?_
   ·cases hw:i.w with
    |none=>exact aj.2 (hR _ _ ⟨by rw[hw];rfl,Upd.refl _ _⟩)
    |some u=>exact aA.2 ⟨_,rfl,_,ga c4 1 0,_,ga c4 1 1,true,ga c4 1 2,Oc fun H P=>hR _ _ ⟨by rw[hw];rfl,P⟩⟩
   ·rintro t H ⟨rfl,P⟩
    have z:Cur W H cb (fun b=>C b∧b≠h.size) d:=Y.upd P (fun _ h=>h.elim) (fun _ _ _ h=>h) fun h=>h
    have Z:=P.get0 bz4;have G:=J.tr (P.wide (M:=fun b=>C b∨b=cb))
    have s5:=P.size;cases hw:i.w with
    |none=>
     refine aj.2 (hI d () H ⟨z,?_,by omega,Z,G,by omega⟩ (by omega))
     rw[←m,O,T,hw];rfl
    |some u=>
     have hvu:=hvw u hw;subst hvu;refine aA.2 ?_;refine cW (c:=zPrL) (vs:= [.string (i.ah++i.sl),.string v]) Z rfl fun h6 b6 y=>?_
     refine⟨_,vc b6 0,_,vc b6 1,?_⟩;rw[←X];refine hs h6 d i.key v (xA d) (by rw[←m,O,T,hw];rfl) rfl (by omega) ?_ (G.trans y fun b g=>.inr (f6 (Eq.symm g)))
     exact(z.upd y (fun b g=>.inl (hCW b (hC b (f6 (Eq.symm g))))) (fun b g _ e=>g.2 e) (by show ¬cb=h.size;omega)).sub fun b g _=>g.1
 ·have h0:its= []:=List.length_eq_zero_iff.1 (by omega)
  subst h0;refine cW (c:=zPrL) (vs:=zPrL) bz rfl fun h6 b6 y=>?_
  refine⟨_,vc b6 0,_,vc b6 1,hn h6 m.symm (hu.trans y fun b g=>.inr (f6 (Eq.symm g)))⟩
end Go.Proofs
namespace Go.Proofs
open Go Go.Lift
abbrev Yw(x:Pr):List Value:= [.agg #[.string x.1,.string x.2]]
theorem Jr{h:af}{fv:Value}{N:Nat}{S:List Pr→Prop}{Q:Nat→Prop}(hg:Gives PG fv Yw N S Q h)(hN:N≤100000000){K:SliceV→af→Prop}
  (hk:∀s' c xs,S xs→OwnS fe 2 ay (fun b=>h.size≤b) c s' xs→Upd No h c→K s' c):HC PG fx [.slice none 0 0,fv] [.c .slice] K h:=by
 refine mG ⟨none,0,0⟩ fv ?_;unfold ip aD nv tc jm lf YX;have k0:=Upd.hnew No h [.slice none 0 0] dL;have b0:=dq h [.slice none 0 0] dL;have hsz:(hnew h [.slice none 0 0] dL).size=h.size+1:=ki ..;have I:=hg.upd k0 fun _ _=>id
 refine ce ?_;generalize hnew h [.slice none 0 0] dL=h1 at I k0 b0 hsz;refine⟨fun lo hlo n=>?_⟩
 obtain⟨f,first,cap,rfl,P⟩:=I.run
 refine⟨f,first,cap,rfl,?_⟩
 have k1:Upd No h1 ((h1.push (.deferred (some []))).push (lo .ready none)):=(Upd.push No _ _).tr (Upd.push No _ _);have l2:((h1.push (.deferred (some []))).push (lo .ready none))[h1.size+1]? =some (lo .ready none):=by
  have:=yV (h1.push (.deferred (some []))) (lo .ready none);rwa [Array.size_push]at this
 have l1:((h1.push (.deferred (some []))).push (lo .ready none))[h1.size]? =some (.deferred (some [])):=(Upd.push No _ _).get0 (yV h1 _);refine P (.func (.yield (h1.size+1)) #[] #[]) (fun m A c=>(∀b,A b→b<c.size∧h.size≤b)∧A h.size∧A h1.size∧A (h1.size+1)∧c[h1.size]? =some (.deferred (some []))∧c[h1.size+1]? =some (lo .ready none)∧
   ∃s:SliceV,c[h.size]? =some (.cells #[sv s] dL (0,0))∧OwnS fe 2 ay (fun b=>A b∧h1.size+1<b) c s m∧m.length≤N)
  (fun b=>b=h.size∨b=h1.size∨b=h1.size+1) No _ _ ⟨fun _ _ _ J b a=>(J.1 b a).1,fun m A c h'' B J y hB=>?_,fun m A c x K' J hlen hK=>?_⟩ ?_ k1 (fun _ _=>id) (fun b a hq=>?_) ?_
 ·obtain⟨X,H,q,w,h5,h6,s,h7,h8,h9⟩:=J
  exact⟨fun b a=>⟨bG (X b a).1 y.size,(X b a).2⟩,H,q,w,y.get h5 (hB _ q),y.get h6 (hB _ w),s,y.get h7 (hB _ H),h8.upd y fun b a=>hB b a.1,h9⟩
 ·obtain⟨u,j,k,d,hd,C,s,O,ho,hpl⟩:=J
  refine n x c K' C ?_;refine tf (p:=x) fun hp bp F=>?_
  have zp:=aL bp;have C:=F.get0 C;have O:=F.get0 O;have hd:=F.get0 hd;have hop:=ho.upd F fun _ _ h=>h
  have sp:=F.size;refine⟨C,?_⟩;have D:Upd (· =h1.size+1) hp (hp.setIfInBounds (h1.size+1) (lo .busy none)):=Upd.set _ _ rfl
  have lb:=jw (o:=lo .busy none) C;have sb:=D.size;refine ce ?_;generalize hp.setIfInBounds (h1.size+1) (lo .busy none)=H at D lb sb;have V:=(u _ j).1;have L:=(u _ d).1;have bp2:=D.get bp (by omega);have Z:=D.get O (by omega);refine⟨s,by rw[fX,bI Z];rfl,_,vc bp2 0,_,vc bp2 1,ce ?_⟩
  refine zu (p:=x) (M:=fun b=>((A b∧b<c.size)∨H.size≤b)∧h1.size+1<b) ((hop.upd D fun b a=>by omega).more fun b a=>⟨.inl ⟨a.1,(u b a.1).1⟩,a.2⟩) (fun b a=>⟨.inr a,by have:=aL lb;omega⟩) (by omega) fun s' q ho3 g=>?_
  have z:q[h.size]? =some (.cells #[sv s] dL (0,0)):=g.get Z (by omega);refine⟨by rw[fX];exact jd z (by simp),?_⟩;have E:Upd (· =h.size) q (hset q (aI h) (.slice s'.a s'.len s'.cap)):=Upd.hset _ _ rfl
  have hs4:(hset q (aI h) (.slice s'.a s'.len s'.cap))[h.size]? =some (.cells #[sv s'] dL (0,0)):=by
   rw[fX,CR z,jw z];rfl
  refine ce ?_;generalize hset q (aI h) (.slice s'.a s'.len s'.cap)=w at E hs4;have W:w[h1.size+1]? =some (lo .busy none):=E.get (g.get lb (by omega)) (by omega);refine⟨W,?_⟩;have i:Upd (· =h1.size+1) w (w.setIfInBounds (h1.size+1) (lo .ready none)):=Upd.set _ _ rfl
  have hl5:=jw (o:=lo .ready none) W;have T:Upd A c w:=((F.wide.tr (D.mono (M':=A) fun b a=>.inl (a▸d))).trans g fun b a=>a.1.imp (fun h=>h.1) fun h=>by omega).trans E fun b a=>.inl (a▸j)
  have z3:=g.size;have z4:=E.size;have z5:=i.size;refine hK _ (fun b=>((A b∧b<c.size)∨H.size≤b)∧b<w.size) ⟨fun b a=>⟨bG a.2 z5,a.1.elim (fun h=>(u b h.1).2) fun h=>by omega⟩,⟨.inl ⟨j,V⟩,by omega⟩,⟨.inl ⟨k,(u _ k).1⟩,by have:=(u _ k).1;omega⟩,⟨.inl ⟨d,L⟩,by omega⟩,
   i.get (E.get (g.get (D.get hd (by omega)) (by omega)) (by omega)) (by omega),hl5,s',i.get hs4 (by omega),?_,by simp;omega⟩ (T.trans i fun b a=>.inl (a▸d)) fun b a=>a.1.imp (fun h=>h.1) fun h=>by omega
  exact(((ho3.upd E fun b a=>by omega).within).more fun b a=>⟨⟨a.1.1,a.2⟩,a.1.2⟩).upd i fun b a=>by omega
 ·refine⟨fun b a=>?_,.inl rfl,.inr (.inl rfl),.inr (.inr rfl),l1,l2,⟨none,0,0⟩,k1.get0 b0,OwnS.nil jx,bj _⟩
  have:=aL l2;rcases a with rfl|rfl|rfl<;>omega
 ·have:=hg.lt b hq
  rcases a with rfl|rfl|rfl<;>omega
 ·rintro xs A' c hS ⟨u,j,k,d,hd,C,s,O,ho,hpl⟩ y hA'
  refine⟨.ready,none,by decide,C,?_⟩
  have i:Upd (· =h1.size+1) c (c.setIfInBounds (h1.size+1) (lo .exhausted none)):=Upd.set _ _ rfl
  show∃v:SliceV,aR (c.setIfInBounds (h1.size+1) (lo .exhausted none)) (aI h)=some (.slice v.a v.len v.cap)∧_
  have G:=i.get hd (show ¬h1.size=h1.size+1 by omega)
  have Y:=i.get O (show ¬h.size=h1.size+1 by omega)
  have R:=ho.upd i fun b a=>by omega
  generalize c.setIfInBounds (h1.size+1) (lo .exhausted none)=h5 at i G Y R;refine⟨s,by rw[fX,bI Y];rfl,G,?_⟩
  have k6:Upd (· =h1.size) h5 (h5.setIfInBounds h1.size (.deferred none)):=Upd.set _ _ rfl
  refine hk s _ xs hS ((R.upd k6 fun b a=>by omega).more fun b a=>(u b a.1).2) ?_
  refine(((k0.tr k1).trans y fun b a=>?_).trans i fun b a=>.inr (by omega)).trans k6 fun b a=>.inr (by omega)
  rcases a with rfl|rfl|rfl<;>(right;omega)
theorem Fw{h:af}{a:Value}{N:Nat}{S:List Pr→Prop}{Q:Nat→Prop}(d:Gives PG a Yw N S Q h)(f:N≤100000000){K:SliceV→af→Prop}
  (c:∀s' h' xs,S xs→OwnS fe 2 ay (fun b=>h.size≤b) h' s' xs→Upd No h h'→K s' h'):HC PG gR [a] [.c .slice] K h:=by
 refine uo a ?_;unfold nD;exact Jr d f c
theorem Py{W:Nat→Prop}{h:af}{b:Nat}{w:Option ByteArray}{F:Fo}(z:It.Ok W h ⟨b,⟨#[]⟩,false,⟨#[]⟩,w,F⟩)(D:∀y,h.size≤y→W y){K:Option Addr→af→Prop}
  (A:∀h' cb,h.size≤cb→cb<h'.size→Cur W h' cb (fun y=>h.size≤y∧y≠cb) [⟨b,⟨#[]⟩,false,⟨#[]⟩,w,F⟩]→Upd No h h'→K (some ⟨cb,0,none⟩) h'):HC PG Bx [.pointer (some ⟨b,0,none⟩),.agg #[.string ⟨#[]⟩,.string ⟨#[]⟩,.bool true],.bool false] [.c .ptr] K h:=by
 refine Q0 (some ⟨b,0,none⟩) (⟨#[]⟩,⟨#[]⟩,true) false ?_;unfold Ix aD cz aK qW Jj Ja Pf;refine aN fun m b1 k1=>⟨_,vc b1 0,_,vc b1 1,true,vc b1 2,aN fun j b2 n=>aA.2 ⟨_,rfl,⟨none,0,0⟩,vc b2 0,aN fun q b3 k=>?_⟩⟩
 have s1:=k1.size;have s2:=n.size;have E:=aL b2;have B:=aL b3;have o3:OwnS SQ 3 eK (fun _=>True) q ⟨some (aI j),1,1⟩ [(some ⟨b,0,none⟩,⟨#[]⟩,false)]:=⟨rfl,Lq,ao _,.inr ⟨j.size,[],rfl,trivial,b3,rfl⟩⟩
 refine⟨_,(o3.sl (W:=No) fun _ _ _ h=>h).srow,?_⟩
 refine AppP.own (M:=fun y=>q.size≤y) (ys:= [(some ⟨b,0,none⟩,⟨#[]⟩,false)]) (OwnS.nil (f:=SQ) Lq) rfl rfl rfl rfl (by omega) (by simp) (ao _) fun s H d c=>?_
 have u:=c.get (k.get0 b2) (by omega);refine⟨_,rfl,?_⟩;refine kU (i:=0) (c':=Yy s) u (show 0<5 by decide) rfl fun p v a=>?_
 have g:Upd No h p:=(((k1.tr n).tr k).trans c fun y o=>.inr (by omega)).own a s1
 have G:=c.size;have C:=a.size;refine A p m.size s1 (by omega) ⟨⟨s,v,?_⟩,fun i hi=>?_⟩ g
 ·exact(d.upd a fun y o e=>by have e:y=m.size:=e;omega).more fun y o=>⟨by omega,by omega⟩
 ·rw[au.1 hi]
  exact z.updM g fun _ h=>h.elim
theorem XE(l m:List Pr):GP (l++m)=GP l++GP m:=by unfold GP;rw[bU]
theorem Nn{W:Nat→Prop}{h:af}{b:Nat}{l:List Pr}(t:RadAt W h b l)(hr:cA l)(hf:Fit l)(hn:l.length≤60000){K:Value→af→Prop}
  (hk:∀fv o,Gives PG fv Yw (2*l.length) (fun xs=>xs=l) (fun y=>y<o.size) o→Upd No h o→K fv o):HC PG za [.pointer (some ⟨b,0,none⟩),.agg #[.string ⟨#[]⟩,.string ⟨#[]⟩,.bool true],.bool false] [.c .raw] K h:=by
 refine OH (some ⟨b,0,none⟩) (⟨#[]⟩,⟨#[]⟩,true) false ?_;unfold FF Jj;refine aN fun h1 b1 k1=>aN fun h2 b2 k2=>aN fun B b3 k3=>?_
 have k03:=(k1.tr k2).tr k3;have c1:=k3.get0 (k2.get0 b1);have c2:=k3.get0 b2;have z1:=aL c1;have z2:=aL c2;have z3:=aL b3;refine hk _ B ?_ k03;obtain⟨w,F,r1,r2,r3⟩:=(((t.upd0 k03).less (W':=fun y=>B.size≤y) fun y a=>.inr a)).ex
 have n:=Gi r2 hr r3;have hcnt:=Gz r2;have j:=congrArg eL n;unfold ng GP at j;rw[ad,bF]at j;refine⟨fun y a=>a,rI,#[],_,rfl,fun y J A M G K' N hj Z hq ha hk'=>?_⟩
 refine Iq y (aI h) (aI h1) (aI h2) ?_;unfold wx bo aD nv oZ tc lf dZ Nd;have d1:=Z.get c1 (hq _ z1);have d2:=Z.get c2 (hq _ z2);have d3:=Z.get b3 (hq _ z3);have s4:=Z.size;have io:It.Ok (fun y=>B.size≤y) G ⟨b,⟨#[]⟩,false,⟨#[]⟩,w,F⟩:=⟨r1.updM Z fun y a=>.inl (by
  rcases bO y B.size with T|T
  ·exact absurd a (hq y T)
  ·exact T),r2,by simp[It.key],fun p hp=>by
   rw[n]at hp
   obtain⟨q,hq',e⟩:=iK.1 hp
   have:=(hf q hq').1
   rw[←e]
   simpa[It.key]using this⟩
 refine⟨_,(by have:=vc d1 0;rw[cd,dd]at this;exact this),_,vc d2 0,_,vc d2 1,true,vc d2 2,false,(by have:=vc d3 0;rw[cd,dd]at this;exact this),?_⟩;refine Py io (fun y a=>bv s4 a) fun h5 cb hcb hcb5 cur k5=>?_
 have L:=N.lt _ _ _ hj;have hA3:∀y,A y→B.size≤y:=fun y a=>by
  rcases bO y B.size with T|T
  ·exact absurd T (ha y a)
  ·exact T
 have s5:=k5.size;have z:lP [⟨b,⟨#[]⟩,false,⟨#[]⟩,w,F⟩]≤100000000:=by
  have:lP [⟨b,⟨#[]⟩,false,⟨#[]⟩,w,F⟩]=2+2*C3 F:=by simp[lP,It.cost]
  rw[this];omega
 have S:xA [⟨b,⟨#[]⟩,false,⟨#[]⟩,w,F⟩]=GP l:=by
  rw[←n];simp[xA,It.prs,It.key]
 refine LoopP.ghost (fun(g:List Pr×List It×(Nat→Prop)) (_:Unit) o=>Cur (fun y=>B.size≤y) o cb (fun y=>G.size≤y∧y≠cb∧¬g.2.2 y) g.2.1∧J g.1 g.2.2 o∧Upd A G o∧(∀y,g.2.2 y→(A y∨G.size≤y)∧y≠cb)∧GP g.1++xA g.2.1=GP l∧lP g.2.1≤100000000∧h5.size≤o.size) (fun g=>(xA g.2.1).length) ([],[⟨b,⟨#[]⟩,false,⟨#[]⟩,w,F⟩],A)
  ⟨cur.sub fun y a Y=>⟨a.1,a.2,fun hx=>by have:=L y hx;omega⟩,N.keep _ _ _ _ No hj k5 (fun _ _ h=>h),k5.wide,fun y a=>⟨.inl a,by have:=L y a;omega⟩,by rw[S];rfl,z,ao _⟩ ?_
 rintro I ⟨D,items,s⟩ ⟨⟩ o ⟨cu,E,hu',d,c,hco,hsz⟩ hI;simp only at cu E d c hco;have hlt':=N.lt _ _ _ E;have hA1W:∀y,s y→B.size≤y:=fun y a=>(d y a).1.elim (hA3 y) fun h=>by omega
 refine Yc cu (fun y a=>⟨by omega,by omega,fun hx=>by have:=hlt' y hx;omega⟩) (fun y a=>bv s4 a.1) (bv s4 hcb) (fun hx=>hx.2.1 rfl) hco (fun h6 hr0 i=>?_) fun h6 f k v R P hr2 hc6 cu6 i=>?_
 ·have hd:∀y,s y→¬((G.size≤y∧y≠cb∧¬s y)∨y=cb):=fun y a hx=>hx.elim (fun h=>h.2.2 a) (d y a).2
  have O:=N.keep _ _ _ _ _ E i hd;refine tf fun H b7 V=>?_
  refine Join.intro (fun t u=>t=true∧u=H) (fun R hR=>aA.2 (hR _ _ ⟨rfl,rfl⟩)) ?_
  rintro t u ⟨rfl,rfl⟩;refine aA.2 (hk' D s u ?_ (N.keep _ _ _ _ No O V (fun _ _ h=>h)) ?_ fun y a=>(d y a).1)
  ·rw[hr0,bB]at c
   exact LA c
  ·exact(hu'.trans i fun y a=>.inr (by rcases a with a|a;exact a.1;omega)).tr V.wide
 ·have hd:∀y,s y→¬((G.size≤y∧y≠cb∧¬s y)∨y=cb):=fun y a hx=>hx.elim (fun h=>h.2.2 a) (d y a).2
  have O:=N.keep _ _ _ _ _ E i hd;refine tf (p:=(⟨k.toArray⟩,v)) fun H b7 V=>?_
  have hj7:=N.keep _ _ _ _ No O V (fun _ _ h=>h)
  have cu7:=cu6.upd V (fun _ h=>h.elim) (fun _ _ _ h=>h) fun h=>h
  have hu47:Upd A G H:=(hu'.trans i fun y a=>.inr (by rcases a with a|a;exact a.1;omega)).tr V.wide
  have s6:=i.size;have s7:=V.size;refine Join.intro (fun t u=>t=false∧∃X,J (D++ [(⟨k.toArray⟩,v)]) X u∧Upd s H u∧∀y,X y→s y∨H.size≤y) (fun R' hR=>?_) ?_
  ·refine aj.2 ⟨_,vc b7 0,_,vc b7 1,?_⟩
   refine N.step D s H (⟨k.toArray⟩,v) _ hj7 ?_ fun u X Q m C=>hR _ _ ⟨rfl,X,Q,m,C⟩
   have:=congrArg eL c;rw[P]at this;simp only[GP,ad,bF,aH]at this;omega
  ·rintro t u ⟨rfl,X,Q,m,C⟩
   refine aj.2 (hI (D++ [(⟨k.toArray⟩,v)],f,X) () u ⟨?_,Q,?_,fun y a=>?_,?_,by simp only;omega,by have:=m.size;omega⟩ ?_)
   ·have c7:Cur (fun y=>B.size≤y) H cb (fun y=>(G.size≤y∧y≠cb∧¬s y)∧y<H.size) f:=cu7.sub fun y a Y=>⟨a,Y⟩
    exact(c7.upd m (fun y a=>.inl (hA1W y a)) (fun y a _ hx=>a.1.2.2 hx) (fun hx=>(d _ hx).2 rfl)).sub fun y a _=>⟨a.1.1,a.1.2.1,fun hx=>by
     rcases C y hx with h|h
     ·exact a.1.2.2 h
     ·have:=a.2;omega⟩
   ·exact hu47.trans m fun y a=>(d y a).1
   ·rcases C y a with h|h
    ·exact d y h
    ·exact⟨.inr (by omega),by omega⟩
   ·simp only
    rw[XE,az,hr2,←c,P];rfl
   ·simp only
    rw[P,hr2];simp
theorem LG{W:Nat→Prop}{h:af}{b:Nat}{l:List Pr}(t:RadAt W h b l)(c:cA l)(f:Fit l)(g:l.length≤60000){K:SliceV→af→Prop}
  (j:∀s' h',OwnS fe 2 ay (fun y=>h.size≤y) h' s' l→Upd No h h'→K s' h'):HC PG xG [.pointer (some ⟨b,0,none⟩),.agg #[.string ⟨#[]⟩,.string ⟨#[]⟩,.bool true]] [.c .slice] K h:=by
 refine MD (some ⟨b,0,none⟩) (⟨#[]⟩,⟨#[]⟩,true) ?_;unfold DC aD qW Jj Nd;refine aN fun p b1 k1=>⟨_,vc b1 0,_,vc b1 1,true,vc b1 2,?_⟩
 refine Nn (t.upd0 k1) c f g fun q o m a=>?_
 refine Fw m (by omega) fun s3 d xs e n k=>?_
 subst e;have i:=(k1.tr a).size;exact j s3 d (n.more fun y s=>by omega) ((k1.tr a).tr k)
theorem Pq{W:Nat→Prop}{x:Hs}{h:af}{t:Tr}{l:List Pr}(i:TreeIs W h 1 x t l)(g:cA l)(j:Fit l)(k:l.length≤60000){K:SliceV→af→Prop}
  (n:∀s' h',OwnS fe 2 ay (fun y=>h.size≤y) h' s' l→Upd No h h'→K s' h'):HC PG kC [Jb t] [.c .slice] K h:=by
 refine vp t ?_;unfold qw bD aQ rF NO;rcases i with⟨e,_⟩|⟨_,b,rfl,t⟩
 ·cases e
 refine aN fun p b1 k1=>⟨_,vc b1 0,aA.2 ⟨_,vc b1 5,?_⟩⟩
 refine Q1 ?_;unfold Iy aD nv qW aar aax;refine aN fun w b2 o=>?_
 refine cW (c:= [.string (⟨#[]⟩:ByteArray),.string (⟨#[]⟩:ByteArray),.bool false]) (vs:= [.string (⟨#[]⟩:ByteArray),.string (⟨#[]⟩:ByteArray),.bool true]) b2 rfl fun u b3 d=>?_
 have f:Upd No p u:=o.own d (ao _);have a:=k1.tr f;refine⟨_,vc b3 0,_,vc b3 1,true,vc b3 2,vc (f.get0 b1) 5,?_⟩;refine LG (t.upd0 a) g j k fun m s v q=>n m s (v.more fun y z=>?_) (a.tr q)
 have:=a.size;omega
end Go.Proofs
namespace Go.Proofs
open Go Go.Lift
end Go.Proofs
namespace Go.Proofs
theorem VR:∀{n x:Nat},x<2^n→0<x→∃c,c<n∧x.testBit c=true∧∀j,j<c→x.testBit j=false
 |0,x,h,h'=>by simp at h;omega
 |n+1,x,h,h'=>by
  by_cases e:x%2=1
  ·exact⟨0,by omega,by rw[lB];simpa using e,fun j a=>absurd a (Nat.not_lt_zero _)⟩
  ·obtain⟨c,f,b,d⟩:=VR (n:=n) (x:=x/2) (by rw[Nat.pow_succ]at h;omega) (by omega)
   refine⟨c+1,by omega,by rw[iC];exact b,fun j a=>?_⟩
   cases j with
   |zero=>rw[lB];simpa using e
   |succ j=>rw[iC];exact d j (by omega)
theorem Hj:∀{c x:Nat},x.testBit c=true→(∀j,j<c→x.testBit j=false)→∀i,(x-1).testBit i=if i<c then true else if i=c then false else x.testBit i
 |0,x,h,_,i=>by
  have h:x%2=1:=by rw[lB]at h;simpa using h
  cases i with
  |zero=>rw[lB,if_neg (by omega),if_pos rfl];simp;omega
  |succ i=>rw[iC,iC,if_neg (by omega),if_neg (by omega)];congr 1;omega
 |c+1,x,h,hl,i=>by
  have a:=hl 0 (by omega);rw[lB]at a;have d:¬x%2=1:=by simpa using a
  have a:x%2=0:=by omega
  rw[iC]at h;have b:0<x/2:=by
   rcases fq (x/2)with e|e
   ·rw[e,gG]at h;cases h
   ·exact e
  cases i with
  |zero=>rw[lB,if_pos (by omega)];simp;omega
  |succ i=>
   have:=Hj (x:=x/2) h (fun j f=>by have:=hl (j+1) (by omega);rwa [iC]at this) i
   rw[iC,iC,show(x-1)/2=x/2-1 by omega,this]
   simp only[Nat.add_lt_add_iff_right,Nat.add_right_cancel_iff]
theorem Yg{c x:Nat}(h:x.testBit c=true)(d:∀j,j<c→x.testBit j=false)(hc:c<32)(hx:x<4294967296):x&&&(4294967296-x)=2^c:=by
 have f:0<x:=by
  rcases fq x with e|e
  ·rw[e,gG]at h;cases h
  ·exact e
 refine Nat.eq_of_testBit_eq fun i=>?_
 have e:4294967296-x=2^32-((x-1)+1):=by omega
 rw[jh,e,Nat.testBit_two_pow_sub_succ (by omega),Hj h d,Nat.testBit_two_pow];by_cases a:i<c
 ·rw[if_pos a,d i a];simp;omega
 ·rw[if_neg a]
  by_cases b:i=c
  ·subst b;simp[h,hc]
  ·rw[if_neg b]
   cases x.testBit i<;>simp<;>omega
theorem Ub{c x:Nat}(h:x.testBit c=true)(b:∀j,j<c→x.testBit j=false)(i:Nat):(x&&&(x-1)).testBit i=(x.testBit i&&decide (c<i)):=by
 rw[jh,Hj h b];by_cases a:i<c
 ·rw[if_pos a,b i a];rfl
 ·rw[if_neg a]
  by_cases d:i=c
  ·subst d;simp
  ·rw[if_neg d]
   have:c<i:=by omega
   simp[this]
end Go.Proofs
namespace Go.Proofs
open Go Go.Lift
theorem VP{β:Type}{g:Nat→Option β}{n:Nat}{y:β}:y∈fm g n↔∃c,c<n∧g c=some y:=by
 unfold fm;rw[List.mem_filterMap];exact⟨fun⟨c,b,a⟩=>⟨c,gq.1 b,a⟩,fun⟨c,b,a⟩=>⟨c,gq.2 b,a⟩⟩
def wl(x:Hs):Nat→List Pr→List Pr
 |0,l=>l
 |m+1,l=>gi x (12-m) l++(jn x (12-m) l).flatMap (wl x m)
theorem Lo(x:Hs)(m:Nat)(l:List Pr):wl x (m+1) l=gi x (12-m) l++(jn x (12-m) l).flatMap (wl x m):=rfl
theorem Hr{x:Hs}{p:Pr}:∀(m:Nat) {l:List Pr},p∈wl x m l↔p∈l
 |0,_=>vT
 |m+1,l=>by
  rw[Lo,bM,List.mem_flatMap];constructor
  ·rintro(h|⟨L,d,h⟩)
   ·exact qZ h
   ·obtain⟨_,c,rfl⟩:=nQ d
    exact(mh.1 ((Hr m).1 h)).1
  ·intro h
   have hm:p∈part x (12-m) (ck x (12-m) p.1) l:=mh.2 ⟨h,rfl⟩;have hc:=zq x (12-m) p.1;rcases d:part x (12-m) (ck x (12-m) p.1) l with _|⟨a,_|⟨b,r⟩⟩
   ·rw[d]at hm;cases hm
   ·left
    rw[d]at hm;rw[au.1 hm];unfold gi;exact VP.2 ⟨_,hc,by show il (part x (12-m) (ck x (12-m) p.1) l)=_;rw[d];rfl⟩
   ·right
    refine⟨a::b::r,?_,(Hr m).2 (by rw[←d];exact hm)⟩;unfold jn;exact VP.2 ⟨_,hc,by show fu (part x (12-m) (ck x (12-m) p.1) l)=_;rw[d];rfl⟩
theorem Oi{f:List Pr→List Pr}(h:∀l,(f l).length≤l.length):∀ls:List (List Pr),(ls.flatMap f).length≤ls.flatten.length
 | []=>ao _
 |l::ls=>by
  have b:=h l;have a:=Oi h ls;rw[ba,List.flatten_cons,ad,ad];omega
theorem Lp(x:Hs):∀(m:Nat) (l:List Pr),(wl x m l).length≤l.length
 |0,_=>ao _
 |m+1,l=>by
  rw[Lo,ad];have b:=wG x (12-m) l;have a:=Oi (Lp x m) (jn x (12-m) l);omega
theorem Zr{x:Hs}{m:Nat}{l:List Pr}(b:cA l):Nm (wl x m l)=l:=by
 refine zS (Ka _) b fun p=>?_
 rw[R8];constructor
 ·intro h;exact(Hr m).1 (KF h)
 ·intro h
  have c:p∈(wl x m l).filter fun q=>decide (q.1=p.1):=List.mem_filter.2 ⟨(Hr m).2 h,decide_eq_true rfl⟩
  have a:kT (wl x m l) p.1≠none:=by
   unfold kT;intro e;rw[List.getLast?_eq_none_iff]at e;rw[e]at c;cases c
  cases hl:kT (wl x m l) p.1 with
  |none=>exact absurd hl a
  |some q=>
   have d:=TQ hl;have f:=(Hr m).1 (KF hl);have i:(p.1,q.2)∈l:=by rw[←d];exact f
   have g:=Hf b (k:=p.1) (v:=p.2) (w:=q.2) h i;rw[Prod.ext d g.symm]
def cw(x:Hs):Nat→List Pr→Nat
 |0,_=>2
 |m+1,l=>2+((jn x (12-m) l).map (cw x m)).sum
structure Fr where
 sp:SliceV
 sk:SliceV
 n:Nat
 ps:List Pr
 ks:List (Nat×List Pr)
abbrev UM(v:SliceV×SliceV):List Value:= [sv v.1,sv v.2]
theorem V0(x:SliceV×SliceV):(UM x).length=2∧0<2:=⟨rfl,by omega⟩
def Fr.raw(f:Fr):SliceV×SliceV:=(f.sp,f.sk)
def Fr.rem(x:Hs)(f:Fr):List Pr:=f.ps++f.ks.flatMap fun k=>wl x (f.n-1) k.2
def Fr.cost(x:Hs)(f:Fr):Nat:=1+(f.ks.map fun k=>cw x (f.n-1) k.2).sum
def D8(x:Hs)(l:List Fr):List Pr:=l.reverse.flatMap (Fr.rem x)
def Fv(x:Hs)(l:List Fr):Nat:=(l.map (Fr.cost x)).sum
theorem zT(x:Hs)(l:List Fr)(f:Fr):D8 x (l++ [f])=f.rem x++D8 x l:=by unfold D8;rw[List.reverse_append];rfl
theorem BI(x:Hs)(l:List Fr)(f:Fr):Fv x (l++ [f])=Fv x l+f.cost x:=by unfold Fv;rw[bU,List.sum_append];simp
abbrev N4(k:Nat×List Pr):Option Addr:=some ⟨k.1,0,none⟩
structure Fr.Ok(W G:Nat→Prop)(x:Hs)(h:af)(f:Fr):Prop where
 p:Sl fe 2 (fun y=>¬G y) h f.sp f.ps
 k:Sl rG 1 (fun y=>¬G y) h f.sk (f.ks.map N4)
 pc:f.sp.len≤f.sp.cap
 kc:f.sk.len≤f.sk.cap
 t:∀k∈f.ks,TrieAt W x h (f.n-1) k.1 k.2∧k.2.length≤100000
 n0:f.ks≠[]→0<f.n
 n13:f.n≤13
theorem Fr.Ok.upd{W G M:Nat→Prop}{x:Hs}{h a:af}{f:Fr}(o:f.Ok W G x h)(k:Upd M h a)(g:∀b,M b→W b∨h.size≤b)(c:∀b,M b→¬G b∨h.size≤b):f.Ok W G x a:=
 ⟨o.p.upd k c,o.k.upd k c,o.pc,o.kc,fun q d=>⟨TrieAt.updM k g (o.t q d).1,(o.t q d).2⟩,o.n0,o.n13⟩
theorem Fr.Ok.sub{W G G':Nat→Prop}{x:Hs}{h:af}{f:Fr}(o:f.Ok W G x h)(d:∀b,G b→G' b):f.Ok W G' x h:=
 ⟨o.p.less fun b a=>.inl fun c=>a (d b c),o.k.less fun b a=>.inl fun c=>a (d b c),o.pc,o.kc,o.t,o.n0,o.n13⟩
abbrev aa8(s:SliceV)(d:Int):Array Value:= #[sv s,.int .i64 d]
structure CurW(W G C:Nat→Prop)(x:Hs)(h:af)(cb:Nat)(fs:List Fr):Prop where
 ex:∃s d,h[cb]? =some (.cells (aa8 s d) AH (0,0))∧OwnS UM 2 eM C h s (fs.map Fr.raw)
 ok:∀f∈fs,f.Ok W G x h
 lt:∀b,(C b∨G b)→b<h.size
 dj:∀b,G b→¬C b∧b≠cb
 cc:¬C cb
 cw:(∀b,C b→W b)∧W cb
 lv:fs.Pairwise fun f g=>g.n<f.n
theorem CurW.upd{W G C M:Nat→Prop}{x:Hs}{h j:af}{cb:Nat}{i:List Fr}(c:CurW W G C x h cb i)(k:Upd M h j)(v:∀b,M b→W b∨h.size≤b)(p:∀b,C b→¬M b)(m:∀b,G b→¬M b)(g:¬M cb):CurW W G C x j cb i:=by
 obtain⟨s,d,q,o⟩:=c.ex;exact⟨⟨s,d,k.get q g,o.upd k p⟩,fun f n=>(c.ok f n).upd k v fun b a=>.inl fun u=>m b u a,fun b a=>bG (c.lt b a) k.size,c.dj,c.cc,c.cw,c.lv⟩
theorem VQ:∀{a:List Fr} {n:Nat},a.Pairwise (fun f g=>g.n<f.n)→(∀f∈a,f.n≤n)→a.length≤n+1
 | [],_,_,_=>bj _
 |f::a,n,b,hn=>by
  have b:=bA.1 b;have d:=hn f (aC ..);rcases a with _|⟨g,a⟩
  ·simp
  ·have c:=b.1 g (aC ..)
   have:=VQ (n:=f.n-1) b.2 fun g c=>by have:=b.1 g c;omega
   rw[aH];omega
theorem setCell{α:Type}{f:α→List Value}{sz:Nat}{t:TypeId}{M:Nat→Prop}{h:af}{s:SliceV}{P Q:List α}{x y:α}{j:Nat}{v:Value}(n:OwnS f sz t M h s (P++x::Q))(H:j<sz)(B:f y=(f x).set j v){a:Addr}(A:s.a=some a){i:Nat}(hi:i=P.length){G:af→Prop}(D:∀k,OwnS f sz t M k s (P++y::Q)→Upd M h k→G k):
  Wr h (adr (adr a (i*sz)) j)∧At (hset h (adr (adr a (i*sz)) j) v) G:=by
 subst hi;have u:=n.ne;have c:=n.len;have m:=n.cap;rcases n.blk with J|⟨b,d,g,w,hc,C⟩
 ·rw[ad,aH]at c;omega
 rw[A]at g;cases g;have I:(P.flatMap f).length=P.length*sz:=l0 u P;rw[bN,ba]at hc;have F:=(u x).1;have E:adr (adr ⟨b,0,none⟩ (P.length*sz)) j=⟨b,P.length*sz+j,none⟩:=by rw[cd,cd,aU]
 rw[E];have p:P.length*sz+j<(P.flatMap f++(f x++Q.flatMap f)++d).toArray.size:=by
  simp only[df,ad];omega
 refine⟨jd hc p,xW hc fun k q o=>D k ⟨by rw[c];simp,u,m,.inr ⟨b,d,A,w,?_,C⟩⟩ (o.mono fun z hz=>.inl (by have hz:z=b:=hz;rw[hz];exact w))⟩
 rw[q];congr 3
 rw[bN,ba,B];apply Array.toList_inj.1;rw[Array.toList_setIfInBounds];simp only[az];rw[List.set_append_right _ _ (by omega),show P.length*sz+j-(P.flatMap f).length=j by omega,List.set_append_left _ _ (by omega)]
theorem KH{W:Nat→Prop}{x:Hs}{h:af}{m:Nat}:∀{ks:List (Option Addr)} {ls:List (List Pr)},KidsAt W x h m ks ls→∃q:List (Nat×List Pr),ks=q.map N4∧ls=q.map (·.2)∧∀k∈q,TrieAt W x h m k.1 k.2
 | [],[],_=>⟨[],rfl,rfl,fun k b=>by cases b⟩
 |_::_,[],h=>h.elim
 | [],_::_,h=>h.elim
 |k::ks,l::ls,b=>by
  obtain⟨⟨i,e,t⟩,c⟩:=b;obtain⟨q,d,g,f⟩:=KH c;refine⟨(i,l)::q,by rw[e,d];rfl,by rw[g];rfl,fun k' a=>?_⟩
  rcases aB.1 a with rfl|a
  ·exact t
  ·exact f k' a
theorem JV{W:Nat→Prop}{x:Hs}{h:af}{m b:Nat}{l:List Pr}(t:TrieAt W x h m b l)(hm:m≤13)(S:l.length≤100000){K:SliceV×SliceV→af→Prop}
  (w:∀h' f,f.n=m→Fr.rem x f=wl x m l→f.cost x+1=cw x m l→f.Ok W (fun y=>h.size≤y∧y<h'.size) x h'→Upd No h h'→K f.raw h'):HC PG wK [.pointer (some ⟨b,0,none⟩)] [.agg [.slice,.slice]] K h:=by
 refine Lb (some ⟨b,0,none⟩) ?_;unfold ET eX dR GN UO;refine aN fun i b1 k1=>?_
 have Q:=TrieAt.upd0 k1 (TrieAt.less (W':=Pro W h i) Pro.hm t);obtain⟨d,n,sp,sk,T,ow,A,q,z,u,v,hlp,hq,L,hcw,E,N⟩:∃d n sp sk T ow A,∃q:List (Nat×List Pr),i[b]? =some (.cells (gj d n sp sk T ow) cj (0,0))∧Sl fe 2 (Pro W h i) i sp A∧Sl rG 1 (Pro W h i) i sk (q.map N4)∧A.length≤100000∧q.length≤32∧(A++q.flatMap fun k=>wl x (m-1) k.2)=wl x m l∧2+(q.map fun k=>cw x (m-1) k.2).sum=cw x m l∧(∀k∈q,TrieAt (Pro W h i) x i (m-1) k.1 k.2∧k.2.length≤100000)∧(q≠[]→0<m):=by
  cases m with
  |zero=>
   obtain⟨sp,sk,ow,z,u,v,_⟩:=BuckAt.ex Q;exact⟨0,0,sp,sk,true,ow,l,[],z,u,v,S,by simp,by simp[wl],by simp[cw],fun k w=>(by cases w),fun h=>absurd rfl h⟩
  |succ m=>
   obtain⟨s,X,G⟩:=Q;have G:∀c,c<32→SlotIs (Pro W h i) x i m s c (part x (12-m) c l):=G;obtain⟨d,n,sp,sk,ow,z,bits,u,v,_⟩:=X.ex;have I:=L5 (W:=Pro W h i) (x:=x) (h:=i) (m:=m) (lev:=12-m) (s:=s) (l:=l) 32 G;obtain⟨q,R,B,Y⟩:=KH I;have B:jn x (12-m) l=q.map (·.2):=B
   have C:=Cu G;have Z:=wG x (12-m) l;have P:=yi (g:=s.k);have hql:q.length=(fm s.k 32).length:=by rw[R,bF]
   refine⟨d,n,sp,sk,false,ow,fm s.p 32,q,z,u,by rw[←R];exact v,by rw[C];omega,by omega,?_,?_,fun k w=>⟨Y k w,?_⟩,fun _=>Nat.succ_pos _⟩
   ·rw[Lo,C,B,List.flatMap_map];rfl
   ·show _=2+_
    rw[B,tQ];rfl
   ·have:k.2∈jn x (12-m) l:=by rw[B];exact iK.2 ⟨k,w,rfl⟩
    obtain⟨_,c,hc⟩:=nQ this;rw[hc];exact bv kz S
 refine qd z u (by omega) fun s2 h2 F j=>?_
 refine Gs (j.get0 z) (v.upd j fun _ h=>h.elim) (by rw[bF];omega) fun s3 h3 D p=>?_
 have b3:=p.get0 (j.get0 b1);have z1:=k1.size;have z2:=j.size;have z3:=p.size;have zb:=aL b1;refine cW (c:= [.slice none 0 0,.slice none 0 0]) (vs:= [sv s2,sv s3]) b3 rfl fun V O o=>?_
 refine⟨s2,vc O 0,s3,vc O 1,?_⟩;have z4:=o.size;have J:Upd No h V:=((k1.tr j).tr p).own o (ao _);refine w V ⟨s2,s3,m,A,q⟩ rfl L (by unfold Fr.cost;simp only;omega) ⟨?_,?_,F.cap,D.cap,fun k w=>⟨TrieAt.less (W:=Pro W h i) (fun y a=>.inl (.inl a)) (TrieAt.updM (M:=(· =h.size)) o (fun y a=>.inl (.inr (by have a:y=h.size:=a;omega))) (TrieAt.upd0 (j.tr p) (E k w).1)),(E k w).2⟩,N,hm⟩ J
 ·exact(((F.upd p fun _ _ h=>h).within).upd o fun y a e=>by have e:y=h.size:=e;have:=a.1;omega).sl fun y a _ H=>H ⟨by have:=a.1;omega,by have:=a.2;omega⟩
 ·exact(D.within.upd o fun y a e=>by have e:y=h.size:=e;have:=a.1;omega).sl fun y a _ H=>H ⟨by have:=a.1;omega,by have:=a.2;omega⟩
end Go.Proofs
