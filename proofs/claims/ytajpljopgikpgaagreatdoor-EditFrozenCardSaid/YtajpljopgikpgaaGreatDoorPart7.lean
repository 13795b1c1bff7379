/- A part of the proof that the named laws of this program answer true, whatever the input. -/
import Derived.Test.YtajpljopgikpgaaGreatDoorPart6
open Array renaming size→cu
open BitVec renaming ofInt→aq,ofInt_natCast→eZ,toNat_ofNat→oq
open Bool renaming and_eq_true→bI
open List renaming cons_append→cY,cons→fA,take_succ_cons→de,length_cons→aV,take_append_drop→ba,length→f8,length_drop→aW,length_nil→cB,pairwise_append→du,mem_append_left→f7,mem_append_right→gG,mem_cons_self→aE,mem_of_getLast?→mn,mem_cons→aA,pairwise_cons→bB,mem_append→bW,mem_singleton→au,take_length→cd,append_nil→bT,append_assoc→aw,drop_eq_nil_of_le→fl,getElem?_eq_getElem→ag,length_append→af,size_toArray→cP,flatMap_append→bH,flatMap_cons→aY,pairwise_iff_getElem→cF,map_append→cR,sum_append→jn,flatten_append→dW,map_cons→fG,sum_cons→p8,getElem_mem→aP,length_map→c7
open List.Pairwise renaming nil→gn
open Nat renaming le_refl→ao,lt_or_ge→bK,zero_add→aL,add_zero→cX,testBit_zero→j7,testBit_succ→gR,zero_testBit→fW,eq_of_testBit_eq→gZ,testBit_and→ii,mod_eq_of_lt→dw,zero_le→bo
namespace Go.Proofs
open Go Go.Lift
theorem xB{a b:ByteArray}:kl a b↔Op.bytesLess a.data.toList b.data.toList=true:=by unfold kl;rw[ByteArray.toList_eq,ByteArray.toList_eq]
theorem xJ{a b:UInt8}{x y:List UInt8}:Op.bytesLess (a::x) (b::y)=true↔a.toNat<b.toNat∨(a=b∧Op.bytesLess x y=true):=by
 simp only[Op.bytesLess,Bool.or_eq_true,decide_eq_true_iff,bI,beq_iff_eq,UInt8.lt_iff_toNat_lt]
theorem MQ(x:List UInt8):Op.bytesLess x []=false:=by cases x<;>rfl
theorem IQ{x y:List UInt8}:∀pre:List UInt8,Op.bytesLess (pre++x) (pre++y)=true↔Op.bytesLess x y=true
 | []=>Iff.rfl
 |a::pre=>by rw[cY,cY,xJ,IQ pre];simp
theorem Wb{x y:List UInt8}(h:Op.bytesLess x y=true)(hx:x≠[])(c:y≠[]):hd x≤hd y:=by
 match x,y,hx,c with
 |a::x,b::y,_,_=>
  show a.toNat≤b.toNat
  rcases xJ.1 h with h|⟨rfl,_⟩<;>omega
theorem JA:∀(t:Nat) {f p g:List UInt8},t≤cm f g→(f=p∨Op.bytesLess f p=true)→(p=g∨Op.bytesLess p g=true)→p.take t=f.take t∧t≤p.length
 |0,f,p,g,_,_,_=>by simp
 |t+1,[],p,g,h,_,_=>by simp[cm]at h
 |t+1,a::f,p,[],h,_,_=>by simp[cm]at h
 |t+1,a::f,p,b::g,h,d,i=>by
  unfold cm at h;split at h
  ·rename_i e
   subst e;rcases p with _|⟨c,p⟩
   ·rcases d with d|d
    ·cases d
    ·rw[MQ]at d;cases d
   ·have hc:c=a:=by
     rcases d with d|d
     ·exact(fA.inj d).1.symm
     ·rcases i with i|i
      ·exact(fA.inj i).1
      ·have k:=xJ.1 d
       have j:=xJ.1 i;rcases k with k|⟨k,_⟩
       ·rcases j with j|⟨j,_⟩
        ·omega
        ·exact j
       ·exact k.symm
    subst hc;have:=JA t (f:=f) (p:=p) (g:=g) (by omega) (d.imp (fun h=>(fA.inj h).2) fun h=>by
     rcases xJ.1 h with h|⟨_,h⟩
     ·omega
     ·exact h) (i.imp (fun h=>(fA.inj h).2) fun h=>by
     rcases xJ.1 h with h|⟨_,h⟩
     ·omega
     ·exact h)
    rw[de,de,this.1,aV];exact⟨rfl,by omega⟩
  ·omega
theorem Oj:∀f:List UInt8,cm f f=f.length
 | []=>rfl
 |a::f=>by unfold cm;rw[if_pos rfl,Oj f];rfl
abbrev ky(p:Pr):List UInt8:=p.1.data.toList
def TS(l:List Pr)(a k:List UInt8)(v:ByteArray):Prop:=∃p∈l,ky p=a++k∧p.2=v
structure Beg(l:List Pr)(pre:List UInt8):Prop where
 up:cA l
 at_:∀p∈l,(ky p).take pre.length=pre∧pre.length<(ky p).length
theorem Beg.sub{l l':List Pr}{a:List UInt8}(b:Beg l a)(h:l'.Sublist l):Beg l' a:=⟨b.up.sublist h,fun p c=>b.at_ p (h.subset c)⟩
theorem Beg.split{l:List Pr}{a:List UInt8}(b:Beg l a){p:Pr}(d:p∈l):ky p=a++(ky p).drop a.length∧(ky p).drop a.length≠[]:=by
 obtain⟨c,f⟩:=b.at_ p d;refine⟨?_,fun e=>?_⟩
 ·conv=>lhs;rw[←ba a.length (ky p),c]
 ·have:=congrArg f8 e
  rw[aW,cB]at this;omega
def bt(n:Nat)(p:Pr):Nat:=hd ((ky p).drop n)
theorem Beg.mono{A B:List Pr}{a:List UInt8}(b:Beg (A++B) a){x y:Pr}(hx:x∈A)(c:y∈B):bt a.length x≤bt a.length y:=by
 have h:=(du.1 b.up).2.2 x hx y c;rw[xB]at h;obtain⟨i,d⟩:=b.split (f7 B hx);obtain⟨g,f⟩:=b.split (gG A c);change Op.bytesLess (ky x) (ky y)=true at h;rw[i,g,IQ]at h;exact Wb h d f
theorem Hy{l:List Pr}{d:List UInt8}{f g:Pr}(b:Beg l d)(G:∃r,l=f::r)(s:l.getLast? =some g)(F:bt d.length f=bt d.length g):
  d.length<cm (ky f) (ky g)∧cm (ky f) (ky g)≤(ky f).length∧(∀p∈l,(ky p).take (cm (ky f) (ky g))=(ky f).take (cm (ky f) (ky g)))∧(∀p∈l,p=f∨cm (ky f) (ky g)<(ky p).length)∧
   (cm (ky f) (ky g)<(ky f).length→cm (ky f) (ky g)<(ky g).length∧hd ((ky f).drop (cm (ky f) (ky g)))≠hd ((ky g).drop (cm (ky f) (ky g)))):=by
 obtain⟨r,rfl⟩:=G;have v:f∈f::r:=aE ..;have j:g∈f::r:=mn s;obtain⟨L,J⟩:=b.split v;obtain⟨E,K⟩:=b.split j;have z:d.length<cm (ky f) (ky g):=by
  have:∀(q x y:List UInt8),cm (q++x) (q++y)=q.length+cm x y:=by
   intro q x y;induction q with
   |nil=>simp
   |cons a q ih=>simp only[cY,cm,if_true,ih,aV];omega
  have A:=this d ((ky f).drop d.length) ((ky g).drop d.length);rw[←L,←E]at A;have I:=RI J K F;omega
 have w:=Ok (ky f) (ky g);have B:∀p∈f::r,ky f=ky p∨Op.bytesLess (ky f) (ky p)=true:=fun p c=>by
  rcases aA.1 c with rfl|c
  ·exact .inl rfl
  ·exact .inr (xB.1 ((bB.1 b.up).1 p c))
 have u:∀p∈f::r,ky p=ky g∨Op.bytesLess (ky p) (ky g)=true:=fun p c=>by
  rcases List.eq_nil_or_concat (f::r)with h|⟨l',y,h⟩
  ·cases h
  ·rw[List.concat_eq_append]at h
   rw[h,List.getLast?_concat]at s;cases s;have i:=b.up;rw[h]at c i;rcases bW.1 c with c|c
   ·exact .inr (xB.1 ((du.1 i).2.2 p c g (au.2 rfl)))
   ·rw[au.1 c];exact .inl rfl
 have m:∀p∈f::r,(ky p).take (cm (ky f) (ky g))=(ky f).take (cm (ky f) (ky g))∧cm (ky f) (ky g)≤(ky p).length:=fun p c=>JA _ (ao _) (B p c) (u p c)
 have k:∀p∈f::r,p=f∨cm (ky f) (ky g)<(ky p).length:=fun p c=>by
  obtain⟨A,I⟩:=m p c;rcases bK (cm (ky f) (ky g)) (ky p).length with h|h
  ·exact .inr h
  ·left
   have M:(ky p).length=cm (ky f) (ky g):=by omega
   have e:ky p=(ky f).take (cm (ky f) (ky g)):=by rw[←A,←M,cd]
   rcases aA.1 c with rfl|c
   ·rfl
   ·have D:=xB.1 ((bB.1 b.up).1 p c)
    change Op.bytesLess (ky f) (ky p)=true at D;exfalso;have H:ky f=ky p++(ky f).drop (cm (ky f) (ky g)):=by rw[e,ba]
    have C:Op.bytesLess (ky p++(ky f).drop (cm (ky f) (ky g))) (ky p++ [])=true:=by rw[bT,←H];exact D
    rw[IQ,MQ]at C;cases C
 refine⟨z,w.1,fun p c=>(m p c).1,k,fun n=>?_⟩
 have o:cm (ky f) (ky g)<(ky g).length:=by
  rcases k g j with h|h
  ·exfalso
   rw[h,Oj]at n;omega
  ·exact h
 exact⟨o,IJ _ _ n o⟩
theorem MO{l l':List Pr}{a:List UInt8}{f g:Pr}(b:Beg l a)(G:∃r,l=f::r)(E:l.getLast? =some g)(I:bt a.length f=bt a.length g){F:Fo}(hc:fi F)
  (d:l'=if(ky f).length=cm (ky f) (ky g)then l.drop 1 else l)(z:∀k v,pi F k v↔TS l' ((ky f).take (cm (ky f) (ky g))) k v){w:Option ByteArray}(A:w=if(ky f).length=cm (ky f) (ky g)then some f.2 else none){lab:List UInt8}(s:lab=((ky f).take (cm (ky f) (ky g))).drop a.length):
  Lc (lab,w,F)∧hd lab=bt a.length f∧∀k v,rK (lab,w,F) k v↔TS l a k v:=by
 obtain⟨Q,O,H,P,J⟩:=Hy b G E I;obtain⟨r,rfl⟩:=G;have o:f∈f::r:=aE ..;have y:g∈f::r:=mn E;generalize cm (ky f) (ky g)=to at*;have i:a++lab=(ky f).take to:=by
  have:=(b.at_ f o).1;rw[s];conv=>rhs;rw[←ba a.length ((ky f).take to),List.take_take,Nat.min_eq_left (by omega),this]
 have j:lab≠[]:=fun e=>by
  have:=congrArg f8 s;rw[e,cB,aW,List.length_take]at this;omega
 have B:∀k v,rK (lab,w,F) k v↔TS (f::r) a k v:=by
  intro k v;constructor
  ·rintro⟨q,e,⟨rfl,n⟩|n⟩
   ·simp only at e n
    rw[bT]at e;subst e;rw[A]at n;split at n
    ·rename_i c
     cases n;refine⟨f,o,?_,rfl⟩;rw[i,←c,cd]
    ·cases n
   ·simp only at e n
    obtain⟨p,m,K,rfl⟩:=(z q v).1 n;refine⟨p,?_,?_,rfl⟩
    ·rw[d]at m
     split at m
     ·exact List.mem_cons_of_mem _ m
     ·exact m
    ·rw[K,e,←aw,i]
  ·rintro⟨p,m,e,rfl⟩
   have u:=H p m;have M:ky p=a++(lab++(ky p).drop to):=by
    rw[←aw,i,←u,ba]
   have ek:k=lab++(ky p).drop to:=List.append_cancel_left (e.symm.trans M);refine⟨(ky p).drop to,ek,?_⟩;by_cases c:(ky f).length=to
   ·rw[if_pos c]at A d
    rcases aA.1 m with rfl|m
    ·left
     refine⟨fl (by omega),?_⟩;simp only;rw[A]
    ·right
     refine(z _ _).2 ⟨p,by rw[d];exact m,?_,rfl⟩
     rw[←u,ba]
   ·rw[if_neg c]at A d
    right;refine(z _ _).2 ⟨p,by rw[d];exact m,?_,rfl⟩
    rw[←u,ba]
 refine⟨⟨j,?_,hc⟩,?_,B⟩
 ·by_cases c:(ky f).length=to
  ·left;simp only;rw[A,if_pos c];rfl
  ·have D:to<(ky f).length:=by omega
   obtain⟨N,C⟩:=J D;refine(E5 hc).2 (.inr ⟨(ky f).drop to,(ky g).drop to,f.2,g.2,.inr ?_,.inr ?_,fun e=>?_,fun e=>?_,C⟩)
   ·exact(z _ _).2 ⟨f,by rw[d,if_neg c];exact o,(ba ..).symm,rfl⟩
   ·exact(z _ _).2 ⟨g,by rw[d,if_neg c];exact y,by rw[←H g y,ba],rfl⟩
   ·have:=congrArg f8 e
    rw[aW,cB]at this;omega
   ·have:=congrArg f8 e
    rw[aW,cB]at this;omega
 ·have e:=(b.split o).1
  unfold bt;have n:(ky f).drop a.length=lab++(ky f).drop to:=by
   have L:ky f=a++(lab++(ky f).drop to):=by rw[←aw,i,ba]
   conv=>lhs;rw[L]
   rw[List.drop_left]
  rw[n,oL j]
structure Row(L:List Bn)(D T:List Pr)(pre:List UInt8):Prop where
 can:∀n∈L,Lc n
 up:L.Pairwise fun m n=>hd m.1<hd n.1
 lo:∀n∈L,∀p∈T,hd n.1<bt pre.length p
 got:∀k v,(∃n∈L,rK n k v)↔TS D pre k v
theorem Row.nil(T:List Pr)(a:List UInt8):Row [] [] T a:=⟨fun n h=>(by cases h),gn,fun n h=>(by cases h),fun k v=>⟨fun⟨n,h,_⟩=>(by cases h),fun⟨p,h,_⟩=>(by cases h)⟩⟩
theorem Row.more{L:List Bn}{D A B:List Pr}{c:List UInt8}{n:Bn}{p:Pr}(r:Row L D (A++B) c)(u:Beg (A++B) c)(o:p∈A)(C:∀a∈A,bt c.length a=bt c.length p)(y:∀b f,B=b::f→bt c.length b≠bt c.length p)(hc:Lc n)(s:hd n.1=bt c.length p)(j:∀k v,rK n k v↔TS A c k v):Row (L++ [n]) (D++A) B c:=by
 refine⟨fun m hm=>?_,du.2 ⟨r.up,List.pairwise_singleton ..,fun a w b z=>?_⟩,fun m hm q d=>?_,fun k v=>?_⟩
 ·rcases bW.1 hm with hm|hm
  ·exact r.can m hm
  ·rw[au.1 hm];exact hc
 ·rw[au.1 z,s]
  exact r.lo a w p (f7 _ o)
 ·rcases bW.1 hm with hm|hm
  ·exact r.lo m hm q (gG _ d)
  ·rw[au.1 hm,s]
   rcases B with _|⟨g,f⟩
   ·cases d
   have E:=y g f rfl;have F:=u.mono o (aE (a:=g) (l:=f));rcases aA.1 d with rfl|d
   ·omega
   ·have i:Beg ([g]++f) c:=u.sub (List.sublist_append_right A _)
    have:=i.mono (au.2 rfl) d;omega
 ·constructor
  ·rintro⟨m,hm,hi⟩
   rcases bW.1 hm with hm|hm
   ·obtain⟨q,d,e⟩:=(r.got k v).1 ⟨m,hm,hi⟩
    exact⟨q,f7 _ d,e⟩
   ·rw[au.1 hm]at hi
    obtain⟨q,d,e⟩:=(j k v).1 hi;exact⟨q,gG _ d,e⟩
  ·rintro⟨q,d,e⟩
   rcases bW.1 d with d|d
   ·obtain⟨m,hm,hi⟩:=(r.got k v).2 ⟨q,d,e⟩
    exact⟨m,f7 _ hm,hi⟩
   ·exact⟨n,gG _ (au.2 rfl),(j k v).2 ⟨q,d,e⟩⟩
theorem Row.done{L:List Bn}{D:List Pr}{a:List UInt8}(r:Row L D [] a):fi (.ofL L)∧∀k v,pi (.ofL L) k v↔TS D a k v:=by
 refine⟨eI.2 ?_,fun k v=>?_⟩
 ·rw[Fo.to_of];exact⟨r.up,r.can⟩
 ·rw[fq,Fo.to_of];exact r.got k v
end Go.Proofs
namespace Go.Proofs
open Go Go.Lift
theorem Mi(s:ByteArray):s.data.toList.length=s.size:=by simp
theorem Kid.less{W W':Nat→Prop}{h:ad}(hm:∀b,W' b→W b∨h.size≤b){a:Option Addr}{n:Bn}:Kid W h a n→Kid W' h a n
 |⟨b,sl,e1,e2,e3⟩=>⟨b,sl,e1,e2,e3.less hm⟩
theorem Kid.updM{W M:Nat→Prop}{h c:ad}(k:Upd M h c)(hm:∀b,M b→W b∨h.size≤b){a:Option Addr}{n:Bn}:Kid W h a n→Kid W c a n
 |⟨b,sl,e1,e2,e3⟩=>⟨b,sl,e1,e2,e3.updM k hm⟩
theorem RxL.less{W W':Nat→Prop}{h:ad}(hm:∀b,W' b→W b∨h.size≤b){ks:List (Option Addr)}{L:List Bn}(r:RxL W h ks L):RxL W' h ks L:=⟨r.1,fun p a=>(r.2 p a).less hm⟩
theorem RxL.updM{W M:Nat→Prop}{h a:ad}(k:Upd M h a)(hm:∀b,M b→W b∨h.size≤b){ks:List (Option Addr)}{L:List Bn}(r:RxL W h ks L):RxL W a ks L:=⟨r.1,fun p c=>(r.2 p c).updM k hm⟩
theorem RN{p:Pr}{n:Nat}(h:n<(ky p).length):∃b:UInt8,p.1[n]? =some b∧b.toNat=bt n p:=by
 rw[Ks];refine⟨(ky p)[n],ag h,?_⟩;unfold bt hd;rw[List.drop_eq_getElem_cons h];rfl
end Go.Proofs
namespace Go.Proofs
open Go Go.Lift
theorem pB{h:ad}{t:Tr}{k:ad→Prop}(d:∀h',h'[h.size]? =some (.cells (jT t).toArray aS (0,0))→Upd No h h'→k h'):
  At (hnew h (jT vI) aS) (fun b=>tT b (some (aD h)) 0 (jT t)∧At (gT b (aD h) 0 (jT t)) k):=
 aJ fun b b1 k1=>cS (c:=jT vI) (vs:=jT t) b1 rfl fun f b2 a=>d f b2 (k1.own a (ao _))
end Go.Proofs
namespace Go.Proofs
open Go Go.Lift
theorem S7{h:ad}{b n:Nat}{t:TypeId}{c d vs:List Value}(a:h[b]? =some (.cells (c++d).toArray t (0,0))) (f:c.length=n) (m:vs.length=d.length) {k:ad→Prop}
  (g:∀h',h'[b]? =some (.cells (c++vs).toArray t (0,0))→Upd (· =b) h h'→k h'):tT h (some (adr ⟨b,0,none⟩ n)) 0 vs∧At (gT h (adr ⟨b,0,none⟩ n) 0 vs) k:=by
 rw[bO,aL];have e:=iG vs h 0 n (c++d) a (by rw[af];omega);refine⟨.inr ⟨_,rfl,fun j i=>by rw[bO];exact iv a (by rw[cP,af];omega)⟩,bV ?_⟩
 rw[e];refine g _ ?_ (Upd.set h _ rfl);rw[jK a];congr 3
 subst f;rw[cX,List.take_left,fl (by rw[af];omega),bT]
abbrev edL(pb tb:Nat)(t:Tr):List Value:= [.pointer (some ⟨pb,0,none⟩),.pointer (some ⟨tb,0,none⟩)]++jT t
def EdAt(h:ad)(eb pb tb:Nat)(t:Tr):Prop:=h[eb]? =some (.cells (edL pb tb t).toArray Cr (0,0))
theorem Q1{h:ad}{tb pb:Nat}{ti:Int}{a:Bool}(k:TokAt h tb pb ti a){K:Bool→ad→Prop}(b:K a h):HC PG eV [.pointer (some ⟨tb,0,none⟩)] [.c .bool] K h:=by
 refine Ag k.by_ ?_;cases a<;>exact b
theorem CJ{h:ad}{eb pb tb:Nat}{t:Tr}{ti:Int}{a:Bool}(e:EdAt h eb pb tb t)(k:TokAt h tb pb ti a){K:Bool→ad→Prop}(b:K (!a) h):HC PG kK [.pointer (some ⟨eb,0,none⟩)] [.c .bool] K h:=by
 refine zk _ ?_;unfold rW f9;exact ay.2 ⟨_,rfl,_,vc e 1,Q1 k b⟩
theorem rt{h:ad}{eb pb tb:Nat}{t:Tr}{ti:Int}{a:Bool}(e:EdAt h eb pb tb t)(k:TokAt h tb pb ti a){K:Int→ad→Prop}(b:K (if a then 0 else 5) h):HC PG j5 [.pointer (some ⟨eb,0,none⟩)] [.c (.int .i64)] K h:=by
 refine Ci _ ?_;unfold uI;refine aj.2 (CJ e k ?_);cases a
 ·exact ay.2 b
 ·exact aj.2 b
theorem EdAt.upd{M:Nat→Prop}{h a:ad}{eb pb tb:Nat}{t:Tr}(e:EdAt h eb pb tb t)(k:Upd M h a)(hm:¬M eb):EdAt a eb pb tb t:=k.get e hm
theorem TokAt.upd{M:Nat→Prop}{h b:ad}{tb pb:Nat}{ti:Int}{a:Bool}(e:TokAt h tb pb ti a)(k:Upd M h b)(hm:¬M tb):TokAt b tb pb ti a:=k.get e hm
theorem HV.mono{P:Program}{V:Value}{args:List Value}{ks:List Kind}{K a:um ks→ad→Prop}{h:ad}{f:FuncId}{cap:Array Value}(e:V=.func (.func f) #[] cap)(hc:HC P f (args++cap.toList) ks K h)(b:∀t h',K t h'→a t h'):HV P V args ks a h:=by
 subst e;exact HV.mk' (by simpa using hc.mono b)
abbrev Lu:List Kind:= [.agg [.int .i64,.int .u64,.int .u64,.int .u64,.ptr,.ptr],.c (.int .i64)]
theorem CM{h:ad}{eb pb tb:Nat}{tu:Tr}{f:FuncId}{cap:Array Value}(e:EdAt h eb pb tb tu){K:Int→ad→Prop}
  (hc:HC PG f ([.pointer (some ⟨tb,0,none⟩)]++cap.toList) Lu (fun(z:Tr×Int) j=>EdAt j eb pb tb tu∧∀i,Upd No j i→((z.2=0→∀h',EdAt h' eb pb tb z.1→Upd (· =eb) i h'→K 0 h')∧(z.2≠0→K z.2 i))) h):HC PG kJ [.pointer (some ⟨eb,0,none⟩),.func (.func f) #[] cap] [.c (.int .i64)] K h:=by
 refine zi _ _ ?_;unfold rU bh ah aI nv rk pj US zF f9 yA;refine⟨_,rfl,_,vc e 1,HV.mono rfl hc fun(z:Tr×Int) j hz=>?_⟩
 obtain⟨p,hz⟩:=hz;refine aJ fun i u s=>cS (c:=jT vI) (vs:=jT z.1) u rfl fun q a o=>?_
 have g:=s.own o (ao _);obtain⟨k,m⟩:=hz q g;refine CondP.intro (fun b=>?_) fun b=>?_
 ·have b:z.2=0:=by simpa using b
  refine⟨_,vc a 0,_,vc a 1,_,vc a 2,_,vc a 3,_,vc a 4,_,vc a 5,_,rfl,?_⟩;refine S7 (c:= [.pointer (some ⟨pb,0,none⟩),.pointer (some ⟨tb,0,none⟩)]) (d:=jT tu) (vs:=jT z.1) (p.upd g id) rfl rfl fun w v n=>?_
  rw[b];exact k b w v n
 ·exact m (by simpa using b)
structure EdO(W S:Nat→Prop)(h:ad)(eb pb tb:Nat)(ti:Int)(kind:Int)(x:Hs)(tu:Tr)(lu:List Pr):Prop where
 ed:EdAt h eb pb tb tu
 tk:TokAt h tb pb ti true
 iu:TreeO (some ⟨tb,0,none⟩) (fun y=>W y∨S y) h kind x tu lu S
 lt:∀y,(W y∨S y)→y<h.size
 we:W eb
 wt:W tb
 ap:∀y,S y→¬W y
 up:cA lu
 fit:Fit lu
theorem EdO.can{W S:Nat→Prop}{h:ad}{eb pb tb:Nat}{ti:Int}{b:Int}{x:Hs}{tu:Tr}{lu:List Pr}(e:EdO W S h eb pb tb ti b x tu lu):Can (some ⟨tb,0,none⟩) (some ⟨tb,0,none⟩) (fun y=>W y∨S y) S h:=
 ⟨e.tk.by_,e.lt,fun y c=>.inr c,fun a h=>by cases h;exact .inl e.wt,fun a h d=>by cases h;exact e.ap _ d e.wt⟩
theorem EdO.fin{W S k:Nat→Prop}{h m n v D j:ad}{eb pb tb b:Nat}{ti:Int}{d:Int}{x:Hs}{tu g:Tr}{lu f:List Pr}(e:EdO W S h eb pb tb ti d x tu lu)(B:Upd No h m)(C:Upd S m n)(F:TreeO (some ⟨tb,0,none⟩) (fun y=>Pro (fun y=>W y∨S y) h m y∨k y) n d x g f k)(i:∀y,k y→(S y∨m.size≤y)∧y<n.size)
  (u:Upd (· =b) n v)(L:h.size≤b)(K:b<m.size)(p:Upd No v D)(J:EdAt j eb pb tb g)(s:Upd (· =eb) D j)(up:cA f)(fit:Fit f):EdO W k j eb pb tb ti d x g f∧Upd (fun y=>S y∨y=eb) h j∧∀y,k y→(S y∨h.size≤y)∧y<j.size:=by
 have s3:=B.size;have N:=C.size;have M:=u.size;have P:=p.size;have O:=s.size;have q:∀y,S y→y<h.size:=fun y c=>e.lt y (.inr c)
 have G:=e.lt _ (.inl e.we);have I:=e.lt _ (.inl e.wt);have A:∀{z},W z→¬k z:=fun o h=>by
  rcases(i _ h).1 with h|h
  ·exact e.ap _ h o
  ·have:=e.lt _ (.inl o);omega
 have w:Upd (fun y=>S y∨y=eb) h j:=(((B.wide.tr (C.mono fun y c=>.inl (.inl c))).trans u fun y c=>.inr (by have c:y=b:=c;omega)).tr p.wide).trans s fun y c=>.inl (.inr c)
 have E:=F.loc u L K q i;have H:=(E.upd0 p).upd s (fun y c=>by have:=(i y c).2;omega) fun y c=>by
  have c:y=eb:=c;subst c;exact .inl ⟨.inl (.inl (.inl e.we)),A e.we⟩
 refine⟨⟨J,e.tk.upd w fun h=>?_,H.less fun y c=>.inl (c.imp (fun h=>.inl (.inl h)) id),fun y c=>c.elim (fun h=>?_) fun h=>?_,e.we,e.wt,fun y c o=>A o c,up,fit⟩,w,fun y c=>⟨(i y c).1.imp id fun h=>by omega,by have:=(i y c).2;omega⟩⟩
 ·rcases h with h|h
  ·exact e.ap _ h e.wt
  ·have a:=e.tk
   rw[h]at a;have a:=a.symm.trans e.ed;simp at a
 ·have:=e.lt y (.inl h);omega
 ·have:=(i y h).2;omega
set_option maxHeartbeats 1000000 in
theorem Kz{W S:Nat→Prop}{h:ad}{eb pb tb:Nat}{ti:Int}{f:Int}{x:Hs}{tu:Tr}{lu:List Pr}(e:EdO W S h eb pb tb ti f x tu lu)(M:lu.length≤1000000)(p:Pr){K:Int→ad→Prop}
  (F:∀k b u,EdO W u k eb pb tb ti f x b (lQ lu p)→Upd (fun y=>S y∨y=eb) h k→(∀y,u y→(S y∨h.size≤y)∧y<k.size)→K (Bl p) k)(g:Fit (lQ lu p)):HC PG fK [.pointer (some ⟨eb,0,none⟩),.agg #[.string p.1,.string p.2]] [.c (.int .i64)] K h:=by
 refine vR _ p ?_;unfold qG tZ;refine aJ fun h1 b1 k1=>aJ fun Y b2 E=>?_
 have z1:=aH b1;have X:=aH b2;have s1:=k1.size;have s2:=E.size;have c1:=E.get0 b1;have d:=k1.tr E;refine⟨_,vc c1 0,rt (e.ed.upd d id) (e.tk.upd d id) (aj.2 ⟨_,vc c1 0,?_⟩)⟩;refine CM (e.ed.upd d id) (AU _ _ _ ?_);unfold tq bh jt ah bS aI bw eK rk pj xn qK f9;refine aJ fun h3 b3 B=>?_
 have I:=aH b3;have a:=d.tr B;have i:=e.ed.upd a id;have L:=B.get0 b2;have G:=B.get0 c1;refine⟨_,vc G 0,_,rfl,_,fI i 2 0,_,fI i 2 1,_,fI i 2 2,_,fI i 2 3,_,fI i 2 4,_,fI i 2 5,p.1,vc L 0,p.2,vc L 1,?_⟩;have q:∀y,S y→y<h.size:=fun y R=>e.lt y (.inr R)
 refine GM (e.iu.pro a) (e.can.pro a) e.up M p fun Z b u m H v Q=>?_
 have V:=m.size;refine⟨vc (m.get G fun s=>by have:=q _ s;omega) 0,?_⟩
 refine cS (c:=jT vI) (vs:=jT b) (m.get b3 fun s=>by have:=q _ s;omega) rfl fun P n j=>?_
 refine⟨_,vc n 0,_,vc n 1,_,vc n 2,_,vc n 3,_,vc n 4,_,vc n 5,?_⟩;have J:EdAt P eb pb tb tu:=(i.upd m fun s=>e.ap _ s e.we).upd j (by have:=e.lt _ (.inl e.we);omega)
 have o:cA (lQ lu p):=by
  unfold lQ;split
  ·exact BA p e.up
  ·exact e.up
 refine⟨J,fun T w=>⟨fun hz k O A=>?_,fun hz=>?_⟩⟩
 ·obtain⟨C,z,D⟩:=e.fin a m H v j (by omega) I w O A o g
  have hz:Bl p=0:=hz;rw[hz]at F;exact F k b u C z D
 ·have hz:Bl p≠0:=hz
  have N:=Q hz;subst N;obtain⟨C,z,D⟩:=e.fin a m H v j (by omega) I w (J.upd w id) (Upd.refl _ _) o g;exact F T b u C z D
end Go.Proofs
namespace Go.Proofs
open Go Go.Lift
theorem LF{W:Nat→Prop}{h:ad}{b:Nat}{sl:ByteArray}{w:Option ByteArray}{F:Fo}(r:RxN W h b sl w F){K:ByteArray×Bool→ad→Prop}(c:∀v,(∀u,w=some u→v=u)→K (v,w.isSome) h):HC PG iT [.pointer (some ⟨b,0,none⟩)] [.c .str,.c .bool] K h:=by
 refine rL _ ?_;unfold oh bw fL;obtain⟨val,s,ow,ks,a,hv,_⟩:=r;exact aj.2 ⟨_,rfl,val,dh (i:=2) a,_,rfl,w.isSome,dh (i:=1) a,c val (vw hv)⟩
theorem JD{W:Nat→Prop}{h:ad}{b:Nat}{sl:ByteArray}{w:Option ByteArray}{F:Fo}(r:RxN W h b sl w F){K:ByteArray×Bool→ad→Prop}(c:K (w.getD ⟨#[]⟩,w.isSome) h):HC PG iT [.pointer (some ⟨b,0,none⟩)] [.c .str,.c .bool] K h:=by
 refine rL _ ?_;unfold oh bw fL;obtain⟨val,s,ow,ks,a,rfl,_⟩:=r;exact aj.2 ⟨_,rfl,_,dh (i:=2) a,_,rfl,w.isSome,dh (i:=1) a,c⟩
theorem OV{W:Nat→Prop}{h:ad}{b:Nat}{sl:ByteArray}{w:Option ByteArray}{F:Fo}(r:RxN W h b sl w F)(n:F.toL.length≤256){K:SliceV→ad→Prop}(j:∀s' a ks,OwnS mw 1 bj (fun y=>h.size≤y) a s' ks→RxL W a ks F.toL→Upd No h a→K s' a):HC PG oT [.pointer (some ⟨b,0,none⟩)] [.c .slice] K h:=by
 refine AJ _ ?_;unfold sZ aM;obtain⟨val,s,ow,ks,m,hv,f,_,k⟩:=r;have c:=pT.1 k;refine aj.2 ⟨_,rfl,s,dh (i:=3) m,?_⟩;refine Hw f (by rw[c.1];omega) fun s' a g d=>j s' a ks g (c.upd0 d) d
theorem O8(lab:List UInt8)(w:Option ByteArray)(b a:Fo):yM (.cons lab w b a)=((w.map fun v=>(([]:List UInt8),v)).toList++yM b).map (fun p=>(lab++p.1,p.2))++yM a:=rfl
end Go.Proofs
namespace Go.Proofs
open Go Go.Lift
end Go.Proofs
namespace Go.Proofs
open Go Go.Lift
end Go.Proofs
namespace Go.Proofs
open Go Go.Lift
end Go.Proofs
namespace Go.Proofs
theorem Q0:∀{n x:Nat},x<2^n→0<x→∃c,c<n∧x.testBit c=true∧∀j,j<c→x.testBit j=false
 |0,x,h,h'=>by simp at h;omega
 |n+1,x,h,h'=>by
  by_cases e:x%2=1
  ·exact⟨0,by omega,by rw[j7];simpa using e,fun j a=>absurd a (Nat.not_lt_zero _)⟩
  ·obtain⟨c,f,b,d⟩:=Q0 (n:=n) (x:=x/2) (by rw[Nat.pow_succ]at h;omega) (by omega)
   refine⟨c+1,by omega,by rw[gR];exact b,fun j a=>?_⟩
   cases j with
   |zero=>rw[j7];simpa using e
   |succ j=>rw[gR];exact d j (by omega)
theorem Eo:∀{c x:Nat},x.testBit c=true→(∀j,j<c→x.testBit j=false)→∀i,(x-1).testBit i=if i<c then true else if i=c then false else x.testBit i
 |0,x,h,_,i=>by
  have h:x%2=1:=by rw[j7]at h;simpa using h
  cases i with
  |zero=>rw[j7,if_neg (by omega),if_pos rfl];simp;omega
  |succ i=>rw[gR,gR,if_neg (by omega),if_neg (by omega)];congr 1;omega
 |c+1,x,h,hl,i=>by
  have a:=hl 0 (by omega);rw[j7]at a;have d:¬x%2=1:=by simpa using a
  have a:x%2=0:=by omega
  rw[gR]at h;have b:0<x/2:=by
   rcases Nat.eq_zero_or_pos (x/2)with e|e
   ·rw[e,fW]at h;cases h
   ·exact e
  cases i with
  |zero=>rw[j7,if_pos (by omega)];simp;omega
  |succ i=>
   have:=Eo (x:=x/2) h (fun j f=>by have:=hl (j+1) (by omega);rwa [gR]at this) i
   rw[gR,gR,show(x-1)/2=x/2-1 by omega,this]
   simp only[Nat.add_lt_add_iff_right,Nat.add_right_cancel_iff]
theorem Tu{c x:Nat}(h:x.testBit c=true)(d:∀j,j<c→x.testBit j=false)(hc:c<32)(hx:x<4294967296):x&&&(4294967296-x)=2^c:=by
 have f:0<x:=by
  rcases Nat.eq_zero_or_pos x with e|e
  ·rw[e,fW]at h;cases h
  ·exact e
 refine gZ fun i=>?_
 have e:4294967296-x=2^32-((x-1)+1):=by omega
 rw[ii,e,Nat.testBit_two_pow_sub_succ (by omega),Eo h d,Nat.testBit_two_pow];by_cases a:i<c
 ·rw[if_pos a,d i a];simp;omega
 ·rw[if_neg a]
  by_cases b:i=c
  ·subst b;simp[h,hc]
  ·rw[if_neg b]
   cases x.testBit i<;>simp<;>omega
theorem PA{c x:Nat}(h:x.testBit c=true)(d:∀j,j<c→x.testBit j=false)(i:Nat):(x&&&(x-1)).testBit i=(x.testBit i&&decide (c<i)):=by
 rw[ii,Eo h d];by_cases a:i<c
 ·rw[if_pos a,d i a];rfl
 ·rw[if_neg a]
  by_cases b:i=c
  ·subst b;simp
  ·rw[if_neg b]
   have:c<i:=by omega
   simp[this]
end Go.Proofs
namespace Go.Proofs
open Go Go.Lift
def wl(x:Hs):Nat→List Pr→List Pr
 |0,l=>l
 |m+1,l=>fS x (12-m) l++(jJ x (12-m) l).flatMap (wl x m)
def cw(x:Hs):Nat→List Pr→Nat
 |0,_=>2
 |m+1,l=>2+((jJ x (12-m) l).map (cw x m)).sum
structure Fr where
 sp:SliceV
 sk:SliceV
 n:Nat
 ps:List Pr
 ks:List (Nat×List Pr)
def Fr.raw(f:Fr):SliceV×SliceV:=(f.sp,f.sk)
def Fr.rem(x:Hs)(f:Fr):List Pr:=f.ps++f.ks.flatMap fun k=>wl x (f.n-1) k.2
theorem setCell{α:Type}{f:α→List Value}{sz:Nat}{t:TypeId}{M:Nat→Prop}{h:ad}{s:SliceV}{P Q:List α}{x y:α}{j:Nat}{v:Value}(n:OwnS f sz t M h s (P++x::Q))(I:j<sz)(C:f y=(f x).set j v){a:Addr}(A:s.a=some a){i:Nat}(hi:i=P.length){G:ad→Prop}(D:∀k,OwnS f sz t M k s (P++y::Q)→Upd M h k→G k):
  Wr h (adr (adr a (i*sz)) j)∧At (hset h (adr (adr a (i*sz)) j) v) G:=by
 subst hi;have q:=n.ne;have d:=n.len;have g:=n.cap;rcases n.blk with F|⟨b,c,m,w,hc,B⟩
 ·rw[af,aV]at d;omega
 rw[A]at m;cases m;have J:(P.flatMap f).length=P.length*sz:=kM q P;rw[bH,aY]at hc;have H:=(q x).1;have E:adr (adr ⟨b,0,none⟩ (P.length*sz)) j=⟨b,P.length*sz+j,none⟩:=by rw[bO,bO,aL]
 rw[E];have p:P.length*sz+j<(P.flatMap f++(f x++Q.flatMap f)++c).toArray.size:=by
  simp only[cP,af];omega
 refine⟨iv hc p,vq hc fun k o u=>D k ⟨by rw[d];simp,q,g,.inr ⟨b,c,A,w,?_,B⟩⟩ (u.mono fun z hz=>.inl (by have hz:z=b:=hz;rw[hz];exact w))⟩
 rw[o];congr 3
 rw[bH,aY,C];apply Array.toList_inj.1;rw[Array.toList_setIfInBounds];simp only[aw];rw[List.set_append_right _ _ (by omega),show P.length*sz+j-(P.flatMap f).length=j by omega,List.set_append_left _ _ (by omega)]
end Go.Proofs
namespace Go.Proofs
open Go Go.Lift
end Go.Proofs
namespace Go.Proofs
open Go Go.Lift
def Below(W:Nat→Prop)(x:Hs)(h:ad)(m:Nat)(r:Option Addr)(l:List Pr):Prop:=(r=none∧l= [])∨∃b,r=some ⟨b,0,none⟩∧TrieAt W x h m b l
theorem Below.upd0{W:Nat→Prop}{x:Hs}{h a:ad}{m:Nat}{r:Option Addr}{l:List Pr}(k:Upd No h a)(t:Below W x h m r l):Below W x a m r l:=t.imp id fun⟨b,e,t⟩=>⟨b,e,TrieAt.upd0 k t⟩
theorem Below.less{W W':Nat→Prop}{x:Hs}{h:ad}{m:Nat}{r:Option Addr}{l:List Pr}(hm:∀b,W' b→W b∨h.size≤b)(t:Below W x h m r l):Below W' x h m r l:=t.imp id fun⟨b,e,t⟩=>⟨b,e,TrieAt.less hm t⟩
theorem Below.updM{W M:Nat→Prop}{x:Hs}{h a:ad}{m:Nat}{r:Option Addr}{l:List Pr}(k:Upd M h a)(hm:∀b,M b→W b∨h.size≤b)(t:Below W x h m r l):Below W x a m r l:=t.imp id fun⟨b,e,t⟩=>⟨b,e,TrieAt.updM k hm t⟩
end Go.Proofs
namespace Go.Proofs
open Go Go.Lift
abbrev tzL:List Nat:= [0,1,28,2,29,14,24,3,30,22,20,15,25,17,4,8,31,27,13,23,21,19,16,7,26,12,18,6,11,5,10,9]
def Tab(h:ad):Prop:=∀i,i<32→aR h ⟨0,i,none⟩=some (.int .u8 ((tzL.getD i 0:Nat):Int))
theorem Tab.upd{M:Nat→Prop}{h a:ad}(t:Tab h)(k:Upd M h a)(hm:¬M 0):Tab a:=fun i hi=>k.cell (t i hi) hm
theorem Uv:∀c:Fin 32,Int.fdiv (IntKind.wrap .u32 (IntKind.wrap .u32 ((2^c.val:Nat):Int)*125613361)) (2^(min (27:Int).toNat (IntKind.bits .u32)))=((2^c.val*125613361%4294967296/134217728:Nat):Int)∧2^c.val*125613361%4294967296/134217728<32∧tzL.getD (2^c.val*125613361%4294967296/134217728) 0=c.val:=by decide+kernel
theorem RX{a b:Nat}(c:a<4294967296)(d:b<4294967296):(aq (IntKind.bits .u32) (a:Int)&&&aq (IntKind.bits .u32) (b:Int)).toNat=a&&&b:=by
 rw[show IntKind.bits .u32=32 from rfl,eZ,eZ,BitVec.toNat_and,oq,oq,dw (show a<2^32 from c),dw (show b<2^32 from d)]
theorem VK{h:ad}(tb:Tab h){x c:Nat}(hx:x<4294967296)(hc:c<32)(a:x.testBit c=true)(i:∀j,j<c→x.testBit j=false){K:Int→ad→Prop}(g:K (c:Int) h):HC PG iz [.int .u32 (x:Int)] [.c (.int .i64)] K h:=by
 refine rg x ?_;unfold lL bJ dH;have k:0<x:=by
  rcases Nat.eq_zero_or_pos x with e|e
  ·rw[e,fW]at a;cases a
  ·exact e
 refine CondP.intro (fun e=>?_) fun _=>?_
 ·have e:(x:Int)=0:=by simpa using e
  omega
 have ew:IntKind.wrap .u32 (0-(x:Int))=((4294967296-x:Nat):Int):=by rw[IntKind.wrap_u32];omega
 rw[ew,RX hx (by omega),Tu a i hc hx];obtain⟨f,b,d⟩:=Uv ⟨c,hc⟩;simp only at f b d;simp only[Bd];rw[f];refine⟨by decide,⟨by omega,by omega⟩,((tzL.getD (2^c*125613361%4294967296/134217728) 0:Nat):Int),?_,?_⟩
 ·rw[Nat.mul_one,bO,aL,Int.toNat_natCast];exact tb _ b
 ·rw[d,oD (by omega)];exact g
def dk(d k:Nat):Nat:=(d>>>k)<<<k
theorem BW(d k i:Nat):(dk d k).testBit i=(decide (k≤i)&&d.testBit i):=by
 unfold dk;rw[Nat.testBit_shiftLeft];by_cases h:k≤i
 ·rw[decide_eq_true (show i≥k from h),Nat.testBit_shiftRight];congr 2;omega
 ·rw[decide_eq_false (show ¬i≥k from h)];rfl
theorem Ua(d k:Nat):dk d k≤d:=by
 unfold dk;rw[Nat.shiftLeft_eq,Nat.shiftRight_eq_div_pow];exact Nat.div_mul_le_self ..
theorem TJ(d:Nat):dk d 0=d:=gZ fun i=>by rw[BW];simp
theorem GY{d:Nat}(hd:d<4294967296){v:Nat}{h:ad}(z:h[v]? =some (.cells #[.int .u32 (d:Int)] uM (0,0)))
  {BODY:Int→(Option Ex→ad→Prop)→ad→Prop} {N:ad→Prop} {X:Nat→ad→Prop} {R:ad→Prop} (Inv:Nat→ad→Prop) (M:Nat→Prop)
  (tab:∀k a,Inv k a→Tab a) (h0:Inv 0 h) (f:∀k a q,Inv k a→h.size≤a.size→Upd (fun b=>b=v∨h.size≤b) a q→Inv k q)
  (hM:∀b,M b→b≠v∧b<h.size)
  (step:∀k c a (KK:Option Ex→ad→Prop),Inv k a→k≤c→c<32→d.testBit c=true→(∀j,k≤j→j<c→d.testBit j=false)→(∀q,Inv (c+1) q→Upd M a q→KK none q)→BODY (c:Int) KK a)
  (fin:∀k a,Inv k a→(∀j,k≤j→j<32→d.testBit j=false)→a[h.size]? =some (.deferred (some []))→N a):
  RangeP PG (.func (.func iU) #[] #[.pointer (some ⟨v,0,none⟩)]) [.c (.int .i64)] h
   (fun GX bz (x:Int) k J=>(J[(cu h+1)]? =some GX∧At (Array.setIfInBounds J (cu h+1) bz) (fun S=>BODY x k S))) N X R:=by
 refine⟨fun lo hlo s=>?_⟩
 refine⟨iU,#[],#[.pointer (some ⟨v,0,none⟩)],rfl,?_⟩;have zb:=aH z;have k1:Upd No h ((h.push (.deferred (some []))).push (lo .ready none)):=(Upd.push No _ _).tr (Upd.push No _ _);have Y:((h.push (.deferred (some []))).push (lo .ready none))[h.size+1]? =some (lo .ready none):=by
  have:=En (h.push (.deferred (some []))) (lo .ready none);rwa [Array.size_push]at this
 have l1:((h.push (.deferred (some []))).push (lo .ready none))[h.size]? =some (.deferred (some [])):=(Upd.push No _ _).get0 (En h _);have b1:=k1.get0 z;have i1:=f 0 _ _ h0 (ao _) k1.wide;have z1:=aH Y;generalize (h.push (.deferred (some []))).push (lo .ready none)=a at k1 Y l1 b1 i1 z1;refine xU (.func (.yield (h.size+1)) #[] #[]) ⟨v,0,none⟩ ?_;unfold ol
 refine LoopP.ghost (fun(k:Nat) (_:Unit) g=>Inv k g∧g[v]? =some (.cells #[.int .u32 ((dk d k:Nat):Int)] uM (0,0))∧g[h.size]? =some (.deferred (some []))∧g[h.size+1]? =some (lo .ready none)∧k≤32) (fun k=>33-k) 0 ⟨i1,by rw[TJ];exact b1,l1,Y,bo _⟩ ?_
 rintro I k ⟨⟩ g ⟨hi,y,L,m,hk32⟩ hI;have zz:=aH m;have D:=Nat.lt_of_le_of_lt (Ua d k) hd;refine⟨_,bA y,CondP.intro (fun e=>?_) fun e=>?_⟩
 ·have P:0<dk d k:=by
   have:((dk d k:Nat):Int)≠0:=by simpa using e
   omega
  obtain⟨c,hc,C,E⟩:=Q0 (n:=32) D P;have B:=C;rw[BW,bI,decide_eq_true_iff]at B;refine⟨_,bA y,VK (tab k _ hi) D hc C E ?_⟩;refine s (c:Int) g _ m ⟨m,?_⟩;have F:Upd (· =h.size+1) g (g.setIfInBounds (h.size+1) (lo .busy none)):=Upd.set _ _ rfl
  have lb:=jK (o:=lo .busy none) m;have sb:=F.size;refine bV ?_;generalize g.setIfInBounds (h.size+1) (lo .busy none)=q at F lb sb;refine step k c q _ (f k _ _ hi (by omega) (F.mono fun b z=>.inl (.inr (by omega)))) B.1 hc B.2 (fun j a q=>?_) fun T V u=>?_
  ·have:=E j q
   rw[BW,decide_eq_true a]at this;simpa using this
  have G:=u.get lb fun e=>by have:=(hM _ e).2;omega
  have O:=u.get (F.get y (show ¬v=h.size+1 by omega)) fun e=>(hM _ e).1 rfl
  have W:=u.get (F.get L (show ¬h.size=h.size+1 by omega)) fun e=>by have:=(hM _ e).2;omega
  refine⟨G,?_⟩;have w:Upd (· =h.size+1) T (T.setIfInBounds (h.size+1) (lo .ready none)):=Upd.set _ _ rfl
  have l5:=jK (o:=lo .ready none) G;have p:=w.get O (show ¬v=h.size+1 by omega)
  have H:=w.get W (show ¬h.size=h.size+1 by omega)
  have s3:=u.size;have i5:=f (c+1) _ _ V (by omega) (w.mono fun b z=>.inl (.inr (by omega)))
  simp only[Option.isNone_none,if_true];refine aj.2 ?_;generalize T.setIfInBounds (h.size+1) (lo .ready none)=h5 at w l5 p H i5;refine⟨_,bA p,_,bA p,?_⟩;have ew:IntKind.wrap .u32 (((dk d k:Nat):Int)-1)=((dk d k-1:Nat):Int):=by rw[IntKind.wrap_u32];omega
  have ea:dk d k&&&(dk d k-1)=dk d (c+1):=by
   refine gZ fun i=>?_
   rw[PA C E,BW,BW];by_cases K:c<i
   ·rw[decide_eq_true K,decide_eq_true (show k≤i by omega),decide_eq_true (show c+1≤i by omega)];simp
   ·rw[decide_eq_false K,decide_eq_false (show ¬c+1≤i by omega)];simp
  simp only[Bd];rw[ew,RX D (by omega),ea];have Z:IntKind.wrap .u32 ((dk d (c+1):Nat):Int)=((dk d (c+1):Nat):Int):=by have:=Ua d (c+1);rw[IntKind.wrap_u32];omega
  rw[Z];refine⟨iv p (by simp),vq p fun h6 Q A=>?_⟩
  have s5:=w.size;refine hI (c+1) () h6 ⟨f _ _ _ i5 (by omega) (A.mono fun b z=>.inl (.inl z)),Q,A.oth H (by omega),A.oth l5 (by omega),hc⟩ (by omega)
 ·have hz:dk d k=0:=by
   have:((dk d k:Nat):Int)=0:=by simpa using e
   omega
  have w:Upd (· =h.size+1) g (g.setIfInBounds (h.size+1) (lo .exhausted none)):=Upd.set _ _ rfl
  refine⟨.ready,none,by decide,m,?_⟩
  refine fin k _ (f k _ _ hi (by omega) (w.mono fun b z=>.inl (.inr (by omega)))) (fun j a _=>?_) (w.get L (show ¬h.size=h.size+1 by omega))
  have:=BW d k j;rw[hz,fW,decide_eq_true a]at this;simpa using this.symm
end Go.Proofs
namespace Go.Proofs
open Go Go.Lift
abbrev T3(n:Nat):List Value:= [.int .i64 (n:Int)]
theorem UQ(n:Nat):(T3 n).length=1∧0<1:=⟨rfl,by omega⟩
theorem Bk{h:ad}{b:Nat}{c:Array Value}{t:TypeId}(a:h[b]? =some (.cells c t (0,0))):aR h ⟨b,0,none⟩=c[0]?:=bA a
theorem DS{h:ad}{b:Nat}{c c':Array Value}{t:TypeId}{v:Value}{k:ad→Prop}(f:h[b]? =some (.cells c t (0,0))) (hi:0<c.size) (e:c.setIfInBounds 0 v=c') (g:∀a,a[b]? =some (.cells c' t (0,0))→Upd (· =b) h a→k a):Wr h ⟨b,0,none⟩∧At (hset h ⟨b,0,none⟩ v) k:=
 ⟨iv f hi,vq f fun a d i=>g a (e▸d) i⟩
theorem kF{h:ad}{b:Nat}{cs:List Value}{t:TypeId}(a:h[b]? =some (.cells cs.toArray t (0,0))):SRow h (some ⟨b,0,none⟩) cs.length cs:=
 ⟨rfl,.inr ⟨_,rfl,pU a fun i v hv=>by rw[aL,List.getElem?_toArray];exact hv⟩⟩
theorem EB{W:Nat→Prop}{x:Hs}{k:ByteArray}{h:ad}{s:SliceV}{way:List Nat}(g:Sl T3 1 W h s way)(p:way.length≤13)(n:∀i c,way[i]? =some c→ck x i k=c) {K:Bool→ad→Prop} (o:K true h):HC PG nx [.int .u64 (l9 x k),.slice s.a s.len s.cap] [.c .bool] K h:=by
 refine Gi (l9 x k) s ?_;unfold yn bJ dH lR;have f:=g.len;refine LoopP.ghost (fun(i:Nat) (t:Int) d=>t=(i:Int)∧i≤way.length∧d=h) (fun i=>way.length-i) 0 ⟨rfl,bo _,rfl⟩ ?_
 rintro I i t d ⟨rfl,hi,rfl⟩ m;refine aQ (fun b=>?_) fun _=>o
 have b:i<way.length:=by omega
 obtain⟨a,j,_,hv⟩:=g.at0 (ag b);refine⟨⟨by omega,by omega⟩,a,j,_,hv,PC (x:=x) (k:=k) (lev:=i) (by omega) ?_⟩
 rw[n i _ (ag b),bne_self_eq_false];refine aj.2 ?_;rw[cI b (by omega)];exact m (i+1) _ _ ⟨rfl,b,rfl⟩ (by omega)
theorem Pe{W:Nat→Prop}{h:ad}{s:SliceV}{l:List Pr}(c:Sl ge 2 W h s l)(p:cA l)(u:l.length≤1000000){K:Bool→ad→Prop}(o:K true h):HC PG vm [.slice s.a s.len s.cap] [.c .bool] K h:=by
 refine Ja s ?_;unfold Ba bJ dH bw;have g:=c.len;refine LoopP.ghost (fun(i:Nat) (t:Int) j=>t=((i+1:Nat):Int)∧j=h) (fun i=>l.length-i) 0 ⟨rfl,rfl⟩ ?_
 rintro I i t j ⟨rfl,rfl⟩ m;refine aQ (fun b=>?_) fun _=>o
 have b:i+1<l.length:=by omega
 have n:IntKind.wrap .i64 (((i+1:Nat):Int)-1)=(i:Int):=by rw[oD (by omega)];omega
 rw[n];obtain⟨a,k,_,hv⟩:=c.at (ag (show i<l.length by omega))
 obtain⟨a',f,_,d⟩:=c.at (ag b);refine⟨⟨by omega,by omega⟩,a,k,_,hv 0 _ rfl,⟨by omega,by omega⟩,a',f,_,d 0 _ rfl,?_⟩
 have:=cF.1 p i (i+1) (by omega) b (by omega);have q:Op.bytesLess l[i].1.toList l[i+1].1.toList=true:=this;rw[q];refine aj.2 ?_;rw[cI b (by omega)];exact m (i+1) _ _ ⟨rfl,rfl⟩ (by omega)
theorem OJ(x:Hs)(lev:Nat)(l:List Pr):(fS x lev l).length+(jJ x lev l).flatten.length=l.length:=by
 have h:=rl x lev l 32;have d:(l.filter fun p=>decide (ck x lev p.1<32))=l:=List.filter_eq_self.2 fun p _=>decide_eq_true (yg ..)
 rw[d]at h;have:∀n,(fm (fun c=>gI (part x lev c l)) n).length+(fm (fun c=>eJ (part x lev c l)) n).flatten.length=((List.range n).map fun c=>(part x lev c l).length).sum:=by
  intro n;induction n with
  |zero=>simp[fm]
  |succ n ih=>
   rw[gg,gg,List.range_succ,cR,jn];simp only[af,dW,fG,List.map_nil,p8,List.sum_nil,cX];generalize part x lev n l=q;have:(gI q).toList.length+(eJ q).toList.flatten.length=q.length:=by
    match q with
    | []=>simp[gI,eJ]
    | [a]=>simp[gI,eJ]
    |a::b::q=>simp[gI,eJ]
   omega
 have:=this 32;unfold fS jJ;omega
theorem Ix{β:Type}{g:Nat→Option β}{k:Nat}:∀{c:Nat},k≤c→(∀j,k≤j→j<c→g j=none)→fm g c=fm g k
 |0,h,_=>by rw[show k=0 by omega]
 |c+1,h,hn=>by
  rcases bK k (c+1)with a|a
  ·rw[gg,hn c (by omega) (by omega),Ix (by omega) fun j b d=>hn j b (by omega)];simp
  ·rw[show k=c+1 by omega]
end Go.Proofs
namespace Go.Proofs
open Go Go.Lift
theorem OL{W:Nat→Prop}{x:Hs}{h:ad}{m:Nat}{s:Slots}{c:Nat}{l:List Pr}(t:SlotIs W x h m s c l)(b:(s.p c).isSome):∃p,l= [p]∧s.p c=some p:=by
 rcases t with⟨_,a,_⟩|⟨p,d,a,_⟩|⟨_,a,_⟩
 ·rw[a]at b;cases b
 ·exact⟨p,d,a⟩
 ·rw[a]at b;cases b
theorem OM{W:Nat→Prop}{x:Hs}{h:ad}{m:Nat}{s:Slots}{c:Nat}{l:List Pr}(t:SlotIs W x h m s c l)(b:(s.k c).isSome):2≤l.length∧∃d,s.k c=some (some ⟨d,0,none⟩)∧TrieAt W x h m d l:=by
 rcases t with⟨_,_,a⟩|⟨p,_,_,a⟩|⟨f,_,d,a,g⟩
 ·rw[a]at b;cases b
 ·rw[a]at b;cases b
 ·exact⟨f,d,a,g⟩
theorem HP{W:Nat→Prop}{h:ad}{s:SliceV}{way:List Nat}{c:Nat}{xs:List Value}(g:Sl T3 1 W h s way)(hc:s.cap=s.len)(i:way.length≤13)(hx:xs= [.int .i64 (c:Int)]){K:SliceV→ad→Prop}
  (d:∀s' a,Sl T3 1 No a s' (way++ [c])→s'.len≤s'.cap→Upd No h a→K s' a):AppP (some [.int .i64 0]) 1 8 gc s.a s.len s.cap 1 xs h K:=by
 subst hx;refine KO (ys:= [c]) g rfl rfl rfl (by omega) (by omega) (by simp;omega) fun s' a b f=>d s' a (b.sl fun _ _ _ h=>h) b.cap f
def OnWay(x:Hs)(way:List Nat)(l:List Pr):Prop:=∀p∈l,∀i c,way[i]? =some c→ck x i p.1=c
theorem OnWay.part{x:Hs}{way:List Nat}{l:List Pr}{c:Nat}(o:OnWay x way l):OnWay x (way++ [c]) (part x way.length c l):=fun p a i d hd=>by
 have a:=nq.1 a;rcases bK i way.length with h|h
 ·rw[List.getElem?_append_left h]at hd;exact o p a.1 i d hd
 ·rw[List.getElem?_append_right h]at hd
  have:i-way.length=0:=by have:=(List.getElem?_eq_some_iff.1 hd).1;simp at this;omega
  rw[this]at hd;simp only[List.getElem?_cons_zero,Option.some.injEq]at hd;subst hd;rw[show i=way.length by omega];exact a.2
theorem RJ{W:Nat→Prop}{x:Hs}:∀(m:Nat),m≤13→∀{h:ad} {b:Nat} {l:List Pr} {sw:SliceV} {way:List Nat},TrieAt W x h m b l→Tab h→Sl T3 1 No h sw way→sw.len≤sw.cap→way.length=13-m→OnWay x way l→cA l→l.length≤60000→∀{K:Int×Bool→ad→Prop},(∀T,Upd No h T→K ((l.length:Int),true) T)→
  HC PG ny [.agg #[.int .u64 x.k0,.int .u64 x.k1,.int .u64 x.mask],.pointer (some ⟨b,0,none⟩),.slice sw.a sw.len sw.cap] [.c (.int .i64),.c .bool] K h:=by
 intro m;induction m with
 |zero=>
  intro _ h b l sw way t tb hs hcp hw Z hr hn K hk;refine yi (x.k0,x.k1,x.mask) (some ⟨b,0,none⟩) sw ?_;unfold tQ dH ah bw aG nv zT vH my jS Da tZ iR OD;refine aJ fun h1 b1 k1=>aJ fun h2 b2 k2=>aJ fun h3 b3 X=>aJ fun h4 b4 Q=>aJ fun h5 b5 P=>?_
  have H:Upd No h h5:=(((k1.tr k2).tr X).tr Q).tr P;have c1:=P.get0 (Q.get0 (X.get0 (k2.get0 b1)));have c2:=P.get0 (Q.get0 (X.get0 b2));have c3:=P.get0 (Q.get0 b3);have c4:=P.get0 b4;have s1:=k1.size;have s2:=k2.size;have s3:=X.size;have s4:=Q.size;have z3:=aH b3;have z4:=aH b4;have z5:=aH b5;obtain⟨sp,sk,ow,hb,hsp,_⟩:=(BuckAt.upd t H fun _ h=>h.elim:BuckAt W h5 b l).ex
  refine⟨_,Bk c2,qf hb hsp (by omega) fun s8 B ho8 A=>?_⟩
  refine⟨_,Bk (A.get0 c2),gt (A.get0 hb) (ay.2 ?_)⟩;have d1:=A.get0 c1;have d3:=A.get0 c3;have d4:=A.get0 c4;have d5:=A.get0 b5;have s8':=A.size;have hs8:Sl ge 2 No B s8 l:=ho8.sl fun _ _ _ h=>h
  have hlen:=hs8.len;have hwl:=hs.len;have hs':Sl T3 1 No B sw way:=(hs.upd H fun _ h=>h.elim).upd A fun _ h=>h.elim
  refine Join.plain ⟨sw,Bk d3,?_⟩;rw[show((sw.len:Int) !=(13:Int))=false by rw[bne_eq_false_iff_eq];omega]
  refine aj.2 (Pe hs8 hr (by omega) (aj.2 ?_));refine LoopP.ghost (fun(i:Nat) (t:Int) T=>t=(i:Int)∧i≤l.length∧Upd No B T) (fun i=>l.length-i) 0 ⟨rfl,bo _,Upd.refl _ _⟩ ?_
  rintro I i t T ⟨rfl,hi,V⟩ hI;refine aQ (fun L=>?_) fun hge=>?_
  ·have L:i<l.length:=by omega
   obtain⟨a,ha,_,hv⟩:=(hs8.upd V fun _ h=>h.elim).at (ag L)
   refine⟨⟨by omega,by omega⟩,a,ha,_,hv 0 _ rfl,_,hv 1 _ rfl,yc (p:=l[i]) fun h9 b9 k9=>?_⟩
   have z:=V.tr k9;refine⟨_,vc (z.get0 d1) 0,_,vc (z.get0 d1) 1,_,vc (z.get0 d1) 2,_,vc b9 0,sw,Bk (z.get0 d3),sA fun h10 k10=>⟨Bk (k10.get0 (z.get0 d3)),?_⟩⟩
   refine EB ((hs'.upd z fun _ h=>h.elim).upd k10 fun _ h=>h.elim) (by omega) (fun j c hj=>Z _ (aP L) j c hj) (aj.2 ?_)
   rw[cI L (by omega)];exact hI (i+1) _ _ ⟨rfl,L,z.tr k10⟩ (by omega)
  ·have hil:i=l.length:=by omega
   subst hil;refine DS (V.get0 d4) (by simp) rfl fun h9 b9 z=>DS (z.oth (V.get0 d5) (by omega)) (by simp) rfl fun h10 b10 v=>?_
   refine⟨_,Bk (v.oth b9 (by omega)),_,Bk b10,?_⟩;have e:((s8.len:Nat):Int)=(l.length:Int):=by omega
   rw[e];exact hk _ ((((H.tr A).tr V).own z (by omega)).own v (by omega))
 |succ m ih=>
  intro hm h b l sw way t tb hs hcp hw Z hr hn K hk;refine yi (x.k0,x.k1,x.mask) (some ⟨b,0,none⟩) sw ?_;unfold tQ dH ah bw aG nv zT vH my jS Da tZ iR OD;obtain⟨sl,nd,hs0⟩:=t;have N:∀c,c<32→SlotIs W x h m sl c (part x (12-m) c l):=hs0;refine aJ fun h1 b1 k1=>aJ fun h2 b2 k2=>aJ fun h3 b3 X=>aJ fun h4 b4 Q=>aJ fun h5 b5 P=>?_
  have H:Upd No h h5:=(((k1.tr k2).tr X).tr Q).tr P;have c1:=P.get0 (Q.get0 (X.get0 (k2.get0 b1)));have c2:=P.get0 (Q.get0 (X.get0 b2));have c3:=P.get0 (Q.get0 b3);have c4:=P.get0 b4;have s1:=k1.size;have s2:=k2.size;have s3:=X.size;have s4:=Q.size;have z1:=aH b1;have z2:=aH b2;have z3:=aH b3;have z4:=aH b4;have z5:=aH b5;obtain⟨d,n,sp,sk,ow,hb,bits,hsp,hsk,_⟩:=(nd.upd H fun _ h=>h.elim).ex
  have hfp:(fm sl.p 32).length≤32:=wJ;refine⟨_,Bk c2,qf hb hsp (by omega) fun s8 B ho8 A=>?_⟩
  refine⟨_,Bk (A.get0 c2),gt (A.get0 hb) (aj.2 ⟨sw,Bk (A.get0 c3),?_⟩)⟩;have k08:=H.tr A;have hl8:=ho8.len;rw[Ds N]at hl8;have hwl:=hs.len;rw[decide_eq_false (by omega)];refine aj.2 (aJ fun h9 b9 k9=>?_)
  have z:=A.tr k9;have s8':=A.size;have z9:=aH b9;refine DS b9 (by simp) rfl fun h10 b10 v=>?_
  have d1:=v.oth (z.get0 c1) (by omega);have d2:=v.oth (z.get0 c2) (by omega);have d3:=v.oth (z.get0 c3) (by omega);have d4:=v.oth (z.get0 c4) (by omega);have d5:=v.oth (z.get0 b5) (by omega);refine⟨sw,Bk d3,sw,Bk d3,sw,Bk d3,⟨by omega,by omega⟩,⟨by omega,by omega⟩,?_⟩
  refine DS d3 (by simp) rfl fun J b11 E=>?_
  have g:Upd No h J:=((k08.tr k9).own v (by omega)).own E (by omega);have D:=E.oth d1 (by omega);have e2:=E.oth d2 (by omega);have e4:=E.oth d4 (by omega);have e5:=E.oth d5 (by omega);have e9:=E.oth b10 (by omega);have s11:=g.size;have s10a:=v.size;have s11a:=E.size;have G:Sl T3 1 (fun y=>h.size≤y) J ⟨bq sw.a 0 ((sw.len:Int).toNat) 1,((sw.len:Int).toNat)-0,((sw.len:Int).toNat)-0⟩ way:=by
   have:=Sl.sub ((hs.less (W':=fun y=>h.size≤y) fun _ h=>.inr h).upd g fun _ h=>h.elim) (l:=0) (hi:=sw.len) (m:=sw.len) (c:=sw.len-0) (bo _) (by omega) (ao _)
   rw[List.drop_zero,List.take_of_length_le (by omega)]at this;exact this
  have Y:(⟨bq sw.a 0 ((sw.len:Int).toNat) 1,((sw.len:Int).toNat)-0,((sw.len:Int).toNat)-0⟩:SliceV).cap=(⟨bq sw.a 0 ((sw.len:Int).toNat) 1,((sw.len:Int).toNat)-0,((sw.len:Int).toNat)-0⟩:SliceV).len:=rfl;have s:J[h2.size]? =some (.cells #[sv ⟨bq sw.a 0 ((sw.len:Int).toNat) 1,((sw.len:Int).toNat)-0,((sw.len:Int).toNat)-0⟩] NK (0,0)):=b11;clear b11;generalize (⟨bq sw.a 0 ((sw.len:Int).toNat) 1,((sw.len:Int).toNat)-0,((sw.len:Int).toNat)-0⟩:SliceV)=s0 at G Y s
  obtain⟨d',n',sp',sk',ow',hb',M,_⟩:=(nd.upd g fun _ h=>h.elim).ex
  have tb11:=tb.upd g id;refine⟨_,Bk e2,IE hb' (ut d' (aJ fun h12 b12 k12=>?_))⟩
  have s12:=k12.size;have z12:=aH b12;refine GY (d:=d') M.d32 b12 (fun k T=>Upd No J T) No (fun k h1 hi=>tb11.upd hi id) k12 (fun k ha hb hi hle V=>hi.trans V fun y q=>.inr (by omega)) (fun _ h=>h.elim) (fun k c ha KK hi hkc hc hdc _ hK=>?_) fun k ha hi _ hde=>?_
  ·
   have hdc':=hdc;rw[M.dp c hc]at hdc';obtain⟨p,hp1,hp2⟩:=OL (N c hc) hdc';refine⟨_,Bk (hi.get0 e2),zZ (nd.upd (g.tr hi) fun _ h=>h.elim) hc fun hb kb=>?_⟩
   rw[hp2];have ib:=hi.tr kb;refine yc (p:=p) fun hc' bc kc=>?_
   have F:=ib.tr kc;have hon:∀i c',(way++ [c])[i]? =some c'→ck x i p.1=c':=by
    have:=Z.part (c:=c);rw[hw,show 13-(m+1)=12-m by omega,hp1]at this
    exact this p (au.2 rfl)
   refine Join.intro (fun t hd=>t=false∧Upd No hc' hd) (fun R hR=>?_) ?_
   ·refine⟨_,vc (F.get0 D) 0,_,vc (F.get0 D) 1,_,vc (F.get0 D) 2,_,vc bc 0,s0,Bk (F.get0 s),?_,?_⟩
    ·refine sA fun hd f=>⟨Bk (f.get0 (F.get0 s)),aJ fun he be S=>⟨Bk (S.get0 (f.get0 (F.get0 s))),_,kF be,?_⟩⟩
     refine HP (((G.upd F fun _ h=>h.elim).upd f fun _ h=>h.elim).upd S fun _ h=>h.elim) Y (by omega) rfl fun s' hf hsf _ kf=>?_
     exact EB hsf (by simp;omega) hon (hR _ _ ⟨rfl,(f.tr S).tr kf⟩)
    ·refine aJ fun hd bd f=>⟨Bk (f.get0 (F.get0 s)),vc (f.get0 bc) 0,⟨vc (f.get0 (F.get0 D)) 0,vc (f.get0 (F.get0 D)) 1,vc (f.get0 (F.get0 D)) 2⟩,?_⟩
     refine sA fun he S=>⟨Bk (S.get0 (f.get0 (F.get0 s))),_,kF (S.get0 bd),?_⟩
     refine HP (((G.upd F fun _ h=>h.elim).upd f fun _ h=>h.elim).upd S fun _ h=>h.elim) Y (by omega) rfl fun s' hf hsf _ kf=>?_
     exact EB hsf (by simp;omega) hon (hR _ _ ⟨rfl,(f.tr S).tr kf⟩)
   ·rintro t hd ⟨rfl,f⟩
    exact aj.2 (hK hd (F.tr f) ((kb.tr kc).tr f))
  ·
   obtain⟨d'',n'',sp'',sk'',ow'',hb'',u,_⟩:=(nd.upd (g.tr hi) fun _ h=>h.elim).ex
   refine⟨_,Bk (hi.get0 e2),zX hb'' (ut n'' (aJ fun h13 b13 k13=>?_))⟩
   have i13:=hi.tr k13;have s13:=k13.size;have z13:=aH b13;have sa:=hi.size;have zde:=aH hde;have hl8':s8.len=(fS x (12-m) l).length:=hl8;have hall:=OJ x (12-m) l;have hfl:∀k,(fm (fun c=>eJ (part x (12-m) c l)) k).flatten.length≤60000∨32<k:=fun k=>by
    rcases bK 32 k with h|h
    ·exact .inr h
    ·refine .inl ?_
     have:((fm (fun c=>eJ (part x (12-m) c l)) k).flatten).length≤(jJ x (12-m) l).flatten.length:=by
      unfold jJ;have hj:∀j,∃r,fm (fun c=>eJ (part x (12-m) c l)) (k+j)=fm (fun c=>eJ (part x (12-m) c l)) k++r:=fun j=>by
       induction j with
       |zero=>exact⟨[],by simp⟩
       |succ j ihj=>obtain⟨r,hr⟩:=ihj;exact⟨r++(eJ (part x (12-m) (k+j) l)).toList,by rw[←Nat.add_assoc,gg,hr,aw]⟩
      have this:=hj (32-k);rw[show k+(32-k)=32 by omega]at this
      obtain⟨r,hr⟩:=this;rw[hr,dW,af];omega
     omega
   refine GY (d:=n'') u.n32 b13 (fun k T=>k≤32∧Upd (· =B.size) ha T∧T[B.size]? =some (.cells #[.int .i64 (((fS x (12-m) l).length+(fm (fun c=>eJ (part x (12-m) c l)) k).flatten.length:Nat):Int)] gc (0,0))) (· =B.size)
    (fun k hx q=>(tb11.upd hi id).upd q.2.1 fun e=>by have e:0=B.size:=e;omega) ⟨bo _,k13.wide,?_⟩ (fun k hx q hz hle V=>⟨hz.1,hz.2.1.trans V fun y q=>.inr (by omega),V.get hz.2.2 (by omega)⟩) (fun y q=>⟨by have q:y=B.size:=q;omega,by have q:y=B.size:=q;omega⟩) (fun k c hx KK q hkc hc hnc hno hK=>?_) fun k hx q hno hdx=>?_
   ·have:=i13.get0 e9
    rw[show((fS x (12-m) l).length+(fm (fun c=>eJ (part x (12-m) c l)) 0).flatten.length:Nat)=s8.len by rw[hl8'];simp[fm]]
    exact this
   ·obtain⟨hk32,w,O⟩:=q
    have hnc':=hnc;rw[u.nk c hc]at hnc';obtain⟨h2l,kb,hkb,tk⟩:=OM (N c hc) hnc';have C:∀{y:Nat} {o:Obj},J[y]? =some o→y≠B.size→hx[y]? =some o:=fun q hne=>w.get (hi.get0 q) hne
    have uW:Upd No h hx:=(g.tr hi).trans w fun y q=>.inr (by have q:y=B.size:=q;omega)
    refine⟨_,Bk (C e2 (by omega)),Aa (nd.upd uW fun _ h=>h.elim) hc ?_⟩
    rw[hkb];have hmc:eJ (part x (12-m) c l)=some (part x (12-m) c l):=by unfold eJ;rw[if_pos h2l]
    have hskip:fm (fun c=>eJ (part x (12-m) c l)) c=fm (fun c=>eJ (part x (12-m) c l)) k:=Ix hkc fun j h1 h2=>by
     have:=hno j h1 h2;rw[u.nk j (by omega),(D5 (N j (by omega))).2]at this;simpa using this
    have hnext:(fm (fun c=>eJ (part x (12-m) c l)) (c+1)).flatten.length=(fm (fun c=>eJ (part x (12-m) c l)) k).flatten.length+(part x (12-m) c l).length:=by
     rw[gg,hskip,hmc];simp
    have hpl:(part x (12-m) c l).length≤l.length:=jW;refine Join.intro (fun t hd=>t=(((part x (12-m) c l).length:Int),true)∧Upd No hx hd) (fun R hR=>?_) ?_
    ·refine⟨_,vc (C D (by omega)) 0,_,vc (C D (by omega)) 1,_,vc (C D (by omega)) 2,s0,Bk (C s (by omega)),aJ fun hd bd f=>?_⟩
     refine⟨Bk (f.get0 (C s (by omega))),⟨vc (f.get0 (C D (by omega))) 0,vc (f.get0 (C D (by omega))) 1,vc (f.get0 (C D (by omega))) 2⟩,_,kF bd,?_⟩;have hsx:Sl T3 1 (fun y=>h.size≤y) hd s0 way:=((G.upd hi fun _ h=>h.elim).upd w fun y q=>.inl (by have q:y=B.size:=q;omega)).upd f fun _ h=>h.elim
     refine HP hsx Y (by omega) rfl fun s' he hse hce S=>?_
     have gE:=f.tr S;refine⟨⟨vc (gE.get0 (C D (by omega))) 0,vc (gE.get0 (C D (by omega))) 1,vc (gE.get0 (C D (by omega))) 2⟩,?_⟩;refine ih (by omega) (TrieAt.upd0 (uW.tr gE) tk) (tb.upd (uW.tr gE) id) hse hce (by simp;omega) ?_ (px hr) (by omega) fun hf kf=>hR _ _ ⟨rfl,gE.tr kf⟩
     have:=Z.part (c:=c);rw[hw,show 13-(m+1)=12-m by omega]at this
     exact this
    ·rintro t hd ⟨rfl,f⟩
     refine Join.plain (aj.2 ?_);rw[decide_eq_false (by simp only;omega)];refine aj.2 ⟨_,Bk (f.get0 O),?_⟩;have hf1:=(hfl k).resolve_right (by omega);have hS:(fS x (12-m) l).length≤60000:=by omega
     refine DS (c':= #[.int .i64 (((fS x (12-m) l).length+(fm (fun c=>eJ (part x (12-m) c l)) (c+1)).flatten.length:Nat):Int)]) (f.get0 O) (by simp) ?_ fun hf bf uf=>?_
     ·rw[hnext]
      have:IntKind.wrap .i64 ((((fS x (12-m) l).length+(fm (fun c=>eJ (part x (12-m) c l)) k).flatten.length:Nat):Int)+((part x (12-m) c l).length:Int))=(((fS x (12-m) l).length+((fm (fun c=>eJ (part x (12-m) c l)) k).flatten.length+(part x (12-m) c l).length):Nat):Int):=by rw[oD (by omega)];omega
      simp only[this];rfl
     ·exact hK hf ⟨hc,(w.tr f.wide).tr uf,bf⟩ (f.wide.tr uf)
   ·obtain⟨hk32,w,O⟩:=q
    have C:∀{y:Nat} {o:Obj},J[y]? =some o→y≠B.size→hx[y]? =some o:=fun q hne=>w.get (hi.get0 q) hne
    have hkm:fm (fun c=>eJ (part x (12-m) c l)) 32=fm (fun c=>eJ (part x (12-m) c l)) k:=Ix hk32 fun j h1 h2=>by
     have:=hno j h1 h2;rw[u.nk j (by omega),(D5 (N j (by omega))).2]at this;simpa using this
    have ev:((fS x (12-m) l).length+(fm (fun c=>eJ (part x (12-m) c l)) k).flatten.length:Nat)=l.length:=by rw[←hkm];exact hall
    rw[ev]at O;have sx:=w.size;refine⟨_,Bk O,DS (C e4 (by omega)) (by simp) rfl fun hf bf uf=>DS (uf.oth (C e5 (by omega)) (by omega)) (by simp) rfl fun hg bg ug=>?_⟩
    have sf:=uf.size;have sg:=ug.size;have g2:=ug.oth (uf.oth hdx (by omega)) (by omega);have kh:Upd (· =h13.size) hg (hg.setIfInBounds h13.size (.deferred none)):=Upd.set _ _ rfl
    refine⟨g2,bV ?_⟩;generalize hg.setIfInBounds h13.size (.deferred none)=hh at kh;have g3:=kh.oth (ug.oth (uf.oth (w.get hde (by omega)) (by omega)) (by omega)) (by omega);have kj:Upd (· =h12.size) hh (hh.setIfInBounds h12.size (.deferred none)):=Upd.set _ _ rfl
    refine⟨g3,bV ?_⟩;generalize hh.setIfInBounds h12.size (.deferred none)=hj at kj;refine⟨_,Bk (kj.oth (kh.oth (ug.oth bf (by omega)) (by omega)) (by omega)),_,Bk (kj.oth (kh.oth bg (by omega)) (by omega)),?_⟩;refine hk hj ?_;refine(((((g.tr hi).trans w fun y q=>.inr ?_).own uf (by omega)).own ug (by omega)).own kh (by omega)).own kj (by omega)
    have q:y=B.size:=q;omega
end Go.Proofs
namespace Go.Proofs
open Go Go.Lift
theorem Ea{W:Nat→Prop}{h:ad}{b:Nat}{sl val:ByteArray}{has:Bool}{s:SliceV}{ow:Option Addr}{ks:List (Option Addr)}{F:Fo}(N:h[b]? =some (.cells (xr sl has val s ow) bG (0,0))) (A:Sl mw 1 W h s ks) (L:RxL W h ks F.toL) (hc:fi F) {K:Bool→ad→Prop} (hk:K true h):HC PG kI [.pointer (some ⟨b,0,none⟩)] [.c .bool] K h:=by
 refine za (some ⟨b,0,none⟩) ?_;unfold rQ bJ dH bw aM;refine⟨_,rfl,s,dh (i:=3) N,?_⟩;have n:=A.len;rw[L.1]at n;have S:=jO hc;have k:=eI.1 hc;refine LoopP.ghost (fun(i:Nat) (t:Int) G=>t=(i:Int)∧i≤F.toL.length∧G=h) (fun i=>F.toL.length-i) 0 ⟨rfl,bo _,rfl⟩ ?_
 rintro I i t G ⟨rfl,hi,rfl⟩ hI;refine aQ (fun f=>?_) fun _=>hk
 have f:i<F.toL.length:=by omega
 obtain⟨kb,j,E,v,kv,V,X,kk,p,_⟩:=L.at f;obtain⟨a,Z,_,hv⟩:=A.at0 E;have m:j.data.toList≠[]:=by rw[v];exact(k.2 _ (aP f)).1
 have e0:(j.toList==(⟨#[]⟩:ByteArray).toList)=false:=by
  rw[beq_eq_false_iff_ne,ByteArray.toList_eq,ByteArray.toList_eq];exact m
 obtain⟨c,C,B⟩:=BK m;refine⟨⟨by omega,by omega⟩,a,Z,_,hv,Join.intro (fun t P=>t=false∧P=G) (fun R O=>?_) ?_⟩
 ·refine⟨_,rfl,j,dh (i:=0) p,?_⟩
  rw[e0];refine aj.2 (aQ (fun J=>?_) fun _=>O _ _ ⟨rfl,rfl⟩)
  have Q:0<i:=by have:(i:Int)>0:=J;omega
  have e1:IntKind.wrap .i64 ((i:Int)-1)=((i-1:Nat):Int):=by rw[oD (by omega)];omega
  rw[e1];have g:i-1<F.toL.length:=by omega
  obtain⟨jb,o,H,q,jv,T,Y,jk,z,_⟩:=L.at g;obtain⟨a',M,_,w⟩:=A.at0 H;have u:o.data.toList≠[]:=by rw[q];exact(k.2 _ (aP g)).1
  obtain⟨d,y,D⟩:=BK u;refine⟨_,rfl,s,dh (i:=3) N,⟨by omega,by omega⟩,a',M,_,w,_,rfl,o,dh (i:=0) z,d,by decide,y,_,rfl,j,dh (i:=0) p,c,by decide,C,O _ _ ⟨?_,rfl⟩⟩
  have:=cF.1 k.1 (i-1) i g f (by omega);rw[v]at B;rw[q]at D;exact decide_eq_false (by omega)
 ·rintro t P ⟨rfl,rfl⟩
  refine aj.2 ?_;rw[cI f (by omega)];exact hI (i+1) _ _ ⟨rfl,f,rfl⟩ (by omega)
theorem HA{W:Nat→Prop}{h:ad}{s:SliceV}{ks:List (Option Addr)}{L:List Bn}{f:FuncId}(k:Sl mw 1 W h s ks)(j:RxL W h ks L)(z:L.length≤256)(u:∀i (hi:i<L.length) {b:Nat} {sl:ByteArray},RxN W h b sl L[i].2.1 L[i].2.2→∀{K:Bool→ad→Prop},K false h→HC PG f [.pointer (some ⟨b,0,none⟩)] [.c .bool] K h){K:Bool→ad→Prop}(w:K false h):
  HC PG cL [.slice s.a s.len s.cap,.func (.func f) #[] #[]] [.c .bool] K h:=by
 refine jg s _ ?_;unfold ff;refine jH s _ ?_;unfold fE bJ dH;have d:=k.len;rw[j.1]at d;refine LoopP.ghost (fun(i:Nat) (t:Int) m=>t=(i:Int)∧i≤L.length∧m=h) (fun i=>L.length-i) 0 ⟨rfl,bo _,rfl⟩ ?_
 rintro I i t m ⟨rfl,hi,rfl⟩ p;refine aQ (fun c=>?_) fun _=>w
 have c:i<L.length:=by omega
 obtain⟨y,q,g,v,o⟩:=j.at c;obtain⟨a,n,_,hv⟩:=k.at0 g;refine⟨⟨by omega,by omega⟩,a,n,_,hv,HV.mk' (u i c o (aj.2 ?_))⟩
 rw[cI c (by omega)];exact p (i+1) _ _ ⟨rfl,c,rfl⟩ (by omega)
def W5(n:Bn):Prop:=∀{W:Nat→Prop} {h:ad} {b:Nat} {sl:ByteArray},RxN W h b sl n.2.1 n.2.2→∀{K:Bool→ad→Prop},K true h→HC PG jN [.pointer (some ⟨b,0,none⟩)] [.c .bool] K h
theorem Vh{lab:List UInt8}{w:Option ByteArray}{F:Fo}(hc:fi F)(a:w.isSome∨2≤F.toL.length)(u:∀n∈F.toL,W5 n):W5 (lab,w,F):=by
 intro W h b sl r K q;simp only at r;obtain⟨val,s,ow,ks,d,hv,f,o,v⟩:=r;have j:=pT.1 v;have c:=f.len;rw[j.1]at c;refine xS (some ⟨b,0,none⟩) ?_;unfold qS aM fL;refine Join.intro (fun t m=>t=false∧m=h) (fun R k=>?_) ?_
 ·refine Ea d f j hc (aj.2 ⟨_,rfl,w.isSome,dh (i:=1) d,?_⟩)
  cases hwS:w.isSome with
  |true=>exact aj.2 (k _ _ ⟨rfl,rfl⟩)
  |false=>
   refine ay.2 ⟨_,rfl,s,dh (i:=3) d,k _ _ ⟨decide_eq_false ?_,rfl⟩⟩;rw[hwS]at a;rcases a with a|a
   ·cases a
   ·omega
 ·rintro t m ⟨rfl,rfl⟩
  refine aj.2 ⟨_,rfl,s,dh (i:=3) d,HA f j (jO hc) (fun i hi b sl p y g=>?_) q⟩
  refine wh _ ?_;unfold pp;exact u _ (aP hi) p g
theorem IP:∀{F:Fo},fi F→∀n∈F.toL,W5 n
 | .nil,_,n,a=>by simp[Fo.toL]at a
 | .cons lab w kids rest,h,n,a=>by
  rcases aA.1 a with rfl|a
  ·exact Vh h.2.2.1 h.2.1 (IP h.2.2.1)
  ·exact IP h.2.2.2.2 n a
theorem LH{W:Nat→Prop}{h:ad}{b:Nat}{l:List Pr}(t:RadAt W h b l){K:Bool→ad→Prop}(k:K true h):HC PG tK [.pointer (some ⟨b,0,none⟩)] [.c .bool] K h:=by
 obtain⟨w,F,r,hc,_⟩:=t.ex;obtain⟨val,s,ow,ks,c,hv,d,g,m⟩:=r;have f:=pT.1 m;refine Gn (some ⟨b,0,none⟩) ?_;unfold yu bw aM;refine ay.2 ⟨_,rfl,_,dh (i:=0) c,?_⟩;rw[beq_self_eq_true];refine ay.2 (Ea c d f hc (ay.2 ⟨_,rfl,s,dh (i:=3) c,HA d f (jO hc) (fun i hi b sl j n a=>?_) k⟩))
 refine Dh _ ?_;unfold vT;exact IP hc _ (aP hi) j a
theorem OI{W:Nat→Prop}{x:Hs}{h:ad}{d:Int}{t:Tr}{l:List Pr}(i:TreeIs W h d x t l)(tb:Tab h)(q:cA l)(n:l.length≤60000){K:Bool→ad→Prop}(g:∀h',Upd No h h'→K true h'):HC PG oN [GK t] [.c .bool] K h:=by
 refine AD t ?_;unfold sU bh ah bS aI vH pj xn;refine aJ fun o b1 k1=>⟨_,vc b1 0,?_⟩
 rcases i with⟨_,b,rfl,t⟩|⟨_,b,rfl,t⟩
 ·refine aj.2 ⟨_,fI b1 1 0,_,fI b1 1 1,_,fI b1 1 2,_,vc b1 0,_,vc b1 1,_,vc b1 2,_,vc b1 3,_,vc b1 4,_,vc b1 5,?_⟩
  refine GN (TrieAt.upd0 k1 t) fun u f=>⟨⟨fI (f.get0 b1) 1 0,fI (f.get0 b1) 1 1,fI (f.get0 b1) 1 2⟩,?_⟩
  refine Gj (x.k0,x.k1,x.mask) _ ?_;unfold yo ah zT vH;refine aJ fun s b3 j=>aj.2 ⟨_,vc b3 0,_,vc b3 1,_,vc b3 2,?_⟩
  have a:=(k1.tr f).tr j;refine RJ 13 (ao _) (sw:=⟨none,0,0⟩) (way:= []) (TrieAt.upd0 a t) (tb.upd a id) (Sl.nil UQ) (ao _) rfl (fun p _ i c hc=>by simp at hc) q n fun k m=>?_
  exact g k (a.tr m)
 ·refine ay.2 ⟨_,vc b1 5,LH (t.upd0 k1) (g o k1)⟩
end Go.Proofs
namespace Go.Proofs
open Go Go.Lift
end Go.Proofs
namespace Go.Proofs
open Go Go.Lift
theorem JX:∀F:Fo,(yM F).length=(F.toL.map fun n=>(oI n.2.1 n.2.2).length).sum
 | .nil=>rfl
 | .cons lab w kids rest=>by
  rw[O8,Fo.toL_cons,fG,p8,←JX rest,af,c7];rfl
def Vq(n:Bn):Prop:=∀{W:Nat→Prop} {h:ad} {b:Nat} {sl:ByteArray},RxN W h b sl n.2.1 n.2.2→(oI n.2.1 n.2.2).length≤1000000000→∀{K:Int→ad→Prop},(∀h',Upd No h h'→K (((oI n.2.1 n.2.2).length:Nat):Int) h')→HC PG sE [.pointer (some ⟨b,0,none⟩)] [.c (.int .i64)] K h
theorem N2{lab:List UInt8}{w:Option ByteArray}{F:Fo}(M:F.toL.length≤256)(P:∀n∈F.toL,Vq n):Vq (lab,w,F):=by
 intro W h b sl r J K G;simp only at r J G;refine KT (some ⟨b,0,none⟩) ?_;unfold CV bJ dH;have g:(oI w F).length=(w.map fun v=>(([]:List UInt8),v)).toList.length+(F.toL.map fun n=>(oI n.2.1 n.2.2).length).sum:=by
  rw[←JX,←af];rfl
 refine Join.intro (fun t E=>t=(((w.map fun v=>(([]:List UInt8),v)).toList.length:Nat):Int)∧E=h) (fun R D=>?_) ?_
 ·refine LF r fun v _=>?_
  cases w with
  |none=>exact aj.2 (D _ _ ⟨rfl,rfl⟩)
  |some u=>exact ay.2 (D _ _ ⟨rfl,rfl⟩)
 ·rintro t E ⟨rfl,rfl⟩
  generalize (w.map fun v=>(([]:List UInt8),v)).toList.length=c0 at g
  refine OV r M fun s1 A ks p f k1=>?_
  have j:Sl mw 1 No A s1 ks:=p.sl fun _ _ _ h=>h
  have d:=j.len;rw[f.1]at d;refine LoopP.ghost (fun(i:Nat) (t:Int×Int) m=>t.1=((c0+((F.toL.take i).map fun n=>(oI n.2.1 n.2.2).length).sum:Nat):Int)∧t.2=(i:Int)∧i≤F.toL.length∧Upd No A m) (fun i=>F.toL.length-i) 0 ⟨by simp,rfl,bo _,Upd.refl _ _⟩ ?_
  rintro I i ⟨V,ti⟩ m ⟨H,C,hi,k⟩ O;simp only at H C;subst H C;have y:∀i,((F.toL.take i).map fun n=>(oI n.2.1 n.2.2).length).sum≤(F.toL.map fun n=>(oI n.2.1 n.2.2).length).sum:=fun i=>by
   conv=>rhs;rw[←ba i F.toL,cR,jn]
   omega
  refine aQ (fun c=>?_) fun q=>?_
  ·have c:i<F.toL.length:=by have:(i:Int)<(s1.len:Int):=c;omega
   obtain⟨L,S,o,_,B⟩:=(f.upd0 k).at c;obtain⟨a,N,_,hv⟩:=(j.upd k fun _ h=>h.elim).at0 o
   refine⟨⟨by simp only;omega,by simp only;omega⟩,a,N,some ⟨L,0,none⟩,hv,?_⟩
   have Q:((F.toL.take (i+1)).map fun n=>(oI n.2.1 n.2.2).length).sum=((F.toL.take i).map fun n=>(oI n.2.1 n.2.2).length).sum+(oI F.toL[i].2.1 F.toL[i].2.2).length:=by
    rw[List.take_succ_eq_append_getElem c,cR,jn];simp
   have A:=y (i+1);refine P _ (aP c) B (by omega) fun T s=>?_
   rw[cI c (by omega)];have e:IntKind.wrap .i64 (((c0+((F.toL.take i).map fun n=>(oI n.2.1 n.2.2).length).sum:Nat):Int)+((oI F.toL[i].2.1 F.toL[i].2.2).length:Int))=((c0+((F.toL.take (i+1)).map fun n=>(oI n.2.1 n.2.2).length).sum:Nat):Int):=by
    rw[oD (by omega)];omega
   rw[e];exact O (i+1) _ _ ⟨rfl,rfl,c,k.tr s⟩ (by omega)
  ·have z:i=F.toL.length:=by have:¬(i:Int)<(s1.len:Int):=q;omega
   subst z;rw[cd,←g];exact G m (k1.tr k)
theorem EA:∀{F:Fo},fi F→∀n∈F.toL,Vq n
 | .nil,_,n,a=>by simp[Fo.toL]at a
 | .cons lab w kids rest,h,n,a=>by
  rcases aA.1 a with rfl|a
  ·exact N2 (jO h.2.2.1) (EA h.2.2.1)
  ·exact EA h.2.2.2.2 n a
theorem Qu{W:Nat→Prop}{x:Hs}{h:ad}{t:Tr}{l:List Pr}(i:TreeIs W h 1 x t l)(k:cA l)(o:l.length≤60000){K:Int→ad→Prop}(j:∀h',Upd No h h'→K (l.length:Int) h'):HC PG kW [GK t] [.c (.int .i64)] K h:=by
 refine vO t ?_;unfold qD bh aI pj;rcases i with⟨e,_⟩|⟨_,b,rfl,t⟩
 ·cases e
 refine aJ fun p b1 k1=>⟨_,vc b1 0,ay.2 ⟨_,vc b1 5,?_⟩⟩
 obtain⟨w,F,d,c,n⟩:=(t.upd0 k1).ex;have f:=H6 c k n;have a:=congrArg f8 f;unfold NH at a;rw[c7]at a;refine N2 (lab:= []) (jO c) (EA c) d (by simp only;omega) fun m g=>?_
 simp only;rw[a];exact j m (k1.tr g)
theorem Qv{t:Tr}{h:ad}{K:Int→ad→Prop}(a:∀h',Upd No h h'→K t.1 h'):HC PG pE [GK t] [.c (.int .i64)] K h:=by
 refine B6 t ?_;unfold ux bh pj;exact aJ fun b b1 k1=>⟨_,vc b1 0,a b k1⟩
end Go.Proofs
