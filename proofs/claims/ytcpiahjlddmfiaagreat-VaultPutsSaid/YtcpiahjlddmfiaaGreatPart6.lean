/- A part of the proof that the named laws of this program answer true, whatever the input. -/
import Derived.Test.YtcpiahjlddmfiaaGreatPart5
import Derived.Test.YtcpiahjlddmfiaaGreatPart4
import Derived.Test.YtcpiahjlddmfiaaGreatPart2
import Derived.Sort.AssemblyPlain
import Derived.Test.YtcpiahjlddmfiaaGreatPart1
open BitVec renaming ofInt→af
open Bool renaming and_eq_true→aY,true_and→tD
open Iff renaming rfl→w7
open Int renaming toNat_natCast→aF
open List renaming cons_append→cM,cons→fj,take_succ_cons→dz,length_cons→aN,take_append_drop→aM,length→eH,length_drop→aI,length_nil→cc,pairwise_append→cz,mem_append_left→cK,mem_append_right→dk,mem_cons_self→au,mem_of_getLast?→li,mem_cons→aq,pairwise_cons→bd,mem_append→bc,mem_singleton→aB,take_length→ba,append_nil→bI,append_assoc→ao,pairwise_singleton→cV,getElem?_eq_getElem→al,nodup_nil→oa,getElem_mem→aU,take_succ_eq_append_getElem→ax,any_eq_true→bS
open List.Pairwise renaming nil→cQ
open Nat renaming le_refl→aj,lt_of_lt_of_le→aO,le_of_eq→dP,le_trans→aW,not_lt→gC,zero_le→aP
namespace Go.Proofs
open Go Go.Lift
theorem wU{a b:ByteArray}:kl a b↔Op.bytesLess a.data.toList b.data.toList=true:=by unfold kl;rw[ByteArray.toList_eq,ByteArray.toList_eq]
theorem wY{a b:UInt8}{x y:List UInt8}:Op.bytesLess (a::x) (b::y)=true↔a.toNat<b.toNat∨(a=b∧Op.bytesLess x y=true):=by
 simp only[Op.bytesLess,Bool.or_eq_true,decide_eq_true_iff,aY,beq_iff_eq,UInt8.lt_iff_toNat_lt]
theorem K7(x:List UInt8):Op.bytesLess x []=false:=by cases x<;>rfl
theorem GX{x y:List UInt8}:∀pre:List UInt8,Op.bytesLess (pre++x) (pre++y)=true↔Op.bytesLess x y=true
 | []=>w7
 |a::pre=>by rw[cM,cM,wY,GX pre];simp
theorem Ub{x y:List UInt8}(h:Op.bytesLess x y=true)(hx:x≠[])(c:y≠[]):hd x≤hd y:=by
 match x,y,hx,c with
 |a::x,b::y,_,_=>
  show a.toNat≤b.toNat
  rcases wY.1 h with h|⟨rfl,_⟩<;>omega
theorem HJ:∀(t:Nat) {f p g:List UInt8},t≤cm f g→(f=p∨Op.bytesLess f p=true)→(p=g∨Op.bytesLess p g=true)→p.take t=f.take t∧t≤p.length
 |0,f,p,g,_,_,_=>by simp
 |t+1,[],p,g,h,_,_=>by simp[cm]at h
 |t+1,a::f,p,[],h,_,_=>by simp[cm]at h
 |t+1,a::f,p,b::g,h,d,i=>by
  unfold cm at h;split at h
  ·rename_i e
   subst e;rcases p with _|⟨c,p⟩
   ·rcases d with d|d
    ·cases d
    ·rw[K7]at d;cases d
   ·have hc:c=a:=by
     rcases d with d|d
     ·exact(fj.inj d).1.symm
     ·rcases i with i|i
      ·exact(fj.inj i).1
      ·have k:=wY.1 d
       have j:=wY.1 i;rcases k with k|⟨k,_⟩
       ·rcases j with j|⟨j,_⟩
        ·omega
        ·exact j
       ·exact k.symm
    subst hc;have:=HJ t (f:=f) (p:=p) (g:=g) (by omega) (d.imp (fun h=>(fj.inj h).2) fun h=>by
     rcases wY.1 h with h|⟨_,h⟩
     ·omega
     ·exact h) (i.imp (fun h=>(fj.inj h).2) fun h=>by
     rcases wY.1 h with h|⟨_,h⟩
     ·omega
     ·exact h)
    rw[dz,dz,this.1,aN];exact⟨rfl,by omega⟩
  ·omega
theorem Mx:∀f:List UInt8,cm f f=f.length
 | []=>rfl
 |a::f=>by unfold cm;rw[if_pos rfl,Mx f];rfl
abbrev ky(p:Pr):List UInt8:=p.1.data.toList
def RQ(l:List Pr)(a k:List UInt8)(v:ByteArray):Prop:=∃p∈l,ky p=a++k∧p.2=v
structure Beg(l:List Pr)(pre:List UInt8):Prop where
 up:dL l
 at_:∀p∈l,(ky p).take pre.length=pre∧pre.length<(ky p).length
theorem Beg.sub{l l':List Pr}{a:List UInt8}(b:Beg l a)(h:l'.Sublist l):Beg l' a:=⟨b.up.sublist h,fun p c=>b.at_ p (h.subset c)⟩
theorem Beg.split{l:List Pr}{a:List UInt8}(b:Beg l a){p:Pr}(c:p∈l):ky p=a++(ky p).drop a.length∧(ky p).drop a.length≠[]:=by
 obtain⟨d,f⟩:=b.at_ p c;refine⟨?_,fun e=>?_⟩
 ·conv=>lhs;rw[←aM a.length (ky p),d]
 ·have:=congrArg eH e
  rw[aI,cc]at this;omega
def bt(n:Nat)(p:Pr):Nat:=hd ((ky p).drop n)
theorem Beg.mono{A B:List Pr}{a:List UInt8}(b:Beg (A++B) a){x y:Pr}(hx:x∈A)(c:y∈B):bt a.length x≤bt a.length y:=by
 have h:=(cz.1 b.up).2.2 x hx y c;rw[wU]at h;obtain⟨g,e⟩:=b.split (cK B hx);obtain⟨d,f⟩:=b.split (dk A c);change Op.bytesLess (ky x) (ky y)=true at h;rw[g,d,GX]at h;exact Ub h e f
theorem FQ{l:List Pr}{d:List UInt8}{f g:Pr}(b:Beg l d)(F:∃r,l=f::r)(s:l.getLast? =some g)(hb:bt d.length f=bt d.length g):
  d.length<cm (ky f) (ky g)∧cm (ky f) (ky g)≤(ky f).length∧(∀p∈l,(ky p).take (cm (ky f) (ky g))=(ky f).take (cm (ky f) (ky g)))∧(∀p∈l,p=f∨cm (ky f) (ky g)<(ky p).length)∧
   (cm (ky f) (ky g)<(ky f).length→cm (ky f) (ky g)<(ky g).length∧hd ((ky f).drop (cm (ky f) (ky g)))≠hd ((ky g).drop (cm (ky f) (ky g)))):=by
 obtain⟨r,rfl⟩:=F;have u:f∈f::r:=au ..;have n:g∈f::r:=li s;obtain⟨I,D⟩:=b.split u;obtain⟨J,H⟩:=b.split n;have A:d.length<cm (ky f) (ky g):=by
  have:∀(q x y:List UInt8),cm (q++x) (q++y)=q.length+cm x y:=by
   intro q x y;induction q with
   |nil=>simp
   |cons a q ih=>simp only[cM,cm,if_true,ih,aN];omega
  have w:=this d ((ky f).drop d.length) ((ky g).drop d.length);rw[←I,←J]at w;have G:=PP D H hb;omega
 have z:=My (ky f) (ky g);have v:∀p∈f::r,ky f=ky p∨Op.bytesLess (ky f) (ky p)=true:=fun p c=>by
  rcases aq.1 c with rfl|c
  ·exact .inl rfl
  ·exact .inr (wU.1 ((bd.1 b.up).1 p c))
 have t:∀p∈f::r,ky p=ky g∨Op.bytesLess (ky p) (ky g)=true:=fun p c=>by
  rcases List.eq_nil_or_concat (f::r)with h|⟨l',y,h⟩
  ·cases h
  ·rw[List.concat_eq_append]at h
   rw[h,List.getLast?_concat]at s;cases s;have o:=b.up;rw[h]at c o;rcases bc.1 c with c|c
   ·exact .inr (wU.1 ((cz.1 o).2.2 p c g (aB.2 rfl)))
   ·rw[aB.1 c];exact .inl rfl
 have j:∀p∈f::r,(ky p).take (cm (ky f) (ky g))=(ky f).take (cm (ky f) (ky g))∧cm (ky f) (ky g)≤(ky p).length:=fun p c=>HJ _ (aj _) (v p c) (t p c)
 have k:∀p∈f::r,p=f∨cm (ky f) (ky g)<(ky p).length:=fun p c=>by
  obtain⟨w,G⟩:=j p c;rcases Nat.lt_or_ge (cm (ky f) (ky g)) (ky p).length with h|h
  ·exact .inr h
  ·left
   have E:(ky p).length=cm (ky f) (ky g):=by omega
   have e:ky p=(ky f).take (cm (ky f) (ky g)):=by rw[←w,←E,ba]
   rcases aq.1 c with rfl|c
   ·rfl
   ·have C:=wU.1 ((bd.1 b.up).1 p c)
    change Op.bytesLess (ky f) (ky p)=true at C;exfalso;have K:ky f=ky p++(ky f).drop (cm (ky f) (ky g)):=by rw[e,aM]
    have B:Op.bytesLess (ky p++(ky f).drop (cm (ky f) (ky g))) (ky p++ [])=true:=by rw[bI,←K];exact C
    rw[GX,K7]at B;cases B
 refine⟨A,z.1,fun p c=>(j p c).1,k,fun i=>?_⟩
 have m:cm (ky f) (ky g)<(ky g).length:=by
  rcases k g n with h|h
  ·exfalso
   rw[h,Mx]at i;omega
  ·exact h
 exact⟨m,GU _ _ i m⟩
theorem K5{l l':List Pr}{a:List UInt8}{f g:Pr}(b:Beg l a)(D:∃r,l=f::r)(C:l.getLast? =some g)(hb:bt a.length f=bt a.length g){F:Fo}(hc:gf F)
  (d:l'=if(ky f).length=cm (ky f) (ky g)then l.drop 1 else l)(y:∀k v,vd F k v↔RQ l' ((ky f).take (cm (ky f) (ky g))) k v){w:Option ByteArray}(u:w=if(ky f).length=cm (ky f) (ky g)then some f.2 else none){lab:List UInt8}(s:lab=((ky f).take (cm (ky f) (ky g))).drop a.length):
  NZ (lab,w,F)∧hd lab=bt a.length f∧∀k v,yL (lab,w,F) k v↔RQ l a k v:=by
 obtain⟨O,N,E,L,G⟩:=FQ b D C hb;obtain⟨r,rfl⟩:=D;have o:f∈f::r:=au ..;have x:g∈f::r:=li C;generalize cm (ky f) (ky g)=to at*;have i:a++lab=(ky f).take to:=by
  have:=(b.at_ f o).1;rw[s];conv=>rhs;rw[←aM a.length ((ky f).take to),List.take_take,Nat.min_eq_left (by omega),this]
 have j:lab≠[]:=fun e=>by
  have:=congrArg eH s;rw[e,cc,aI,List.length_take]at this;omega
 have B:∀k v,yL (lab,w,F) k v↔RQ (f::r) a k v:=by
  intro k v;constructor
  ·rintro⟨q,e,⟨rfl,n⟩|n⟩
   ·simp only at e n
    rw[bI]at e;subst e;rw[u]at n;split at n
    ·rename_i c
     cases n;refine⟨f,o,?_,rfl⟩;rw[i,←c,ba]
    ·cases n
   ·simp only at e n
    obtain⟨p,m,K,rfl⟩:=(y q v).1 n;refine⟨p,?_,?_,rfl⟩
    ·rw[d]at m
     split at m
     ·exact List.mem_cons_of_mem _ m
     ·exact m
    ·rw[K,e,←ao,i]
  ·rintro⟨p,m,e,rfl⟩
   have t:=E p m;have J:ky p=a++(lab++(ky p).drop to):=by
    rw[←ao,i,←t,aM]
   have ek:k=lab++(ky p).drop to:=List.append_cancel_left (e.symm.trans J);refine⟨(ky p).drop to,ek,?_⟩;by_cases c:(ky f).length=to
   ·rw[if_pos c]at u d
    rcases aq.1 m with rfl|m
    ·left
     refine⟨List.drop_eq_nil_of_le (by omega),?_⟩;simp only;rw[u]
    ·right
     refine(y _ _).2 ⟨p,by rw[d];exact m,?_,rfl⟩
     rw[←t,aM]
   ·rw[if_neg c]at u d
    right;refine(y _ _).2 ⟨p,by rw[d];exact m,?_,rfl⟩
    rw[←t,aM]
 refine⟨⟨j,?_,hc⟩,?_,B⟩
 ·by_cases c:(ky f).length=to
  ·left;simp only;rw[u,if_pos c];rfl
  ·have z:to<(ky f).length:=by omega
   obtain⟨H,A⟩:=G z;refine(DX hc).2 (.inr ⟨(ky f).drop to,(ky g).drop to,f.2,g.2,.inr ?_,.inr ?_,fun e=>?_,fun e=>?_,A⟩)
   ·exact(y _ _).2 ⟨f,by rw[d,if_neg c];exact o,(aM ..).symm,rfl⟩
   ·exact(y _ _).2 ⟨g,by rw[d,if_neg c];exact x,by rw[←E g x,aM],rfl⟩
   ·have:=congrArg eH e
    rw[aI,cc]at this;omega
   ·have:=congrArg eH e
    rw[aI,cc]at this;omega
 ·have e:=(b.split o).1
  unfold bt;have n:(ky f).drop a.length=lab++(ky f).drop to:=by
   have I:ky f=a++(lab++(ky f).drop to):=by rw[←ao,i,aM]
   conv=>lhs;rw[I]
   rw[List.drop_left]
  rw[n,rh j]
structure Row(L:List Bn)(D T:List Pr)(pre:List UInt8):Prop where
 can:∀n∈L,NZ n
 up:L.Pairwise fun m n=>hd m.1<hd n.1
 lo:∀n∈L,∀p∈T,hd n.1<bt pre.length p
 got:∀k v,(∃n∈L,yL n k v)↔RQ D pre k v
theorem Row.nil(T:List Pr)(a:List UInt8):Row [] [] T a:=⟨fun n h=>(by cases h),cQ,fun n h=>(by cases h),fun k v=>⟨fun⟨n,h,_⟩=>(by cases h),fun⟨p,h,_⟩=>(by cases h)⟩⟩
theorem Row.more{L:List Bn}{D A B:List Pr}{c:List UInt8}{n:Bn}{p:Pr}(r:Row L D (A++B) c)(s:Beg (A++B) c)(t:p∈A)(x:∀a∈A,bt c.length a=bt c.length p)(u:∀b f,B=b::f→bt c.length b≠bt c.length p)(hc:NZ n)(j:hd n.1=bt c.length p)(o:∀k v,yL n k v↔RQ A c k v):Row (L++ [n]) (D++A) B c:=by
 refine⟨fun m hm=>?_,cz.2 ⟨r.up,cV ..,fun a w b hb=>?_⟩,fun m hm q d=>?_,fun k v=>?_⟩
 ·rcases bc.1 hm with hm|hm
  ·exact r.can m hm
  ·rw[aB.1 hm];exact hc
 ·rw[aB.1 hb,j]
  exact r.lo a w p (cK _ t)
 ·rcases bc.1 hm with hm|hm
  ·exact r.lo m hm q (dk _ d)
  ·rw[aB.1 hm,j]
   rcases B with _|⟨g,f⟩
   ·cases d
   have z:=u g f rfl;have y:=s.mono t (au (a:=g) (l:=f));rcases aq.1 d with rfl|d
   ·omega
   ·have i:Beg ([g]++f) c:=s.sub (List.sublist_append_right A _)
    have:=i.mono (aB.2 rfl) d;omega
 ·constructor
  ·rintro⟨m,hm,hi⟩
   rcases bc.1 hm with hm|hm
   ·obtain⟨q,d,e⟩:=(r.got k v).1 ⟨m,hm,hi⟩
    exact⟨q,cK _ d,e⟩
   ·rw[aB.1 hm]at hi
    obtain⟨q,d,e⟩:=(o k v).1 hi;exact⟨q,dk _ d,e⟩
  ·rintro⟨q,d,e⟩
   rcases bc.1 d with d|d
   ·obtain⟨m,hm,hi⟩:=(r.got k v).2 ⟨q,d,e⟩
    exact⟨m,cK _ hm,hi⟩
   ·exact⟨n,dk _ (aB.2 rfl),(o k v).2 ⟨q,d,e⟩⟩
theorem Row.done{L:List Bn}{D:List Pr}{a:List UInt8}(r:Row L D [] a):gf (.ofL L)∧∀k v,vd (.ofL L) k v↔RQ D a k v:=by
 refine⟨gJ.2 ?_,fun k v=>?_⟩
 ·rw[Fo.to_of];exact⟨r.up,r.can⟩
 ·rw[iI,Fo.to_of];exact r.got k v
end Go.Proofs
namespace Go.Proofs
open Go Go.Lift
theorem KC(s:ByteArray):s.data.toList.length=s.size:=by simp
theorem Kid.less{W W':Nat→Prop}{h:ac}(hm:∀b,W' b→W b∨h.size≤b){a:Option Addr}{n:Bn}:Kid W h a n→Kid W' h a n
 |⟨b,sl,e1,e2,e3⟩=>⟨b,sl,e1,e2,e3.less hm⟩
theorem Kid.updM{W M:Nat→Prop}{h h':ac}(k:Upd M h h')(hm:∀b,M b→W b∨h.size≤b){a:Option Addr}{n:Bn}:Kid W h a n→Kid W h' a n
 |⟨b,sl,e1,e2,e3⟩=>⟨b,sl,e1,e2,e3.updM k hm⟩
theorem RxL.less{W W':Nat→Prop}{h:ac}(hm:∀b,W' b→W b∨h.size≤b){ks:List (Option Addr)}{L:List Bn}(r:RxL W h ks L):RxL W' h ks L:=⟨r.1,fun p a=>(r.2 p a).less hm⟩
theorem RxL.updM{W M:Nat→Prop}{h h':ac}(k:Upd M h h')(hm:∀b,M b→W b∨h.size≤b){ks:List (Option Addr)}{L:List Bn}(r:RxL W h ks L):RxL W h' ks L:=⟨r.1,fun p a=>(r.2 p a).updM k hm⟩
theorem PT{p:Pr}{n:Nat}(h:n<(ky p).length):∃b:UInt8,p.1[n]? =some b∧b.toNat=bt n p:=by
 rw[Ir];refine⟨(ky p)[n],al h,?_⟩;unfold bt hd;rw[List.drop_eq_getElem_cons h];rfl
end Go.Proofs
namespace Go.Proofs
open Go Go.Lift
end Go.Proofs
namespace Go.Proofs
open Go Go.Lift
end Go.Proofs
namespace Go.Proofs
open Go Go.Lift
end Go.Proofs
namespace Go.Proofs
open Go Go.Lift
end Go.Proofs
namespace Go.Proofs
open Go Go.Lift
abbrev b1:ByteArray:=⟨#[49]⟩
abbrev b2:ByteArray:=⟨#[50]⟩
abbrev b3:ByteArray:=⟨#[51]⟩
end Go.Proofs
namespace Go.Proofs
open Go Go.Lift
def look(l:List Pr)(k:ByteArray):Option ByteArray:=(l.find? fun p=>decide (p.1=k)).map (·.2)
abbrev TK:ByteArray:=⟨#[102,97,105,108]⟩
abbrev TI:ByteArray:=⟨#[111,117,114,115]⟩
abbrev Rd:ByteArray:=⟨#[116,104,101,105,114,115]⟩
abbrev TJ:ByteArray:=⟨#[107,101,101,112]⟩
def Ph(p:Int):ByteArray:=if p=0 then TK else if p=1 then TI else if p=2 then Rd else if p=3 then TJ else⟨#[]⟩
theorem Pm{p:Int}{h:ac}{K:ByteArray→ac→Prop}(a:K (Ph p) h):HC PG uI [.int .i64 p] [.c .str] K h:=by
 refine Hf p ?_;unfold Ai;unfold Ph at a;refine CondP.intro (fun e=>?_) fun e=>?_
 ·rw[if_pos (by simpa using e)]at a;exact a
 rw[if_neg (by simpa using e)]at a;refine CondP.intro (fun e=>?_) fun e=>?_
 ·rw[if_pos (by simpa using e)]at a;exact a
 rw[if_neg (by simpa using e)]at a;refine CondP.intro (fun e=>?_) fun e=>?_
 ·rw[if_pos (by simpa using e)]at a;exact a
 rw[if_neg (by simpa using e)]at a;refine CondP.intro (fun e=>?_) fun e=>?_
 ·rw[if_pos (by simpa using e)]at a;exact a
 ·rw[if_neg (by simpa using e)]at a;exact a
end Go.Proofs
namespace Go.Proofs
open Go Go.Lift
section
variable {W:Nat→Prop} {h:ac} {vp:Nat} {s:VS}
theorem JC(v:VaultAt W h vp s){n m:ByteArray}{a b:Int}(x:cE s.B n=some a)(hb:cE s.B m=some b){p:Int}(D:((Ph p).toList==(⟨#[]⟩:ByteArray).toList)=false)(A:(b=0∨UpG s.L a b)∨(a=0∨UpG s.L b a))
  {K:Int×SliceV×Int→ac→Prop}(g:(b=0∨UpG s.L a b)→∀h',Upd No h h'→K (a,⟨none,0,0⟩,0) h')(i:¬(b=0∨UpG s.L a b)→∀h',Upd s.M h h'→VaultAt W h' vp {s with B:=jZ s.B n b}→K (b,⟨none,0,0⟩,0) h'):
  HC PG gG [pV vp,.string n,.string m,.int .i64 p] [.c (.int .u32),.c .slice,.c (.int .i64)] K h:=by
 refine qt (some ⟨vp,0,none⟩) n m p ?_;unfold lV aR az ad bw ag eB nv rO ol N6 vA rP vr uW On QE;refine CQ v n (CQ v m ?_);rw[x,hb];refine Join.plain (ah.2 (ah.2 (Pm ?_)));rw[D];refine ah.2 (E4 v b a fun c C hc k1=>CondP.intro (fun e=>g (hc.1 e) C k1) fun e=>?_)
 have q:¬(b=0∨UpG s.L a b):=fun z=>by rw[hc.2 z]at e;cases e
 have w:=v.upd0 k1;refine E4 w a b fun F k j u=>?_
 rw[j.2 (A.resolve_left q)];have d:=w.upd0 u;refine ay.2 ⟨_,rfl,_,vc d.blk 8,_,rfl,d.b.isMap,DZ fun o f=>?_⟩
 have f:o=kP k s.bm (kStr.enc n) (Pq b):=f;have t:Upd (· =s.bm) k o:=by rw[f];exact pt k _ _ rfl
 exact i q o ((k1.tr u).wide.tr (t.mono fun y E=>.inl (.inr (.inr (.inr (.inl E)))))) (d.setB t (by rw[f];exact d.b.put n b))
end
end Go.Proofs
namespace Go.Proofs
open Go Go.Lift
structure NSt(h8:ac)(b:Nat)(t:Tr)(h:ac)(ps ms:List Nat):Prop where
 k:Upd No h8 h
 blk:h[b]? =some (.cells (kG t).toArray bl (0,0))
 gs:∀p∈ps,GraphAt (uP (p+1) p) h (p+1) p [] 1∧h8.size≤p
 mp:∀m∈ms,h[m]? =some (.map #[] 0)∧h8.size≤m
section
variable {h8 h h':ac} {b:Nat} {t:Tr} {ps ms:List Nat}
theorem NSt.upd(n:NSt h8 b t h ps ms)(k:Upd No h h'):NSt h8 b t h' ps ms:=
 ⟨n.k.tr k,k.get0 n.blk,fun p a=>⟨(n.gs p a).1.upd0 k,(n.gs p a).2⟩,fun m hm=>⟨k.get0 (n.mp m hm).1,(n.mp m hm).2⟩⟩
theorem NSt.rds(n:NSt h8 b t h ps ms):aX h (adr ⟨b,0,none⟩ 0)=some (.int .i64 t.1)∧aX h (adr ⟨b,0,none⟩ 1)=some (.int .u64 t.2.1)∧aX h (adr ⟨b,0,none⟩ 2)=some (.int .u64 t.2.2.1)∧aX h (adr ⟨b,0,none⟩ 3)=some (.int .u64 t.2.2.2.1)∧aX h (adr ⟨b,0,none⟩ 4)=some (.pointer t.2.2.2.2.1)∧aX h (adr ⟨b,0,none⟩ 5)=some (.pointer t.2.2.2.2.2):=
 ⟨vc n.blk 0,vc n.blk 1,vc n.blk 2,vc n.blk 3,vc n.blk 4,vc n.blk 5⟩
theorem NSt.map(n:NSt h8 b t h ps ms){k:ac→Prop}(c:∀h',NSt h8 b t h' ps (h.size::ms)→h.size<h'.size→k h'):At (Array.push h (.map #[] 0)) k:=by
 have d:=Upd.push No h (.map #[] 0);have a:=n.upd d;refine bq (c _ ⟨a.k,a.blk,a.gs,fun m hm=>?_⟩ (by simp))
 rcases aq.1 hm with rfl|hm
 ·exact⟨tL h _,n.k.size⟩
 ·exact a.mp m hm
theorem NSt.graph(n:NSt h8 b t h ps ms){K:Option Addr→ac→Prop}(d:∀h',NSt h8 b t h' (h.size::ps) ms→h.size+1<h'.size→K (some ⟨h.size+1,0,none⟩) h'):HC PG db [] [.c .ptr] K h:=by
 refine Rz fun h' e g=>?_
 have a:=n.upd e;refine d h' ⟨a.k,a.blk,fun p c=>?_,a.mp⟩ (g.lt _ (.inl rfl))
 rcases aq.1 c with rfl|c
 ·exact⟨g,n.k.size⟩
 ·exact a.gs p c
theorem NSt.put(n:NSt h8 b t h ps ms){cs:List Value}{ty:TypeId}{k:ac→Prop}(a:∀h',NSt h8 b t h' ps ms→h'[h.size]? =some (.cells cs.toArray ty (0,0))→h8.size≤h.size→k h'):At (hnew h cs ty) k:=
 aV fun h' b' k'=>a h' (n.upd k') b' n.k.size
theorem NSt.done{W:Nat→Prop}{kind:Int}{x:Hs}(n:NSt h8 b t h ps ms)(z:∀y,W y→y<h8.size)(i:TreeIs W h8 kind x t [])(v:kind=0∨kind=1){c p k f j:Nat}{K:Option Addr×Int→ac→Prop}
  (A:∀h' vp gp gm tm bm nm,VaultAt (fun y=>W y∨VS.M ⟨gp,gm,tm,bm,nm,kind,x,t,[],1,[],[],[]⟩ y) h' vp ⟨gp,gm,tm,bm,nm,kind,x,t,[],1,[],[],[]⟩→h8.size≤vp→(∀y,VS.M ⟨gp,gm,tm,bm,nm,kind,x,t,[],1,[],[],[]⟩ y→h8.size≤y)→Upd No h8 h'→K (some ⟨vp,0,none⟩,0) h')
  (C:h[c]? =some (.cells (kG t++ [Value.pointer (some ⟨p+1,0,none⟩),Value.map (some k),Value.map (some f),Value.map (some j)]).toArray bR (0,0)))
  (hv:h8.size≤c) (o:∀m∈(p+1)::p::ms,c≠m) (D:p∈ps) (s:k∈ms) (q:f∈ms) (u:j∈ms) (ne: [p+1,p,k,f,j].Nodup):K (some ⟨c,0,none⟩,0) h:=by
 obtain⟨g,B⟩:=n.gs p D;have hM:∀y,VS.M ⟨p+1,p,k,f,j,kind,x,t,[],1,[],[],[]⟩ y→h8.size≤y∧y<h.size∧c≠y:=fun y a=>by
  rcases a with e|e|e|e|e<;>(simp only at e;subst e)
  ·exact⟨by omega,g.lt _ (.inl rfl),o _ (by simp)⟩
  ·exact⟨B,g.lt _ (.inr rfl),o _ (by simp)⟩
  ·exact⟨(n.mp _ s).2,bF (n.mp _ s).1,o _ (by simp[s])⟩
  ·exact⟨(n.mp _ q).2,bF (n.mp _ q).1,o _ (by simp[q])⟩
  ·exact⟨(n.mp _ u).2,bF (n.mp _ u).1,o _ (by simp[u])⟩
 obtain⟨m,hm,w⟩:=g.map;have em:∀{κ β:Type} {E:KeyE κ} {g:β→Value} {r:Nat},h[r]? =some (.map #[] 0)→MapAt E g h r []:=fun w=>⟨[],0,⟨w,oa,oa,fun _ h=>by cases h⟩,rfl⟩
 refine A h c (p+1) p k f j ⟨C,⟨g.blk,⟨m,hm,fun id=>(w id).elim (fun⟨_,_,_,e,_⟩=>by cases e) .inr⟩,.inr (.inl rfl),.inr (.inr (.inl rfl)),fun y a=>a.elim (fun e=>aO (z y e) n.k.size) fun e=>(hM y e).2.1,g.nd⟩,em (n.mp _ s).1,em (n.mp _ q).1,em (n.mp _ u).1,fun y a=>.inr a,fun a=>a.elim (fun e=>by have:=z _ e;omega) fun e=>(hM _ e).2.2 rfl,ne,?_,fun d hd=>(by cases hd),fun id=>w7,Inv.nil,v⟩ hv (fun y a=>(hM y a).1) n.k
 exact(i.less fun y a=>a.imp id fun e=>(hM y e).1).upd0 n.k
end
theorem LO{W:Nat→Prop}{h:ac}(o:∀y,W y→y<h.size){kind:Int}(m:kind=0∨kind=1){x:Hs}{K:Option Addr×Int→ac→Prop}
  (A:∀h' d gp gm tm bm nm t,VaultAt (fun y=>W y∨VS.M ⟨gp,gm,tm,bm,nm,kind,x,t,[],1,[],[],[]⟩ y) h' d ⟨gp,gm,tm,bm,nm,kind,x,t,[],1,[],[],[]⟩→h.size≤d→(∀y,VS.M ⟨gp,gm,tm,bm,nm,kind,x,t,[],1,[],[],[]⟩ y→h.size≤y)→Upd No h h'→K (some ⟨d,0,none⟩,0) h'):
  HC PG rY [.int .i64 kind,.agg #[.int .u64 x.k0,.int .u64 x.k1,.int .u64 x.mask]] [.c .ptr,.c (.int .i64)] K h:=by
 refine IP kind (x.k0,x.k1,x.mask) ?_;unfold BP az ad ag nv Cv Cr rO ol;refine aV fun H b1 k1=>⟨_,vc b1 0,_,vc b1 1,_,vc b1 2,?_⟩
 refine L0 (W:=W) (x:=x) (fun y b=>aO (o y b) k1.size) m fun B t i u=>?_
 have k:=k1.tr u;refine aV fun G w q=>cy (c:=kG qW) (vs:=kG t) w rfl fun f g j=>ah.2 ?_
 have a:Upd No h f:=(k.tr q).own j k.size;have F:TreeIs W f kind x t []:=((i.less (W':=fun y=>W y∨y=B.size) fun y b=>b.imp id fun e=>dP e.symm).updM (q.wide.tr (j.mono fun _ e=>.inl (.inr e))) fun y b=>.inl b).less fun y b=>.inl (.inl b)
 have s:∀y,W y→y<f.size:=fun y b=>aO (o y b) a.size
 have p:∀h' d gp gm tm bm nm,VaultAt (fun y=>W y∨VS.M ⟨gp,gm,tm,bm,nm,kind,x,t,[],1,[],[],[]⟩ y) h' d ⟨gp,gm,tm,bm,nm,kind,x,t,[],1,[],[],[]⟩→f.size≤d→(∀y,VS.M ⟨gp,gm,tm,bm,nm,kind,x,t,[],1,[],[],[]⟩ y→f.size≤y)→Upd No f h'→K (some ⟨d,0,none⟩,0) h':=
  fun h' d gp gm tm bm nm v hv hM E=>A h' d gp gm tm bm nm t v (aW a.size hv) (fun y b=>aW a.size (hM y b)) (a.tr E)
 have n:NSt f B.size t f [] []:=⟨Upd.refl _ _,g,fun _ h=>(by cases h),fun _ h=>(by cases h)⟩
 refine⟨_,vc g 0,_,vc g 1,_,vc g 2,_,vc g 3,_,vc g 4,_,vc g 5,?_⟩;clear A a o g j k i u q w b1 k1;repeat' first
  |refine⟨n.rds,?_⟩
  |refine n.graph fun _ n z=>?_
  |refine n.map fun _ n z=>?_
  |refine n.put fun _ n D C=>?_
  |exact n.done s F m p D C (by simp;omega) (by simp) (by simp) (by simp) (by simp) (by simp;omega)
  |refine And.intro ?_ ?_
end Go.Proofs
namespace Go.Proofs
open Go Go.Lift
theorem Pe{x:Hs}{h:ac}{K:Int×Int×Int→ac→Prop}(e:∀h',Upd No h h'→K (x.k0,x.k1,x.mask) h'):HC PG AZ [.agg #[.int .u64 x.k0,.int .u64 x.k1,.int .u64 x.mask]] [.agg [.int .u64,.int .u64,.int .u64]] K h:=by
 refine NY (x.k0,x.k1,x.mask) ?_;unfold F6 ad bO eB Cv zl0 vl0;refine aV fun i b1 k1=>aV fun g b2 d=>?_
 have c1:=d.get0 b1;refine⟨_,iW c1 0 0,_,iW c1 0 1,_,vc c1 2,?_⟩;refine cy (c:= [.int .u64 0,.int .u64 0,.int .u64 0]) (vs:= [.int .u64 x.k0,.int .u64 x.k1,.int .u64 x.mask]) b2 rfl fun f b a=>?_
 exact⟨_,vc b 0,_,vc b 1,_,vc b 2,e f ((k1.tr d).own a k1.size)⟩
theorem _root_.Go.Lift.Upd.fresh{M:Nat→Prop}{h b a:ac}(k:Upd No h b)(u:Upd M b a)(hM:∀y,M y→h.size≤y):Upd No h a:=k.trans u fun y c=>.inr (hM y c)
abbrev Dj:ByteArray:=⟨#[109,97,105,110]⟩
abbrev Ic:ByteArray:=⟨#[115,105,100,101]⟩
end Go.Proofs
namespace Go.Proofs
open Go Go.Lift
theorem K8{h:ac}{K:Bool→ac→Prop}(hk:∀h',Upd No h h'→K true h'):HC PG wn [] [.c .bool] K h:=by
 refine Jd ?_;unfold B5 az ad ag nv rO ol To vr Qj uW rQ zg0;refine LO (W:=No) (x:=⟨0,0,0⟩) (fun _ h=>h.elim) (.inr rfl) fun h1 vp gp gm tm bm nm t v zv E k1=>?_
 refine Join.plain (ah.2 (ah.2 (CR v Dj 0 fun h2 u2 I=>?_)))
 have e1:A8 [] [] Dj 0 false=0:=by decide
 simp only[e1,if_true]at I⊢;have k2:=k1.fresh u2 fun y g=>E y (.inr (.inr (.inr (.inl g))))
 refine ah.2 (oC I fun h3 Y=>?_)
 have G:=I.upd0 Y;refine CY G.em G.g.lt cQ (by simp) (⟨#[97]⟩,⟨#[]⟩) (by decide) (by decide) fun h4 z i4 _ R=>?_
 refine aV fun h5 b5 k5=>cy (c:=kG qW) (vs:=kG z) b5 rfl fun h6 o C=>⟨_,vc o 0,_,vc o 1,_,vc o 2,_,vc o 3,_,vc o 4,_,vc o 5,?_⟩
 have B:Upd No h3 h6:=(R.tr k5).own C R.size;have v6:=G.upd0 B;have i6:=i4.upd0 (k5.own C (aj _));refine CS v6 Dj (hd:=0) rfl (d:=(z,[(⟨#[97]⟩,⟨#[]⟩)])) i6 (cV _ _) (fun q F=>by rw[aB.1 F];decide) fun L Z w=>?_
 have w:VaultAt _ L vp ⟨gp,gm,tm,bm,nm,1,⟨0,0,0⟩,t,[(1,[])],2,[(1,(z,[(⟨#[97]⟩,⟨#[]⟩)]))],[(Dj,1)],[]⟩:=w;have i7:=w.ts (1,(z,[(⟨#[97]⟩,⟨#[]⟩)])) (aB.2 rfl);have u:=Z.get o fun hm=>by have:=G.size hm;have:=R.size;omega
 have k7:Upd No h L:=((k2.tr Y).tr B).fresh Z fun y g=>E y g
 refine⟨_,vc u 0,_,vc u 1,_,vc u 2,_,vc u 3,_,vc u 4,_,vc u 5,?_⟩;refine CY i7.1 w.g.lt i7.2.1 (by simp) (⟨#[98]⟩,⟨#[]⟩) (by decide) (by decide) fun h8 O i8 _ V=>?_
 refine aV fun h9 b9 k9=>cy (c:=kG qW) (vs:=kG O) b9 rfl fun H J k=>?_
 have j:Upd No L H:=(V.tr k9).own k V.size;have D:=w.upd0 j;have X:=i8.upd0 (k9.own k (aj _));refine Join.plain (ah.2 (ah.2 (CR D Ic 1 fun h11 s A=>?_)))
 have e2:A8 [(Dj,1)] [(1,[])] Ic 1 false=0:=by decide
 simp only[e2,if_true]at A⊢;have f:=s.get J fun e=>by have:=w.size (y:=bm) (.inr (.inr (.inr (.inl rfl))));have:=V.size;have e:h8.size=bm:=e;omega
 have P:=X.updM s fun y g=>.inl (D.w y (.inr (.inr (.inr (.inl g)))))
 refine ah.2 ⟨_,vc f 0,_,vc f 1,_,vc f 2,_,vc f 3,_,vc f 4,_,vc f 5,?_⟩;refine CS A Ic (hd:=1) rfl (d:=(O,ij (⟨#[98]⟩,⟨#[]⟩) [(⟨#[97]⟩,⟨#[]⟩)])) P (E8 _ (cV _ _)) (fun q F=>(zd F).elim (fun e=>by rw[e];decide) fun F=>by rw[aB.1 F];decide) fun Q S i=>?_
 have i:VaultAt _ Q vp ⟨gp,gm,tm,bm,nm,1,⟨0,0,0⟩,t,[(1,[]),(2,[1])],3,[(1,(z,[(⟨#[97]⟩,⟨#[]⟩)])),(2,(O,ij (⟨#[98]⟩,⟨#[]⟩) [(⟨#[97]⟩,⟨#[]⟩)]))],[(Dj,1),(Ic,2)],[]⟩:=i;have T:UpG [(1,[]),(2,[1])] 2 1:=.step (p:=1) (by decide) (by decide) (.refl (by decide));have hn:¬((2:Int)=0∨UpG [(1,[]),(2,[1])] 1 2):=fun hh=>hh.elim (fun e=>by cases e) fun e=>absurd (UpG.le i.inv.good e) (by decide)
 refine JC i (n:=Dj) (m:=Ic) (a:=1) (b:=2) rfl rfl (p:=0) (by rw[mc];decide) (.inr (.inr T)) (fun e=>absurd e hn) fun _ U N v13=>?_
 refine ay.2 (ay.2 (ay.2 (hk U ?_)));exact(((k7.tr j).fresh s fun y g=>E y (.inr (.inr (.inr (.inl g))))).fresh S fun y g=>E y g).fresh N fun y g=>E y g
end Go.Proofs
namespace Go.Proofs
open Go Go.Lift
def sb(s:SliceV)(y:Nat):Prop:=s.cap≠0∧∃a,s.a=some a∧y=a.block
section
variable {α:Type} {f:α→List Value} {sz:Nat} {ty:TypeId} {M:Nat→Prop} {h:ac} {s so:SliceV} {xs out:List α}
theorem _root_.Go.Lift.OwnS.sub(o:OwnS f sz ty M h s xs):∀y,sb s y→M y∧y<h.size:=fun y ⟨hc,a,e,d⟩=>by
 rcases o.blk with i|⟨b,c,hb,hm,g,_⟩
 ·exact absurd i hc
 ·rw[e]at hb
  cases hb;exact⟨d▸hm,d▸bF g⟩
theorem _root_.Go.Lift.OwnS.its(o:OwnS f sz ty M h s xs):OwnS f sz ty (sb s) h s xs:=by
 refine⟨o.len,o.ne,o.cap,?_⟩;by_cases hc:s.cap=0
 ·exact .inl hc
 ·rcases o.blk with e|⟨b,a,hb,hm,d,c⟩
  ·exact absurd e hc
  ·exact .inr ⟨b,a,hb,⟨hc,_,hb,rfl⟩,d,c⟩
theorem Sx{a:Option Addr}{n:Nat}:∀y,¬sb ⟨a,n,0⟩ y:=fun _ h=>h.1 rfl
theorem _root_.Go.Lift.OwnS.one{x:α}{b:Nat}(a:∀x,(f x).length=sz∧0<sz)(hb:h[b]? =some (.cells (f x).toArray ty (0,0))):OwnS f sz ty (sb ⟨some ⟨b,0,none⟩,1,1⟩) h ⟨some ⟨b,0,none⟩,1,1⟩ [x]:=
 ⟨rfl,a,aj _,.inr ⟨b,[],rfl,⟨by simp,_,rfl,rfl⟩,by simpa using hb,by simp⟩⟩
theorem PZ{a:Nat}{z:List Value}{t:α}{b:Nat}{K:SliceV→ac→Prop}(i:OwnS f sz ty (sb so) h so out)(hb:h[b]? =some (.cells (f t).toArray ty (0,0))) (e:bU (f t)=true) (j:z.length=sz) (d:0<a∧a≤64) (m:out.length+1≤1000000)
  (k:∀s' h',OwnS f sz ty (sb s') h' s' (out++ [t])→Upd (sb so) h h'→(∀y,sb s' y→(sb so y∨h.size≤y)∧y<h'.size)→K s' h'):
  ∃xs,SRow h (some ⟨b,0,none⟩) (1*sz) xs∧AppP (some z) sz a ty so.a so.len so.cap 1 xs h K:=by
 refine⟨_,((OwnS.one i.ne hb).sl (W:=No) fun _ _ _ h=>h).srow,?_⟩
 refine AppP.own (M:=fun y=>sb so y∨h.size≤y) (ys:= [t]) (i.more fun y g=>.inl g) rfl rfl (by simpa using e) j d.1 ?_ (.inr (aj _)) fun s' h' c n=>k s' h' c.its (n.mono fun y g=>g) c.sub
 simp only[List.length_singleton];calc (out.length+1)*a≤1000000*64:=Nat.mul_le_mul m d.2
  _≤140737488355328:=by omega
end
structure Sp where
 T:Nat→Prop
 Q:ac→Prop
 loc:∀{M:Nat→Prop} {h h':ac},Q h→Upd M h h'→(∀y,T y→¬M y)→Q h'
section
variable {Ss:List Sp} {h h':ac} {M:Nat→Prop} {s s':Sp} {i:Nat}
end
theorem GraphAt.re{W W' M:Nat→Prop}{h h':ac}{gp gm:Nat}{L:de}{nx:Int}(g:GraphAt W h gp gm L nx)(k:Upd M h h')(hm:∀b,M b→(W b∧b≠gp∧b≠gm)∨h.size≤b)(f:∀b,W' b→(W b∨h.size≤b)∧b<h'.size)(d:W' gp)(a:W' gm):GraphAt W' h' gp gm L nx:=by
 have i:=g.upd k hm;obtain⟨m,c,n⟩:=g.map;refine⟨i.blk,⟨m,c.upd k fun e=>(hm _ e).elim (fun e=>e.2.2 rfl) fun e=>absurd (g.lt _ g.wm) (gC.2 e),fun j=>?_⟩,d,a,fun b hb=>(f b hb).2,g.nd⟩
 rcases n j with⟨s,ps,d,a,p⟩|o
 ·exact .inl ⟨s,ps,d,a,((p.less (W':=fun b=>W b∨h.size≤b) fun b hb=>hb).upd k fun b hb=>.inl ((hm b hb).imp (·.1) id)).less fun b hb=>.inl (f b hb).1⟩
 ·exact .inr o
theorem TreeIs.re{W W' M:Nat→Prop}{h h':ac}{kind:Int}{x:Hs}{t:Tr}{l:List Pr}(i:TreeIs W h kind x t l)(k:Upd M h h')(hm:∀b,M b→W b∨h.size≤b)(a:∀b,W' b→W b∨h.size≤b):TreeIs W' h' kind x t l:=
 ((i.less (W':=fun b=>W b∨h.size≤b) fun b hb=>hb).updM k fun b hb=>.inl (hm b hb)).less fun b hb=>.inl (a b hb)
theorem VaultAt.re{W W' M:Nat→Prop}{h h':ac}{j:Nat}{s:VS}(v:VaultAt W h j s)(k:Upd M h h')(hm:∀b,M b→(W b∧¬s.M b)∨h.size≤b)(i:∀b,W' b→(W b∨h.size≤b)∧b<h'.size)(hM:∀y,s.M y→W' y):VaultAt W' h' j s:=by
 have f:=v.upd k hm;have c:∀b,M b→W b∨h.size≤b:=fun b hb=>(hm b hb).imp (·.1) id
 have a:∀b,W' b→W b∨h.size≤b:=fun b hb=>(i b hb).1
 exact⟨f.blk,v.g.re k (fun b hb=>(hm b hb).imp (fun e=>⟨e.1,fun g=>e.2 (.inl g),fun g=>e.2 (.inr (.inl g))⟩) id) i (hM _ (.inl rfl)) (hM _ (.inr (.inl rfl))),f.t,f.b,f.n,hM,fun hv=>(a _ hv).elim v.wv fun e=>absurd (bF v.blk) (by omega),v.ne,v.em.re k c a,fun d hd=>⟨(v.ts d hd).1.re k c a,(v.ts d hd).2⟩,v.sub,v.inv,v.kd⟩
section
variable {Ss:List Sp} {h h':ac} {vp:Nat} {s:VS} {p p':Sp} {i:Nat} {M:Nat→Prop}
end
end Go.Proofs
namespace Go.Proofs
open Go Go.Lift
end Go.Proofs
namespace Go.Proofs
open Go Go.Lift
end Go.Proofs
namespace Go.Proofs
end Go.Proofs
namespace Go.Proofs
open Go Go.Lift
end Go.Proofs
namespace Go.Proofs
open Go Go.Lift
end Go.Proofs
namespace Go.Proofs
open Go Go.Lift
end Go.Proofs
namespace Go.Proofs
open Go Go.Lift
def fd(l:List Ch)(k:ByteArray):Option Ch:=l.find? fun c=>decide (c.1=k)
def SB(c:Ch):Bool:=(!((!c.2.2.2.1&& !c.2.2.2.2)||(c.2.2.2.1&&(c.2.2.2.2&&decide (c.2.1=c.2.2.1)))))&&((c.2.2.2.1||decide (c.2.1=⟨#[]⟩))&&(c.2.2.2.2||decide (c.2.2.1=⟨#[]⟩)))
def one(c:Ch):Option Ch:=if SB c then some c else none
end Go.Proofs
namespace Go.Proofs
open Go Go.Lift
end Go.Proofs
namespace Go.Proofs
open Go Go.Lift
end Go.Proofs
namespace Go.Proofs
open Go Go.Lift
end Go.Proofs
namespace Go.Proofs
open Go Go.Lift
end Go.Proofs
namespace Go.Proofs
open Go Go.Lift
end Go.Proofs
namespace Go.Proofs
open Go Go.Lift
end Go.Proofs
namespace Go.Proofs
open Go Go.Lift
end Go.Proofs
namespace Go.Proofs
open Go Go.Lift
end Go.Proofs
namespace Go.Proofs
open Go Go.Lift
def Tt(b o t:Option ByteArray)(p:Int):Option ByteArray×Bool:=if o=t∨t=b then(o,true)else if o=b then(t,true)else if p=1 then(o,false)else if p=2 then(t,false)else(b,false)
def tk(B O T:List Pr)(p:Int)(k:ByteArray):Option ByteArray×Bool:=Tt (look B k) (look O k) (look T k) p
end Go.Proofs
namespace Go.Proofs
open Go Go.Lift Go.Sort
abbrev PO:Value:=.func (.func wq) #[] #[]
def AK(dec:Int→Ch)(i j:Int):Bool:=Uw (dec i) (dec j)
structure SA(dec:Int→Ch)(M:Nat→Prop)(s:SliceV)(h:ac)(d:Array Int):Prop where
 own:OwnS UP 5 sY M h s (d.toList.map dec)
 small:d.size≤1000000000
 lt:∀b,M b→b<h.size
variable {dec:Int→Ch} {M:Nat→Prop} {s:SliceV} {h:ac} {d:Array Int}
theorem SA.len(a:SA dec M s h d):s.len=d.size:=by have:=a.own.len;simpa using this
theorem SA.upd0{h':ac}(a:SA dec M s h d)(k:Upd No h h'):SA dec M s h' d:=⟨a.own.upd k fun _ _ h=>h,a.small,fun b hb=>aO (a.lt b hb) k.size⟩
theorem SA.at(c:SA dec M s h d){i:Nat}(hi:i<d.size):∃a,s.a=some a∧∀j v,(UP (dec d[i]!))[j]? =some v→aX h (adr (adr a (((i:Int)).toNat*5)) j)=some v:=by
 have hx:(d.toList.map dec)[i]? =some (dec d[i]!):=by
  rw[List.getElem?_map,Array.getElem?_toList,Array.getElem?_eq_getElem hi,getElem!_pos d i hi];rfl
 obtain⟨a,b,_,hv⟩:=(c.own.sl (W:=No) fun _ _ _ h=>h).at hx
 exact⟨a,b,by simpa using hv⟩
theorem SA.rd(b:SA dec M s h d){t:Int}{i:Nat}(c:t=(i:Int))(hi:i<d.size){R:ByteArray→ByteArray→ByteArray→Bool→Bool→Prop}(f:R (dec d[i]!).1 (dec d[i]!).2.1 (dec d[i]!).2.2.1 (dec d[i]!).2.2.2.1 (dec d[i]!).2.2.2.2):
  ((0:Int)≤t∧t<((s.len:Nat):Int))∧∃a:Addr,s.a=some a∧∃v1:ByteArray,aX h (adr (adr a (t.toNat*5)) 0)=some (.string v1)∧∃v2:ByteArray,aX h (adr (adr a (t.toNat*5)) 1)=some (.string v2)∧∃v3:ByteArray,aX h (adr (adr a (t.toNat*5)) 2)=some (.string v3)∧∃v4:Bool,aX h (adr (adr a (t.toNat*5)) 3)=some (.bool v4)∧∃v5:Bool,aX h (adr (adr a (t.toNat*5)) 4)=some (.bool v5)∧R v1 v2 v3 v4 v5:=by
 subst c;obtain⟨a,e,hv⟩:=b.at hi;exact⟨by rw[b.len];omega,a,e,_,hv 0 _ rfl,_,hv 1 _ rfl,_,hv 2 _ rfl,_,hv 3 _ rfl,_,hv 4 _ rfl,f⟩
theorem SA.st(c:SA dec M s h d){t:Int}{i:Nat}{x:Int}(n:t=(i:Int))(hi:i<d.size){R:ac→Prop}(o:∀h',SA dec M s h' (d.setIfInBounds i x)→Upd M h h'→R h'):
  ((0:Int)≤t∧t<((s.len:Nat):Int))∧∃a:Addr,s.a=some a∧(uj h (some (adr a (t.toNat*5))) 0 [.string (dec x).1,.string (dec x).2.1,.string (dec x).2.2.1,.bool (dec x).2.2.2.1,.bool (dec x).2.2.2.2]∧At (iJ h (adr a (t.toNat*5)) 0 [.string (dec x).1,.string (dec x).2.1,.string (dec x).2.2.1,.bool (dec x).2.2.2.1,.bool (dec x).2.2.2.2]) R):=by
 subst n;obtain⟨a,g,hM,j,m,f⟩:=OwnS.setAt c.own (k:=i) (by simpa using hi) (dec x);refine⟨by rw[c.len];omega,a,g,?_⟩;rw[aF];have e:Upd M h _:=f.mono fun b hb=>.inl (by have hb:b=a.block:=hb;rw[hb];exact hM)
 refine⟨j,bq (o _ ⟨?_,by simpa using c.small,fun b hb=>aO (c.lt b hb) f.size⟩ e)⟩
 rw[show(d.setIfInBounds i x).toList.map dec=(d.toList.map dec).take i++dec x::(d.toList.map dec).drop (i+1) by
  rw[Array.toList_setIfInBounds,List.map_set,List.set_eq_take_append_cons_drop,if_pos (by simpa using hi)]]
 exact m
@[simp] theorem Tw(d:Array Int)(i j:Nat):(swp d i j).size=d.size:=by simp[swp]
theorem SA.swap(k:SA dec M s h d){b c:Int}{i j:Nat}(o:b=(i:Int))(n:c=(j:Int))(hi:i<d.size)(m:j<d.size){R:ac→Prop}(t:∀h',SA dec M s h' (swp d i j)→Upd M h h'→R h'):
  ((0:Int)≤c∧c<((s.len:Nat):Int))∧∃a:Addr,s.a=some a∧∃v1:ByteArray,aX h (adr (adr a (c.toNat*5)) 0)=some (.string v1)∧∃v2:ByteArray,aX h (adr (adr a (c.toNat*5)) 1)=some (.string v2)∧∃v3:ByteArray,aX h (adr (adr a (c.toNat*5)) 2)=some (.string v3)∧∃v4:Bool,aX h (adr (adr a (c.toNat*5)) 3)=some (.bool v4)∧∃v5:Bool,aX h (adr (adr a (c.toNat*5)) 4)=some (.bool v5)∧
   (((0:Int)≤b∧b<((s.len:Nat):Int))∧∃a:Addr,s.a=some a∧∃w1:ByteArray,aX h (adr (adr a (b.toNat*5)) 0)=some (.string w1)∧∃w2:ByteArray,aX h (adr (adr a (b.toNat*5)) 1)=some (.string w2)∧∃w3:ByteArray,aX h (adr (adr a (b.toNat*5)) 2)=some (.string w3)∧∃w4:Bool,aX h (adr (adr a (b.toNat*5)) 3)=some (.bool w4)∧∃w5:Bool,aX h (adr (adr a (b.toNat*5)) 4)=some (.bool w5)∧
    (((0:Int)≤b∧b<((s.len:Nat):Int))∧∃a:Addr,s.a=some a∧(uj h (some (adr a (b.toNat*5))) 0 [.string v1,.string v2,.string v3,.bool v4,.bool v5]∧At (iJ h (adr a (b.toNat*5)) 0 [.string v1,.string v2,.string v3,.bool v4,.bool v5]) (fun g=>
     (((0:Int)≤c∧c<((s.len:Nat):Int))∧∃a:Addr,s.a=some a∧(uj g (some (adr a (c.toNat*5))) 0 [.string w1,.string w2,.string w3,.bool w4,.bool w5]∧At (iJ g (adr a (c.toNat*5)) 0 [.string w1,.string w2,.string w3,.bool w4,.bool w5]) R)))))):=by
 refine k.rd n m (k.rd o hi (k.st (x:=d[j]!) o hi fun g e k1=>e.st (x:=d[i]!) n (by simpa using m) fun q f p=>t q f (k1.tr p)))
theorem SA.less(f:SA dec M s h d){b c:Int}{i j:Nat}(o:b=(i:Int))(n:c=(j:Int))(hi:i<d.size)(m:j<d.size){R:Int→ac→Prop}(p:∀h' e,SA dec M s h' d→Upd No h h'→decide (e<0)=AK dec d[i]! d[j]!→R e h'):
  ((0:Int)≤b∧b<((s.len:Nat):Int))∧∃a:Addr,s.a=some a∧∃v1:ByteArray,aX h (adr (adr a (b.toNat*5)) 0)=some (.string v1)∧∃v2:ByteArray,aX h (adr (adr a (b.toNat*5)) 1)=some (.string v2)∧∃v3:ByteArray,aX h (adr (adr a (b.toNat*5)) 2)=some (.string v3)∧∃v4:Bool,aX h (adr (adr a (b.toNat*5)) 3)=some (.bool v4)∧∃v5:Bool,aX h (adr (adr a (b.toNat*5)) 4)=some (.bool v5)∧
   (((0:Int)≤c∧c<((s.len:Nat):Int))∧∃a:Addr,s.a=some a∧∃w1:ByteArray,aX h (adr (adr a (c.toNat*5)) 0)=some (.string w1)∧∃w2:ByteArray,aX h (adr (adr a (c.toNat*5)) 1)=some (.string w2)∧∃w3:ByteArray,aX h (adr (adr a (c.toNat*5)) 2)=some (.string w3)∧∃w4:Bool,aX h (adr (adr a (c.toNat*5)) 3)=some (.bool w4)∧∃w5:Bool,aX h (adr (adr a (c.toNat*5)) 4)=some (.bool w5)∧
    HV PG PO [.agg #[.string v1,.string v2,.string v3,.bool v4,.bool v5],.agg #[.string w1,.string w2,.string w3,.bool w4,.bool w5]] [.c (.int .i64)] R h):=
 f.rd o hi (f.rd n m ((T9 M).call (dec d[i]!) (dec d[j]!) trivial fun h' e k g=>p h' e (f.upd0 k) k g))
end Go.Proofs
namespace Go.Proofs
open Go Go.Lift Go.Sort
variable {dec:Int→Ch} {M:Nat→Prop} {s:SliceV} {h:ac} {d:Array Int}
@[simp] theorem Qs(lt:Int→Int→Bool)(hi first a:Nat)(d:Array Int):(siftDown lt hi first a d).size=d.size:=by
 fun_induction siftDown lt hi first a d<;>simp_all
@[simp] theorem Dr(lt:Int→Int→Bool)(hi first:Nat):∀(k:Nat) (d:Array Int),(heapBuild lt hi first k d).size=d.size
 |0,d=>rfl
 |k+1,d=>by rw[heapBuild,Dr lt hi first k];simp
theorem RY{a hi first:Nat}(H:SA dec M s h d)(hb:first+hi≤d.size){K:Unit→ac→Prop}(J:∀h',SA dec M s h' (siftDown (AK dec) hi first a d)→Upd M h h'→K () h')(V:a≤1000000000):
  HC PG gI [.slice s.a s.len s.cap,.int .i64 a,.int .i64 hi,.int .i64 first,PO] [] K h:=by
 refine lS s a hi first PO ?_
 unfold gK aR cx vt bK eY vq Ez B9;have T:=H.small;refine LoopP.ghost (fun(g:Nat×Array Int) (t:Int) h'=>t=(g.1:Int)∧SA dec M s h' g.2∧g.2.size=d.size∧siftDown (AK dec) hi first g.1 g.2=siftDown (AK dec) hi first a d∧Upd M h h'∧g.1≤1000000000) (fun g=>hi-g.1) (a,d)
  ⟨rfl,H,rfl,rfl,Upd.refl _ _,V⟩ ?_
 rintro I ⟨i,b⟩ t L ⟨N,n,q,m,w,B⟩ U;simp only at N n q m B;subst N;have P:IntKind.wrap .i64 (IntKind.wrap .i64 (2*(i:Int))+1)=((2*i+1:Nat):Int):=by rw[kE (x:=2*(i:Int)) (by omega),kE (by omega)];omega
 have G:IntKind.wrap .i64 (((2*i+1:Nat):Int)+1)=((2*i+2:Nat):Int):=by rw[kE (by omega)];omega
 rw[P];refine aw (fun Q=>?_) fun A=>?_
 ·refine J _ ?_ w
  rw[←m,siftDown,dif_pos (by omega)];exact n
 ·have A:2*i+1<hi:=by omega
  refine Join.intro (fun t h'=>SA dec M s h' b∧Upd No L h'∧∃c:Nat,t=(c:Int)∧c=if 2*i+2<hi∧(AK dec) b[first+(2*i+1)]! b[first+(2*i+1)+1]! =true then 2*i+2 else 2*i+1) (fun R O=>?_) ?_
  ·refine Join.intro (fun t h'=>SA dec M s h' b∧Upd No L h'∧(t=true↔2*i+2<hi∧(AK dec) b[first+(2*i+1)]! b[first+(2*i+1)+1]! =true)) (fun R2 p=>?_) ?_
   ·show CondP (decide (IntKind.wrap .i64 (((2*i+1:Nat):Int)+1)<(hi:Int))) _ _
    rw[G];refine aw (fun k=>?_) fun k=>p _ _ ⟨n,Upd.refl _ _,by simp;omega⟩
    show(((0:Int)≤IntKind.wrap .i64 ((first:Int)+((2*i+1:Nat):Int))∧_)∧_)
    refine n.less (i:=first+(2*i+1)) (j:=first+(2*i+1)+1) (by rw[kE (by omega)];omega) (by rw[kE (x:=(first:Int)+_) (by omega),kE (by omega)];omega) (by omega) (by omega) fun Z e4 e o E=>p _ _ ⟨e,o,?_⟩
    rw[E];simp;omega
   ·rintro t h' ⟨e,o,v⟩
    refine CondP.intro (fun k=>?_) fun k=>?_
    ·show R (IntKind.wrap .i64 (((2*i+1:Nat):Int)+1)) _
     rw[G];exact O _ _ ⟨e,o,_,rfl,by rw[if_pos (v.1 k)]⟩
    ·exact O _ _ ⟨e,o,_,rfl,by rw[if_neg fun W=>by rw[v.2 W]at k;cases k]⟩
  ·rintro t h' ⟨e,o,c,rfl,hc⟩
   have S:c<hi∧i<c:=by rw[hc];split<;>omega
   refine e.less (i:=first+i) (j:=first+c) (by rw[kE (by omega)];omega) (by rw[kE (by omega)];omega) (by omega) (by omega) fun h5 Y u X F=>?_
   have y:=w.tr (o.tr X).wide;rw[F];have f:siftDown (AK dec) hi first i b=if !(AK dec) b[first+i]! b[first+c]! then b else siftDown (AK dec) hi first c (swp b (first+i) (first+c)):=by
    rw[siftDown,dif_neg (by omega)];by_cases z:2*i+2<hi∧(AK dec) b[first+(2*i+1)]! b[first+(2*i+1)+1]! =true
    ·rw[if_pos (by simp only[aY,decide_eq_true_iff];exact z),dif_pos z.1]
     rw[if_pos z]at hc;rw[hc]
    ·rw[if_neg (by simp only[aY,decide_eq_true_iff];exact z)]
     rw[if_neg z]at hc;rw[hc]
   refine CondP.intro (fun k=>?_) fun k=>?_
   ·refine J _ ?_ y
    rw[←m,f,if_pos k];exact u
   ·refine u.swap (i:=first+i) (j:=first+c) (by rw[kE (by omega)];omega) (by rw[kE (by omega)];omega) (by omega) (by omega) fun h6 C D=>?_
    refine U (c,swp b (first+i) (first+c)) _ _ ⟨rfl,C,by simp[q],?_,y.tr D,by simp only;omega⟩ (by simp only;omega)
    rw[←m,f,if_neg (by rw[k];simp)]
end Go.Proofs
namespace Go.Proofs
open Go Go.Lift Go.Sort
variable {dec:Int→Ch} {M:Nat→Prop} {s:SliceV} {h:ac} {d:Array Int}
end Go.Proofs
namespace Go.Proofs
open Go Go.Lift Go.Sort
variable {dec:Int→Ch} {M:Nat→Prop} {s:SliceV} {h:ac} {d:Array Int}
@[simp] theorem C1(lt:Int→Int→Bool):∀(j:Nat) (d:Array Int),(shiftDown lt j d).size=d.size
 |0,d=>rfl
 |j+1,d=>by rw[shiftDown];split;rfl;rw[C1 lt j];simp
@[simp] theorem QS(lt:Int→Int→Bool)(e j:Nat)(d:Array Int):(shiftUp lt e j d).size=d.size:=by
 fun_induction shiftUp lt e j d<;>simp_all
theorem Qu{a e:Nat}(hs:SA dec M s h d)(ha:a<e)(he:e≤d.size){K:Bool→ac→Prop}(T:∀h',SA dec M s h' (partialInsertionSort (AK dec) d a e).1→Upd M h h'→K (partialInsertionSort (AK dec) d a e).2 h'):
  HC PG el [.slice s.a s.len s.cap,.int .i64 a,.int .i64 e,PO] [.c .bool] K h:=by
 refine iw s a e PO ?_;unfold eo aR cx vt bK eY vq Ez B9;have hsm:=hs.small;refine LoopP.ghost (fun(g:Nat×Nat×Array Int) (t:Int×Int) h'=>t.1=(g.2.1:Int)∧t.2=5-(g.1:Int)∧SA dec M s h' g.2.2∧g.2.2.size=d.size∧partialIns (AK dec) a e g.1 g.2.1 g.2.2=partialInsertionSort (AK dec) d a e∧Upd M h h'∧g.1≤5∧a<g.2.1∧g.2.1≤e) (fun g=>g.1) (5,a+1,d)
  ⟨by simp only;rw[kE (by omega)];rfl,by simp only;omega,hs,rfl,rfl,Upd.refl _ _,by simp,by simp,by simp only;omega⟩ ?_
 rintro I ⟨st,i0,w⟩ ⟨t1,t2⟩ h1 ⟨ht1,X,C,hz1,x,hu1,hst,U,hie⟩ hI;simp only at ht1 X C hz1 x hst U hie;subst ht1 X;refine aw (fun hlt=>?_) fun hge=>?_
 ·obtain⟨st,rfl⟩:∃k,st=k+1:=⟨st-1,by have:5-(st:Int)<5:=hlt;omega⟩
  refine Join.intro (fun t h'=>∃Q d2,t=(Q:Nat)∧SA dec M s h' d2∧d2.size=d.size∧partialIns (AK dec) a e st Q d2=partialInsertionSort (AK dec) d a e∧Upd M h h'∧a<Q∧Q≤e) (fun R hR=>?_) ?_
  ·refine LoopP.ghost (fun(i:Nat) (t:Int) h'=>t=(i:Int)∧SA dec M s h' w∧Upd No h1 h'∧scanSorted (AK dec) w e i=scanSorted (AK dec) w e i0∧a<i∧i≤e) (fun i=>e-i) i0 ⟨rfl,C,Upd.refl _ _,rfl,U,hie⟩ ?_
   rintro I2 i t h' ⟨rfl,A,k2,hsc,m,f⟩ hI2;refine Join.intro (fun c D=>SA dec M s D w∧Upd No h' D∧(c=true↔i<e∧(AK dec) w[i]! w[i-1]! =false)) (fun R2 hR2=>?_) ?_
   ·refine aw (fun hle=>?_) fun hgt=>hR2 _ _ ⟨A,Upd.refl _ _,by simp;omega⟩
    exact A.less (i:=i) (j:=i-1) rfl (by rw[kE (by omega)];omega) (by omega) (by omega) fun B e3 p k3 he3=>hR2 _ _ ⟨p,k3,by rw[he3];simp;omega⟩
   ·rintro c D ⟨p,k3,hc⟩
    have z:=hu1.tr (k2.tr k3).wide;refine CondP.intro (fun h2=>?_) fun h2=>?_
    ·have hh:=hc.1 h2
     refine hI2 (i+1) _ _ ⟨by rw[kE (by omega)];rfl,p,k2.tr k3,?_,by omega,by omega⟩ (by omega)
     rw[←hsc];conv=>rhs;rw[scanSorted]
     rw[if_pos (by simp[hh])]
    ·have hsi:scanSorted (AK dec) w e i=i:=by
      rw[scanSorted,if_neg];intro hh;simp only[aY,decide_eq_true_iff,Bool.not_eq_eq_eq_not,Bool.not_true]at hh;rw[hc.2 hh]at h2;cases h2
     have b:=x;rw[partialIns]at b;simp only[←hsc,hsi]at b;refine CondP.intro (fun B=>?_) fun B=>?_
     ·have B:i=e:=by
       have:(i:Int)=e:=by simpa using B
       omega
      rw[if_pos B]at b;rw[←b]at T;exact T _ p z
     ·have B:i≠e:=fun e'=>by subst e';simp at B
      rw[if_neg B]at b;have we:IntKind.wrap .i64 ((e:Int)-(a:Int))=((e-a:Nat):Int):=by rw[kE (by omega)];omega
      show CondP (decide (IntKind.wrap .i64 ((e:Int)-(a:Int))<50)) _ _
      rw[we];refine aw (fun h4=>?_) fun h4=>?_
      ·rw[if_pos (by omega)]at b
       rw[←b]at T;exact T _ p z
      ·rw[if_neg (by omega)]at b
       have hi1:1≤i:=by omega
       refine p.swap (i:=i) (j:=i-1) rfl (by rw[kE (by omega)];omega) (by omega) (by omega) fun h5 J hu5=>?_
       have H:(swp w i (i-1)).size=d.size:=by simp[hz1]
       generalize swp w i (i-1)=d5 at J H b;refine Join.intro (fun _ h'=>SA dec M s h' (if i-a≥2 then shiftDown (AK dec) (i-1) d5 else d5)∧Upd M h h') (fun R3 u=>?_) ?_
       ·have wi:IntKind.wrap .i64 ((i:Int)-(a:Int))=((i-a:Nat):Int):=by rw[kE (by omega)];omega
        show CondP (decide (IntKind.wrap .i64 ((i:Int)-(a:Int))≥2)) _ _
        rw[wi];refine aw (fun h6=>?_) fun h6=>?_
        ·rw[if_pos (by omega)]at u
         refine LoopP.ghost (fun(g:Nat×Array Int) (t:Int) h'=>t=(g.1:Int)∧SA dec M s h' g.2∧g.2.size=d.size∧shiftDown (AK dec) g.1 g.2=shiftDown (AK dec) (i-1) d5∧Upd M h h'∧g.1<e) (fun g=>g.1) (i-1,d5)
          ⟨by rw[kE (by omega)];simp only;omega,J,H,rfl,z.tr hu5,by simp only;omega⟩ ?_
         rintro I4 ⟨j,d6⟩ t h7 ⟨ht,N,hz7,o,hu7,F⟩ G;simp only at ht N hz7 o F;subst ht;refine aw (fun h8=>?_) fun h8=>?_
         ·obtain⟨j,rfl⟩:∃k,j=k+1:=⟨j-1,by omega⟩
          have S:IntKind.wrap .i64 (((j+1:Nat):Int)-1)=(j:Int):=by rw[kE (by omega)];omega
          rw[shiftDown]at o;refine N.less (i:=j+1) (j:=j) rfl S (by omega) (by omega) fun hL eL hsL kL E=>?_
          have q:=hu7.tr kL.wide;rw[E];refine CondP.intro (fun h9=>?_) fun h9=>?_
          ·rw[if_pos h9]at o
           exact u _ _ ⟨by rw[←o];exact hsL,q⟩
          ·rw[if_neg (by rw[h9];simp)]at o
           refine hsL.swap (i:=j+1) (j:=j) rfl S (by omega) (by omega) fun y hs10 Y=>?_
           exact G (j,swp d6 (j+1) j) _ _ ⟨S,hs10,by simp[hz7],o,q.tr Y,by simp only;omega⟩ (by simp)
         ·have:j=0:=by omega
          subst this;exact u _ _ ⟨by rw[←o];exact N,hu7⟩
        ·rw[if_neg (by omega)]at u
         exact u _ _ ⟨J,z.tr hu5⟩
       ·rintro _ h6 ⟨O,W⟩
        have L:(if i-a≥2 then shiftDown (AK dec) (i-1) d5 else d5).size=d.size:=by split<;>simp[H]
        generalize (if i-a≥2 then shiftDown (AK dec) (i-1) d5 else d5)=d6 at O L b
        have wi:IntKind.wrap .i64 ((e:Int)-(i:Int))=((e-i:Nat):Int):=by rw[kE (by omega)];omega
        show CondP (decide (IntKind.wrap .i64 ((e:Int)-(i:Int))≥2)) _ _
        rw[wi];refine aw (fun h7=>?_) fun h7=>?_
        ·rw[if_pos (by omega)]at b
         refine LoopP.ghost (fun(g:Nat×Array Int) (t:Int) h'=>t=(g.1:Int)∧SA dec M s h' g.2∧g.2.size=d.size∧shiftUp (AK dec) e g.1 g.2=shiftUp (AK dec) e (i+1) d6∧Upd M h h'∧1≤g.1∧g.1≤e) (fun g=>e-g.1) (i+1,d6)
          ⟨by rw[kE (by omega)];rfl,O,L,rfl,W,by simp,by simp only;omega⟩ ?_
         rintro I4 ⟨j,d7⟩ t h8 ⟨ht,P,v,n,V,hj1,F⟩ G;simp only at ht P v n hj1 F;subst ht;refine aw (fun h9=>?_) fun h9=>?_
         ·have S:IntKind.wrap .i64 ((j:Int)-1)=((j-1:Nat):Int):=by rw[kE (by omega)];omega
          rw[shiftUp,if_pos (by omega)]at n;refine P.less (i:=j) (j:=j-1) rfl S (by omega) (by omega) fun hL eL hsL kL E=>?_
          have q:=V.tr kL.wide;rw[E];refine CondP.intro (fun y=>?_) fun y=>?_
          ·rw[if_pos y]at n
           exact hR _ _ ⟨i,d7,rfl,hsL,v,by rw[n];exact b,q,m,f⟩
          ·rw[if_neg (by rw[y];simp)]at n
           refine hsL.swap (i:=j) (j:=j-1) rfl S (by omega) (by omega) fun h11 hs11 Z=>?_
           exact G (j+1,swp d7 j (j-1)) _ _ ⟨by rw[kE (by omega)];rfl,hs11,by simp[v],n,q.tr Z,by simp,by simp only;omega⟩ (by simp only;omega)
         ·rw[shiftUp,if_neg (by omega)]at n
          exact hR _ _ ⟨i,d7,rfl,P,v,by rw[n];exact b,V,m,f⟩
        ·rw[if_neg (by omega)]at b
         exact hR _ _ ⟨i,d6,rfl,O,L,b,W,m,f⟩
  ·rintro t h' ⟨Q,d2,rfl,A,hz2,b,hu2,m,f⟩
   exact hI (st,Q,d2) _ _ ⟨rfl,by simp only;rw[kE (by omega)];omega,A,hz2,b,hu2,by simp only;omega,m,f⟩ (by simp)
 ·have:st=0:=by have:¬5-(st:Int)<5:=hge;omega
  subst this;rw[partialIns]at x;rw[←x]at T;exact T _ C hu1
end Go.Proofs
namespace Go.Proofs
open Go Go.Lift Go.Sort
variable {dec:Int→Ch} {M:Nat→Prop} {s:SliceV} {h:ac} {d:Array Int}
theorem Um(x:Int):IntKind.wrap .u64 x=x%18446744073709551616:=by
 simp[IntKind.wrap,IntKind.bits,IntKind.signed]
theorem and_le_right(x:Int){m:Int}(a:0≤m)(hm:m<18446744073709551616):0≤IntKind.wrap .u64 ((af (IntKind.bits .u64) x&&&af (IntKind.bits .u64) m).toNat:Int)∧IntKind.wrap .u64 ((af (IntKind.bits .u64) x&&&af (IntKind.bits .u64) m).toNat:Int)≤m:=by
 have c:(af (IntKind.bits .u64) x&&&af (IntKind.bits .u64) m).toNat≤(af (IntKind.bits .u64) m).toNat:=by
  rw[BitVec.toNat_and];exact Nat.and_le_right
 have b:((af (IntKind.bits .u64) m).toNat:Int)=m:=by
  show((af 64 m).toNat:Int)=m
  rw[BitVec.toNat_ofInt];have:m%((2^64:Nat):Int)=m:=Int.emod_eq_of_lt a (by omega);rw[this];omega
 rw[Um];omega
end Go.Proofs
namespace Go.Proofs
open Go Go.Lift Go.Sort
variable {dec:Int→Ch} {M:Nat→Prop} {s:SliceV} {h:ac} {d:Array Int}
end Go.Proofs
namespace Go.Proofs
open Go Go.Lift
end Go.Proofs
namespace Go.Proofs
open Go Go.Lift
end Go.Proofs
namespace Go.Proofs
open Go Go.Lift
end Go.Proofs
namespace Go.Proofs
open Go Go.Lift
end Go.Proofs
namespace Go.Proofs
open Go Go.Lift
section
variable {W:Nat→Prop} {h:ac} {vp:Nat} {s:VS}
end
end Go.Proofs
namespace Go.Proofs
open Go Go.Lift
section
variable {h:ac} {n m:ByteArray} {id p:Int} {s:SliceV} {t:Tr}
theorem vL{K:Int×Bool→ac→Prop}(a:K (0,false) h):HC PG dH [.pointer none,.string n] [.c (.int .u32),.c .bool] K h:=by
 refine ry none n ?_;unfold mX aR;exact ay.2 a
theorem Kj{K:Int×Bool→ac→Prop}(a:K (0,false) h):HC PG iL [.pointer none,.string n] [.c (.int .u32),.c .bool] K h:=by
 refine wA none n ?_;unfold pR aR;exact ay.2 a
theorem Pi{K:Tr×Int→ac→Prop}(b:∀h',Upd No h h'→K (qW,4) h'):HC PG dg [.pointer none,.int .u32 id] [.agg [.int .i64,.int .u64,.int .u64,.int .u64,.ptr,.ptr],.c (.int .i64)] K h:=by
 refine rv none id ?_;unfold mV aR az gT ad bO bw ag eB nv rO ol N6 uW JB;refine aV fun e b1 k1=>ay.2 (cy (c:=kG qW) (vs:=kG qW) b1 rfl fun a b2 d=>?_)
 exact⟨_,vc b2 0,_,vc b2 1,_,vc b2 2,_,vc b2 3,_,vc b2 4,_,vc b2 5,b a (k1.own d (aj _))⟩
theorem Km{K:Int×Int→ac→Prop}(a:∀h',Upd No h h'→K (0,4) h'):HC PG fc [.pointer none,.string n,Hm t] [.c (.int .u32),.c (.int .i64)] K h:=by
 refine pP none n t ?_;unfold ld az gT ad bO bw ag ol vA vr;exact aV fun b _ k1=>vL (ay.2 (a b k1))
theorem Nn{K:Int×SliceV×Int→ac→Prop}(a:K (0,⟨none,0,0⟩,4) h):HC PG gG [.pointer none,.string n,.string m,.int .i64 p] [.c (.int .u32),.c .slice,.c (.int .i64)] K h:=by
 refine qt none n m p ?_;unfold lV aR az ad bw ag eB nv rO ol N6 vA rP vr uW On QE;exact vL (vL (Join.plain (ay.2 (ay.2 a))))
theorem Kl{K:Int→ac→Prop}(a:K 4 h):HC PG fa [.pointer none,.string n,.int .u32 id] [.c (.int .i64)] K h:=by
 refine pO none n id ?_;unfold kZ aR;exact ay.2 a
theorem Kk{K:Int→ac→Prop}(a:K 4 h):HC PG kU [.pointer none,.string n] [.c (.int .i64)] K h:=by
 refine wB none n ?_;unfold pS aR;exact ay.2 a
theorem Re{K:Int→ac→Prop}(a:K 4 h):HC PG nu [.pointer none,.string n,.int .u32 id] [.c (.int .i64)] K h:=by
 refine zG none n id ?_;unfold sy aR;exact ay.2 a
theorem Nl{K:Int→ac→Prop}(a:K 4 h):HC PG lM [.pointer none,.string n] [.c (.int .i64)] K h:=by
 refine xb none n ?_;unfold qx aR;exact ay.2 a
theorem GB{K:Int→ac→Prop}(a:K 4 h):HC PG jx [.pointer none,.string n,.int .u32 id] [.c (.int .i64)] K h:=by
 refine uR none n id ?_;unfold nR aR vA rP On;exact vL (Join.plain (ay.2 (ay.2 a)))
theorem Rh{K:Int→ac→Prop}(a:∀h',Upd No h h'→K 4 h'):HC PG fq [.pointer none,.int .u32 id,Hm t,.slice s.a s.len s.cap] [.c (.int .i64)] K h:=by
 refine nP none id t s ?_;unfold kr aR az gT ad bO bw ag ol vr CP;exact aV fun b _ k1=>ay.2 (a b k1)
theorem GA{K:Bool→ac→Prop}(a:K false h):HC PG eJ [.pointer none,.int .u32 id] [.c .bool] K h:=by
 refine ou none id ?_;unfold j4 bw rP;exact ah.2 a
theorem Np{K:Option Addr→ac→Prop}(a:K none h):HC PG gH [.pointer none] [.c .ptr] K h:=by
 refine qu none ?_;unfold lW bw;exact ay.2 a
theorem GC{K:SliceV→ac→Prop}(a:K ⟨none,0,0⟩ h):HC PG ft [.pointer none] [.c .slice] K h:=by
 refine nQ none ?_;unfold jA aR;exact ay.2 a
theorem Pj{K:SliceV→ac→Prop}(a:K ⟨none,0,0⟩ h):HC PG g4 [.pointer none] [.c .slice] K h:=by
 refine rx none ?_;unfold mW aR;exact ay.2 a
theorem Nm{K:SliceV→ac→Prop}(a:K ⟨none,0,0⟩ h):HC PG lN [.pointer none] [.c .slice] K h:=by
 refine xd none ?_;unfold qy aR cx ci bw nv kN bK Hu EA tG;exact ay.2 a
theorem Nq{K:Tr→ac→Prop}(b:∀h',Upd No h h'→K qW h'):HC PG cF [.pointer none] [.agg [.int .i64,.int .u64,.int .u64,.int .u64,.ptr,.ptr]] K h:=by
 refine qv none ?_;unfold lX az gT ad bO bw ag eB rO JB;refine aV fun e b1 k1=>ay.2 (cy (c:=kG qW) (vs:=kG qW) b1 rfl fun a b2 d=>?_)
 exact⟨_,vc b2 0,_,vc b2 1,_,vc b2 2,_,vc b2 3,_,vc b2 4,_,vc b2 5,b a (k1.own d (aj _))⟩
end
theorem OL{h:ac}{v:Value}{K:uQ []→ac→Prop}(i:K () h):HC PG dJ [.slice none 0 0,v] [] K h:=by
 refine jK ⟨none,0,0⟩ v ?_;unfold fC;refine SL (n:=0) (by omega) fun L _ _=>?_
 refine mS ⟨none,0,0⟩ 0 0 L v ?_;unfold hO aR cx ci vt bK MO;refine LoopP.ghost (fun(_:Unit) (t:Int×Int×Int×Bool×Bool) h'=>t.1=0∧t.2.1=0∧h'=h) (fun _=>0) () ⟨rfl,rfl,rfl⟩ ?_
 rintro I _ ⟨a,b,c⟩ h' ⟨f,g,rfl⟩ _;simp only at f g⊢;subst f g;refine aw (fun _=>?_) fun e=>absurd e (by decide)
 refine j2 ⟨none,0,0⟩ 0 0 v ?_;unfold fP aR cx ci vt bK EA vq MO;refine LoopP.ghost (fun(_:Unit) (t:Int) d=>t=1∧d=h') (fun _=>0) () ⟨by decide,rfl⟩ ?_
 rintro I _ t d ⟨rfl,rfl⟩ _;exact aw (fun e=>absurd e (by decide)) fun _=>i
theorem Fp{h:ac}{r:Nat}(m:MapAt kStr Pq h r []){K:SliceV→ac→Prop}(g:∀h',Upd No h h'→K ⟨none,0,0⟩ h'):HC PG fR [.map (some r)] [.c .slice] K h:=by
 refine yw (some r) ?_;unfold rz Hu EA;obtain⟨a,⟨es,b⟩,e⟩:=m.range;refine⟨a,.inr ⟨r,es,rfl,b⟩,DZ fun f d=>?_⟩
 have k1:=Upd.push No h (.mapIter (some r) a #[] a);have d:f=h.push (.mapIter (some r) a #[] a):=d;rw[←d]at e k1;refine LoopP.ghost (fun(_:Unit) (t:SliceV) h'=>t=⟨none,0,0⟩∧h'=f) (fun _=>0) () ⟨rfl,rfl⟩ ?_
 rintro I _ t h' ⟨rfl,rfl⟩ _;refine NextP.at (M:=(· =h.size)) e rfl (fun _=>OL (g _ k1)) fun k v c=>absurd c (by simp)
theorem HK{h:ac}{K:Bool→ac→Prop}{a:Option Addr}{c:Nat}(b:K true h):HC PG r9 [.slice none 0 0,.slice a 0 c] [.c .bool] K h:=by
 refine Jc ⟨none,0,0⟩ ⟨a,0,c⟩ ?_;unfold B4 cx ci bK;refine ah.2 (LoopP.ghost (fun(_:Unit) (t:Int) h'=>t=0∧h'=h) (fun _=>0) () ⟨rfl,rfl⟩ ?_)
 rintro I _ t h' ⟨rfl,rfl⟩ _;exact aw (fun e=>absurd e (by simp)) fun _=>b
theorem H0{n:ByteArray}(q:n.size≤1000){h:ac}{K:Bool→ac→Prop}(d:K (m5 n) h):HC PG wa [.string n] [.c .bool] K h:=by
 refine IU n ?_;unfold BU;have f:n.data.toList.length=n.size:=Array.length_toList;refine LoopP.ghost (fun(i:Nat) (t:Int) h'=>t=(i:Int)∧h'=h∧i≤n.size∧∀b∈n.data.toList.take i,tQ b=true) (fun i=>n.size-i) 0 ⟨rfl,rfl,aP _,by simp⟩ ?_
 rintro I i t h' ⟨rfl,rfl,hi,g⟩ p;refine aw (fun c=>?_) fun o=>?_
 ·have c:i<n.size:=by omega
  have a:i<n.data.toList.length:=by omega
  have j:n[(i:Int).toNat]? =some n.data.toList[i]:=by
   rw[aF,getElem?_pos n i c];rfl
  refine Join.intro (fun t k=>t=(!tQ n.data.toList[i])∧k=h') (fun R m=>⟨_,by omega,j,aw (fun e=>m _ _ ⟨?_,rfl⟩) fun e=>⟨_,by omega,j,m _ _ ⟨?_,rfl⟩⟩⟩) ?_
  ·unfold tQ;rw[decide_eq_false (by omega:¬33≤n.data.toList[i].toNat)];rfl
  ·unfold tQ;rw[decide_eq_true (by omega:33≤n.data.toList[i].toNat),tD,←decide_not,decide_eq_decide];omega
  ·rintro _ k ⟨rfl,rfl⟩
   refine CondP.intro (fun e=>?_) fun e=>?_
   ·rw[show m5 n=false from ?_]at d
    ·exact d
    ·unfold m5
     rw[show n.data.toList.all tQ=false from List.all_eq_false.2 ⟨_,aU a,by simpa using e⟩,Bool.and_false]
   ·rw[bN (n:=n.size) c (by omega)]
    refine p (i+1) _ _ ⟨rfl,rfl,by omega,?_⟩ (by omega)
    rw[ax a];intro b hb;rcases bc.1 hb with hb|hb
    ·exact g b hb
    ·rw[aB.1 hb];simpa using e
 ·have:i=n.size:=by omega
  subst this;rw[←f,ba]at g;refine aw (fun e=>?_) fun e=>?_
  ·rw[show m5 n=decide ((n.size:Int)<33)from by unfold m5;rw[List.all_eq_true.2 g,decide_eq_true (by omega:1≤n.size),tD,Bool.and_true,decide_eq_decide];omega]at d
   exact d
  ·rw[show m5 n=false from by unfold m5;rw[decide_eq_false (by omega:¬1≤n.size)];rfl]at d
   exact d
end Go.Proofs
namespace Go.Proofs
open Go.Lift
abbrev vf(v:Int×SliceV):List Value:= [.int .u32 v.1,sv v.2]
theorem Ou(v:Int×SliceV):(vf v).length=2∧0<2:=⟨rfl,by omega⟩
def Par(W:Nat→Prop)(h:ac):List (Int×SliceV)→de→Prop
 | [],[]=>True
 |v::l,u::m=>v.1=u.1∧Nums W h v.2 u.2∧Par W h l m
 |_,_=>False
theorem Par.len{W:Nat→Prop}{h:ac}:∀{l:List (Int×SliceV)} {m:de},Par W h l m→l.length=m.length
 | [],[],_=>rfl
 |_::_,_::_,p=>congrArg (· +1) p.2.2.len
 | [],_::_,p=>p.elim
 |_::_,[],p=>p.elim
theorem Par.get{W:Nat→Prop}{h:ac}:∀{l:List (Int×SliceV)} {m:de},Par W h l m→∀{i:Nat} (hl:i<l.length) (hm:i<m.length),l[i].1=m[i].1∧Nums W h l[i].2 m[i].2
 |v::l,u::m,p,0,_,_=>⟨p.1,p.2.1⟩
 |v::l,u::m,p,i+1,hl,hm=>p.2.2.get (by simpa using hl) (by simpa using hm)
theorem Par.app{W:Nat→Prop}{h:ac}:∀{l l':List (Int×SliceV)} {m m':de},Par W h l m→Par W h l' m'→Par W h (l++l') (m++m')
 | [],_,[],_,_,q=>q
 |_::_,_,_::_,_,p,q=>⟨p.1,p.2.1,p.2.2.app q⟩
 | [],_,_::_,_,p,_=>p.elim
 |_::_,_,[],_,p,_=>p.elim
theorem Par.take{W:Nat→Prop}{h:ac}:∀{l:List (Int×SliceV)} {m:de},Par W h l m→∀i,Par W h (l.take i) (m.take i)
 | [],[],_,i=>by simp[Par]
 |_::_,_::_,_,0=>trivial
 |_::_,_::_,p,i+1=>⟨p.1,p.2.1,p.2.2.take i⟩
 | [],_::_,p,_=>p.elim
 |_::_,[],p,_=>p.elim
theorem Par.drop{W:Nat→Prop}{h:ac}:∀{l:List (Int×SliceV)} {m:de},Par W h l m→∀i,Par W h (l.drop i) (m.drop i)
 | [],[],_,i=>by simp[Par]
 |_::_,_::_,p,0=>p
 |_::_,_::_,p,i+1=>p.2.2.drop i
 | [],_::_,p,_=>p.elim
 |_::_,[],p,_=>p.elim
theorem Par.upd{W M:Nat→Prop}{h h':ac}(k:Upd M h h')(hm:∀b,M b→W b∨h.size≤b):∀{l:List (Int×SliceV)} {m:de},Par W h l m→Par W h' l m
 | [],[],_=>trivial
 |_::_,_::_,p=>⟨p.1,p.2.1.upd k hm,Par.upd k hm p.2.2⟩
 | [],_::_,p=>p.elim
 |_::_,[],p=>p.elim
structure RefAt(W:Nat→Prop)(h:ac)(xp:Nat)(L:de)(nx:Int):Prop where
 blk:∃s t Ls,h[xp]? =some (.cells #[sv s,.int .u32 nx] t (0,0))∧Sl vf 2 W h s Ls∧Par W h Ls L∧s.len≤s.cap
 wp:W xp
 lt:∀b,W b→b<h.size
theorem RefAt.upd{W M:Nat→Prop}{h h':ac}{a:Nat}{L:de}{nx:Int}(g:RefAt W h a L nx)(k:Upd M h h')(hm:∀b,M b→(W b∧b≠a)∨h.size≤b):RefAt W h' a L nx:=by
 obtain⟨s,t,Ls,j,f,m,i⟩:=g.blk;have d:¬M a:=fun e=>(hm _ e).elim (fun e=>e.2 rfl) fun e=>absurd (g.lt _ g.wp) (gC.2 e)
 have c:∀b,M b→W b∨h.size≤b:=fun b hb=>(hm b hb).imp (·.1) id
 exact⟨⟨s,t,Ls,k.get j d,f.upd k c,Par.upd k c m,i⟩,g.wp,fun b hb=>aO (g.lt b hb) k.size⟩
theorem RefAt.upd0{W:Nat→Prop}{h h':ac}{a:Nat}{L:de}{nx:Int}(g:RefAt W h a L nx)(k:Upd No h h'):RefAt W h' a L nx:=g.upd k fun _ h=>h.elim
theorem Ov{W:Nat→Prop}{h:ac}{s:SliceV}{Ls:List (Int×SliceV)}(c:Sl vf 2 W h s Ls){i:Nat}(hi:i<Ls.length):
  ∃a,s.a=some a∧aX h (adr (adr a (((i:Int)).toNat*2)) 0)=some (.int .u32 Ls[i].1)∧aX h (adr (adr a (((i:Int)).toNat*2)) 1)=some (.slice Ls[i].2.a Ls[i].2.len Ls[i].2.cap):=by
 obtain⟨a,b,_,hv⟩:=c.at (al hi);exact⟨a,b,hv 0 _ rfl,hv 1 _ rfl⟩
theorem Sw(h:ac)(t:TypeId)(a b:Value)(v:Int×SliceV):uj (hnew h [a,b] t) (some (aH h)) 0 [.int .u32 v.1,.slice v.2.a v.2.len v.2.cap]∧
  (iJ (hnew h [a,b] t) (aH h) 0 [.int .u32 v.1,.slice v.2.a v.2.len v.2.cap])[h.size]? =some (.cells #[.int .u32 v.1,.slice v.2.a v.2.len v.2.cap] t (0,0))∧
  Upd No h (iJ (hnew h [a,b] t) (aH h) 0 [.int .u32 v.1,.slice v.2.a v.2.len v.2.cap]):=by
 have hb:=bG h [a,b] t;refine⟨.inr ⟨_,rfl,fun j c=>?_⟩,?_,?_⟩
 ·rw[bZ,bB]
  exact f6 hb (by simp at c⊢;omega)
 ·rw[bZ,gj _ _ 0 0 [a,b] hb (by simp),gg hb];rfl
 ·rw[bZ,gj _ _ 0 0 [a,b] hb (by simp)]
  exact(Upd.hnew No h [a,b] t).trans (M':=(· =h.size)) (Upd.set _ _ rfl) fun b hb=>.inr (dP hb.symm)
theorem CF{W:Nat→Prop}{h:ac}{p:Nat}{L:de}{nx:Int}(g:RefAt W h p L nx)(A:L.length≤4611686018427387904)(id:Int)
  {K:Int→ac→Prop}(w:∀(n:Int) h',Upd No h h'→(n≥0↔id∈kC L)→K n h'):HC PG rq [.pointer (some ⟨p,0,none⟩),.int .u32 id] [.c (.int .i64)] K h:=by
 refine Lh (some ⟨p,0,none⟩) id ?_;unfold Ec cx ci bj nv kN Ht MM;obtain⟨s,t,Ls,C,j,q,_⟩:=g.blk;refine⟨_,rfl,s,by rw[bB,aL C];rfl,?_⟩
 have d:=q.len;refine LoopP.ghost (fun(i:Nat) (t:Int) h'=>t=(i:Int)∧Upd No h h'∧i≤L.length∧id∉(kC L).take i) (fun i=>L.length-i) 0 ⟨rfl,Upd.refl _ _,aP _,by simp⟩ ?_
 rintro I i t h' ⟨rfl,f,hi,m⟩ z;have u:=j.upd f fun _ h=>h.elim
 have y:=Par.upd f (fun _ h=>h.elim) q
 refine aw (fun b=>?_) fun k=>?_
 ·rw[j.len,d]at b
  have b:i<L.length:=by omega
  obtain⟨a,B,c0,c1⟩:=Ov u (d▸b);obtain⟨x,D,v⟩:=Sw h' eN (.int .u32 0) (.slice none 0 0) (Ls[i]'(d▸b));refine⟨by rw[j.len,d];omega,a,B,_,c0,_,c1,x,_,Dt D 0,?_⟩;have e:=(q.get (d▸b) b).1;refine CondP.intro (fun o=>?_) fun c=>?_
  ·have o:L[i].1=id:=by rw[←e];simpa using o
   exact w _ _ (f.tr v) ⟨fun _=>List.mem_map.2 ⟨_,aU b,o⟩,fun _=>by omega⟩
  ·have c:L[i].1≠id:=by rw[←e];simpa using c
   rw[bN b A];refine z (i+1) _ _ ⟨rfl,f.tr v,b,?_⟩ (by omega);rw[ax (by simpa using b),bc,aB,not_or];exact⟨m,by rw[List.getElem_map];exact Ne.symm c⟩
 ·rw[j.len,d]at k
  have:i=L.length:=by omega
  rw[List.take_of_length_le (by simp[this])]at m;exact w _ _ f ⟨fun h=>by omega,fun h=>absurd h m⟩
theorem QA{W:Nat→Prop}{h:ac}{s:SliceV}{ps:List Int}(d:Nums W h s ps){K:Int→ac→Prop}(c:K (pz ps) h):
  HC PG AU [.slice s.a s.len s.cap] [.c (.int .i64)] K h:=by
 refine NS s ?_;unfold FZ aR cx;refine Join.plain (aw (fun g=>?_) fun k=>CondP.intro (fun f=>?_) fun b=>?_)
 ·rw[d.len]at g
  rw[show pz ps=1 from if_pos (.inl (by omega))]at c
  exact ay.2 c
 ·rw[d.len]at f
  have f:ps.length=2:=by
   have:(ps.length:Int)=2:=by simpa using f
   omega
  obtain⟨a,n,_,hx⟩:=Nums.at d (i:=0) (by omega);obtain⟨a',m,_,o⟩:=Nums.at d (i:=1) (by omega);refine⟨by rw[d.len];omega,a,n,_,hx,by rw[d.len];omega,a',m,_,o,?_⟩
  have e:pz ps=if(ps[0]==ps[1])=true then 1 else 0:=by
   match ps,f with
   | [x,y],_=>simp[pz,T3]
  rw[e]at c;exact CondP.intro (fun j=>by rw[if_pos j]at c;exact c) fun j=>by rw[if_neg (by rw[j];decide)]at c;exact c
 ·rw[d.len]at k b
  have b:ps.length≠2:=fun e=>by rw[e]at b;exact absurd b (by decide)
  have hd:T3 ps=false:=by
   match ps,b with
   | [],_=>rfl
   | [_],_=>rfl
   | [_,_],h=>exact absurd rfl h
   |_::_::_::_,_=>rfl
  rw[show pz ps=0 from if_neg (by rw[hd];simp;omega)]at c
  exact ah.2 c
theorem MI{W:Nat→Prop}{h:ac}{w:Nat}{L:de}{nx:Int}(g:RefAt W h w L nx)(F:L.length≤4611686018427387904){s:SliceV}{ps:List Int}(q:Nums W h s ps)(C:ps.length≤4611686018427387904)
  {K:Int→ac→Prop}(j:∀h',Upd No h h'→K (lK L ps) h'):HC PG wb [.pointer (some ⟨w,0,none⟩),.slice s.a s.len s.cap] [.c (.int .i64)] K h:=by
 refine IV (some ⟨w,0,none⟩) s ?_;unfold BV aR cx bj rP;refine LoopP.ghost (fun(i:Nat) (t:Int) h'=>t=(i:Int)∧Upd No h h'∧i≤ps.length∧∀p∈ps.take i,p∈kC L) (fun i=>ps.length-i) 0 ⟨rfl,Upd.refl _ _,aP _,by simp⟩ ?_
 rintro I i t h' ⟨rfl,k,hi,v⟩ B;have y:Nums W h' s ps:=q.upd k fun _ h=>h.elim
 have z:=g.upd0 k;refine aw (fun b=>?_) fun u=>?_
 ·rw[q.len]at b
  have b:i<ps.length:=by omega
  obtain⟨a,D,_,hx⟩:=Nums.at y b;refine⟨by rw[q.len];omega,a,D,_,hx,CF z F _ fun n A o m=>aw (fun x=>?_) fun x=>?_⟩
  ·have c:ps[i]∉kC L:=fun hm=>by have:=m.2 hm;omega
   rw[show lK L ps=4 from if_pos (bS.2 ⟨_,aU b,by simpa using c⟩)]at j
   exact j _ (k.tr o)
  ·rw[bN b C]
   refine B (i+1) _ _ ⟨rfl,k.tr o,b,?_⟩ (by omega);rw[ax b];intro p f;rcases bc.1 f with d|d
   ·exact v p d
   ·rw[aB.1 d];exact m.1 (by omega)
 ·rw[q.len]at u
  have:i=ps.length:=by omega
  subst this;rw[ba]at v;have c:¬(ps.any (fun p=> !decide (p∈kC L)))=true:=fun e=>by
   obtain⟨p,f,d⟩:=bS.1 e;simp[v p f]at d
  obtain⟨s',t,Ls,E,A,x,_⟩:=z.blk;refine⟨_,rfl,s',by rw[bB,aL E];rfl,?_⟩
  rw[A.len,x.len];refine aw (fun d=>?_) fun d=>?_
  ·rw[show lK L ps=6 from(if_neg c).trans (if_pos (by omega))]at j
   exact j _ k
  ·rw[show lK L ps=0 from(if_neg c).trans (if_neg (by omega))]at j
   exact j _ k
end Go.Proofs
