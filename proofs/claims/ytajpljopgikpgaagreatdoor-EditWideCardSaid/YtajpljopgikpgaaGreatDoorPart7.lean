/- A part of the proof that the named laws of this program answer true, whatever the input. -/
import Derived.Test.YtajpljopgikpgaaGreatDoorPart6
open Array renaming size→bU
open BitVec renaming ofInt→ah,ofInt_natCast→eh,toNat_ofNat→mr
open Bool renaming and_eq_true→bq
open List renaming cons_append→cU,cons→gb,take_succ_cons→dq,length_cons→aL,take_append_drop→aN,length→fP,length_drop→aI,length_nil→cq,pairwise_append→cS,mem_append_left→ft,mem_append_right→fW,mem_cons_self→au,mem_of_getLast?→kD,mem_cons→ar,pairwise_cons→ba,mem_append→cd,mem_singleton→aq,take_length→bN,append_nil→bJ,append_assoc→ao,drop_eq_nil_of_le→eE,getElem?_eq_getElem→ag,length_append→ae,size_toArray→cH,flatMap_append→bj,flatMap_cons→aU,pairwise_iff_getElem→cy,map_append→dL,sum_append→ii,flatten_append→du,map_cons→fx,sum_cons→oh,getElem_mem→aP,length_map→gB
open List.Pairwise renaming nil→fF
open Nat renaming le_refl→al,lt_or_ge→bD,zero_add→aB,add_zero→cN,testBit_zero→iV,testBit_succ→ga,zero_testBit→fo,eq_of_testBit_eq→gg,testBit_and→gy,mod_eq_of_lt→cF,zero_le→aV
namespace Go.Proofs
open Go Go.Lift
theorem uR{a b:ByteArray}:kl a b↔Op.bytesLess a.data.toList b.data.toList=true:=by unfold kl;rw[ByteArray.toList_eq,ByteArray.toList_eq]
theorem vd{a b:UInt8}{x y:List UInt8}:Op.bytesLess (a::x) (b::y)=true↔a.toNat<b.toNat∨(a=b∧Op.bytesLess x y=true):=by
 simp only[Op.bytesLess,Bool.or_eq_true,decide_eq_true_iff,bq,beq_iff_eq,UInt8.lt_iff_toNat_lt]
theorem Jr(x:List UInt8):Op.bytesLess x []=false:=by cases x<;>rfl
theorem FE{x y:List UInt8}:∀pre:List UInt8,Op.bytesLess (pre++x) (pre++y)=true↔Op.bytesLess x y=true
 | []=>Iff.rfl
 |a::pre=>by rw[cU,cU,vd,FE pre];simp
theorem Sb{x y:List UInt8}(h:Op.bytesLess x y=true)(hx:x≠[])(c:y≠[]):hd x≤hd y:=by
 match x,y,hx,c with
 |a::x,b::y,_,_=>
  show a.toNat≤b.toNat
  rcases vd.1 h with h|⟨rfl,_⟩<;>omega
theorem Gp:∀(t:Nat) {f p g:List UInt8},t≤cm f g→(f=p∨Op.bytesLess f p=true)→(p=g∨Op.bytesLess p g=true)→p.take t=f.take t∧t≤p.length
 |0,f,p,g,_,_,_=>by simp
 |t+1,[],p,g,h,_,_=>by simp[cm]at h
 |t+1,a::f,p,[],h,_,_=>by simp[cm]at h
 |t+1,a::f,p,b::g,h,d,i=>by
  unfold cm at h;split at h
  ·rename_i e
   subst e;rcases p with _|⟨c,p⟩
   ·rcases d with d|d
    ·cases d
    ·rw[Jr]at d;cases d
   ·have hc:c=a:=by
     rcases d with d|d
     ·exact(gb.inj d).1.symm
     ·rcases i with i|i
      ·exact(gb.inj i).1
      ·have j:=vd.1 d
       have k:=vd.1 i;rcases j with j|⟨j,_⟩
       ·rcases k with k|⟨k,_⟩
        ·omega
        ·exact k
       ·exact j.symm
    subst hc;have:=Gp t (f:=f) (p:=p) (g:=g) (by omega) (d.imp (fun h=>(gb.inj h).2) fun h=>by
     rcases vd.1 h with h|⟨_,h⟩
     ·omega
     ·exact h) (i.imp (fun h=>(gb.inj h).2) fun h=>by
     rcases vd.1 h with h|⟨_,h⟩
     ·omega
     ·exact h)
    rw[dq,dq,this.1,aL];exact⟨rfl,by omega⟩
  ·omega
theorem KY:∀f:List UInt8,cm f f=f.length
 | []=>rfl
 |a::f=>by unfold cm;rw[if_pos rfl,KY f];rfl
abbrev ky(p:Pr):List UInt8:=p.1.data.toList
def PS(l:List Pr)(a k:List UInt8)(v:ByteArray):Prop:=∃p∈l,ky p=a++k∧p.2=v
structure Beg(l:List Pr)(pre:List UInt8):Prop where
 up:cB l
 at_:∀p∈l,(ky p).take pre.length=pre∧pre.length<(ky p).length
theorem Beg.sub{l l':List Pr}{a:List UInt8}(b:Beg l a)(h:l'.Sublist l):Beg l' a:=⟨b.up.sublist h,fun p c=>b.at_ p (h.subset c)⟩
theorem Beg.split{l:List Pr}{a:List UInt8}(b:Beg l a){p:Pr}(d:p∈l):ky p=a++(ky p).drop a.length∧(ky p).drop a.length≠[]:=by
 obtain⟨c,f⟩:=b.at_ p d;refine⟨?_,fun e=>?_⟩
 ·conv=>lhs;rw[←aN a.length (ky p),c]
 ·have:=congrArg fP e
  rw[aI,cq]at this;omega
def bt(n:Nat)(p:Pr):Nat:=hd ((ky p).drop n)
theorem Beg.mono{A B:List Pr}{a:List UInt8}(b:Beg (A++B) a){x y:Pr}(hx:x∈A)(c:y∈B):bt a.length x≤bt a.length y:=by
 have h:=(cS.1 b.up).2.2 x hx y c;rw[uR]at h;obtain⟨e,g⟩:=b.split (ft B hx);obtain⟨d,f⟩:=b.split (fW A c);change Op.bytesLess (ky x) (ky y)=true at h;rw[e,d,FE]at h;exact Sb h g f
theorem Ep{l:List Pr}{d:List UInt8}{f g:Pr}(b:Beg l d)(H:∃r,l=f::r)(v:l.getLast? =some g)(E:bt d.length f=bt d.length g):
  d.length<cm (ky f) (ky g)∧cm (ky f) (ky g)≤(ky f).length∧(∀p∈l,(ky p).take (cm (ky f) (ky g))=(ky f).take (cm (ky f) (ky g)))∧(∀p∈l,p=f∨cm (ky f) (ky g)<(ky p).length)∧
   (cm (ky f) (ky g)<(ky f).length→cm (ky f) (ky g)<(ky g).length∧hd ((ky f).drop (cm (ky f) (ky g)))≠hd ((ky g).drop (cm (ky f) (ky g)))):=by
 obtain⟨r,rfl⟩:=H;have u:f∈f::r:=au ..;have i:g∈f::r:=kD v;obtain⟨D,L⟩:=b.split u;obtain⟨F,J⟩:=b.split i;have z:d.length<cm (ky f) (ky g):=by
  have:∀(q x y:List UInt8),cm (q++x) (q++y)=q.length+cm x y:=by
   intro q x y;induction q with
   |nil=>simp
   |cons a q ih=>simp only[cU,cm,if_true,ih,aL];omega
  have s:=this d ((ky f).drop d.length) ((ky g).drop d.length);rw[←D,←F]at s;have K:=Oa L J E;omega
 have A:=KZ (ky f) (ky g);have w:∀p∈f::r,ky f=ky p∨Op.bytesLess (ky f) (ky p)=true:=fun p c=>by
  rcases ar.1 c with rfl|c
  ·exact .inl rfl
  ·exact .inr (uR.1 ((ba.1 b.up).1 p c))
 have t:∀p∈f::r,ky p=ky g∨Op.bytesLess (ky p) (ky g)=true:=fun p c=>by
  rcases List.eq_nil_or_concat (f::r)with h|⟨l',y,h⟩
  ·cases h
  ·rw[List.concat_eq_append]at h
   rw[h,List.getLast?_concat]at v;cases v;have k:=b.up;rw[h]at c k;rcases cd.1 c with c|c
   ·exact .inr (uR.1 ((cS.1 k).2.2 p c g (aq.2 rfl)))
   ·rw[aq.1 c];exact .inl rfl
 have j:∀p∈f::r,(ky p).take (cm (ky f) (ky g))=(ky f).take (cm (ky f) (ky g))∧cm (ky f) (ky g)≤(ky p).length:=fun p c=>Gp _ (al _) (w p c) (t p c)
 have m:∀p∈f::r,p=f∨cm (ky f) (ky g)<(ky p).length:=fun p c=>by
  obtain⟨s,K⟩:=j p c;rcases bD (cm (ky f) (ky g)) (ky p).length with h|h
  ·exact .inr h
  ·left
   have I:(ky p).length=cm (ky f) (ky g):=by omega
   have e:ky p=(ky f).take (cm (ky f) (ky g)):=by rw[←s,←I,bN]
   rcases ar.1 c with rfl|c
   ·rfl
   ·have B:=uR.1 ((ba.1 b.up).1 p c)
    change Op.bytesLess (ky f) (ky p)=true at B;exfalso;have G:ky f=ky p++(ky f).drop (cm (ky f) (ky g)):=by rw[e,aN]
    have C:Op.bytesLess (ky p++(ky f).drop (cm (ky f) (ky g))) (ky p++ [])=true:=by rw[bJ,←G];exact B
    rw[FE,Jr]at C;cases C
 refine⟨z,A.1,fun p c=>(j p c).1,m,fun n=>?_⟩
 have o:cm (ky f) (ky g)<(ky g).length:=by
  rcases m g i with h|h
  ·exfalso
   rw[h,KY]at n;omega
  ·exact h
 exact⟨o,Fy _ _ n o⟩
theorem Jp{l l':List Pr}{a:List UInt8}{f g:Pr}(b:Beg l a)(D:∃r,l=f::r)(C:l.getLast? =some g)(G:bt a.length f=bt a.length g){F:Fo}(hc:eH F)
  (d:l'=if(ky f).length=cm (ky f) (ky g)then l.drop 1 else l)(x:∀k v,nu F k v↔PS l' ((ky f).take (cm (ky f) (ky g))) k v){w:Option ByteArray}(y:w=if(ky f).length=cm (ky f) (ky g)then some f.2 else none){lab:List UInt8}(s:lab=((ky f).take (cm (ky f) (ky g))).drop a.length):
  HK (lab,w,F)∧hd lab=bt a.length f∧∀k v,qk (lab,w,F) k v↔PS l a k v:=by
 obtain⟨M,O,E,N,K⟩:=Ep b D C G;obtain⟨r,rfl⟩:=D;have o:f∈f::r:=au ..;have u:g∈f::r:=kD C;generalize cm (ky f) (ky g)=to at*;have i:a++lab=(ky f).take to:=by
  have:=(b.at_ f o).1;rw[s];conv=>rhs;rw[←aN a.length ((ky f).take to),List.take_take,Nat.min_eq_left (by omega),this]
 have j:lab≠[]:=fun e=>by
  have:=congrArg fP s;rw[e,cq,aI,List.length_take]at this;omega
 have B:∀k v,qk (lab,w,F) k v↔PS (f::r) a k v:=by
  intro k v;constructor
  ·rintro⟨q,e,⟨rfl,n⟩|n⟩
   ·simp only at e n
    rw[bJ]at e;subst e;rw[y]at n;split at n
    ·rename_i c
     cases n;refine⟨f,o,?_,rfl⟩;rw[i,←c,bN]
    ·cases n
   ·simp only at e n
    obtain⟨p,m,J,rfl⟩:=(x q v).1 n;refine⟨p,?_,?_,rfl⟩
    ·rw[d]at m
     split at m
     ·exact List.mem_cons_of_mem _ m
     ·exact m
    ·rw[J,e,←ao,i]
  ·rintro⟨p,m,e,rfl⟩
   have t:=E p m;have I:ky p=a++(lab++(ky p).drop to):=by
    rw[←ao,i,←t,aN]
   have ek:k=lab++(ky p).drop to:=List.append_cancel_left (e.symm.trans I);refine⟨(ky p).drop to,ek,?_⟩;by_cases c:(ky f).length=to
   ·rw[if_pos c]at y d
    rcases ar.1 m with rfl|m
    ·left
     refine⟨eE (by omega),?_⟩;simp only;rw[y]
    ·right
     refine(x _ _).2 ⟨p,by rw[d];exact m,?_,rfl⟩
     rw[←t,aN]
   ·rw[if_neg c]at y d
    right;refine(x _ _).2 ⟨p,by rw[d];exact m,?_,rfl⟩
    rw[←t,aN]
 refine⟨⟨j,?_,hc⟩,?_,B⟩
 ·by_cases c:(ky f).length=to
  ·left;simp only;rw[y,if_pos c];rfl
  ·have A:to<(ky f).length:=by omega
   obtain⟨L,z⟩:=K A;refine(Cn hc).2 (.inr ⟨(ky f).drop to,(ky g).drop to,f.2,g.2,.inr ?_,.inr ?_,fun e=>?_,fun e=>?_,z⟩)
   ·exact(x _ _).2 ⟨f,by rw[d,if_neg c];exact o,(aN ..).symm,rfl⟩
   ·exact(x _ _).2 ⟨g,by rw[d,if_neg c];exact u,by rw[←E g u,aN],rfl⟩
   ·have:=congrArg fP e
    rw[aI,cq]at this;omega
   ·have:=congrArg fP e
    rw[aI,cq]at this;omega
 ·have e:=(b.split o).1
  unfold bt;have n:(ky f).drop a.length=lab++(ky f).drop to:=by
   have H:ky f=a++(lab++(ky f).drop to):=by rw[←ao,i,aN]
   conv=>lhs;rw[H]
   rw[List.drop_left]
  rw[n,mP j]
structure Row(L:List Bn)(D T:List Pr)(pre:List UInt8):Prop where
 can:∀n∈L,HK n
 up:L.Pairwise fun m n=>hd m.1<hd n.1
 lo:∀n∈L,∀p∈T,hd n.1<bt pre.length p
 got:∀k v,(∃n∈L,qk n k v)↔PS D pre k v
theorem Row.nil(T:List Pr)(a:List UInt8):Row [] [] T a:=⟨fun n h=>(by cases h),fF,fun n h=>(by cases h),fun k v=>⟨fun⟨n,h,_⟩=>(by cases h),fun⟨p,h,_⟩=>(by cases h)⟩⟩
theorem Row.more{L:List Bn}{D A B:List Pr}{c:List UInt8}{n:Bn}{p:Pr}(r:Row L D (A++B) c)(j:Beg (A++B) c)(t:p∈A)(C:∀a∈A,bt c.length a=bt c.length p)(u:∀b f,B=b::f→bt c.length b≠bt c.length p)(hc:HK n)(s:hd n.1=bt c.length p)(o:∀k v,qk n k v↔PS A c k v):Row (L++ [n]) (D++A) B c:=by
 refine⟨fun m hm=>?_,cS.2 ⟨r.up,List.pairwise_singleton ..,fun a w b x=>?_⟩,fun m hm q d=>?_,fun k v=>?_⟩
 ·rcases cd.1 hm with hm|hm
  ·exact r.can m hm
  ·rw[aq.1 hm];exact hc
 ·rw[aq.1 x,s]
  exact r.lo a w p (ft _ t)
 ·rcases cd.1 hm with hm|hm
  ·exact r.lo m hm q (fW _ d)
  ·rw[aq.1 hm,s]
   rcases B with _|⟨i,f⟩
   ·cases d
   have y:=u i f rfl;have z:=j.mono t (au (a:=i) (l:=f));rcases ar.1 d with rfl|d
   ·omega
   ·have g:Beg ([i]++f) c:=j.sub (List.sublist_append_right A _)
    have:=g.mono (aq.2 rfl) d;omega
 ·constructor
  ·rintro⟨m,hm,hi⟩
   rcases cd.1 hm with hm|hm
   ·obtain⟨q,d,e⟩:=(r.got k v).1 ⟨m,hm,hi⟩
    exact⟨q,ft _ d,e⟩
   ·rw[aq.1 hm]at hi
    obtain⟨q,d,e⟩:=(o k v).1 hi;exact⟨q,fW _ d,e⟩
  ·rintro⟨q,d,e⟩
   rcases cd.1 d with d|d
   ·obtain⟨m,hm,hi⟩:=(r.got k v).2 ⟨q,d,e⟩
    exact⟨m,ft _ hm,hi⟩
   ·exact⟨n,fW _ (aq.2 rfl),(o k v).2 ⟨q,d,e⟩⟩
theorem Row.done{L:List Bn}{D:List Pr}{a:List UInt8}(r:Row L D [] a):eH (.ofL L)∧∀k v,nu (.ofL L) k v↔PS D a k v:=by
 refine⟨dS.2 ?_,fun k v=>?_⟩
 ·rw[Fo.to_of];exact⟨r.up,r.can⟩
 ·rw[fc,Fo.to_of];exact r.got k v
end Go.Proofs
namespace Go.Proofs
open Go Go.Lift
theorem IS(s:ByteArray):s.data.toList.length=s.size:=by simp
theorem Kid.less{W W':Nat→Prop}{h:ad}(hm:∀b,W' b→W b∨h.size≤b){a:Option Addr}{n:Bn}:Kid W h a n→Kid W' h a n
 |⟨b,sl,e1,e2,e3⟩=>⟨b,sl,e1,e2,e3.less hm⟩
theorem Kid.updM{W M:Nat→Prop}{h c:ad}(k:Upd M h c)(hm:∀b,M b→W b∨h.size≤b){a:Option Addr}{n:Bn}:Kid W h a n→Kid W c a n
 |⟨b,sl,e1,e2,e3⟩=>⟨b,sl,e1,e2,e3.updM k hm⟩
theorem RxL.less{W W':Nat→Prop}{h:ad}(hm:∀b,W' b→W b∨h.size≤b){ks:List (Option Addr)}{L:List Bn}(r:RxL W h ks L):RxL W' h ks L:=⟨r.1,fun p a=>(r.2 p a).less hm⟩
theorem RxL.updM{W M:Nat→Prop}{h a:ad}(k:Upd M h a)(hm:∀b,M b→W b∨h.size≤b){ks:List (Option Addr)}{L:List Bn}(r:RxL W h ks L):RxL W a ks L:=⟨r.1,fun p c=>(r.2 p c).updM k hm⟩
theorem Of{p:Pr}{n:Nat}(h:n<(ky p).length):∃b:UInt8,p.1[n]? =some b∧b.toNat=bt n p:=by
 rw[G1];refine⟨(ky p)[n],ag h,?_⟩;unfold bt hd;rw[List.drop_eq_getElem_cons h];rfl
end Go.Proofs
namespace Go.Proofs
open Go Go.Lift
theorem E8{h:ad}{t:Tr}{k:ad→Prop}(e:∀h',h'[h.size]? =some (.cells (nW t).toArray bB (0,0))→Upd No h h'→k h'):
  At (hnew h (nW DC) bB) (fun b=>rK b (some (aA h)) 0 (nW t)∧At (gD b (aA h) 0 (nW t)) k):=
 aQ fun b b1 k1=>dT (c:=nW DC) (vs:=nW t) b1 rfl fun d b2 a=>e d b2 (k1.own a (al _))
end Go.Proofs
namespace Go.Proofs
open Go Go.Lift
theorem O7{h:ad}{b n:Nat}{t:TypeId}{c d vs:List Value}(a:h[b]? =some (.cells (c++d).toArray t (0,0))) (g:c.length=n) (i:vs.length=d.length) {k:ad→Prop}
  (f:∀h',h'[b]? =some (.cells (c++vs).toArray t (0,0))→Upd (· =b) h h'→k h'):rK h (some (adr ⟨b,0,none⟩ n)) 0 vs∧At (gD h (adr ⟨b,0,none⟩ n) 0 vs) k:=by
 rw[bF,aB];have e:=ia vs h 0 n (c++d) a (by rw[ae];omega);refine⟨.inr ⟨_,rfl,fun j m=>by rw[bF];exact gS a (by rw[cH,ae];omega)⟩,bL ?_⟩
 rw[e];refine f _ ?_ (Upd.set h _ rfl);rw[jh a];congr 3
 subst g;rw[cN,List.take_left,eE (by rw[ae];omega),bJ]
abbrev edL(pb tb:Nat)(t:Tr):List Value:= [.pointer (some ⟨pb,0,none⟩),.pointer (some ⟨tb,0,none⟩)]++nW t
def EdAt(h:ad)(eb pb tb:Nat)(t:Tr):Prop:=h[eb]? =some (.cells (edL pb tb t).toArray zO (0,0))
theorem Nx{h:ad}{tb pb:Nat}{ti:Int}{a:Bool}(k:TokAt h tb pb ti a){K:Bool→ad→Prop}(b:K a h):HC PG d8 [.pointer (some ⟨tb,0,none⟩)] [.c .bool] K h:=by
 refine xF k.by_ ?_;cases a<;>exact b
theorem G8{h:ad}{eb pb tb:Nat}{t:Tr}{ti:Int}{a:Bool}(e:EdAt h eb pb tb t)(k:TokAt h tb pb ti a){K:Bool→ad→Prop}(b:K (!a) h):HC PG mh [.pointer (some ⟨eb,0,none⟩)] [.c .bool] K h:=by
 refine wX _ ?_;unfold qc iB;exact ax.2 ⟨_,rfl,_,vc e 1,Nx k b⟩
theorem uU{h:ad}{eb pb tb:Nat}{t:Tr}{ti:Int}{a:Bool}(e:EdAt h eb pb tb t)(k:TokAt h tb pb ti a){K:Int→ad→Prop}(b:K (if a then 0 else 5) h):HC PG iT [.pointer (some ⟨eb,0,none⟩)] [.c (.int .i64)] K h:=by
 refine zG _ ?_;unfold rY;refine aj.2 (G8 e k ?_);cases a
 ·exact ax.2 b
 ·exact aj.2 b
theorem EdAt.upd{M:Nat→Prop}{h a:ad}{eb pb tb:Nat}{t:Tr}(e:EdAt h eb pb tb t)(k:Upd M h a)(hm:¬M eb):EdAt a eb pb tb t:=k.get e hm
theorem TokAt.upd{M:Nat→Prop}{h b:ad}{tb pb:Nat}{ti:Int}{a:Bool}(e:TokAt h tb pb ti a)(k:Upd M h b)(hm:¬M tb):TokAt b tb pb ti a:=k.get e hm
theorem HV.mono{P:Program}{V:Value}{args:List Value}{ks:List Kind}{K a:sU ks→ad→Prop}{h:ad}{f:FuncId}{cap:Array Value}(e:V=.func (.func f) #[] cap)(hc:HC P f (args++cap.toList) ks K h)(b:∀t h',K t h'→a t h'):HV P V args ks a h:=by
 subst e;exact HV.mk' (by simpa using hc.mono b)
abbrev Qn:List Kind:= [.agg [.int .i64,.int .u64,.int .u64,.int .u64,.ptr,.ptr],.c (.int .i64)]
theorem Ah{h:ad}{eb pb tb:Nat}{tu:Tr}{f:FuncId}{cap:Array Value}(e:EdAt h eb pb tb tu){K:Int→ad→Prop}
  (hc:HC PG f ([.pointer (some ⟨tb,0,none⟩)]++cap.toList) Qn (fun(z:Tr×Int) n=>EdAt n eb pb tb tu∧∀i,Upd No n i→((z.2=0→∀h',EdAt h' eb pb tb z.1→Upd (· =eb) i h'→K 0 h')∧(z.2≠0→K z.2 i))) h):HC PG jo [.pointer (some ⟨eb,0,none⟩),.func (.func f) #[] cap] [.c (.int .i64)] K h:=by
 refine wW _ _ ?_;unfold p9 bo af iB aJ nv yI tH QJ Dy HW;refine⟨_,rfl,_,vc e 1,HV.mono rfl hc fun(z:Tr×Int) n hz=>?_⟩
 obtain⟨u,hz⟩:=hz;refine aQ fun i t s=>dT (c:=nW DC) (vs:=nW z.1) t rfl fun v b m=>?_
 have g:=s.own m (al _);obtain⟨k,o⟩:=hz v g;refine CondP.intro (fun a=>?_) fun a=>?_
 ·have a:z.2=0:=by simpa using a
  refine⟨_,vc b 0,_,vc b 1,_,vc b 2,_,vc b 3,_,vc b 4,_,vc b 5,_,rfl,?_⟩;refine O7 (c:= [.pointer (some ⟨pb,0,none⟩),.pointer (some ⟨tb,0,none⟩)]) (d:=nW tu) (vs:=nW z.1) (u.upd g id) rfl rfl fun p q j=>?_
  rw[a];exact k a p q j
 ·exact o (by simpa using a)
structure EdO(W S:Nat→Prop)(h:ad)(eb pb tb:Nat)(ti:Int)(kind:Int)(x:Hs)(tu:Tr)(lu:List Pr):Prop where
 ed:EdAt h eb pb tb tu
 tk:TokAt h tb pb ti true
 iu:TreeO (some ⟨tb,0,none⟩) (fun y=>W y∨S y) h kind x tu lu S
 lt:∀y,(W y∨S y)→y<h.size
 we:W eb
 wt:W tb
 ap:∀y,S y→¬W y
 up:cB lu
 fit:Fit lu
theorem EdO.can{W S:Nat→Prop}{h:ad}{eb pb tb:Nat}{ti:Int}{b:Int}{x:Hs}{tu:Tr}{lu:List Pr}(e:EdO W S h eb pb tb ti b x tu lu):Can (some ⟨tb,0,none⟩) (some ⟨tb,0,none⟩) (fun y=>W y∨S y) S h:=
 ⟨e.tk.by_,e.lt,fun y d=>.inr d,fun a h=>by cases h;exact .inl e.wt,fun a h c=>by cases h;exact e.ap _ c e.wt⟩
theorem EdO.fin{W S k:Nat→Prop}{h m n A u j:ad}{eb pb tb b:Nat}{ti:Int}{d:Int}{x:Hs}{tu g:Tr}{lu f:List Pr}(e:EdO W S h eb pb tb ti d x tu lu)(v:Upd No h m)(B:Upd S m n)(D:TreeO (some ⟨tb,0,none⟩) (fun y=>Pro (fun y=>W y∨S y) h m y∨k y) n d x g f k)(i:∀y,k y→(S y∨m.size≤y)∧y<n.size)
  (t:Upd (· =b) n A)(E:h.size≤b)(K:b<m.size)(q:Upd No A u)(J:EdAt j eb pb tb g)(s:Upd (· =eb) u j)(up:cB f)(fit:Fit f):EdO W k j eb pb tb ti d x g f∧Upd (fun y=>S y∨y=eb) h j∧∀y,k y→(S y∨h.size≤y)∧y<j.size:=by
 have N:=v.size;have P:=B.size;have L:=t.size;have O:=q.size;have M:=s.size;have p:∀y,S y→y<h.size:=fun y c=>e.lt y (.inr c)
 have G:=e.lt _ (.inl e.we);have H:=e.lt _ (.inl e.wt);have w:∀{z},W z→¬k z:=fun o h=>by
  rcases(i _ h).1 with h|h
  ·exact e.ap _ h o
  ·have:=e.lt _ (.inl o);omega
 have C:Upd (fun y=>S y∨y=eb) h j:=(((v.wide.tr (B.mono fun y c=>.inl (.inl c))).trans t fun y c=>.inr (by have c:y=b:=c;omega)).tr q.wide).trans s fun y c=>.inl (.inr c)
 have F:=D.loc t E K p i;have I:=(F.upd0 q).upd s (fun y c=>by have:=(i y c).2;omega) fun y c=>by
  have c:y=eb:=c;subst c;exact .inl ⟨.inl (.inl (.inl e.we)),w e.we⟩
 refine⟨⟨J,e.tk.upd C fun h=>?_,I.less fun y c=>.inl (c.imp (fun h=>.inl (.inl h)) id),fun y c=>c.elim (fun h=>?_) fun h=>?_,e.we,e.wt,fun y c o=>w o c,up,fit⟩,C,fun y c=>⟨(i y c).1.imp id fun h=>by omega,by have:=(i y c).2;omega⟩⟩
 ·rcases h with h|h
  ·exact e.ap _ h e.wt
  ·have a:=e.tk
   rw[h]at a;have a:=a.symm.trans e.ed;simp at a
 ·have:=e.lt y (.inl h);omega
 ·have:=(i y h).2;omega
set_option maxHeartbeats 1000000 in
theorem G7{W S:Nat→Prop}{h:ad}{eb pb tb:Nat}{ti:Int}{g:Int}{x:Hs}{tu:Tr}{lu:List Pr}(e:EdO W S h eb pb tb ti g x tu lu)(L:lu.length≤1000000)(p:Pr){K:Int→ad→Prop}
  (z:∀k b q,EdO W q k eb pb tb ti g x b (o6 lu p)→Upd (fun y=>S y∨y=eb) h k→(∀y,q y→(S y∨h.size≤y)∧y<k.size)→K (CU p) k)(f:Fit (o6 lu p)):HC PG gw [.pointer (some ⟨eb,0,none⟩),.agg #[.string p.1,.string p.2]] [.c (.int .i64)] K h:=by
 refine tx _ p ?_;unfold oX tG;refine aQ fun X b1 k1=>aQ fun h2 b2 w=>?_
 have T:=aD b1;have U:=aD b2;have Z:=k1.size;have V:=w.size;have c1:=w.get0 b1;have d:=k1.tr w;refine⟨_,vc c1 0,uU (e.ed.upd d id) (e.tk.upd d id) (aj.2 ⟨_,vc c1 0,?_⟩)⟩;refine Ah (e.ed.upd d id) (ym _ _ _ ?_);unfold qT xr bo af cz iB aJ fT CX rC yI tH bI;refine aQ fun h3 b3 B=>?_
 have H:=aD b3;have a:=d.tr B;have i:=e.ed.upd a id;have I:=B.get0 b2;have J:=B.get0 c1;refine⟨_,vc J 0,_,rfl,_,kJ i 2 0,_,kJ i 2 1,_,kJ i 2 2,_,kJ i 2 3,_,kJ i 2 4,_,kJ i 2 5,p.1,vc I 0,p.2,vc I 1,?_⟩;have o:∀y,S y→y<h.size:=fun y O=>e.lt y (.inr O)
 refine Lg (e.iu.pro a) (e.can.pro a) e.up L p fun Y b q n F u P=>?_
 have s4:=n.size;refine⟨vc (n.get J fun s=>by have:=o _ s;omega) 0,?_⟩
 refine dT (c:=nW DC) (vs:=nW b) (n.get b3 fun s=>by have:=o _ s;omega) rfl fun Q m j=>?_
 refine⟨_,vc m 0,_,vc m 1,_,vc m 2,_,vc m 3,_,vc m 4,_,vc m 5,?_⟩;have G:EdAt Q eb pb tb tu:=(i.upd n fun s=>e.ap _ s e.we).upd j (by have:=e.lt _ (.inl e.we);omega)
 have t:cB (o6 lu p):=by
  unfold o6;split
  ·exact yV p e.up
  ·exact e.up
 refine⟨G,fun M v=>⟨fun hz k R C=>?_,fun hz=>?_⟩⟩
 ·obtain⟨A,D,E⟩:=e.fin a n F u j (by omega) H v R C t f
  have hz:CU p=0:=hz;rw[hz]at z;exact z k b q A D E
 ·have hz:CU p≠0:=hz
  have N:=P hz;subst N;obtain⟨A,D,E⟩:=e.fin a n F u j (by omega) H v (G.upd v id) (Upd.refl _ _) t f;exact z M b q A D E
end Go.Proofs
namespace Go.Proofs
open Go Go.Lift
theorem Ib{W:Nat→Prop}{h:ad}{b:Nat}{sl:ByteArray}{w:Option ByteArray}{F:Fo}(r:RxN W h b sl w F){K:ByteArray×Bool→ad→Prop}(c:∀v,(∀u,w=some u→v=u)→K (v,w.isSome) h):HC PG mf [.pointer (some ⟨b,0,none⟩)] [.c .str,.c .bool] K h:=by
 refine wT _ ?_;unfold p6 bI gT;obtain⟨val,s,ow,ks,a,hv,_⟩:=r;exact aj.2 ⟨_,rfl,val,c5 (i:=2) a,_,rfl,w.isSome,c5 (i:=1) a,c val (vw hv)⟩
theorem Lr{W:Nat→Prop}{h:ad}{b:Nat}{sl:ByteArray}{w:Option ByteArray}{F:Fo}(r:RxN W h b sl w F)(m:F.toL.length≤256){K:SliceV→ad→Prop}(g:∀s' a ks,OwnS kK 1 aR (fun y=>h.size≤y) a s' ks→RxL W a ks F.toL→Upd No h a→K s' a):HC PG mV [.pointer (some ⟨b,0,none⟩)] [.c .slice] K h:=by
 refine yf _ ?_;unfold qM bG;obtain⟨val,s,ow,ks,j,hv,e,_,k⟩:=r;have c:=pn.1 k;refine aj.2 ⟨_,rfl,s,c5 (i:=3) j,?_⟩;refine En e (by rw[c.1];omega) fun s' a f d=>g s' a ks f (c.upd0 d) d
theorem LH(lab:List UInt8)(w:Option ByteArray)(b a:Fo):wq (.cons lab w b a)=((w.map fun v=>(([]:List UInt8),v)).toList++wq b).map (fun p=>(lab++p.1,p.2))++wq a:=rfl
end Go.Proofs
namespace Go.Proofs
open Go Go.Lift
end Go.Proofs
namespace Go.Proofs
open Go Go.Lift
end Go.Proofs
namespace Go.Proofs
open Go Go.Lift
end Go.Proofs
namespace Go.Proofs
theorem Nw:∀{n x:Nat},x<2^n→0<x→∃c,c<n∧x.testBit c=true∧∀j,j<c→x.testBit j=false
 |0,x,h,h'=>by simp at h;omega
 |n+1,x,h,h'=>by
  by_cases e:x%2=1
  ·exact⟨0,by omega,by rw[iV];simpa using e,fun j a=>absurd a (Nat.not_lt_zero _)⟩
  ·obtain⟨c,f,d,b⟩:=Nw (n:=n) (x:=x/2) (by rw[Nat.pow_succ]at h;omega) (by omega)
   refine⟨c+1,by omega,by rw[ga];exact d,fun j a=>?_⟩
   cases j with
   |zero=>rw[iV];simpa using e
   |succ j=>rw[ga];exact b j (by omega)
theorem BK:∀{c x:Nat},x.testBit c=true→(∀j,j<c→x.testBit j=false)→∀i,(x-1).testBit i=if i<c then true else if i=c then false else x.testBit i
 |0,x,h,_,i=>by
  have h:x%2=1:=by rw[iV]at h;simpa using h
  cases i with
  |zero=>rw[iV,if_neg (by omega),if_pos rfl];simp;omega
  |succ i=>rw[ga,ga,if_neg (by omega),if_neg (by omega)];congr 1;omega
 |c+1,x,h,hl,i=>by
  have a:=hl 0 (by omega);rw[iV]at a;have f:¬x%2=1:=by simpa using a
  have a:x%2=0:=by omega
  rw[ga]at h;have b:0<x/2:=by
   rcases Nat.eq_zero_or_pos (x/2)with e|e
   ·rw[e,fo]at h;cases h
   ·exact e
  cases i with
  |zero=>rw[iV,if_pos (by omega)];simp;omega
  |succ i=>
   have:=BK (x:=x/2) h (fun j d=>by have:=hl (j+1) (by omega);rwa [ga]at this) i
   rw[ga,ga,show(x-1)/2=x/2-1 by omega,this]
   simp only[Nat.add_lt_add_iff_right,Nat.add_right_cancel_iff]
theorem Pu{c x:Nat}(h:x.testBit c=true)(b:∀j,j<c→x.testBit j=false)(hc:c<32)(hx:x<4294967296):x&&&(4294967296-x)=2^c:=by
 have f:0<x:=by
  rcases Nat.eq_zero_or_pos x with e|e
  ·rw[e,fo]at h;cases h
  ·exact e
 refine gg fun i=>?_
 have e:4294967296-x=2^32-((x-1)+1):=by omega
 rw[gy,e,Nat.testBit_two_pow_sub_succ (by omega),BK h b,Nat.testBit_two_pow];by_cases a:i<c
 ·rw[if_pos a,b i a];simp;omega
 ·rw[if_neg a]
  by_cases d:i=c
  ·subst d;simp[h,hc]
  ·rw[if_neg d]
   cases x.testBit i<;>simp<;>omega
theorem L7{c x:Nat}(h:x.testBit c=true)(b:∀j,j<c→x.testBit j=false)(i:Nat):(x&&&(x-1)).testBit i=(x.testBit i&&decide (c<i)):=by
 rw[gy,BK h b];by_cases a:i<c
 ·rw[if_pos a,b i a];rfl
 ·rw[if_neg a]
  by_cases d:i=c
  ·subst d;simp
  ·rw[if_neg d]
   have:c<i:=by omega
   simp[this]
end Go.Proofs
namespace Go.Proofs
open Go Go.Lift
def wl(x:Hs):Nat→List Pr→List Pr
 |0,l=>l
 |m+1,l=>fi x (12-m) l++(iC x (12-m) l).flatMap (wl x m)
def cw(x:Hs):Nat→List Pr→Nat
 |0,_=>2
 |m+1,l=>2+((iC x (12-m) l).map (cw x m)).sum
structure Fr where
 sp:SliceV
 sk:SliceV
 n:Nat
 ps:List Pr
 ks:List (Nat×List Pr)
def Fr.raw(f:Fr):SliceV×SliceV:=(f.sp,f.sk)
def Fr.rem(x:Hs)(f:Fr):List Pr:=f.ps++f.ks.flatMap fun k=>wl x (f.n-1) k.2
theorem setCell{α:Type}{f:α→List Value}{c:Nat}{t:TypeId}{M:Nat→Prop}{h:ad}{s:SliceV}{P Q:List α}{x y:α}{j:Nat}{v:Value}(n:OwnS f c t M h s (P++x::Q))(I:j<c)(E:f y=(f x).set j v){a:Addr}(A:s.a=some a){i:Nat}(hi:i=P.length){G:ad→Prop}(D:∀k,OwnS f c t M k s (P++y::Q)→Upd M h k→G k):
  Wr h (adr (adr a (i*c)) j)∧At (hset h (adr (adr a (i*c)) j) v) G:=by
 subst hi;have u:=n.ne;have d:=n.len;have m:=n.cap;rcases n.blk with H|⟨b,e,g,w,hc,C⟩
 ·rw[ae,aL]at d;omega
 rw[A]at g;cases g;have J:(P.flatMap f).length=P.length*c:=jp u P;rw[bj,aU]at hc;have F:=(u x).1;have B:adr (adr ⟨b,0,none⟩ (P.length*c)) j=⟨b,P.length*c+j,none⟩:=by rw[bF,bF,aB]
 rw[B];have o:P.length*c+j<(P.flatMap f++(f x++Q.flatMap f)++e).toArray.size:=by
  simp only[cH,ae];omega
 refine⟨gS hc o,sP hc fun k p q=>D k ⟨by rw[d];simp,u,m,.inr ⟨b,e,A,w,?_,C⟩⟩ (q.mono fun z hz=>.inl (by have hz:z=b:=hz;rw[hz];exact w))⟩
 rw[p];congr 3
 rw[bj,aU,E];apply Array.toList_inj.1;rw[Array.toList_setIfInBounds];simp only[ao];rw[List.set_append_right _ _ (by omega),show P.length*c+j-(P.flatMap f).length=j by omega,List.set_append_left _ _ (by omega)]
end Go.Proofs
namespace Go.Proofs
open Go Go.Lift
end Go.Proofs
namespace Go.Proofs
open Go Go.Lift
def Below(W:Nat→Prop)(x:Hs)(h:ad)(m:Nat)(r:Option Addr)(l:List Pr):Prop:=(r=none∧l= [])∨∃b,r=some ⟨b,0,none⟩∧TrieAt W x h m b l
theorem Below.upd0{W:Nat→Prop}{x:Hs}{h a:ad}{m:Nat}{r:Option Addr}{l:List Pr}(k:Upd No h a)(t:Below W x h m r l):Below W x a m r l:=t.imp id fun⟨b,e,t⟩=>⟨b,e,TrieAt.upd0 k t⟩
theorem Below.less{W W':Nat→Prop}{x:Hs}{h:ad}{m:Nat}{r:Option Addr}{l:List Pr}(hm:∀b,W' b→W b∨h.size≤b)(t:Below W x h m r l):Below W' x h m r l:=t.imp id fun⟨b,e,t⟩=>⟨b,e,TrieAt.less hm t⟩
theorem Below.updM{W M:Nat→Prop}{x:Hs}{h a:ad}{m:Nat}{r:Option Addr}{l:List Pr}(k:Upd M h a)(hm:∀b,M b→W b∨h.size≤b)(t:Below W x h m r l):Below W x a m r l:=t.imp id fun⟨b,e,t⟩=>⟨b,e,TrieAt.updM k hm t⟩
end Go.Proofs
namespace Go.Proofs
open Go Go.Lift
abbrev tzL:List Nat:= [0,1,28,2,29,14,24,3,30,22,20,15,25,17,4,8,31,27,13,23,21,19,16,7,26,12,18,6,11,5,10,9]
def Tab(h:ad):Prop:=∀i,i<32→aK h ⟨0,i,none⟩=some (.int .u8 ((tzL.getD i 0:Nat):Int))
theorem Tab.upd{M:Nat→Prop}{h a:ad}(t:Tab h)(k:Upd M h a)(hm:¬M 0):Tab a:=fun i hi=>k.cell (t i hi) hm
theorem Qm:∀c:Fin 32,Int.fdiv (IntKind.wrap .u32 (IntKind.wrap .u32 ((2^c.val:Nat):Int)*125613361)) (2^(min (27:Int).toNat (IntKind.bits .u32)))=((2^c.val*125613361%4294967296/134217728:Nat):Int)∧2^c.val*125613361%4294967296/134217728<32∧tzL.getD (2^c.val*125613361%4294967296/134217728) 0=c.val:=by decide+kernel
theorem Oo{a b:Nat}(c:a<4294967296)(d:b<4294967296):(ah (IntKind.bits .u32) (a:Int)&&&ah (IntKind.bits .u32) (b:Int)).toNat=a&&&b:=by
 rw[show IntKind.bits .u32=32 from rfl,eh,eh,BitVec.toNat_and,mr,mr,cF (show a<2^32 from c),cF (show b<2^32 from d)]
theorem RD{h:ad}(tb:Tab h){x c:Nat}(hx:x<4294967296)(hc:c<32)(a:x.testBit c=true)(i:∀j,j<c→x.testBit j=false){K:Int→ad→Prop}(g:K (c:Int) h):HC PG gI [.int .u32 (x:Int)] [.c (.int .i64)] K h:=by
 refine pz x ?_;unfold j1 cT dz;have k:0<x:=by
  rcases Nat.eq_zero_or_pos x with e|e
  ·rw[e,fo]at a;cases a
  ·exact e
 refine CondP.intro (fun e=>?_) fun _=>?_
 ·have e:(x:Int)=0:=by simpa using e
  omega
 have ew:IntKind.wrap .u32 (0-(x:Int))=((4294967296-x:Nat):Int):=by rw[IntKind.wrap_u32];omega
 rw[ew,Oo hx (by omega),Pu a i hc hx];obtain⟨f,b,d⟩:=Qm ⟨c,hc⟩;simp only at f b d;simp only[Bd];rw[f];refine⟨by decide,⟨by omega,by omega⟩,((tzL.getD (2^c*125613361%4294967296/134217728) 0:Nat):Int),?_,?_⟩
 ·rw[Nat.mul_one,bF,aB,Int.toNat_natCast];exact tb _ b
 ·rw[d,nq (by omega)];exact g
def dk(d k:Nat):Nat:=(d>>>k)<<<k
theorem zk(d k i:Nat):(dk d k).testBit i=(decide (k≤i)&&d.testBit i):=by
 unfold dk;rw[Nat.testBit_shiftLeft];by_cases h:k≤i
 ·rw[decide_eq_true (show i≥k from h),Nat.testBit_shiftRight];congr 2;omega
 ·rw[decide_eq_false (show ¬i≥k from h)];rfl
theorem P8(d k:Nat):dk d k≤d:=by
 unfold dk;rw[Nat.shiftLeft_eq,Nat.shiftRight_eq_div_pow];exact Nat.div_mul_le_self ..
theorem PK(d:Nat):dk d 0=d:=gg fun i=>by rw[zk];simp
theorem DR{d:Nat}(hd:d<4294967296){s:Nat}{h:ad}(w:h[s]? =some (.cells #[.int .u32 (d:Int)] r9 (0,0)))
  {BODY:Int→(Option Ex→ad→Prop)→ad→Prop} {N:ad→Prop} {X:Nat→ad→Prop} {R:ad→Prop} (Inv:Nat→ad→Prop) (M:Nat→Prop)
  (Q:∀k a,Inv k a→Tab a) (h0:Inv 0 h) (f:∀k a q,Inv k a→h.size≤a.size→Upd (fun b=>b=s∨h.size≤b) a q→Inv k q)
  (hM:∀b,M b→b≠s∧b<h.size)
  (step:∀k c a (KK:Option Ex→ad→Prop),Inv k a→k≤c→c<32→d.testBit c=true→(∀j,k≤j→j<c→d.testBit j=false)→(∀q,Inv (c+1) q→Upd M a q→KK none q)→BODY (c:Int) KK a)
  (fin:∀k a,Inv k a→(∀j,k≤j→j<32→d.testBit j=false)→a[h.size]? =some (.deferred (some []))→N a):
  RangeP PG (.func (.func gX) #[] #[.pointer (some ⟨s,0,none⟩)]) [.c (.int .i64)] h
   (fun DQ bz (x:Int) k K=>(K[(bU h+1)]? =some DQ∧At (Array.setIfInBounds K (bU h+1) bz) (fun L=>BODY x k L))) N X R:=by
 refine⟨fun lo hlo u=>?_⟩
 refine⟨gX,#[],#[.pointer (some ⟨s,0,none⟩)],rfl,?_⟩;have zb:=aD w;have k1:Upd No h ((h.push (.deferred (some []))).push (lo .ready none)):=(Upd.push No _ _).tr (Upd.push No _ _);have P:((h.push (.deferred (some []))).push (lo .ready none))[h.size+1]? =some (lo .ready none):=by
  have:=BJ (h.push (.deferred (some []))) (lo .ready none);rwa [Array.size_push]at this
 have l1:((h.push (.deferred (some []))).push (lo .ready none))[h.size]? =some (.deferred (some [])):=(Upd.push No _ _).get0 (BJ h _);have b1:=k1.get0 w;have i1:=f 0 _ _ h0 (al _) k1.wide;have z1:=aD P;generalize (h.push (.deferred (some []))).push (lo .ready none)=a at k1 P l1 b1 i1 z1;refine vo (.func (.yield (h.size+1)) #[] #[]) ⟨s,0,none⟩ ?_;unfold mo
 refine LoopP.ghost (fun(k:Nat) (_:Unit) m=>Inv k m∧m[s]? =some (.cells #[.int .u32 ((dk d k:Nat):Int)] r9 (0,0))∧m[h.size]? =some (.deferred (some []))∧m[h.size+1]? =some (lo .ready none)∧k≤32) (fun k=>33-k) 0 ⟨i1,by rw[PK];exact b1,l1,P,aV _⟩ ?_
 rintro I k ⟨⟩ m ⟨hi,z,H,g,Z⟩ hI;have zz:=aD g;have C:=Nat.lt_of_le_of_lt (P8 d k) hd;refine⟨_,aY z,CondP.intro (fun e=>?_) fun e=>?_⟩
 ·have U:0<dk d k:=by
   have:((dk d k:Nat):Int)≠0:=by simpa using e
   omega
  obtain⟨c,hc,B,A⟩:=Nw (n:=32) C U;have D:=B;rw[zk,bq,decide_eq_true_iff]at D;refine⟨_,aY z,RD (Q k _ hi) C hc B A ?_⟩;refine u (c:Int) m _ g ⟨g,?_⟩;have G:Upd (· =h.size+1) m (m.setIfInBounds (h.size+1) (lo .busy none)):=Upd.set _ _ rfl
  have lb:=jh (o:=lo .busy none) g;have sb:=G.size;refine bL ?_;generalize m.setIfInBounds (h.size+1) (lo .busy none)=q at G lb sb;refine step k c q _ (f k _ _ hi (by omega) (G.mono fun b w=>.inl (.inr (by omega)))) D.1 hc D.2 (fun j a q=>?_) fun Y T t=>?_
  ·have:=A j q
   rw[zk,decide_eq_true a]at this;simpa using this
  have F:=t.get lb fun e=>by have:=(hM _ e).2;omega
  have W:=t.get (G.get z (show ¬s=h.size+1 by omega)) fun e=>(hM _ e).1 rfl
  have V:=t.get (G.get H (show ¬h.size=h.size+1 by omega)) fun e=>by have:=(hM _ e).2;omega
  refine⟨F,?_⟩;have v:Upd (· =h.size+1) Y (Y.setIfInBounds (h.size+1) (lo .ready none)):=Upd.set _ _ rfl
  have l5:=jh (o:=lo .ready none) F;have p:=v.get W (show ¬s=h.size+1 by omega)
  have J:=v.get V (show ¬h.size=h.size+1 by omega)
  have s3:=t.size;have i5:=f (c+1) _ _ T (by omega) (v.mono fun b w=>.inl (.inr (by omega)))
  simp only[Option.isNone_none,if_true];refine aj.2 ?_;generalize Y.setIfInBounds (h.size+1) (lo .ready none)=h5 at v l5 p J i5;refine⟨_,aY p,_,aY p,?_⟩;have ew:IntKind.wrap .u32 (((dk d k:Nat):Int)-1)=((dk d k-1:Nat):Int):=by rw[IntKind.wrap_u32];omega
  have ea:dk d k&&&(dk d k-1)=dk d (c+1):=by
   refine gg fun i=>?_
   rw[L7 B A,zk,zk];by_cases E:c<i
   ·rw[decide_eq_true E,decide_eq_true (show k≤i by omega),decide_eq_true (show c+1≤i by omega)];simp
   ·rw[decide_eq_false E,decide_eq_false (show ¬c+1≤i by omega)];simp
  simp only[Bd];rw[ew,Oo C (by omega),ea];have O:IntKind.wrap .u32 ((dk d (c+1):Nat):Int)=((dk d (c+1):Nat):Int):=by have:=P8 d (c+1);rw[IntKind.wrap_u32];omega
  rw[O];refine⟨gS p (by simp),sP p fun h6 S y=>?_⟩
  have s5:=v.size;refine hI (c+1) () h6 ⟨f _ _ _ i5 (by omega) (y.mono fun b w=>.inl (.inl w)),S,y.oth J (by omega),y.oth l5 (by omega),hc⟩ (by omega)
 ·have hz:dk d k=0:=by
   have:((dk d k:Nat):Int)=0:=by simpa using e
   omega
  have v:Upd (· =h.size+1) m (m.setIfInBounds (h.size+1) (lo .exhausted none)):=Upd.set _ _ rfl
  refine⟨.ready,none,by decide,g,?_⟩
  refine fin k _ (f k _ _ hi (by omega) (v.mono fun b w=>.inl (.inr (by omega)))) (fun j a _=>?_) (v.get H (show ¬h.size=h.size+1 by omega))
  have:=zk d k j;rw[hz,fo,decide_eq_true a]at this;simpa using this.symm
end Go.Proofs
namespace Go.Proofs
open Go Go.Lift
abbrev P2(n:Nat):List Value:= [.int .i64 (n:Int)]
theorem QG(n:Nat):(P2 n).length=1∧0<1:=⟨rfl,by omega⟩
theorem yJ{h:ad}{b:Nat}{c:Array Value}{t:TypeId}(a:h[b]? =some (.cells c t (0,0))):aK h ⟨b,0,none⟩=c[0]?:=aY a
theorem Bi{h:ad}{b:Nat}{c c':Array Value}{t:TypeId}{v:Value}{k:ad→Prop}(f:h[b]? =some (.cells c t (0,0))) (hi:0<c.size) (e:c.setIfInBounds 0 v=c') (g:∀a,a[b]? =some (.cells c' t (0,0))→Upd (· =b) h a→k a):Wr h ⟨b,0,none⟩∧At (hset h ⟨b,0,none⟩ v) k:=
 ⟨gS f hi,sP f fun a d i=>g a (e▸d) i⟩
theorem jj{h:ad}{b:Nat}{cs:List Value}{t:TypeId}(a:h[b]? =some (.cells cs.toArray t (0,0))):SRow h (some ⟨b,0,none⟩) cs.length cs:=
 ⟨rfl,.inr ⟨_,rfl,mH a fun i v hv=>by rw[aB,List.getElem?_toArray];exact hv⟩⟩
theorem BU{W:Nat→Prop}{x:Hs}{k:ByteArray}{h:ad}{s:SliceV}{way:List Nat}(e:Sl P2 1 W h s way)(o:way.length≤13)(m:∀i c,way[i]? =some c→ck x i k=c) {K:Bool→ad→Prop} (g:K true h):HC PG lM [.int .u64 (ko x k),.slice s.a s.len s.cap] [.c .bool] K h:=by
 refine Dd (ko x k) s ?_;unfold vL cT dz lr;have d:=e.len;refine LoopP.ghost (fun(i:Nat) (t:Int) f=>t=(i:Int)∧i≤way.length∧f=h) (fun i=>way.length-i) 0 ⟨rfl,aV _,rfl⟩ ?_
 rintro I i t f ⟨rfl,hi,rfl⟩ n;refine aH (fun b=>?_) fun _=>g
 have b:i<way.length:=by omega
 obtain⟨a,j,_,hv⟩:=e.at0 (ag b);refine⟨⟨by omega,by omega⟩,a,j,_,hv,Ob (x:=x) (k:=k) (lev:=i) (by omega) ?_⟩
 rw[m i _ (ag b),bne_self_eq_false];refine aj.2 ?_;rw[ci b (by omega)];exact n (i+1) _ _ ⟨rfl,b,rfl⟩ (by omega)
theorem LO{W:Nat→Prop}{h:ad}{s:SliceV}{l:List Pr}(c:Sl gC 2 W h s l)(p:cB l)(q:l.length≤1000000){K:Bool→ad→Prop}(k:K true h):HC PG sN [.slice s.a s.len s.cap] [.c .bool] K h:=by
 refine FS s ?_;unfold yz cT dz bI;have f:=c.len;refine LoopP.ghost (fun(i:Nat) (t:Int) g=>t=((i+1:Nat):Int)∧g=h) (fun i=>l.length-i) 0 ⟨rfl,rfl⟩ ?_
 rintro I i t g ⟨rfl,rfl⟩ o;refine aH (fun b=>?_) fun _=>k
 have b:i+1<l.length:=by omega
 have j:IntKind.wrap .i64 (((i+1:Nat):Int)-1)=(i:Int):=by rw[nq (by omega)];omega
 rw[j];obtain⟨a,m,_,hv⟩:=c.at (ag (show i<l.length by omega))
 obtain⟨a',e,_,d⟩:=c.at (ag b);refine⟨⟨by omega,by omega⟩,a,m,_,hv 0 _ rfl,⟨by omega,by omega⟩,a',e,_,d 0 _ rfl,?_⟩
 have:=cy.1 p i (i+1) (by omega) b (by omega);have n:Op.bytesLess l[i].1.toList l[i+1].1.toList=true:=this;rw[n];refine aj.2 ?_;rw[ci b (by omega)];exact o (i+1) _ _ ⟨rfl,rfl⟩ (by omega)
theorem Lj(x:Hs)(lev:Nat)(l:List Pr):(fi x lev l).length+(iC x lev l).flatten.length=l.length:=by
 have h:=pD x lev l 32;have d:(l.filter fun p=>decide (ck x lev p.1<32))=l:=List.filter_eq_self.2 fun p _=>decide_eq_true (xT ..)
 rw[d]at h;have:∀n,(fm (fun c=>fX (part x lev c l)) n).length+(fm (fun c=>dN (part x lev c l)) n).flatten.length=((List.range n).map fun c=>(part x lev c l).length).sum:=by
  intro n;induction n with
  |zero=>simp[fm]
  |succ n ih=>
   rw[fz,fz,List.range_succ,dL,ii];simp only[ae,du,fx,List.map_nil,oh,List.sum_nil,cN];generalize part x lev n l=q;have:(fX q).toList.length+(dN q).toList.flatten.length=q.length:=by
    match q with
    | []=>simp[fX,dN]
    | [a]=>simp[fX,dN]
    |a::b::q=>simp[fX,dN]
   omega
 have:=this 32;unfold fi iC;omega
theorem Fj{β:Type}{g:Nat→Option β}{k:Nat}:∀{c:Nat},k≤c→(∀j,k≤j→j<c→g j=none)→fm g c=fm g k
 |0,h,_=>by rw[show k=0 by omega]
 |c+1,h,hn=>by
  rcases bD k (c+1)with a|a
  ·rw[fz,hn c (by omega) (by omega),Fj (by omega) fun j b d=>hn j b (by omega)];simp
  ·rw[show k=c+1 by omega]
end Go.Proofs
namespace Go.Proofs
open Go Go.Lift
theorem Ll{W:Nat→Prop}{x:Hs}{h:ad}{m:Nat}{s:Slots}{c:Nat}{l:List Pr}(t:SlotIs W x h m s c l)(b:(s.p c).isSome):∃p,l= [p]∧s.p c=some p:=by
 rcases t with⟨_,a,_⟩|⟨p,d,a,_⟩|⟨_,a,_⟩
 ·rw[a]at b;cases b
 ·exact⟨p,d,a⟩
 ·rw[a]at b;cases b
theorem Lm{W:Nat→Prop}{x:Hs}{h:ad}{m:Nat}{s:Slots}{c:Nat}{l:List Pr}(t:SlotIs W x h m s c l)(d:(s.k c).isSome):2≤l.length∧∃b,s.k c=some (some ⟨b,0,none⟩)∧TrieAt W x h m b l:=by
 rcases t with⟨_,_,a⟩|⟨p,_,_,a⟩|⟨e,_,b,a,f⟩
 ·rw[a]at d;cases d
 ·rw[a]at d;cases d
 ·exact⟨e,b,a,f⟩
theorem ED{W:Nat→Prop}{h:ad}{s:SliceV}{way:List Nat}{c:Nat}{xs:List Value}(d:Sl P2 1 W h s way)(hc:s.cap=s.len)(g:way.length≤13)(hx:xs= [.int .i64 (c:Int)]){K:SliceV→ad→Prop}
  (e:∀s' a,Sl P2 1 No a s' (way++ [c])→s'.len≤s'.cap→Upd No h a→K s' a):AppP (some [.int .i64 0]) 1 8 oo s.a s.len s.cap 1 xs h K:=by
 subst hx;refine Hj (ys:= [c]) d rfl rfl rfl (by omega) (by omega) (by simp;omega) fun s' a b f=>e s' a (b.sl fun _ _ _ h=>h) b.cap f
def OnWay(x:Hs)(way:List Nat)(l:List Pr):Prop:=∀p∈l,∀i c,way[i]? =some c→ck x i p.1=c
theorem OnWay.part{x:Hs}{way:List Nat}{l:List Pr}{c:Nat}(o:OnWay x way l):OnWay x (way++ [c]) (part x way.length c l):=fun p a i d hd=>by
 have a:=lK.1 a;rcases bD i way.length with h|h
 ·rw[List.getElem?_append_left h]at hd;exact o p a.1 i d hd
 ·rw[List.getElem?_append_right h]at hd
  have:i-way.length=0:=by have:=(List.getElem?_eq_some_iff.1 hd).1;simp at this;omega
  rw[this]at hd;simp only[List.getElem?_cons_zero,Option.some.injEq]at hd;subst hd;rw[show i=way.length by omega];exact a.2
theorem Oc{W:Nat→Prop}{x:Hs}:∀(m:Nat),m≤13→∀{h:ad} {b:Nat} {l:List Pr} {sw:SliceV} {way:List Nat},TrieAt W x h m b l→Tab h→Sl P2 1 No h sw way→sw.len≤sw.cap→way.length=13-m→OnWay x way l→cB l→l.length≤60000→∀{K:Int×Bool→ad→Prop},(∀T,Upd No h T→K ((l.length:Int),true) T)→
  HC PG lN [.agg #[.int .u64 x.k0,.int .u64 x.k1,.int .u64 x.mask],.pointer (some ⟨b,0,none⟩),.slice sw.a sw.len sw.cap] [.c (.int .i64),.c .bool] K h:=by
 intro m;induction m with
 |zero=>
  intro _ h b l sw way t tb hs hcp hw X hr hn K hk;refine vH (x.k0,x.k1,x.mask) (some ⟨b,0,none⟩) sw ?_;unfold rz dz af az nv y2 uI mC jO AB tG bI jP Lb;refine aQ fun h1 b1 k1=>aQ fun h2 b2 k2=>aQ fun h3 b3 V=>aQ fun h4 b4 O=>aQ fun h5 b5 N=>?_
  have J:Upd No h h5:=(((k1.tr k2).tr V).tr O).tr N;have c1:=N.get0 (O.get0 (V.get0 (k2.get0 b1)));have c2:=N.get0 (O.get0 (V.get0 b2));have c3:=N.get0 (O.get0 b3);have c4:=N.get0 b4;have s1:=k1.size;have s2:=k2.size;have s3:=V.size;have s4:=O.size;have z3:=aD b3;have z4:=aD b4;have z5:=aD b5;obtain⟨sp,sk,ow,hb,hsp,_⟩:=(BuckAt.upd t J fun _ h=>h.elim:BuckAt W h5 b l).ex
  refine⟨_,yJ c2,ou hb hsp (by omega) fun s8 C ho8 A=>?_⟩
  refine⟨_,yJ (A.get0 c2),gL (A.get0 hb) (ax.2 ?_)⟩;have d1:=A.get0 c1;have d3:=A.get0 c3;have d4:=A.get0 c4;have d5:=A.get0 b5;have s8':=A.size;have hs8:Sl gC 2 No C s8 l:=ho8.sl fun _ _ _ h=>h
  have hlen:=hs8.len;have hwl:=hs.len;have hs':Sl P2 1 No C sw way:=(hs.upd J fun _ h=>h.elim).upd A fun _ h=>h.elim
  refine Join.plain ⟨sw,yJ d3,?_⟩;rw[show((sw.len:Int) !=(13:Int))=false by rw[bne_eq_false_iff_eq];omega]
  refine aj.2 (LO hs8 hr (by omega) (aj.2 ?_));refine LoopP.ghost (fun(i:Nat) (t:Int) T=>t=(i:Int)∧i≤l.length∧Upd No C T) (fun i=>l.length-i) 0 ⟨rfl,aV _,Upd.refl _ _⟩ ?_
  rintro I i t T ⟨rfl,hi,U⟩ hI;refine aH (fun Q=>?_) fun hge=>?_
  ·have Q:i<l.length:=by omega
   obtain⟨a,ha,_,hv⟩:=(hs8.upd U fun _ h=>h.elim).at (ag Q)
   refine⟨⟨by omega,by omega⟩,a,ha,_,hv 0 _ rfl,_,hv 1 _ rfl,vC (p:=l[i]) fun h9 b9 k9=>?_⟩
   have z:=U.tr k9;refine⟨_,vc (z.get0 d1) 0,_,vc (z.get0 d1) 1,_,vc (z.get0 d1) 2,_,vc b9 0,sw,yJ (z.get0 d3),sB fun h10 k10=>⟨yJ (k10.get0 (z.get0 d3)),?_⟩⟩
   refine BU ((hs'.upd z fun _ h=>h.elim).upd k10 fun _ h=>h.elim) (by omega) (fun j c hj=>X _ (aP Q) j c hj) (aj.2 ?_)
   rw[ci Q (by omega)];exact hI (i+1) _ _ ⟨rfl,Q,z.tr k10⟩ (by omega)
  ·have hil:i=l.length:=by omega
   subst hil;refine Bi (U.get0 d4) (by simp) rfl fun h9 b9 z=>Bi (z.oth (U.get0 d5) (by omega)) (by simp) rfl fun h10 b10 v=>?_
   refine⟨_,yJ (v.oth b9 (by omega)),_,yJ b10,?_⟩;have e:((s8.len:Nat):Int)=(l.length:Int):=by omega
   rw[e];exact hk _ ((((J.tr A).tr U).own z (by omega)).own v (by omega))
 |succ m ih=>
  intro hm h b l sw way t tb hs hcp hw X hr hn K hk;refine vH (x.k0,x.k1,x.mask) (some ⟨b,0,none⟩) sw ?_;unfold rz dz af az nv y2 uI mC jO AB tG bI jP Lb;obtain⟨sl,nd,hs0⟩:=t;have L:∀c,c<32→SlotIs W x h m sl c (part x (12-m) c l):=hs0;refine aQ fun h1 b1 k1=>aQ fun h2 b2 k2=>aQ fun h3 b3 V=>aQ fun h4 b4 O=>aQ fun h5 b5 N=>?_
  have J:Upd No h h5:=(((k1.tr k2).tr V).tr O).tr N;have c1:=N.get0 (O.get0 (V.get0 (k2.get0 b1)));have c2:=N.get0 (O.get0 (V.get0 b2));have c3:=N.get0 (O.get0 b3);have c4:=N.get0 b4;have s1:=k1.size;have s2:=k2.size;have s3:=V.size;have s4:=O.size;have z1:=aD b1;have z2:=aD b2;have z3:=aD b3;have z4:=aD b4;have z5:=aD b5;obtain⟨d,n,sp,sk,ow,hb,bits,hsp,hsk,_⟩:=(nd.upd J fun _ h=>h.elim).ex
  have hfp:(fm sl.p 32).length≤32:=uc;refine⟨_,yJ c2,ou hb hsp (by omega) fun s8 C ho8 A=>?_⟩
  refine⟨_,yJ (A.get0 c2),gL (A.get0 hb) (aj.2 ⟨sw,yJ (A.get0 c3),?_⟩)⟩;have k08:=J.tr A;have hl8:=ho8.len;rw[AQ L]at hl8;have hwl:=hs.len;rw[decide_eq_false (by omega)];refine aj.2 (aQ fun h9 b9 k9=>?_)
  have z:=A.tr k9;have s8':=A.size;have z9:=aD b9;refine Bi b9 (by simp) rfl fun h10 b10 v=>?_
  have d1:=v.oth (z.get0 c1) (by omega);have d2:=v.oth (z.get0 c2) (by omega);have d3:=v.oth (z.get0 c3) (by omega);have d4:=v.oth (z.get0 c4) (by omega);have d5:=v.oth (z.get0 b5) (by omega);refine⟨sw,yJ d3,sw,yJ d3,sw,yJ d3,⟨by omega,by omega⟩,⟨by omega,by omega⟩,?_⟩
  refine Bi d3 (by simp) rfl fun H b11 E=>?_
  have g:Upd No h H:=((k08.tr k9).own v (by omega)).own E (by omega);have D:=E.oth d1 (by omega);have e2:=E.oth d2 (by omega);have e4:=E.oth d4 (by omega);have e5:=E.oth d5 (by omega);have e9:=E.oth b10 (by omega);have s11:=g.size;have s10a:=v.size;have s11a:=E.size;have F:Sl P2 1 (fun y=>h.size≤y) H ⟨aW sw.a 0 ((sw.len:Int).toNat) 1,((sw.len:Int).toNat)-0,((sw.len:Int).toNat)-0⟩ way:=by
   have:=Sl.sub ((hs.less (W':=fun y=>h.size≤y) fun _ h=>.inr h).upd g fun _ h=>h.elim) (l:=0) (hi:=sw.len) (m:=sw.len) (c:=sw.len-0) (aV _) (by omega) (al _)
   rw[List.drop_zero,List.take_of_length_le (by omega)]at this;exact this
  have Y:(⟨aW sw.a 0 ((sw.len:Int).toNat) 1,((sw.len:Int).toNat)-0,((sw.len:Int).toNat)-0⟩:SliceV).cap=(⟨aW sw.a 0 ((sw.len:Int).toNat) 1,((sw.len:Int).toNat)-0,((sw.len:Int).toNat)-0⟩:SliceV).len:=rfl;have q:H[h2.size]? =some (.cells #[sv ⟨aW sw.a 0 ((sw.len:Int).toNat) 1,((sw.len:Int).toNat)-0,((sw.len:Int).toNat)-0⟩] Km (0,0)):=b11;clear b11;generalize (⟨aW sw.a 0 ((sw.len:Int).toNat) 1,((sw.len:Int).toNat)-0,((sw.len:Int).toNat)-0⟩:SliceV)=s0 at F Y q
  obtain⟨d',n',sp',sk',ow',hb',M,_⟩:=(nd.upd g fun _ h=>h.elim).ex
  have tb11:=tb.upd g id;refine⟨_,yJ e2,Ft hb' (rM d' (aQ fun h12 b12 k12=>?_))⟩
  have s12:=k12.size;have z12:=aD b12;refine DR (d:=d') M.d32 b12 (fun k T=>Upd No H T) No (fun k h1 hi=>tb11.upd hi id) k12 (fun k ha hb hi hle U=>hi.trans U fun y s=>.inr (by omega)) (fun _ h=>h.elim) (fun k c ha KK hi hkc hc hdc _ hK=>?_) fun k ha hi _ hde=>?_
  ·
   have hdc':=hdc;rw[M.dp c hc]at hdc';obtain⟨p,hp1,hp2⟩:=Ll (L c hc) hdc';refine⟨_,yJ (hi.get0 e2),BS (nd.upd (g.tr hi) fun _ h=>h.elim) hc fun hb kb=>?_⟩
   rw[hp2];have ib:=hi.tr kb;refine vC (p:=p) fun hc' bc kc=>?_
   have G:=ib.tr kc;have hon:∀i c',(way++ [c])[i]? =some c'→ck x i p.1=c':=by
    have:=X.part (c:=c);rw[hw,show 13-(m+1)=12-m by omega,hp1]at this
    exact this p (aq.2 rfl)
   refine Join.intro (fun t hd=>t=false∧Upd No hc' hd) (fun R hR=>?_) ?_
   ·refine⟨_,vc (G.get0 D) 0,_,vc (G.get0 D) 1,_,vc (G.get0 D) 2,_,vc bc 0,s0,yJ (G.get0 q),?_,?_⟩
    ·refine sB fun hd f=>⟨yJ (f.get0 (G.get0 q)),aQ fun he be S=>⟨yJ (S.get0 (f.get0 (G.get0 q))),_,jj be,?_⟩⟩
     refine ED (((F.upd G fun _ h=>h.elim).upd f fun _ h=>h.elim).upd S fun _ h=>h.elim) Y (by omega) rfl fun s' hf hsf _ kf=>?_
     exact BU hsf (by simp;omega) hon (hR _ _ ⟨rfl,(f.tr S).tr kf⟩)
    ·refine aQ fun hd bd f=>⟨yJ (f.get0 (G.get0 q)),vc (f.get0 bc) 0,⟨vc (f.get0 (G.get0 D)) 0,vc (f.get0 (G.get0 D)) 1,vc (f.get0 (G.get0 D)) 2⟩,?_⟩
     refine sB fun he S=>⟨yJ (S.get0 (f.get0 (G.get0 q))),_,jj (S.get0 bd),?_⟩
     refine ED (((F.upd G fun _ h=>h.elim).upd f fun _ h=>h.elim).upd S fun _ h=>h.elim) Y (by omega) rfl fun s' hf hsf _ kf=>?_
     exact BU hsf (by simp;omega) hon (hR _ _ ⟨rfl,(f.tr S).tr kf⟩)
   ·rintro t hd ⟨rfl,f⟩
    exact aj.2 (hK hd (G.tr f) ((kb.tr kc).tr f))
  ·
   obtain⟨d'',n'',sp'',sk'',ow'',hb'',u,_⟩:=(nd.upd (g.tr hi) fun _ h=>h.elim).ex
   refine⟨_,yJ (hi.get0 e2),xz hb'' (rM n'' (aQ fun h13 b13 k13=>?_))⟩
   have i13:=hi.tr k13;have s13:=k13.size;have z13:=aD b13;have sa:=hi.size;have zde:=aD hde;have hl8':s8.len=(fi x (12-m) l).length:=hl8;have hall:=Lj x (12-m) l;have hfl:∀k,(fm (fun c=>dN (part x (12-m) c l)) k).flatten.length≤60000∨32<k:=fun k=>by
    rcases bD 32 k with h|h
    ·exact .inr h
    ·refine .inl ?_
     have:((fm (fun c=>dN (part x (12-m) c l)) k).flatten).length≤(iC x (12-m) l).flatten.length:=by
      unfold iC;have hj:∀j,∃r,fm (fun c=>dN (part x (12-m) c l)) (k+j)=fm (fun c=>dN (part x (12-m) c l)) k++r:=fun j=>by
       induction j with
       |zero=>exact⟨[],by simp⟩
       |succ j ihj=>obtain⟨r,hr⟩:=ihj;exact⟨r++(dN (part x (12-m) (k+j) l)).toList,by rw[←Nat.add_assoc,fz,hr,ao]⟩
      have this:=hj (32-k);rw[show k+(32-k)=32 by omega]at this
      obtain⟨r,hr⟩:=this;rw[hr,du,ae];omega
     omega
   refine DR (d:=n'') u.n32 b13 (fun k T=>k≤32∧Upd (· =C.size) ha T∧T[C.size]? =some (.cells #[.int .i64 (((fi x (12-m) l).length+(fm (fun c=>dN (part x (12-m) c l)) k).flatten.length:Nat):Int)] oo (0,0))) (· =C.size)
    (fun k hx s=>(tb11.upd hi id).upd s.2.1 fun e=>by have e:0=C.size:=e;omega) ⟨aV _,k13.wide,?_⟩ (fun k hx s hz hle U=>⟨hz.1,hz.2.1.trans U fun y s=>.inr (by omega),U.get hz.2.2 (by omega)⟩) (fun y s=>⟨by have s:y=C.size:=s;omega,by have s:y=C.size:=s;omega⟩) (fun k c hx KK s hkc hc hnc hno hK=>?_) fun k hx s hno hdx=>?_
   ·have:=i13.get0 e9
    rw[show((fi x (12-m) l).length+(fm (fun c=>dN (part x (12-m) c l)) 0).flatten.length:Nat)=s8.len by rw[hl8'];simp[fm]]
    exact this
   ·obtain⟨hk32,w,P⟩:=s
    have hnc':=hnc;rw[u.nk c hc]at hnc';obtain⟨h2l,kb,hkb,tk⟩:=Lm (L c hc) hnc';have B:∀{y:Nat} {o:Obj},H[y]? =some o→y≠C.size→hx[y]? =some o:=fun s hne=>w.get (hi.get0 s) hne
    have uW:Upd No h hx:=(g.tr hi).trans w fun y s=>.inr (by have s:y=C.size:=s;omega)
    refine⟨_,yJ (B e2 (by omega)),Fa (nd.upd uW fun _ h=>h.elim) hc ?_⟩
    rw[hkb];have hmc:dN (part x (12-m) c l)=some (part x (12-m) c l):=by unfold dN;rw[if_pos h2l]
    have hskip:fm (fun c=>dN (part x (12-m) c l)) c=fm (fun c=>dN (part x (12-m) c l)) k:=Fj hkc fun j h1 h2=>by
     have:=hno j h1 h2;rw[u.nk j (by omega),(Bu (L j (by omega))).2]at this;simpa using this
    have hnext:(fm (fun c=>dN (part x (12-m) c l)) (c+1)).flatten.length=(fm (fun c=>dN (part x (12-m) c l)) k).flatten.length+(part x (12-m) c l).length:=by
     rw[fz,hskip,hmc];simp
    have hpl:(part x (12-m) c l).length≤l.length:=jA;refine Join.intro (fun t hd=>t=(((part x (12-m) c l).length:Int),true)∧Upd No hx hd) (fun R hR=>?_) ?_
    ·refine⟨_,vc (B D (by omega)) 0,_,vc (B D (by omega)) 1,_,vc (B D (by omega)) 2,s0,yJ (B q (by omega)),aQ fun hd bd f=>?_⟩
     refine⟨yJ (f.get0 (B q (by omega))),⟨vc (f.get0 (B D (by omega))) 0,vc (f.get0 (B D (by omega))) 1,vc (f.get0 (B D (by omega))) 2⟩,_,jj bd,?_⟩;have hsx:Sl P2 1 (fun y=>h.size≤y) hd s0 way:=((F.upd hi fun _ h=>h.elim).upd w fun y s=>.inl (by have s:y=C.size:=s;omega)).upd f fun _ h=>h.elim
     refine ED hsx Y (by omega) rfl fun s' he hse hce S=>?_
     have gE:=f.tr S;refine⟨⟨vc (gE.get0 (B D (by omega))) 0,vc (gE.get0 (B D (by omega))) 1,vc (gE.get0 (B D (by omega))) 2⟩,?_⟩;refine ih (by omega) (TrieAt.upd0 (uW.tr gE) tk) (tb.upd (uW.tr gE) id) hse hce (by simp;omega) ?_ (pI hr) (by omega) fun hf kf=>hR _ _ ⟨rfl,gE.tr kf⟩
     have:=X.part (c:=c);rw[hw,show 13-(m+1)=12-m by omega]at this
     exact this
    ·rintro t hd ⟨rfl,f⟩
     refine Join.plain (aj.2 ?_);rw[decide_eq_false (by simp only;omega)];refine aj.2 ⟨_,yJ (f.get0 P),?_⟩;have hf1:=(hfl k).resolve_right (by omega);have hS:(fi x (12-m) l).length≤60000:=by omega
     refine Bi (c':= #[.int .i64 (((fi x (12-m) l).length+(fm (fun c=>dN (part x (12-m) c l)) (c+1)).flatten.length:Nat):Int)]) (f.get0 P) (by simp) ?_ fun hf bf Z=>?_
     ·rw[hnext]
      have:IntKind.wrap .i64 ((((fi x (12-m) l).length+(fm (fun c=>dN (part x (12-m) c l)) k).flatten.length:Nat):Int)+((part x (12-m) c l).length:Int))=(((fi x (12-m) l).length+((fm (fun c=>dN (part x (12-m) c l)) k).flatten.length+(part x (12-m) c l).length):Nat):Int):=by rw[nq (by omega)];omega
      simp only[this];rfl
     ·exact hK hf ⟨hc,(w.tr f.wide).tr Z,bf⟩ (f.wide.tr Z)
   ·obtain⟨hk32,w,P⟩:=s
    have B:∀{y:Nat} {o:Obj},H[y]? =some o→y≠C.size→hx[y]? =some o:=fun s hne=>w.get (hi.get0 s) hne
    have hkm:fm (fun c=>dN (part x (12-m) c l)) 32=fm (fun c=>dN (part x (12-m) c l)) k:=Fj hk32 fun j h1 h2=>by
     have:=hno j h1 h2;rw[u.nk j (by omega),(Bu (L j (by omega))).2]at this;simpa using this
    have ev:((fi x (12-m) l).length+(fm (fun c=>dN (part x (12-m) c l)) k).flatten.length:Nat)=l.length:=by rw[←hkm];exact hall
    rw[ev]at P;have sx:=w.size;refine⟨_,yJ P,Bi (B e4 (by omega)) (by simp) rfl fun hf bf Z=>Bi (Z.oth (B e5 (by omega)) (by omega)) (by simp) rfl fun hg bg ug=>?_⟩
    have sf:=Z.size;have sg:=ug.size;have g2:=ug.oth (Z.oth hdx (by omega)) (by omega);have kh:Upd (· =h13.size) hg (hg.setIfInBounds h13.size (.deferred none)):=Upd.set _ _ rfl
    refine⟨g2,bL ?_⟩;generalize hg.setIfInBounds h13.size (.deferred none)=hh at kh;have g3:=kh.oth (ug.oth (Z.oth (w.get hde (by omega)) (by omega)) (by omega)) (by omega);have kj:Upd (· =h12.size) hh (hh.setIfInBounds h12.size (.deferred none)):=Upd.set _ _ rfl
    refine⟨g3,bL ?_⟩;generalize hh.setIfInBounds h12.size (.deferred none)=hj at kj;refine⟨_,yJ (kj.oth (kh.oth (ug.oth bf (by omega)) (by omega)) (by omega)),_,yJ (kj.oth (kh.oth bg (by omega)) (by omega)),?_⟩;refine hk hj ?_;refine(((((g.tr hi).trans w fun y s=>.inr ?_).own Z (by omega)).own ug (by omega)).own kh (by omega)).own kj (by omega)
    have s:y=C.size:=s;omega
end Go.Proofs
namespace Go.Proofs
open Go Go.Lift
theorem BA{W:Nat→Prop}{h:ad}{b:Nat}{sl val:ByteArray}{has:Bool}{s:SliceV}{ow:Option Addr}{ks:List (Option Addr)}{F:Fo}(L:h[b]? =some (.cells (uM sl has val s ow) bh (0,0))) (v:Sl kK 1 W h s ks) (E:RxL W h ks F.toL) (hc:eH F) {K:Bool→ad→Prop} (X:K true h):HC PG jn [.pointer (some ⟨b,0,none⟩)] [.c .bool] K h:=by
 refine wR (some ⟨b,0,none⟩) ?_;unfold pZ cT dz bG bI;refine⟨_,rfl,s,c5 (i:=3) L,?_⟩;have m:=v.len;rw[E.1]at m;have O:=iH hc;have j:=dS.1 hc;refine LoopP.ghost (fun(i:Nat) (t:Int) z=>t=(i:Int)∧i≤F.toL.length∧z=h) (fun i=>F.toL.length-i) 0 ⟨rfl,aV _,rfl⟩ ?_
 rintro I i t z ⟨rfl,hi,rfl⟩ V;refine aH (fun e=>?_) fun _=>X
 have e:i<F.toL.length:=by omega
 obtain⟨kb,g,G,k,kv,Q,Y,kk,n,_⟩:=E.at e;obtain⟨a,ha,_,hv⟩:=v.at0 G;have p:g.data.toList≠[]:=by rw[k];exact(j.2 _ (aP e)).1
 have Z:(g.toList==(⟨#[]⟩:ByteArray).toList)=false:=by
  rw[beq_eq_false_iff_ne,ByteArray.toList_eq,ByteArray.toList_eq];exact p
 obtain⟨c,C,H⟩:=B4 p;refine⟨⟨by omega,by omega⟩,a,ha,_,hv,Join.intro (fun t S=>t=false∧S=z) (fun R N=>?_) ?_⟩
 ·refine⟨_,rfl,g,c5 (i:=0) n,?_⟩
  rw[Z];refine aj.2 (aH (fun B=>?_) fun _=>N _ _ ⟨rfl,rfl⟩)
  have P:0<i:=by have:(i:Int)>0:=B;omega
  have T:IntKind.wrap .i64 ((i:Int)-1)=((i-1:Nat):Int):=by rw[nq (by omega)];omega
  rw[T];have f:i-1<F.toL.length:=by omega
  obtain⟨jb,u,D,o,jv,M,U,jk,w,_⟩:=E.at f;obtain⟨a',x,_,A⟩:=v.at0 D;have q:u.data.toList≠[]:=by rw[o];exact(j.2 _ (aP f)).1
  obtain⟨d,J,y⟩:=B4 q;refine⟨_,rfl,s,c5 (i:=3) L,⟨by omega,by omega⟩,a',x,_,A,_,rfl,u,c5 (i:=0) w,d,by decide,J,_,rfl,g,c5 (i:=0) n,c,by decide,C,N _ _ ⟨?_,rfl⟩⟩
  have:=cy.1 j.1 (i-1) i f e (by omega);rw[k]at H;rw[o]at y;exact decide_eq_false (by omega)
 ·rintro t S ⟨rfl,rfl⟩
  refine aj.2 ?_;rw[ci e (by omega)];exact V (i+1) _ _ ⟨rfl,e,rfl⟩ (by omega)
theorem Es{W:Nat→Prop}{h:ad}{s:SliceV}{ks:List (Option Addr)}{L:List Bn}{f:FuncId}(j:Sl kK 1 W h s ks)(g:RxL W h ks L)(x:L.length≤256)(o:∀i (hi:i<L.length) {b:Nat} {sl:ByteArray},RxN W h b sl L[i].2.1 L[i].2.2→∀{K:Bool→ad→Prop},K false h→HC PG f [.pointer (some ⟨b,0,none⟩)] [.c .bool] K h){K:Bool→ad→Prop}(n:K false h):
  HC PG co [.slice s.a s.len s.cap,.func (.func f) #[] #[]] [.c .bool] K h:=by
 refine hG s _ ?_;unfold ez;refine iz s _ ?_;unfold eX cT dz;have d:=j.len;rw[g.1]at d;refine LoopP.ghost (fun(i:Nat) (t:Int) k=>t=(i:Int)∧i≤L.length∧k=h) (fun i=>L.length-i) 0 ⟨rfl,aV _,rfl⟩ ?_
 rintro I i t k ⟨rfl,hi,rfl⟩ v;refine aH (fun c=>?_) fun _=>n
 have c:i<L.length:=by omega
 obtain⟨w,u,e,m,q⟩:=g.at c;obtain⟨a,p,_,hv⟩:=j.at0 e;refine⟨⟨by omega,by omega⟩,a,p,_,hv,HV.mk' (o i c q (aj.2 ?_))⟩
 rw[ci c (by omega)];exact v (i+1) _ _ ⟨rfl,c,rfl⟩ (by omega)
def SX(n:Bn):Prop:=∀{W:Nat→Prop} {h:ad} {b:Nat} {sl:ByteArray},RxN W h b sl n.2.1 n.2.2→∀{K:Bool→ad→Prop},K true h→HC PG iG [.pointer (some ⟨b,0,none⟩)] [.c .bool] K h
theorem Q7{lab:List UInt8}{w:Option ByteArray}{F:Fo}(hc:eH F)(c:w.isSome∨2≤F.toL.length)(o:∀n∈F.toL,SX n):SX (lab,w,F):=by
 intro W h b sl r K p;simp only at r;obtain⟨val,s,ow,ks,d,hv,f,m,u⟩:=r;have e:=pn.1 u;have a:=f.len;rw[e.1]at a;refine vm (some ⟨b,0,none⟩) ?_;unfold ph bG gT;refine Join.intro (fun t k=>t=false∧k=h) (fun R j=>?_) ?_
 ·refine BA d f e hc (aj.2 ⟨_,rfl,w.isSome,c5 (i:=1) d,?_⟩)
  cases hwS:w.isSome with
  |true=>exact aj.2 (j _ _ ⟨rfl,rfl⟩)
  |false=>
   refine ax.2 ⟨_,rfl,s,c5 (i:=3) d,j _ _ ⟨decide_eq_false ?_,rfl⟩⟩;rw[hwS]at c;rcases c with c|c
   ·cases c
   ·omega
 ·rintro t k ⟨rfl,rfl⟩
  refine aj.2 ⟨_,rfl,s,c5 (i:=3) d,Es f e (iH hc) (fun i hi b sl q v g=>?_) p⟩
  refine tJ _ ?_;unfold ny;exact o _ (aP hi) q g
theorem FC:∀{F:Fo},eH F→∀n∈F.toL,SX n
 | .nil,_,n,a=>by simp[Fo.toL]at a
 | .cons lab w kids rest,h,n,a=>by
  rcases ar.1 a with rfl|a
  ·exact Q7 h.2.2.1 h.2.1 (FC h.2.2.1)
  ·exact FC h.2.2.2.2 n a
theorem Ig{W:Nat→Prop}{h:ad}{b:Nat}{l:List Pr}(t:RadAt W h b l){K:Bool→ad→Prop}(g:K true h):HC PG rk [.pointer (some ⟨b,0,none⟩)] [.c .bool] K h:=by
 obtain⟨w,F,r,hc,_⟩:=t.ex;obtain⟨val,s,ow,ks,a,hv,e,f,k⟩:=r;have d:=pn.1 k;refine Di (some ⟨b,0,none⟩) ?_;unfold vQ bG bI;refine ax.2 ⟨_,rfl,_,c5 (i:=0) a,?_⟩;rw[beq_self_eq_true];refine ax.2 (BA a e d hc (ax.2 ⟨_,rfl,s,c5 (i:=3) a,Es e d (iH hc) (fun i hi b sl j m c=>?_) g⟩))
 refine AG _ ?_;unfold tA;exact FC hc _ (aP hi) j c
theorem Li{W:Nat→Prop}{x:Hs}{h:ad}{d:Int}{t:Tr}{l:List Pr}(i:TreeIs W h d x t l)(tb:Tab h)(o:cB l)(k:l.length≤60000){K:Bool→ad→Prop}(f:∀h',Upd No h h'→K true h'):HC PG mR [Mx t] [.c .bool] K h:=by
 refine ya t ?_;unfold qH bo af cz aJ uI CX tH;refine aQ fun g b1 k1=>⟨_,vc b1 0,?_⟩
 rcases i with⟨_,b,rfl,t⟩|⟨_,b,rfl,t⟩
 ·refine aj.2 ⟨_,kJ b1 1 0,_,kJ b1 1 1,_,kJ b1 1 2,_,vc b1 0,_,vc b1 1,_,vc b1 2,_,vc b1 3,_,vc b1 4,_,vc b1 5,?_⟩
  refine DE (TrieAt.upd0 k1 t) fun s e=>⟨⟨kJ (e.get0 b1) 1 0,kJ (e.get0 b1) 1 1,kJ (e.get0 b1) 1 2⟩,?_⟩
  refine De (x.k0,x.k1,x.mask) _ ?_;unfold vM af y2 uI;refine aQ fun q b3 n=>aj.2 ⟨_,vc b3 0,_,vc b3 1,_,vc b3 2,?_⟩
  have a:=(k1.tr e).tr n;refine Oc 13 (al _) (sw:=⟨none,0,0⟩) (way:= []) (TrieAt.upd0 a t) (tb.upd a id) (Sl.nil QG) (al _) rfl (fun p _ i c hc=>by simp at hc) o k fun j m=>?_
  exact f j (a.tr m)
 ·refine ax.2 ⟨_,vc b1 5,Ig (t.upd0 k1) (f g k1)⟩
end Go.Proofs
namespace Go.Proofs
open Go Go.Lift
end Go.Proofs
namespace Go.Proofs
open Go Go.Lift
theorem GG:∀F:Fo,(wq F).length=(F.toL.map fun n=>(mL n.2.1 n.2.2).length).sum
 | .nil=>rfl
 | .cons lab w kids rest=>by
  rw[LH,Fo.toL_cons,fx,oh,←GG rest,ae,gB];rfl
def Re(n:Bn):Prop:=∀{W:Nat→Prop} {h:ad} {b:Nat} {sl:ByteArray},RxN W h b sl n.2.1 n.2.2→(mL n.2.1 n.2.2).length≤1000000000→∀{K:Int→ad→Prop},(∀h',Upd No h h'→K (((mL n.2.1 n.2.2).length:Nat):Int) h')→HC PG qu [.pointer (some ⟨b,0,none⟩)] [.c (.int .i64)] K h
theorem KE{lab:List UInt8}{w:Option ByteArray}{F:Fo}(L:F.toL.length≤256)(J:∀n∈F.toL,Re n):Re (lab,w,F):=by
 intro W h b sl r O K D;simp only at r O D;refine Hn (some ⟨b,0,none⟩) ?_;unfold Ap cT dz;have g:(mL w F).length=(w.map fun v=>(([]:List UInt8),v)).toList.length+(F.toL.map fun n=>(mL n.2.1 n.2.2).length).sum:=by
  rw[←GG,←ae];rfl
 refine Join.intro (fun t E=>t=(((w.map fun v=>(([]:List UInt8),v)).toList.length:Nat):Int)∧E=h) (fun R H=>?_) ?_
 ·refine Ib r fun v _=>?_
  cases w with
  |none=>exact aj.2 (H _ _ ⟨rfl,rfl⟩)
  |some u=>exact ax.2 (H _ _ ⟨rfl,rfl⟩)
 ·rintro t E ⟨rfl,rfl⟩
  generalize (w.map fun v=>(([]:List UInt8),v)).toList.length=c0 at g
  refine Lr r L fun A p ks q d k1=>?_
  have j:Sl kK 1 No p A ks:=q.sl fun _ _ _ h=>h
  have f:=j.len;rw[d.1]at f;refine LoopP.ghost (fun(i:Nat) (t:Int×Int) B=>t.1=((c0+((F.toL.take i).map fun n=>(mL n.2.1 n.2.2).length).sum:Nat):Int)∧t.2=(i:Int)∧i≤F.toL.length∧Upd No p B) (fun i=>F.toL.length-i) 0 ⟨by simp,rfl,aV _,Upd.refl _ _⟩ ?_
  rintro I i ⟨T,ti⟩ B ⟨C,G,hi,k⟩ M;simp only at C G;subst C G;have y:∀i,((F.toL.take i).map fun n=>(mL n.2.1 n.2.2).length).sum≤(F.toL.map fun n=>(mL n.2.1 n.2.2).length).sum:=fun i=>by
   conv=>rhs;rw[←aN i F.toL,dL,ii]
   omega
  refine aH (fun c=>?_) fun s=>?_
  ·have c:i<F.toL.length:=by have:(i:Int)<(A.len:Int):=c;omega
   obtain⟨N,S,z,_,o⟩:=(d.upd0 k).at c;obtain⟨a,Q,_,hv⟩:=(j.upd k fun _ h=>h.elim).at0 z
   refine⟨⟨by simp only;omega,by simp only;omega⟩,a,Q,some ⟨N,0,none⟩,hv,?_⟩
   have P:((F.toL.take (i+1)).map fun n=>(mL n.2.1 n.2.2).length).sum=((F.toL.take i).map fun n=>(mL n.2.1 n.2.2).length).sum+(mL F.toL[i].2.1 F.toL[i].2.2).length:=by
    rw[List.take_succ_eq_append_getElem c,dL,ii];simp
   have p:=y (i+1);refine J _ (aP c) o (by omega) fun U x=>?_
   rw[ci c (by omega)];have e:IntKind.wrap .i64 (((c0+((F.toL.take i).map fun n=>(mL n.2.1 n.2.2).length).sum:Nat):Int)+((mL F.toL[i].2.1 F.toL[i].2.2).length:Int))=((c0+((F.toL.take (i+1)).map fun n=>(mL n.2.1 n.2.2).length).sum:Nat):Int):=by
    rw[nq (by omega)];omega
   rw[e];exact M (i+1) _ _ ⟨rfl,rfl,c,k.tr x⟩ (by omega)
  ·have m:i=F.toL.length:=by have:¬(i:Int)<(A.len:Int):=s;omega
   subst m;rw[bN,←g];exact D B (k1.tr k)
theorem BT:∀{F:Fo},eH F→∀n∈F.toL,Re n
 | .nil,_,n,a=>by simp[Fo.toL]at a
 | .cons lab w kids rest,h,n,a=>by
  rcases ar.1 a with rfl|a
  ·exact KE (iH h.2.2.1) (BT h.2.2.1)
  ·exact BT h.2.2.2.2 n a
theorem M1{W:Nat→Prop}{x:Hs}{h:ad}{t:Tr}{l:List Pr}(i:TreeIs W h 1 x t l)(n:cB l)(p:l.length≤60000){K:Int→ad→Prop}(g:∀h',Upd No h h'→K (l.length:Int) h'):HC PG ie [Mx t] [.c (.int .i64)] K h:=by
 refine tl t ?_;unfold oU bo aJ tH;rcases i with⟨e,_⟩|⟨_,b,rfl,t⟩
 ·cases e
 refine aQ fun o b1 k1=>⟨_,vc b1 0,ax.2 ⟨_,vc b1 5,?_⟩⟩
 obtain⟨w,F,f,c,j⟩:=(t.upd0 k1).ex;have k:=EU c n j;have a:=congrArg fP k;unfold Kk at a;rw[gB]at a;refine KE (lab:= []) (iH c) (BT c) f (by simp only;omega) fun m d=>?_
 simp only;rw[a];exact g m (k1.tr d)
theorem M2{t:Tr}{h:ad}{K:Int→ad→Prop}(a:∀h',Upd No h h'→K t.1 h'):HC PG nI [Mx t] [.c (.int .i64)] K h:=by
 refine zv t ?_;unfold rP bo tH;exact aQ fun b b1 k1=>⟨_,vc b1 0,a b k1⟩
end Go.Proofs
