/- A part of the proof that the named laws of this program answer true, whatever the input. -/
import Derived.Test.YtajpljopgikpgaaGreatDoorPart7
import Derived.Test.YtajpljopgikpgaaGreatDoorPart6
open Bool renaming false_eq_true→dB
open ByteArray renaming data_append→pA
open Iff renaming rfl→tN
open List renaming cons_append→dN,cons→eO,take_succ_cons→cZ,length_cons→az,take_append_drop→aG,length→eE,length_drop→aO,length_nil→bw,pairwise_append→ci,mem_append_left→di,mem_append_right→eX,mem_cons_self→av,mem_of_getLast?→ia,mem_cons→aw,pairwise_cons→ba,mem_append→bM,mem_singleton→aq,take_length→cd,append_nil→bh,length_take→aD,mem_cons_of_mem→aL,append_assoc→au,getElem?_eq_getElem→af,zip_cons_cons→f8,map_cons→cn,flatMap_cons→aR,map_append→bZ,map_map→ry,sum_cons→jK,mem_map→g8,length_append→ad,length_map→bH,length_singleton→aE,getElem?_append_right→aQ,mem_range→fW,flatMap_append→bq
open List.Pairwise renaming nil→ey
open Nat renaming le_refl→aj,lt_or_ge→bG,zero_le→aS,sub_self→fY,le_of_eq→fH,lt_of_lt_of_le→bI,add_zero→cW,le_trans→aX,testBit_zero→j7,testBit_succ→gY,eq_zero_or_pos→eJ,zero_testBit→ge,testBit_and→ir
open Prod renaming mk→qe
namespace Go.Proofs
open Go Go.Lift
theorem xq{a b:ByteArray}:kl a b↔Op.bytesLess a.data.toList b.data.toList=true:=by unfold kl;rw[ByteArray.toList_eq,ByteArray.toList_eq]
theorem xC{a b:UInt8}{x y:List UInt8}:Op.bytesLess (a::x) (b::y)=true↔a.toNat<b.toNat∨(a=b∧Op.bytesLess x y=true):=by
 simp only[Op.bytesLess,Bool.or_eq_true,decide_eq_true_iff,Bool.and_eq_true,beq_iff_eq,UInt8.lt_iff_toNat_lt]
theorem MY(x:List UInt8):Op.bytesLess x []=false:=by cases x<;>rfl
theorem Iu{x y:List UInt8}:∀pre:List UInt8,Op.bytesLess (pre++x) (pre++y)=true↔Op.bytesLess x y=true
 | []=>tN
 |a::pre=>by rw[dN,dN,xC,Iu pre];simp
theorem Ww{x y:List UInt8}(h:Op.bytesLess x y=true)(hx:x≠[])(c:y≠[]):hd x≤hd y:=by
 match x,y,hx,c with
 |a::x,b::y,_,_=>
  show a.toNat≤b.toNat
  rcases xC.1 h with h|⟨rfl,_⟩<;>omega
theorem Jx:∀(t:Nat) {f p g:List UInt8},t≤cm f g→(f=p∨Op.bytesLess f p=true)→(p=g∨Op.bytesLess p g=true)→p.take t=f.take t∧t≤p.length
 |0,f,p,g,_,_,_=>by simp
 |t+1,[],p,g,h,_,_=>by simp[cm]at h
 |t+1,a::f,p,[],h,_,_=>by simp[cm]at h
 |t+1,a::f,p,b::g,h,d,i=>by
  unfold cm at h;split at h
  ·rename_i e
   subst e;rcases p with _|⟨c,p⟩
   ·rcases d with d|d
    ·cases d
    ·rw[MY]at d;cases d
   ·have hc:c=a:=by
     rcases d with d|d
     ·exact(eO.inj d).1.symm
     ·rcases i with i|i
      ·exact(eO.inj i).1
      ·have k:=xC.1 d
       have j:=xC.1 i;rcases k with k|⟨k,_⟩
       ·rcases j with j|⟨j,_⟩
        ·omega
        ·exact j
       ·exact k.symm
    subst hc;have:=Jx t (f:=f) (p:=p) (g:=g) (by omega) (d.imp (fun h=>(eO.inj h).2) fun h=>by
     rcases xC.1 h with h|⟨_,h⟩
     ·omega
     ·exact h) (i.imp (fun h=>(eO.inj h).2) fun h=>by
     rcases xC.1 h with h|⟨_,h⟩
     ·omega
     ·exact h)
    rw[cZ,cZ,this.1,az];exact⟨rfl,by omega⟩
  ·omega
theorem Ox:∀f:List UInt8,cm f f=f.length
 | []=>rfl
 |a::f=>by unfold cm;rw[if_pos rfl,Ox f];rfl
abbrev ky(p:Pr):List UInt8:=p.1.data.toList
def T9(l:List Pr)(a k:List UInt8)(v:ByteArray):Prop:=∃p∈l,ky p=a++k∧p.2=v
structure Beg(l:List Pr)(pre:List UInt8):Prop where
 up:cx l
 at_:∀p∈l,(ky p).take pre.length=pre∧pre.length<(ky p).length
theorem Beg.sub{l l':List Pr}{a:List UInt8}(b:Beg l a)(h:l'.Sublist l):Beg l' a:=⟨b.up.sublist h,fun p c=>b.at_ p (h.subset c)⟩
theorem Beg.split{l:List Pr}{a:List UInt8}(b:Beg l a){p:Pr}(c:p∈l):ky p=a++(ky p).drop a.length∧(ky p).drop a.length≠[]:=by
 obtain⟨d,f⟩:=b.at_ p c;refine⟨?_,fun e=>?_⟩
 ·conv=>lhs;rw[←aG a.length (ky p),d]
 ·have:=congrArg eE e
  rw[aO,bw]at this;omega
def bt(n:Nat)(p:Pr):Nat:=hd ((ky p).drop n)
theorem Beg.mono{A B:List Pr}{a:List UInt8}(b:Beg (A++B) a){x y:Pr}(hx:x∈A)(c:y∈B):bt a.length x≤bt a.length y:=by
 have h:=(ci.1 b.up).2.2 x hx y c;rw[xq]at h;obtain⟨d,g⟩:=b.split (di B hx);obtain⟨e,f⟩:=b.split (eX A c);change Op.bytesLess (ky x) (ky y)=true at h;rw[d,e,Iu]at h;exact Ww h g f
theorem Ha{l:List Pr}{d:List UInt8}{f g:Pr}(b:Beg l d)(F:∃r,l=f::r)(v:l.getLast? =some g)(E:bt d.length f=bt d.length g):
  d.length<cm (ky f) (ky g)∧cm (ky f) (ky g)≤(ky f).length∧(∀p∈l,(ky p).take (cm (ky f) (ky g))=(ky f).take (cm (ky f) (ky g)))∧(∀p∈l,p=f∨cm (ky f) (ky g)<(ky p).length)∧
   (cm (ky f) (ky g)<(ky f).length→cm (ky f) (ky g)<(ky g).length∧hd ((ky f).drop (cm (ky f) (ky g)))≠hd ((ky g).drop (cm (ky f) (ky g)))):=by
 obtain⟨r,rfl⟩:=F;have t:f∈f::r:=av ..;have n:g∈f::r:=ia v;obtain⟨J,G⟩:=b.split t;obtain⟨I,D⟩:=b.split n;have w:d.length<cm (ky f) (ky g):=by
  have:∀(q x y:List UInt8),cm (q++x) (q++y)=q.length+cm x y:=by
   intro q x y;induction q with
   |nil=>simp
   |cons a q ih=>simp only[dN,cm,if_true,ih,az];omega
  have s:=this d ((ky f).drop d.length) ((ky g).drop d.length);rw[←J,←I]at s;have K:=R0 G D E;omega
 have A:=Oy (ky f) (ky g);have u:∀p∈f::r,ky f=ky p∨Op.bytesLess (ky f) (ky p)=true:=fun p c=>by
  rcases aw.1 c with rfl|c
  ·exact .inl rfl
  ·exact .inr (xq.1 ((ba.1 b.up).1 p c))
 have z:∀p∈f::r,ky p=ky g∨Op.bytesLess (ky p) (ky g)=true:=fun p c=>by
  rcases List.eq_nil_or_concat (f::r)with h|⟨l',y,h⟩
  ·cases h
  ·rw[List.concat_eq_append]at h
   rw[h,List.getLast?_concat]at v;cases v;have k:=b.up;rw[h]at c k;rcases bM.1 c with c|c
   ·exact .inr (xq.1 ((ci.1 k).2.2 p c g (aq.2 rfl)))
   ·rw[aq.1 c];exact .inl rfl
 have m:∀p∈f::r,(ky p).take (cm (ky f) (ky g))=(ky f).take (cm (ky f) (ky g))∧cm (ky f) (ky g)≤(ky p).length:=fun p c=>Jx _ (aj _) (u p c) (z p c)
 have j:∀p∈f::r,p=f∨cm (ky f) (ky g)<(ky p).length:=fun p c=>by
  obtain⟨s,K⟩:=m p c;rcases bG (cm (ky f) (ky g)) (ky p).length with h|h
  ·exact .inr h
  ·left
   have H:(ky p).length=cm (ky f) (ky g):=by omega
   have e:ky p=(ky f).take (cm (ky f) (ky g)):=by rw[←s,←H,cd]
   rcases aw.1 c with rfl|c
   ·rfl
   ·have C:=xq.1 ((ba.1 b.up).1 p c)
    change Op.bytesLess (ky f) (ky p)=true at C;exfalso;have L:ky f=ky p++(ky f).drop (cm (ky f) (ky g)):=by rw[e,aG]
    have B:Op.bytesLess (ky p++(ky f).drop (cm (ky f) (ky g))) (ky p++ [])=true:=by rw[bh,←L];exact C
    rw[Iu,MY]at B;cases B
 refine⟨w,A.1,fun p c=>(m p c).1,j,fun o=>?_⟩
 have i:cm (ky f) (ky g)<(ky g).length:=by
  rcases j g n with h|h
  ·exfalso
   rw[h,Ox]at o;omega
  ·exact h
 exact⟨i,Im _ _ o i⟩
theorem MW{l l':List Pr}{a:List UInt8}{f g:Pr}(b:Beg l a)(D:∃r,l=f::r)(E:l.getLast? =some g)(H:bt a.length f=bt a.length g){F:Fo}(hc:fG F)
  (d:l'=if(ky f).length=cm (ky f) (ky g)then l.drop 1 else l)(u:∀k v,pv F k v↔T9 l' ((ky f).take (cm (ky f) (ky g))) k v){w:Option ByteArray}(x:w=if(ky f).length=cm (ky f) (ky g)then some f.2 else none){lab:List UInt8}(s:lab=((ky f).take (cm (ky f) (ky g))).drop a.length):
  Lg (lab,w,F)∧hd lab=bt a.length f∧∀k v,sy (lab,w,F) k v↔T9 l a k v:=by
 obtain⟨M,O,C,N,G⟩:=Ha b D E H;obtain⟨r,rfl⟩:=D;have o:f∈f::r:=av ..;have y:g∈f::r:=ia E;generalize cm (ky f) (ky g)=to at*;have i:a++lab=(ky f).take to:=by
  have:=(b.at_ f o).1;rw[s];conv=>rhs;rw[←aG a.length ((ky f).take to),List.take_take,Nat.min_eq_left (by omega),this]
 have j:lab≠[]:=fun e=>by
  have:=congrArg eE s;rw[e,bw,aO,aD]at this;omega
 have A:∀k v,sy (lab,w,F) k v↔T9 (f::r) a k v:=by
  intro k v;constructor
  ·rintro⟨q,e,⟨rfl,n⟩|n⟩
   ·simp only at e n
    rw[bh]at e;subst e;rw[x]at n;split at n
    ·rename_i c
     cases n;refine⟨f,o,?_,rfl⟩;rw[i,←c,cd]
    ·cases n
   ·simp only at e n
    obtain⟨p,m,L,rfl⟩:=(u q v).1 n;refine⟨p,?_,?_,rfl⟩
    ·rw[d]at m
     split at m
     ·exact aL _ m
     ·exact m
    ·rw[L,e,←au,i]
  ·rintro⟨p,m,e,rfl⟩
   have t:=C p m;have J:ky p=a++(lab++(ky p).drop to):=by
    rw[←au,i,←t,aG]
   have ek:k=lab++(ky p).drop to:=List.append_cancel_left (e.symm.trans J);refine⟨(ky p).drop to,ek,?_⟩;by_cases c:(ky f).length=to
   ·rw[if_pos c]at x d
    rcases aw.1 m with rfl|m
    ·left
     refine⟨List.drop_eq_nil_of_le (by omega),?_⟩;simp only;rw[x]
    ·right
     refine(u _ _).2 ⟨p,by rw[d];exact m,?_,rfl⟩
     rw[←t,aG]
   ·rw[if_neg c]at x d
    right;refine(u _ _).2 ⟨p,by rw[d];exact m,?_,rfl⟩
    rw[←t,aG]
 refine⟨⟨j,?_,hc⟩,?_,A⟩
 ·by_cases c:(ky f).length=to
  ·left;simp only;rw[x,if_pos c];rfl
  ·have B:to<(ky f).length:=by omega
   obtain⟨I,z⟩:=G B;refine(EN hc).2 (.inr ⟨(ky f).drop to,(ky g).drop to,f.2,g.2,.inr ?_,.inr ?_,fun e=>?_,fun e=>?_,z⟩)
   ·exact(u _ _).2 ⟨f,by rw[d,if_neg c];exact o,(aG ..).symm,rfl⟩
   ·exact(u _ _).2 ⟨g,by rw[d,if_neg c];exact y,by rw[←C g y,aG],rfl⟩
   ·have:=congrArg eE e
    rw[aO,bw]at this;omega
   ·have:=congrArg eE e
    rw[aO,bw]at this;omega
 ·have e:=(b.split o).1
  unfold bt;have n:(ky f).drop a.length=lab++(ky f).drop to:=by
   have K:ky f=a++(lab++(ky f).drop to):=by rw[←au,i,aG]
   conv=>lhs;rw[K]
   rw[List.drop_left]
  rw[n,oJ j]
structure Row(L:List Bn)(D T:List Pr)(pre:List UInt8):Prop where
 can:∀n∈L,Lg n
 up:L.Pairwise fun m n=>hd m.1<hd n.1
 lo:∀n∈L,∀p∈T,hd n.1<bt pre.length p
 got:∀k v,(∃n∈L,sy n k v)↔T9 D pre k v
theorem Row.nil(T:List Pr)(a:List UInt8):Row [] [] T a:=⟨fun n h=>(by cases h),ey,fun n h=>(by cases h),fun k v=>⟨fun⟨n,h,_⟩=>(by cases h),fun⟨p,h,_⟩=>(by cases h)⟩⟩
theorem Row.more{L:List Bn}{D A B:List Pr}{c:List UInt8}{n:Bn}{p:Pr}(r:Row L D (A++B) c)(t:Beg (A++B) c)(s:p∈A)(C:∀a∈A,bt c.length a=bt c.length p)(u:∀b f,B=b::f→bt c.length b≠bt c.length p)(hc:Lg n)(o:hd n.1=bt c.length p)(j:∀k v,sy n k v↔T9 A c k v):Row (L++ [n]) (D++A) B c:=by
 refine⟨fun m hm=>?_,ci.2 ⟨r.up,List.pairwise_singleton ..,fun a w b x=>?_⟩,fun m hm q d=>?_,fun k v=>?_⟩
 ·rcases bM.1 hm with hm|hm
  ·exact r.can m hm
  ·rw[aq.1 hm];exact hc
 ·rw[aq.1 x,o]
  exact r.lo a w p (di _ s)
 ·rcases bM.1 hm with hm|hm
  ·exact r.lo m hm q (eX _ d)
  ·rw[aq.1 hm,o]
   rcases B with _|⟨i,f⟩
   ·cases d
   have z:=u i f rfl;have y:=t.mono s (av (a:=i) (l:=f));rcases aw.1 d with rfl|d
   ·omega
   ·have g:Beg ([i]++f) c:=t.sub (List.sublist_append_right A _)
    have:=g.mono (aq.2 rfl) d;omega
 ·constructor
  ·rintro⟨m,hm,hi⟩
   rcases bM.1 hm with hm|hm
   ·obtain⟨q,d,e⟩:=(r.got k v).1 ⟨m,hm,hi⟩
    exact⟨q,di _ d,e⟩
   ·rw[aq.1 hm]at hi
    obtain⟨q,d,e⟩:=(j k v).1 hi;exact⟨q,eX _ d,e⟩
  ·rintro⟨q,d,e⟩
   rcases bM.1 d with d|d
   ·obtain⟨m,hm,hi⟩:=(r.got k v).2 ⟨q,d,e⟩
    exact⟨m,di _ hm,hi⟩
   ·exact⟨n,eX _ (aq.2 rfl),(j k v).2 ⟨q,d,e⟩⟩
theorem Row.done{L:List Bn}{D:List Pr}{a:List UInt8}(r:Row L D [] a):fG (.ofL L)∧∀k v,pv (.ofL L) k v↔T9 D a k v:=by
 refine⟨eN.2 ?_,fun k v=>?_⟩
 ·rw[Fo.to_of];exact⟨r.up,r.can⟩
 ·rw[fK,Fo.to_of];exact r.got k v
end Go.Proofs
namespace Go.Proofs
open Go Go.Lift
theorem Mu(s:ByteArray):s.data.toList.length=s.size:=by simp
theorem Kid.less{W W':Nat→Prop}{h:ae}(hm:∀b,W' b→W b∨h.size≤b){a:Option Addr}{n:Bn}:Kid W h a n→Kid W' h a n
 |⟨b,sl,e1,e2,e3⟩=>⟨b,sl,e1,e2,e3.less hm⟩
theorem Kid.updM{W M:Nat→Prop}{h c:ae}(k:Upd M h c)(hm:∀b,M b→W b∨h.size≤b){a:Option Addr}{n:Bn}:Kid W h a n→Kid W c a n
 |⟨b,sl,e1,e2,e3⟩=>⟨b,sl,e1,e2,e3.updM k hm⟩
theorem RxL.less{W W':Nat→Prop}{h:ae}(hm:∀b,W' b→W b∨h.size≤b){ks:List (Option Addr)}{L:List Bn}(r:RxL W h ks L):RxL W' h ks L:=⟨r.1,fun p a=>(r.2 p a).less hm⟩
theorem RxL.updM{W M:Nat→Prop}{h a:ae}(k:Upd M h a)(hm:∀b,M b→W b∨h.size≤b){ks:List (Option Addr)}{L:List Bn}(r:RxL W h ks L):RxL W a ks L:=⟨r.1,fun p c=>(r.2 p c).updM k hm⟩
theorem Sc{p:Pr}{n:Nat}(h:n<(ky p).length):∃b:UInt8,p.1[n]? =some b∧b.toNat=bt n p:=by
 rw[Ks];refine⟨(ky p)[n],af h,?_⟩;unfold bt hd;rw[List.drop_eq_getElem_cons h];rfl
end Go.Proofs
namespace Go.Proofs
open Go Go.Lift
theorem U0{h:ae}{t:Tr}{k:ae→Prop}(e:∀h',h'[h.size]? =some (.cells (lP t).toArray bF (0,0))→Upd No h h'→k h'):
  At (hnew h (lP DH) bF) (fun b=>uD b (some (aC h)) 0 (lP t)∧At (iC b (aC h) 0 (lP t)) k):=
 aP fun b b1 k1=>cC (c:=lP DH) (vs:=lP t) b1 rfl fun d b2 a=>e d b2 (k1.own a (aj _))
end Go.Proofs
namespace Go.Proofs
open Go Go.Lift
theorem D1{W:Nat→Prop}{h:ae}{b:Nat}{sl:ByteArray}{w:Option ByteArray}{F:Fo}(r:RxN W h b sl w F){K:ByteArray→ae→Prop}(a:K sl h):HC PG kJ [.pointer (some ⟨b,0,none⟩)] [.c .str] K h:=by
 refine zj _ ?_;unfold r8 aY;obtain⟨val,s,ow,ks,c,_⟩:=r;exact al.2 ⟨_,rfl,sl,dE (i:=0) c,a⟩
theorem DY{W:Nat→Prop}{h:ae}{b:Nat}{sl:ByteArray}{w:Option ByteArray}{F:Fo}(r:RxN W h b sl w F){K:ByteArray×Bool→ae→Prop}(c:∀v,(∀u,w=some u→v=u)→K (v,w.isSome) h):HC PG kI [.pointer (some ⟨b,0,none⟩)] [.c .str,.c .bool] K h:=by
 refine zh _ ?_;unfold r6 aY f9;obtain⟨val,s,ow,ks,a,hv,_⟩:=r;exact al.2 ⟨_,rfl,val,dE (i:=2) a,_,rfl,w.isSome,dE (i:=1) a,c val (vw hv)⟩
theorem Gt{W:Nat→Prop}{h:ae}{b:Nat}{sl:ByteArray}{w:Option ByteArray}{F:Fo}(r:RxN W h b sl w F)(m:F.toL.length≤256){K:SliceV→ae→Prop}(j:∀s' a ks,OwnS lY 1 aW (fun y=>h.size≤y) a s' ks→RxL W a ks F.toL→Upd No h a→K s' a):HC PG lI [.pointer (some ⟨b,0,none⟩)] [.c .slice] K h:=by
 refine AG _ ?_;unfold tA bD;obtain⟨val,s,ow,ks,f,hv,k,_,e⟩:=r;have c:=rc.1 e;refine al.2 ⟨_,rfl,s,dE (i:=3) f,?_⟩;refine G8 k (by rw[c.1];omega) fun s' a g d=>j s' a ks g (c.upd0 d) d
theorem Ke(x:List UInt8):Op.bytesLess x []=false:=by cases x<;>rfl
theorem Kc:(⟨#[]⟩:ByteArray).toList= []:=by rw[ByteArray.toList_eq]
theorem Tz{k:ByteArray}{h:ae}{K:Bool→ae→Prop}(b:∀a,Upd No h a→K false a):HC PG pJ [.agg #[.string ⟨#[]⟩,.string ⟨#[]⟩,.bool true],.string k] [.c .bool] K h:=by
 refine BW (⟨#[]⟩,⟨#[]⟩,true) k ?_;unfold uL im ay pF FI;refine aP fun c b1 k1=>?_
 refine Join.intro (fun t a=>t=false∧a=c) (fun R d=>⟨true,vc b1 2,al.2 (d _ _ ⟨rfl,rfl⟩)⟩) ?_
 rintro t a ⟨rfl,rfl⟩;refine al.2 ⟨_,vc b1 0,?_⟩;rw[Kc,Ke];exact al.2 (b a k1)
theorem Ko{k:ByteArray}{h:ae}{K:Bool→ae→Prop}(a:∀h',Upd No h h'→K true h'):HC PG qG [.agg #[.string ⟨#[]⟩,.string ⟨#[]⟩,.bool true],.string k] [.c .bool] K h:=by
 refine CZ (⟨#[]⟩,⟨#[]⟩,true) k ?_;unfold vW ay pF FI;refine aP fun b b1 k1=>⟨_,vc b1 0,?_⟩
 rw[Kc,Ke];exact ax.2 ⟨true,vc b1 2,ax.2 (a b k1)⟩
def It.Ok(W:Nat→Prop)(h:ae)(i:It):Prop:=RxN W h i.b i.sl i.w i.F∧fG i.F∧i.key.length≤10000∧∀p∈l6 i.w i.F,i.key.length+p.1.length≤10000
theorem It.Ok.updM{W M:Nat→Prop}{h a:ae}(k:Upd M h a)(hm:∀b,M b→W b∨h.size≤b){i:It}(o:It.Ok W h i):It.Ok W a i:=⟨o.1.updM k hm,o.2⟩
theorem Oc{W:Nat→Prop}{h:ae}(ah:ByteArray):∀{ks:List (Option Addr)} {L:List Bn},RxL W h ks L→∃a:List It,a.map It.raw=ks.map (fun k=>(k,ah,false))∧a.map (fun i=>(i.sl.data.toList,i.w,i.F))=L∧∀i∈a,i.ah=ah∧i.own=false∧RxN W h i.b i.sl i.w i.F
 | [],[],_=>⟨[],rfl,rfl,by simp⟩
 | [],_::_,r=>absurd r.1 (by simp)
 |_::_,[],r=>absurd r.1 (by simp)
 |k::ks,n::L,r=>by
  obtain⟨a,g,f,m⟩:=Oc ah (ks:=ks) (L:=L) ⟨by simpa using r.1,fun p j=>r.2 p (by rw[f8];exact aL _ j)⟩
  obtain⟨b,sl,c,d,e⟩:=r.2 (k,n) (by rw[f8];exact av ..);simp only at c d e;refine⟨⟨b,ah,false,sl,n.2.1,n.2.2⟩::a,?_,?_,?_⟩
  ·rw[cn,cn,g,c];rfl
  ·rw[cn,f];simp only[d]
  ·intro i hi
   rcases aw.1 hi with rfl|hi
   ·exact⟨rfl,rfl,e⟩
   ·exact m i hi
theorem GD(lab:List UInt8)(w:Option ByteArray)(a b:Fo):xF (.cons lab w a b)=((w.map fun v=>(([]:List UInt8),v)).toList++xF a).map (fun p=>(lab++p.1,p.2))++xF b:=rfl
theorem PF(lab:List UInt8)(w:Option ByteArray)(a b:Fo):Ap (.cons lab w a b)=1+Ap a+Ap b:=rfl
theorem JR{ah:ByteArray}{key:List UInt8}(b:ah.data.toList=key):∀{F:Fo} {its:List It},its.map (fun i=>(i.sl.data.toList,i.w,i.F))=F.toL→(∀i∈its,i.ah=ah∧i.own=false)→its.flatMap It.prs=(xF F).map fun p=>(key++p.1,p.2)
 | .nil,its,h,_=>by
  have:its= []:=by simpa[Fo.toL]using h
  rw[this];rfl
 | .cons lab w kids rest,[],h,_=>by simp[Fo.toL]at h
 | .cons lab w kids rest,i::its,h,ha=>by
  rw[Fo.toL_cons,cn,eO.injEq]at h;obtain⟨a,d⟩:=h;simp only[qe.injEq]at a;obtain⟨c,g,m⟩:=a;rw[aR,JR b d fun j e=>ha j (aL _ e)]
  obtain⟨k,f⟩:=ha i (av ..);rw[GD,bZ,ry];congr 1
  unfold It.prs It.key l6;rw[f,k,b,c,g,m];simp only[dB,if_false,au,bZ,Function.comp_def]
theorem KF:∀{F:Fo} {its:List It},its.map (fun i=>(i.sl.data.toList,i.w,i.F))=F.toL→(∀i∈its,i.own=false)→kB its=2*Ap F
 | .nil,its,h,_=>by
  have:its= []:=by simpa[Fo.toL]using h
  rw[this];rfl
 | .cons lab w kids rest,[],h,_=>by simp[Fo.toL]at h
 | .cons lab w kids rest,i::its,h,ha=>by
  rw[Fo.toL_cons,cn,eO.injEq]at h;obtain⟨a,b⟩:=h;simp only[qe.injEq]at a;have e:=KF b fun j c=>ha j (aL _ c)
  unfold kB at e⊢;rw[cn,jK,e];rw[PF];unfold It.cost;rw[ha i (av ..),a.2.2];simp only[dB,if_false];omega
theorem Ej:∀l:List It,l.length≤kB l
 | []=>aj _
 |i::l=>by
  have:=Ej l;unfold kB at this⊢;rw[cn,jK,az];have:1≤i.cost:=by unfold It.cost;split<;>omega
  omega
abbrev TV(s:SliceV):Array Value:= #[sv s,.string (⟨#[]⟩:ByteArray),.string (⟨#[]⟩:ByteArray),.bool true,.bool false]
structure Cur(W:Nat→Prop)(h:ae)(cb:Nat)(C:Nat→Prop)(items:List It):Prop where
 ex:∃s,h[cb]? =some (.cells (TV s) xY (0,0))∧OwnS OH 3 dX C h s (items.map It.raw)
 ok:∀i∈items,It.Ok W h i
theorem U5{W:Nat→Prop}{h k:ae}{i:It}(d:It.Ok W h i)(u:i.own=false){b:List It}(e:b.map (fun i=>(i.sl.data.toList,i.w,i.F))=i.F.toL){ah:ByteArray}(n:ah.data.toList=i.key)(hi:∀j∈b,j.ah=ah∧j.own=false∧RxN W k j.b j.sl j.w j.F):∀j∈b,It.Ok W k j:=by
 intro j g;obtain⟨q,t,o⟩:=hi j g;have hm:(j.sl.data.toList,j.w,j.F)∈i.F.toL:=by rw[←e];exact g8.2 ⟨j,g,rfl⟩
 have c:=(eN.1 d.2.1).2 _ hm;have a:∀p∈l6 j.w j.F,j.key.length+p.1.length≤10000:=fun p m=>by
  have f:pv i.F (j.sl.data.toList++p.1) p.2:=fK.2 ⟨_,hm,p.1,rfl,jZ.1 (show(p.1,p.2)∈_ from m)⟩
  have:=d.2.2.2 (j.sl.data.toList++p.1,p.2) (jZ.2 (.inr f));unfold It.key at this⊢;rw[q,n];unfold It.key;simp only[ad]at this⊢;omega
 obtain⟨r,v,s⟩:=mc d.2.1 _ hm;have:=a (r,v) (jZ.2 s);exact⟨o,c.2.2,by simp only at this;omega,a⟩
set_option maxHeartbeats 1000000 in
theorem Tx{W C:Nat→Prop}{h:ae}{cb:Nat}{d:List It}{i:It}(N:Cur W h cb C d)(F:It.Ok W h i)(ho:i.own=false)(hC:∀b,h.size≤b→C b)(w:∀b,C b→W b)(z:W cb)(T:¬C cb)(hcost:kB d+i.cost≤100000000){K:Unit→ae→Prop}
  (hk:∀B kids,Cur W B cb C (d++kids)→vf kids=i.prs→kB kids<i.cost→Upd (fun b=>C b∨b=cb) h B→K () B):HC PG nQ [.pointer (some ⟨cb,0,none⟩),.agg #[.pointer (some ⟨i.b,0,none⟩),.string i.ah,.bool i.own]] [] K h:=by
 refine y8 (some ⟨cb,0,none⟩) i.raw ?_;unfold rU bR cQ aH aY cY ay bD f9 Jj FA Lq V4;obtain⟨s,aJ,hst⟩:=N.ex;refine aP fun h1 b1 k1=>?_
 have zc:=aN aJ;have s1:=k1.size;refine⟨i.ah,vc b1 1,_,vc b1 0,?_⟩;have io1:=F.updM (k1.wide (M:=C)) fun b c=>.inl (w b c)
 refine D1 io1.1 ⟨vc b1 1,?_,?_⟩
 ·have:=F.2.2.1
  unfold It.key at this;rw[ad]at this;have e1:i.ah.data.toList.length=i.ah.size:=by simp
  have e2:i.sl.data.toList.length=i.sl.size:=by simp
  omega
 have c1:=k1.get0 aJ;refine⟨_,rfl,_,oz c1 1 0,_,oz c1 1 1,true,oz c1 1 2,?_⟩;refine Tz fun y k2=>al.2 ⟨_,vc (k2.get0 b1) 0,i.ah,vc (k2.get0 b1) 1,?_⟩
 have L:=k1.tr k2;refine aP fun A b3 k3=>⟨_,vc (k3.get0 (k2.get0 b1)) 0,?_⟩
 have O:=L.tr k3;have z3:=aN b3;have s2:=L.size;have io3:=F.updM (O.wide (M:=C)) fun b c=>.inl (w b c)
 have hn:=jA F.2.1;refine Gt io3.1 hn fun s4 g ks ho4 U k4=>?_
 have H:=O.tr k4;have hs4:Sl lY 1 (fun b=>y.size≤b∧b<A.size∨g.size≤b) g s4 ks:=ho4.sl fun b c p hx=>by rcases hx with hx|hx<;>omega
 have hlk:ks.length≤256:=by rw[U.1];exact hn
 have hlen4:=hs4.len;have s34:=k4.size;let own:It:=⟨i.b,i.ah,true,i.sl,i.w,i.F⟩
 have o3:OwnS OH 3 dX (fun b=>y.size≤b∧b<A.size∨g.size≤b) g ⟨some (aC y),1,1⟩ [own.raw]:=⟨rfl,Ho,aj _,.inr ⟨y.size,[],rfl,.inl ⟨aj _,z3⟩,k4.get0 b3,rfl⟩⟩
 have V:(i.ah++i.sl).data.toList=i.key:=by unfold It.key;rw[pA,Array.toList_append]
 obtain⟨o,e1,e2,e3⟩:=Oc (i.ah++i.sl) U;have Q:=(hst.within.upd H fun _ _ h=>h)
 have c4:=H.get0 aJ;have hM:∀b,g.size≤b→(y.size≤b∧b<A.size∨g.size≤b):=fun b c=>.inr c
 refine LoopP.ghost (fun(n:Nat) (t:SliceV×Int) B=>t.2=(n:Int)∧n≤ks.length∧OwnS OH 3 dX (fun b=>y.size≤b∧b<A.size∨g.size≤b) B t.1 (own.raw::(ks.take n).map fun k=>(k,i.ah++i.sl,false))∧Upd (fun b=>y.size≤b∧b<A.size∨g.size≤b) g B) (fun n=>ks.length-n) 0 ⟨rfl,aS _,by simpa using o3,Upd.refl _ _⟩ ?_
 rintro I n ⟨so,ti⟩ B ⟨et,hnk,D,Y⟩ hI;simp only at et D;subst et;have hsz:=Y.size;refine aB (fun p=>?_) fun hge=>?_
 ·have p:n<ks.length:=by have:(n:Int)<(s4.len:Int):=p;omega
  obtain⟨a,ha,_,hv⟩:=(hs4.upd Y fun b c=>.inl c).at0 (af p)
  refine Join.intro (fun t u=>OwnS OH 3 dX (fun b=>y.size≤b∧b<A.size∨g.size≤b) u t (own.raw::(ks.take (n+1)).map fun k=>(k,i.ah++i.sl,false))∧Upd (fun b=>y.size≤b∧b<A.size∨g.size≤b) g u) (fun R hR=>⟨⟨by simp only;omega,by simp only;omega⟩,a,ha,ks[n],hv,aP fun h5 b5 k5=>?_⟩) ?_
  ·have o5:OwnS OH 3 dX (fun _=>True) h5 ⟨some (aC B),1,1⟩ [(ks[n],i.ah++i.sl,false)]:=⟨rfl,Ho,aj _,.inr ⟨B.size,[],rfl,trivial,b5,rfl⟩⟩
   refine⟨_,(o5.sl (W:=No) fun _ _ _ h=>h).srow,?_⟩
   have s5:=k5.size;refine AppP.own (ys:= [(ks[n],i.ah++i.sl,false)]) (D.upd k5 fun _ _ h=>h) rfl rfl rfl rfl (by omega) (by rw[az,bH,aD,aE];omega) (.inr (by omega)) fun s6 h6 x f=>hR _ _ ⟨?_,(Y.tr k5.wide).tr f⟩
   rw[List.take_succ_eq_append_getElem p,bZ];exact x
  ·rintro t u ⟨ho2,hu2⟩
   rw[cz p (by omega)];exact hI (n+1) _ _ ⟨rfl,p,ho2,hu2⟩ (by omega)
 ·have hnl:n=ks.length:=by have:¬(n:Int)<(s4.len:Int):=hge;omega
  subst hnl;rw[cd,←e1]at D;have m:∀b,(y.size≤b∧b<A.size∨g.size≤b)→h.size≤b:=fun b c=>by rcases c with c|c<;>omega
  have hlits:o.length=ks.length:=by have:=congrArg eE e1;simpa using this
  refine Join.intro (fun _ u=>OwnS OH 3 dX (fun b=>y.size≤b∧b<A.size∨g.size≤b) u so (own.raw::o.map It.raw).reverse∧Upd (fun b=>y.size≤b∧b<A.size∨g.size≤b) g u) (fun R hR=>?_) ?_
  ·have c5:=Y.get c4 (fun c=>by have:=m _ c;omega)
   refine⟨_,rfl,false,vc c5 4,ax.2 ?_⟩;exact LV D (by rw[az,bH];omega) fun h6 x f=>hR _ _ ⟨x,Y.tr f⟩
  ·rintro _ h6 ⟨x,f⟩
   have c6:=f.get c4 (fun c=>by have:=m _ c;omega)
   have X:=Q.upd f fun b c hx=>by have:=m _ hx;omega
   refine⟨_,rfl,s,vc c6 0,?_⟩;have s6:=f.size;refine⟨_,(x.sl (W:=No) fun _ _ _ h=>h).srow,?_⟩
   have hrl:=x.len;have hil:=Ej d;have S:(own.raw::o.map It.raw).reverse=(o.reverse++ [own]).map It.raw:=by rw[List.reverse_cons,bZ,List.map_reverse];rfl
   refine AppP.own (M:=C) (ys:=(own.raw::o.map It.raw).reverse) (X.more fun b c=>c.1) hrl rfl (N4 _) rfl (by omega) (by rw[List.length_reverse,az,bH,bH];omega) (hC _ (by omega)) fun s7 h7 ho7 J=>?_
   have c7:=J.get c6 T;refine⟨_,rfl,?_⟩;refine sA (i:=0) (c':=TV s7) c7 (show 0<5 by decide) rfl fun h8 c8 E=>?_
   have P:=ho7.upd E fun b c e=>T (by have e:b=cb:=e;rw[←e];exact c)
   rw[S,←bZ]at P;have G:Upd (fun b=>C b∨b=cb) h h8:=(((H.wide (M:=C)).trans f fun b c=>.inr (m b c)).tr J).mono (fun b c=>.inl (.inl c))|>.trans E fun b c=>.inl (.inr c)
   have Z:∀{j:It},It.Ok W g j→It.Ok W h8 j:=fun oj=>((oj.updM f fun b c=>.inl (w b (hC b (m b c)))).updM J fun b c=>.inl (w b c)).updM E fun b c=>.inl (by have c:b=cb:=c;rw[c];exact z)
   refine hk h8 (o.reverse++ [own]) ⟨⟨s7,c8,P⟩,fun j q=>?_⟩ ?_ ?_ G
   ·rcases bM.1 q with q|q
    ·exact(N.ok j q).updM G fun b c=>.inl (c.elim (w b) fun e=>e▸z)
    ·rcases bM.1 q with q|q
     ·exact Z (U5 F ho e2 V e3 j (List.mem_reverse.1 q))
     ·rw[aq.1 q]
      exact It.Ok.updM (i:=own) G (fun b c=>.inl (c.elim (w b) fun e=>e▸z)) ⟨F.1,F.2⟩
   ·rw[Gy]
    unfold vf;rw[List.reverse_reverse,JR V e2 fun j q=>⟨(e3 j q).1,(e3 j q).2.1⟩]
    show(i.w.map fun v=>(own.key,v)).toList++_=It.prs i
    have hke:own.key=i.key:=rfl;unfold It.prs l6;rw[ho,hke];simp only[dB,if_false,bZ];congr 1
    cases i.w with
    |none=>rfl
    |some v=>simp
   ·rw[xw]
    have hc1:kB o.reverse=kB o:=by unfold kB;rw[List.map_reverse,List.sum_reverse]
    rw[hc1,KF e2 fun j q=>(e3 j q).2.1]
    have:kB [own]=1:=rfl;rw[this];unfold It.cost;rw[ho];simp only[dB,if_false];omega
end Go.Proofs
namespace Go.Proofs
open Go Go.Lift
theorem Cur.upd{W C M:Nat→Prop}{h g:ae}{cb:Nat}{a:List It}(c:Cur W h cb C a)(k:Upd M h g)(n:∀b,M b→W b∨h.size≤b)(f:∀b,C b→b<h.size→¬M b)(e:¬M cb):Cur W g cb C a:=by
 obtain⟨s,m,j⟩:=c.ex;exact⟨⟨s,k.get m e,(j.within.upd k fun b d=>f b d.1 d.2).more fun b d=>d.1⟩,fun i hi=>(c.ok i hi).updM k n⟩
theorem Cur.sub{W C d:Nat→Prop}{h:ae}{cb:Nat}{a:List It}(c:Cur W h cb C a)(i:∀b,C b→b<h.size→d b):Cur W h cb d a:=by
 obtain⟨s,g,f⟩:=c.ex;exact⟨⟨s,g,f.within.more fun b e=>i b e.1 e.2⟩,c.ok⟩
set_option maxHeartbeats 1000000 in
theorem TC{W C:Nat→Prop}{h:ae}{cb:Nat}{f:List It}(U:Cur W h cb C f)(hC:∀b,h.size≤b→C b)(hCW:∀b,C b→W b)(J:W cb)(hcb:¬C cb)(hcost:kB f≤100000000){K:(ByteArray×ByteArray)×Bool→ae→Prop}
  (hn:∀o,vf f= []→Upd (fun b=>C b∨b=cb) h o→K (((⟨#[]⟩:ByteArray),(⟨#[]⟩:ByteArray)),false) o)
  (hs:∀o items' k v R,vf f=(k,v)::R→vf items'=R→kB items'≤kB f→Cur W o cb C items'→Upd (fun b=>C b∨b=cb) h o→K ((⟨k.toArray⟩,v),true) o):
  HC PG nR [.pointer (some ⟨cb,0,none⟩)] [.agg [.str,.str],.c .bool] K h:=by
 refine y9 (some ⟨cb,0,none⟩) ?_;unfold rV bR cQ aH aY eP jU im cY ay bD f9 pF Jj FA Lq VS;refine aP fun h1 b1 k1=>al.2 ?_
 have z1:=aN b1;obtain⟨s0,hc0,_⟩:=U.ex;have zc:=aN hc0;have s1:=k1.size;have hC1:∀b,h1.size≤b→C b∧b≠h.size:=fun b g=>⟨hC b (by omega),by omega⟩
 have cur1:Cur W h1 cb (fun b=>C b∧b≠h.size) f:=(U.sub fun b g hlt=>(⟨g,by omega⟩:C b∧b≠h.size)).upd k1 (fun _ h=>h.elim) (fun _ _ _ h=>h) fun h=>h
 refine LoopP.ghost (fun(m:List It) (_:Unit) o=>Cur W o cb (fun b=>C b∧b≠h.size) m∧vf m=vf f∧kB m≤kB f∧o[h.size]? =some (.cells zPrL.toArray ar (0,0))∧Upd (fun b=>C b∨b=cb) h o∧h1.size≤o.size) kB f ⟨cur1,rfl,aj _,b1,k1.wide,aj _⟩ ?_
 rintro I m ⟨⟩ o ⟨cu,n,hco,bz,hu,hsz⟩ hI;obtain⟨s,aJ,y⟩:=cu.ex;have L:=y.len;rw[bH]at L;refine⟨_,rfl,s,vc aJ 0,?_⟩;refine aB (fun q=>?_) fun hnp=>?_
 ·have q:0<m.length:=by omega
  obtain⟨d,i,rfl⟩:∃d i,m=d++ [i]:=⟨m.dropLast,m.getLast (by intro e;rw[e]at q;simp at q),(List.dropLast_concat_getLast _).symm⟩;rw[bZ]at y;rw[ad,aE]at L;have hil:=Ej (d++ [i]);rw[ad,aE]at hil;have B:IntKind.wrap .i64 ((s.len:Int)-1)=((d.length:Nat):Int):=by rw[ji (by omega)];omega
  have sl:=y.sl (W:=No) fun _ _ _ h=>h
  obtain⟨a,ha,_,hv⟩:=sl.at (i:=d.length) (x:=i.raw) (by rw[aQ (by rw[bH];omega),bH,fY];rfl);have Z:=cu.ok i (eX _ (aq.2 rfl));refine⟨_,rfl,s,vc aJ 0,_,rfl,s,vc aJ 0,?_⟩;rw[B];refine⟨⟨by omega,by omega⟩,a,ha,some ⟨i.b,0,none⟩,hv 0 _ rfl,i.ah,hv 1 _ rfl,i.own,hv 2 _ rfl,?_⟩
  refine aP fun h2 b2 k2=>?_
  have sl2:=sl.upd k2 fun _ h=>h.elim
  obtain⟨a',ha',_,O⟩:=sl2.at (i:=d.length) (x:=i.raw) (by rw[aQ (by rw[bH];omega),bH,fY];rfl);rw[ha]at ha';cases ha';have c2:=k2.get0 aJ;refine⟨⟨O 0 _ rfl,O 1 _ rfl,O 2 _ rfl⟩,vc c2 0,vc c2 0,?_⟩;refine cC (c:= [.pointer none,.string (⟨#[]⟩:ByteArray),.bool false]) (vs:= [.pointer (some ⟨i.b,0,none⟩),.string i.ah,.bool i.own]) b2 rfl fun h3 b3 hu3=>?_
  have S:Upd No o h3:=k2.own hu3 (aj _);have c3:=S.get0 aJ;have zcb:=aN aJ;have z3:=aN b3;have s3:=S.size;refine⟨_,rfl,s,vc c3 0,_,rfl,s,vc c3 0,?_⟩;rw[B];have hcap:=y.cap;refine⟨⟨by omega,by omega⟩,?_⟩
  simp only[Bd];refine⟨_,rfl,?_⟩;refine sA (i:=0) (c':=TV ⟨aV s.a 0 s.cap 3,d.length,s.cap⟩) c3 (show 0<5 by decide) rfl fun h4 c4 p=>?_
  have F:=p.oth b3 (by omega);have T:=p.oth (S.get0 bz) (by omega);have hpop:=OwnS.pop y;have H:=((hpop.upd S fun _ _ h=>h).upd p fun b g e=>hcb (by have e:b=cb:=e;rw[←e];exact g.1))
  rw[bH]at H;have huW:∀{j},It.Ok W o j→It.Ok W h4 j:=fun oj=>(oj.updM S fun _ h=>h.elim).updM p fun b g=>.inl (by have g:b=cb:=g;rw[g];exact J)
  have V:Cur W h4 cb (fun b=>C b∧b≠h.size) d:=⟨⟨_,c4,H⟩,fun j hj=>huW (cu.ok j (di _ hj))⟩
  have w:=huW Z;have E:Upd (fun b=>C b∨b=cb) h h4:=(hu.tr S.wide).trans p fun b g=>.inl (.inr g)
  have s4:=p.size;have hcs:kB (d++ [i])=kB d+i.cost:=by rw[xw];rfl
  have P:=Gy d i;have hic:1≤i.cost:=by unfold It.cost;split<;>omega
  refine⟨i.own,vc F 2,?_⟩;cases how:i.own with
  |false=>
   refine ax.2 ⟨_,vc F 0,i.ah,vc F 1,i.own,vc F 2,?_⟩;refine Tx V w how (fun b g=>hC1 b (by omega)) (fun b g=>hCW b g.1) J (fun hx=>hcb hx.1) (by omega) fun D kids A hr5 hc5 N=>?_
   have Y:Upd (fun b=>C b∨b=cb) h4 D:=N.mono fun b g=>.inl (g.imp (fun h=>h.1) id)
   refine hI (d++kids) () D ⟨A,?_,?_,N.get T (fun hx=>by rcases hx with hx|hx;exact hx.2 rfl;omega),E.tr Y,by have:=N.size;omega⟩ ?_
   ·rw[QN,hr5,←n,P]
   ·rw[xw];omega
   ·rw[xw];omega
  |true=>
   refine al.2 ⟨i.ah,vc F 1,_,vc F 0,?_⟩;refine D1 w.1 ⟨vc F 1,?_,?_⟩
   ·have:=Z.2.2.1
    unfold It.key at this;rw[ad]at this;have e1:i.ah.data.toList.length=i.ah.size:=by simp
    have e2:i.sl.data.toList.length=i.sl.size:=by simp
    omega
   refine⟨_,vc F 0,DY w.1 fun v hvw=>?_⟩
   have hpr:i.prs=(i.w.map fun v=>(i.key,v)).toList:=by unfold It.prs;rw[how];rfl
   have ekey:(⟨i.key.toArray⟩:ByteArray)=i.ah++i.sl:=by rw[←pO,pA,Array.toList_append];rfl
   refine Join.intro (fun t D=>t=i.w.isSome∧Upd No h4 D) (fun R hR=>?_) ?_
   ·cases hw:i.w with
    |none=>exact al.2 (hR _ _ ⟨by rw[hw];rfl,Upd.refl _ _⟩)
    |some u=>exact ax.2 ⟨_,rfl,_,oz c4 1 0,_,oz c4 1 1,true,oz c4 1 2,Ko fun D Q=>hR _ _ ⟨by rw[hw];rfl,Q⟩⟩
   ·rintro t D ⟨rfl,Q⟩
    have A:Cur W D cb (fun b=>C b∧b≠h.size) d:=V.upd Q (fun _ h=>h.elim) (fun _ _ _ h=>h) fun h=>h
    have bz5:=Q.get0 T;have G:=E.tr (Q.wide (M:=fun b=>C b∨b=cb))
    have s5:=Q.size;cases hw:i.w with
    |none=>
     refine al.2 (hI d () D ⟨A,?_,by omega,bz5,G,by omega⟩ (by omega))
     rw[←n,P,hpr,hw];rfl
    |some u=>
     have hvu:=hvw u hw;subst hvu;refine ax.2 ?_;refine cC (c:=zPrL) (vs:= [.string (i.ah++i.sl),.string v]) bz5 rfl fun h6 X z=>?_
     refine⟨_,vc X 0,_,vc X 1,?_⟩;rw[←ekey];refine hs h6 d i.key v (vf d) (by rw[←n,P,hpr,hw];rfl) rfl (by omega) ?_ (G.trans z fun b g=>.inr (fH (Eq.symm g)))
     exact(A.upd z (fun b g=>.inl (hCW b (hC b (fH (Eq.symm g))))) (fun b g _ e=>g.2 e) (by show ¬cb=h.size;omega)).sub fun b g _=>g.1
 ·have h0:m= []:=List.length_eq_zero_iff.1 (by omega)
  subst h0;refine cC (c:=zPrL) (vs:=zPrL) bz rfl fun h6 X z=>?_
  refine⟨_,vc X 0,_,vc X 1,hn h6 n.symm (hu.trans z fun b g=>.inr (fH (Eq.symm g)))⟩
end Go.Proofs
namespace Go.Proofs
open Go Go.Lift
abbrev TT(x:Pr):List Value:= [.agg #[.string x.1,.string x.2]]
theorem FS{h:ae}{fv:Value}{N:Nat}{S:List Pr→Prop}{Q:Nat→Prop}(hg:Gives PG fv TT N S Q h)(hN:N≤100000000){K:SliceV→ae→Prop}
  (hk:∀s' c xs,S xs→OwnS eg 2 ar (fun b=>h.size≤b) c s' xs→Upd No h c→K s' c):HC PG eT [.slice none 0 0,fv] [.c .slice] K h:=by
 refine ly ⟨none,0,0⟩ fv ?_;unfold gN nv jU im ay tV Un;have k0:=Upd.hnew No h [.slice none 0 0] cq;have b0:=cO h [.slice none 0 0] cq;have hsz:(hnew h [.slice none 0 0] cq).size=h.size+1:=jm ..;have E:=hg.upd k0 fun _ _=>id
 refine bU ?_;generalize hnew h [.slice none 0 0] cq=h1 at E k0 b0 hsz;refine⟨fun lo hlo j=>?_⟩
 obtain⟨f,first,cap,rfl,T⟩:=E.run
 refine⟨f,first,cap,rfl,?_⟩
 have k1:Upd No h1 ((h1.push (.deferred (some []))).push (lo .ready none)):=(Upd.push No _ _).tr (Upd.push No _ _);have l2:((h1.push (.deferred (some []))).push (lo .ready none))[h1.size+1]? =some (lo .ready none):=by
  have:=ww (h1.push (.deferred (some []))) (lo .ready none);rwa [Array.size_push]at this
 have l1:((h1.push (.deferred (some []))).push (lo .ready none))[h1.size]? =some (.deferred (some [])):=(Upd.push No _ _).get0 (ww h1 _);refine T (.func (.yield (h1.size+1)) #[] #[]) (fun k A c=>(∀b,A b→b<c.size∧h.size≤b)∧A h.size∧A h1.size∧A (h1.size+1)∧c[h1.size]? =some (.deferred (some []))∧c[h1.size+1]? =some (lo .ready none)∧
   ∃s:SliceV,c[h.size]? =some (.cells #[sv s] cq (0,0))∧OwnS eg 2 ar (fun b=>A b∧h1.size+1<b) c s k∧k.length≤N)
  (fun b=>b=h.size∨b=h1.size∨b=h1.size+1) No _ _ ⟨fun _ _ _ F b a=>(F.1 b a).1,fun k A c h'' B F y Z=>?_,fun k A c x K' F hlen hK=>?_⟩ ?_ k1 (fun _ _=>id) (fun b a hq=>?_) ?_
 ·obtain⟨U,W,q,t,h5,h6,s,h7,h8,h9⟩:=F
  exact⟨fun b a=>⟨bI (U b a).1 y.size,(U b a).2⟩,W,q,t,y.get h5 (Z _ q),y.get h6 (Z _ t),s,y.get h7 (Z _ W),h8.upd y fun b a=>Z b a.1,h9⟩
 ·obtain⟨n,i,m,d,hd,w,s,V,ho,hpl⟩:=F
  refine j x c K' w ?_;refine qT (p:=x) fun hp bp D=>?_
  have zp:=aN bp;have w:=D.get0 w;have V:=D.get0 V;have hd:=D.get0 hd;have hop:=ho.upd D fun _ _ h=>h
  have sp:=D.size;refine⟨w,?_⟩;have z:Upd (· =h1.size+1) hp (hp.setIfInBounds (h1.size+1) (lo .busy none)):=Upd.set _ _ rfl
  have lb:=jt (o:=lo .busy none) w;have sb:=z.size;refine bU ?_;generalize hp.setIfInBounds (h1.size+1) (lo .busy none)=W at z lb sb;have P:=(n _ i).1;have J:=(n _ d).1;have G:=z.get bp (by omega);have R:=z.get V (by omega);refine⟨s,by rw[fE,bl R];rfl,_,vc G 0,_,vc G 1,bU ?_⟩
  refine wS (p:=x) (M:=fun b=>((A b∧b<c.size)∨W.size≤b)∧h1.size+1<b) ((hop.upd z fun b a=>by omega).more fun b a=>⟨.inl ⟨a.1,(n b a.1).1⟩,a.2⟩) (fun b a=>⟨.inr a,by have:=aN lb;omega⟩) (by omega) fun s' q ho3 g=>?_
  have u:q[h.size]? =some (.cells #[sv s] cq (0,0)):=g.get R (by omega);refine⟨by rw[fE];exact iX u (by simp),?_⟩;have C:Upd (· =h.size) q (hset q (aC h) (.slice s'.a s'.len s'.cap)):=Upd.hset _ _ rfl
  have X:(hset q (aC h) (.slice s'.a s'.len s'.cap))[h.size]? =some (.cells #[sv s'] cq (0,0)):=by
   rw[fE,Ae u,jt u];rfl
  refine bU ?_;generalize hset q (aC h) (.slice s'.a s'.len s'.cap)=t at C X;have L:t[h1.size+1]? =some (lo .busy none):=C.get (g.get lb (by omega)) (by omega);refine⟨L,?_⟩;have e:Upd (· =h1.size+1) t (t.setIfInBounds (h1.size+1) (lo .ready none)):=Upd.set _ _ rfl
  have hl5:=jt (o:=lo .ready none) L;have Y:Upd A c t:=((D.wide.tr (z.mono (M':=A) fun b a=>.inl (a▸d))).trans g fun b a=>a.1.imp (fun h=>h.1) fun h=>by omega).trans C fun b a=>.inl (a▸i)
  have z3:=g.size;have z4:=C.size;have z5:=e.size;refine hK _ (fun b=>((A b∧b<c.size)∨W.size≤b)∧b<t.size) ⟨fun b a=>⟨bI a.2 z5,a.1.elim (fun h=>(n b h.1).2) fun h=>by omega⟩,⟨.inl ⟨i,P⟩,by omega⟩,⟨.inl ⟨m,(n _ m).1⟩,by have:=(n _ m).1;omega⟩,⟨.inl ⟨d,J⟩,by omega⟩,
   e.get (C.get (g.get (z.get hd (by omega)) (by omega)) (by omega)) (by omega),hl5,s',e.get X (by omega),?_,by simp;omega⟩ (Y.trans e fun b a=>.inl (a▸d)) fun b a=>a.1.imp (fun h=>h.1) fun h=>by omega
  exact(((ho3.upd C fun b a=>by omega).within).more fun b a=>⟨⟨a.1.1,a.2⟩,a.1.2⟩).upd e fun b a=>by omega
 ·refine⟨fun b a=>?_,.inl rfl,.inr (.inl rfl),.inr (.inr rfl),l1,l2,⟨none,0,0⟩,k1.get0 b0,OwnS.nil g9,aS _⟩
  have:=aN l2;rcases a with rfl|rfl|rfl<;>omega
 ·have:=hg.lt b hq
  rcases a with rfl|rfl|rfl<;>omega
 ·rintro xs A' c hS ⟨n,i,m,d,hd,w,s,V,ho,hpl⟩ y hA'
  refine⟨.ready,none,by decide,w,?_⟩
  have e:Upd (· =h1.size+1) c (c.setIfInBounds (h1.size+1) (lo .exhausted none)):=Upd.set _ _ rfl
  show∃v:SliceV,aJ (c.setIfInBounds (h1.size+1) (lo .exhausted none)) (aC h)=some (.slice v.a v.len v.cap)∧_
  have H:=e.get hd (show ¬h1.size=h1.size+1 by omega)
  have O:=e.get V (show ¬h.size=h1.size+1 by omega)
  have I:=ho.upd e fun b a=>by omega
  generalize c.setIfInBounds (h1.size+1) (lo .exhausted none)=h5 at e H O I;refine⟨s,by rw[fE,bl O];rfl,H,?_⟩
  have k6:Upd (· =h1.size) h5 (h5.setIfInBounds h1.size (.deferred none)):=Upd.set _ _ rfl
  refine hk s _ xs hS ((I.upd k6 fun b a=>by omega).more fun b a=>(n b a.1).2) ?_
  refine(((k0.tr k1).trans y fun b a=>?_).trans e fun b a=>.inr (by omega)).trans k6 fun b a=>.inr (by omega)
  rcases a with rfl|rfl|rfl<;>(right;omega)
theorem Cz{h:ae}{a:Value}{N:Nat}{S:List Pr→Prop}{Q:Nat→Prop}(c:Gives PG a TT N S Q h)(d:N≤100000000){K:SliceV→ae→Prop}
  (e:∀s' h' xs,S xs→OwnS eg 2 ar (fun b=>h.size≤b) h' s' xs→Upd No h h'→K s' h'):HC PG gn [a] [.c .slice] K h:=by
 refine rQ a ?_;unfold mq;exact FS c d e
theorem LI{W:Nat→Prop}{h:ae}{b:Nat}{w:Option ByteArray}{F:Fo}(z:It.Ok W h ⟨b,⟨#[]⟩,false,⟨#[]⟩,w,F⟩)(D:∀y,h.size≤y→W y){K:Option Addr→ae→Prop}
  (A:∀h' cb,h.size≤cb→cb<h'.size→Cur W h' cb (fun y=>h.size≤y∧y≠cb) [⟨b,⟨#[]⟩,false,⟨#[]⟩,w,F⟩]→Upd No h h'→K (some ⟨cb,0,none⟩) h'):HC PG yO [.pointer (some ⟨b,0,none⟩),.agg #[.string ⟨#[]⟩,.string ⟨#[]⟩,.bool true],.bool false] [.c .ptr] K h:=by
 refine Nb (some ⟨b,0,none⟩) (⟨#[]⟩,⟨#[]⟩,true) false ?_;unfold E5 cY ay bD pF FI FA Lq;refine aP fun g b1 k1=>⟨_,vc b1 0,_,vc b1 1,true,vc b1 2,aP fun t b2 n=>ax.2 ⟨_,rfl,⟨none,0,0⟩,vc b2 0,aP fun m b3 s=>?_⟩⟩
 have j:=k1.size;have I:=n.size;have B:=aN b2;have G:=aN b3;have v:OwnS OH 3 dX (fun _=>True) m ⟨some (aC t),1,1⟩ [(some ⟨b,0,none⟩,⟨#[]⟩,false)]:=⟨rfl,Ho,aj _,.inr ⟨t.size,[],rfl,trivial,b3,rfl⟩⟩
 refine⟨_,(v.sl (W:=No) fun _ _ _ h=>h).srow,?_⟩
 refine AppP.own (M:=fun y=>m.size≤y) (ys:= [(some ⟨b,0,none⟩,⟨#[]⟩,false)]) (OwnS.nil (f:=OH) Ho) rfl rfl rfl rfl (by omega) (by simp) (aj _) fun p C d a=>?_
 have u:=a.get (s.get0 b2) (by omega);refine⟨_,rfl,?_⟩;refine sA (i:=0) (c':=TV p) u (show 0<5 by decide) rfl fun k x c=>?_
 have q:Upd No h k:=(((k1.tr n).tr s).trans a fun y o=>.inr (by omega)).own c j
 have H:=a.size;have E:=c.size;refine A k g.size j (by omega) ⟨⟨p,x,?_⟩,fun i hi=>?_⟩ q
 ·exact(d.upd c fun y o e=>by have e:y=g.size:=e;omega).more fun y o=>⟨by omega,by omega⟩
 ·rw[aq.1 hi]
  exact z.updM q fun _ h=>h.elim
theorem S7(l m:List Pr):DI (l++m)=DI l++DI m:=by unfold DI;rw[bZ]
theorem Jv{W:Nat→Prop}{h:ae}{b:Nat}{l:List Pr}(t:RadAt W h b l)(hr:cx l)(hf:Fit l)(hn:l.length≤60000){K:Value→ae→Prop}
  (hk:∀fv s,Gives PG fv TT (2*l.length) (fun xs=>xs=l) (fun y=>y<s.size) s→Upd No h s→K fv s):HC PG wJ [.pointer (some ⟨b,0,none⟩),.agg #[.string ⟨#[]⟩,.string ⟨#[]⟩,.bool true],.bool false] [.c .raw] K h:=by
 refine KW (some ⟨b,0,none⟩) (⟨#[]⟩,⟨#[]⟩,true) false ?_;unfold CG FI;refine aP fun h1 b1 k1=>aP fun h2 b2 k2=>aP fun C b3 k3=>?_
 have Y:=(k1.tr k2).tr k3;have c1:=k3.get0 (k2.get0 b1);have c2:=k3.get0 b2;have z1:=aN c1;have z2:=aN c2;have z3:=aN b3;refine hk _ C ?_ Y;obtain⟨w,F,r1,r2,r3⟩:=(((t.upd0 Y).less (W':=fun y=>C.size≤y) fun y a=>.inr a)).ex
 have n:=Db r2 hr r3;have hcnt:=Ds r2;have m:=congrArg eE n;unfold l6 DI at m;rw[ad,bH]at m;refine⟨fun y a=>a,p9,#[],_,rfl,fun y J A M G K' H hj hu hq ha hk'=>?_⟩
 refine E0 y (aC h) (aC h1) (aC h2) ?_;unfold uk aY nv pt jU ay tV f9 Jj;have d1:=hu.get c1 (hq _ z1);have d2:=hu.get c2 (hq _ z2);have d3:=hu.get b3 (hq _ z3);have s4:=hu.size;have io:It.Ok (fun y=>C.size≤y) G ⟨b,⟨#[]⟩,false,⟨#[]⟩,w,F⟩:=⟨r1.updM hu fun y a=>.inl (by
  rcases bG y C.size with P|P
  ·exact absurd a (hq y P)
  ·exact P),r2,by simp[It.key],fun p hp=>by
   rw[n]at hp
   obtain⟨q,hq',e⟩:=g8.1 hp
   have:=(hf q hq').1
   rw[←e]
   simpa[It.key]using this⟩
 refine⟨_,(by have:=vc d1 0;rw[bV,cW]at this;exact this),_,vc d2 0,_,vc d2 1,true,vc d2 2,false,(by have:=vc d3 0;rw[bV,cW]at this;exact this),?_⟩;refine LI io (fun y a=>aX s4 a) fun h5 cb hcb hcb5 cur k5=>?_
 have L:=H.lt _ _ _ hj;have hA3:∀y,A y→C.size≤y:=fun y a=>by
  rcases bG y C.size with P|P
  ·exact absurd P (ha y a)
  ·exact P
 have s5:=k5.size;have B:kB [⟨b,⟨#[]⟩,false,⟨#[]⟩,w,F⟩]≤100000000:=by
  have:kB [⟨b,⟨#[]⟩,false,⟨#[]⟩,w,F⟩]=2+2*Ap F:=by simp[kB,It.cost]
  rw[this];omega
 have T:vf [⟨b,⟨#[]⟩,false,⟨#[]⟩,w,F⟩]=DI l:=by
  rw[←n];simp[vf,It.prs,It.key]
 refine LoopP.ghost (fun(g:List Pr×List It×(Nat→Prop)) (_:Unit) s=>Cur (fun y=>C.size≤y) s cb (fun y=>G.size≤y∧y≠cb∧¬g.2.2 y) g.2.1∧J g.1 g.2.2 s∧Upd A G s∧(∀y,g.2.2 y→(A y∨G.size≤y)∧y≠cb)∧DI g.1++vf g.2.1=DI l∧kB g.2.1≤100000000∧h5.size≤s.size) (fun g=>(vf g.2.1).length) ([],[⟨b,⟨#[]⟩,false,⟨#[]⟩,w,F⟩],A)
  ⟨cur.sub fun y a hlt=>⟨a.1,a.2,fun hx=>by have:=L y hx;omega⟩,H.keep _ _ _ _ No hj k5 (fun _ _ h=>h),k5.wide,fun y a=>⟨.inl a,by have:=L y a;omega⟩,by rw[T];rfl,B,aj _⟩ ?_
 rintro I ⟨x,items,o⟩ ⟨⟩ s ⟨cu,z,hu',d,c,Z,hsz⟩ hI;simp only at cu z d c Z;have hlt':=H.lt _ _ _ z;have X:∀y,o y→C.size≤y:=fun y a=>(d y a).1.elim (hA3 y) fun h=>by omega
 refine TC cu (fun y a=>⟨by omega,by omega,fun hx=>by have:=hlt' y hx;omega⟩) (fun y a=>aX s4 a.1) (aX s4 hcb) (fun hx=>hx.2.1 rfl) Z (fun h6 hr0 i=>?_) fun h6 f k v R Q V hc6 cu6 i=>?_
 ·have hd:∀y,o y→¬((G.size≤y∧y≠cb∧¬o y)∨y=cb):=fun y a hx=>hx.elim (fun h=>h.2.2 a) (d y a).2
  have N:=H.keep _ _ _ _ _ z i hd;refine qT fun E b7 O=>?_
  refine Join.intro (fun t D=>t=true∧D=E) (fun R hR=>ax.2 (hR _ _ ⟨rfl,rfl⟩)) ?_
  rintro t D ⟨rfl,rfl⟩;refine ax.2 (hk' x o D ?_ (H.keep _ _ _ _ No N O (fun _ _ h=>h)) ?_ fun y a=>(d y a).1)
  ·rw[hr0,bh]at c
   exact HA c
  ·exact(hu'.trans i fun y a=>.inr (by rcases a with a|a;exact a.1;omega)).tr O.wide
 ·have hd:∀y,o y→¬((G.size≤y∧y≠cb∧¬o y)∨y=cb):=fun y a hx=>hx.elim (fun h=>h.2.2 a) (d y a).2
  have N:=H.keep _ _ _ _ _ z i hd;refine qT (p:=(⟨k.toArray⟩,v)) fun E b7 O=>?_
  have hj7:=H.keep _ _ _ _ No N O (fun _ _ h=>h)
  have cu7:=cu6.upd O (fun _ h=>h.elim) (fun _ _ _ h=>h) fun h=>h
  have hu47:Upd A G E:=(hu'.trans i fun y a=>.inr (by rcases a with a|a;exact a.1;omega)).tr O.wide
  have s6:=i.size;have s7:=O.size;refine Join.intro (fun t D=>t=false∧∃U,J (x++ [(⟨k.toArray⟩,v)]) U D∧Upd o E D∧∀y,U y→o y∨E.size≤y) (fun R' hR=>?_) ?_
  ·refine al.2 ⟨_,vc b7 0,_,vc b7 1,?_⟩
   refine H.step x o E (⟨k.toArray⟩,v) _ hj7 ?_ fun D U S j u=>hR _ _ ⟨rfl,U,S,j,u⟩
   have:=congrArg eE c;rw[Q]at this;simp only[DI,ad,bH,az]at this;omega
  ·rintro t D ⟨rfl,U,S,j,u⟩
   refine al.2 (hI (x++ [(⟨k.toArray⟩,v)],f,U) () D ⟨?_,S,?_,fun y a=>?_,?_,by simp only;omega,by have:=j.size;omega⟩ ?_)
   ·have c7:Cur (fun y=>C.size≤y) E cb (fun y=>(G.size≤y∧y≠cb∧¬o y)∧y<E.size) f:=cu7.sub fun y a hlt=>⟨a,hlt⟩
    exact(c7.upd j (fun y a=>.inl (X y a)) (fun y a _ hx=>a.1.2.2 hx) (fun hx=>(d _ hx).2 rfl)).sub fun y a _=>⟨a.1.1,a.1.2.1,fun hx=>by
     rcases u y hx with h|h
     ·exact a.1.2.2 h
     ·have:=a.2;omega⟩
   ·exact hu47.trans j fun y a=>(d y a).1
   ·rcases u y a with h|h
    ·exact d y h
    ·exact⟨.inr (by omega),by omega⟩
   ·simp only
    rw[S7,au,V,←c,Q];rfl
   ·simp only
    rw[Q,V];simp
theorem HF{W:Nat→Prop}{h:ae}{b:Nat}{l:List Pr}(t:RadAt W h b l)(o:cx l)(i:Fit l)(f:l.length≤60000){K:SliceV→ae→Prop}
  (n:∀s' h',OwnS eg 2 ar (fun y=>h.size≤y) h' s' l→Upd No h h'→K s' h'):HC PG vn [.pointer (some ⟨b,0,none⟩),.agg #[.string ⟨#[]⟩,.string ⟨#[]⟩,.bool true]] [.c .slice] K h:=by
 refine II (some ⟨b,0,none⟩) (⟨#[]⟩,⟨#[]⟩,true) ?_;unfold AP ay pF FI Jj;refine aP fun q b1 k1=>⟨_,vc b1 0,_,vc b1 1,true,vc b1 2,?_⟩
 refine Jv (t.upd0 k1) o i f fun u p c a=>?_
 refine Cz c (by omega) fun j g xs e k m=>?_
 subst e;have d:=(k1.tr a).size;exact n j g (k.more fun y s=>by omega) ((k1.tr a).tr m)
theorem DP{W:Nat→Prop}{x:Hs}{h:ae}{t:Tr}{l:List Pr}(i:TreeIs W h 1 x t l)(v:cx l)(q:Fit l)(j:l.length≤60000){K:SliceV→ae→Prop}
  (u:∀s' h',OwnS eg 2 ar (fun y=>h.size≤y) h' s' l→Upd No h h'→K s' h'):HC PG gk [DG t] [.c .slice] K h:=by
 refine sW t ?_;unfold oZ bj aH uU JT;rcases i with⟨e,_⟩|⟨_,b,rfl,t⟩
 ·cases e
 refine aP fun g b1 k1=>⟨_,vc b1 0,ax.2 ⟨_,vc b1 5,?_⟩⟩
 refine Nc ?_;unfold E6 nv ay pF VN VR;refine aP fun w b2 s=>?_
 refine cC (c:= [.string (⟨#[]⟩:ByteArray),.string (⟨#[]⟩:ByteArray),.bool false]) (vs:= [.string (⟨#[]⟩:ByteArray),.string (⟨#[]⟩:ByteArray),.bool true]) b2 rfl fun o b3 d=>?_
 have f:Upd No g o:=s.own d (aj _);have a:=k1.tr f;refine⟨_,vc b3 0,_,vc b3 1,true,vc b3 2,vc (f.get0 b1) 5,?_⟩;refine HF (t.upd0 a) v q j fun k m p n=>u k m (p.more fun y z=>?_) (a.tr n)
 have:=a.size;omega
end Go.Proofs
namespace Go.Proofs
open Go Go.Lift
end Go.Proofs
namespace Go.Proofs
open Go Go.Lift
end Go.Proofs
namespace Go.Proofs
theorem Rd:∀{n x:Nat},x<2^n→0<x→∃c,c<n∧x.testBit c=true∧∀j,j<c→x.testBit j=false
 |0,x,h,h'=>by simp at h;omega
 |n+1,x,h,h'=>by
  by_cases e:x%2=1
  ·exact⟨0,by omega,by rw[j7];simpa using e,fun j a=>absurd a (Nat.not_lt_zero _)⟩
  ·obtain⟨c,f,b,d⟩:=Rd (n:=n) (x:=x/2) (by rw[Nat.pow_succ]at h;omega) (by omega)
   refine⟨c+1,by omega,by rw[gY];exact b,fun j a=>?_⟩
   cases j with
   |zero=>rw[j7];simpa using e
   |succ j=>rw[gY];exact d j (by omega)
theorem Ea:∀{c x:Nat},x.testBit c=true→(∀j,j<c→x.testBit j=false)→∀i,(x-1).testBit i=if i<c then true else if i=c then false else x.testBit i
 |0,x,h,_,i=>by
  have h:x%2=1:=by rw[j7]at h;simpa using h
  cases i with
  |zero=>rw[j7,if_neg (by omega),if_pos rfl];simp;omega
  |succ i=>rw[gY,gY,if_neg (by omega),if_neg (by omega)];congr 1;omega
 |c+1,x,h,hl,i=>by
  have a:=hl 0 (by omega);rw[j7]at a;have f:¬x%2=1:=by simpa using a
  have a:x%2=0:=by omega
  rw[gY]at h;have b:0<x/2:=by
   rcases eJ (x/2)with e|e
   ·rw[e,ge]at h;cases h
   ·exact e
  cases i with
  |zero=>rw[j7,if_pos (by omega)];simp;omega
  |succ i=>
   have:=Ea (x:=x/2) h (fun j d=>by have:=hl (j+1) (by omega);rwa [gY]at this) i
   rw[gY,gY,show(x-1)/2=x/2-1 by omega,this]
   simp only[Nat.add_lt_add_iff_right,Nat.add_right_cancel_iff]
theorem TH{c x:Nat}(h:x.testBit c=true)(b:∀j,j<c→x.testBit j=false)(hc:c<32)(hx:x<4294967296):x&&&(4294967296-x)=2^c:=by
 have f:0<x:=by
  rcases eJ x with e|e
  ·rw[e,ge]at h;cases h
  ·exact e
 refine Nat.eq_of_testBit_eq fun i=>?_
 have e:4294967296-x=2^32-((x-1)+1):=by omega
 rw[ir,e,Nat.testBit_two_pow_sub_succ (by omega),Ea h b,Nat.testBit_two_pow];by_cases a:i<c
 ·rw[if_pos a,b i a];simp;omega
 ·rw[if_neg a]
  by_cases d:i=c
  ·subst d;simp[h,hc]
  ·rw[if_neg d]
   cases x.testBit i<;>simp<;>omega
theorem PI{c x:Nat}(h:x.testBit c=true)(d:∀j,j<c→x.testBit j=false)(i:Nat):(x&&&(x-1)).testBit i=(x.testBit i&&decide (c<i)):=by
 rw[ir,Ea h d];by_cases a:i<c
 ·rw[if_pos a,d i a];rfl
 ·rw[if_neg a]
  by_cases b:i=c
  ·subst b;simp
  ·rw[if_neg b]
   have:c<i:=by omega
   simp[this]
end Go.Proofs
namespace Go.Proofs
open Go Go.Lift
theorem Q9{β:Type}{g:Nat→Option β}{n:Nat}{y:β}:y∈fm g n↔∃c,c<n∧g c=some y:=by
 unfold fm;rw[List.mem_filterMap];exact⟨fun⟨c,b,a⟩=>⟨c,fW.1 b,a⟩,fun⟨c,b,a⟩=>⟨c,fW.2 b,a⟩⟩
def wl(x:Hs):Nat→List Pr→List Pr
 |0,l=>l
 |m+1,l=>fQ x (12-m) l++(iA x (12-m) l).flatMap (wl x m)
theorem Hm(x:Hs)(m:Nat)(l:List Pr):wl x (m+1) l=fQ x (12-m) l++(iA x (12-m) l).flatMap (wl x m):=rfl
theorem Ei{x:Hs}{p:Pr}:∀(m:Nat) {l:List Pr},p∈wl x m l↔p∈l
 |0,_=>tN
 |m+1,l=>by
  rw[Hm,bM,List.mem_flatMap];constructor
  ·rintro(h|⟨L,d,h⟩)
   ·exact pI h
   ·obtain⟨_,c,rfl⟩:=mE d
    exact(kU.1 ((Ei m).1 h)).1
  ·intro h
   have hm:p∈part x (12-m) (ck x (12-m) p.1) l:=kU.2 ⟨h,rfl⟩;have hc:=x8 x (12-m) p.1;rcases d:part x (12-m) (ck x (12-m) p.1) l with _|⟨a,_|⟨b,r⟩⟩
   ·rw[d]at hm;cases hm
   ·left
    rw[d]at hm;rw[aq.1 hm];unfold fQ;exact Q9.2 ⟨_,hc,by show gL (part x (12-m) (ck x (12-m) p.1) l)=_;rw[d];rfl⟩
   ·right
    refine⟨a::b::r,?_,(Ei m).2 (by rw[←d];exact hm)⟩;unfold iA;exact Q9.2 ⟨_,hc,by show eL (part x (12-m) (ck x (12-m) p.1) l)=_;rw[d];rfl⟩
theorem Ku{f:List Pr→List Pr}(h:∀l,(f l).length≤l.length):∀ls:List (List Pr),(ls.flatMap f).length≤ls.flatten.length
 | []=>aj _
 |l::ls=>by
  have b:=h l;have a:=Ku h ls;rw[aR,List.flatten_cons,ad,ad];omega
theorem Hn(x:Hs):∀(m:Nat) (l:List Pr),(wl x m l).length≤l.length
 |0,_=>aj _
 |m+1,l=>by
  rw[Hm,ad];have b:=uv x (12-m) l;have a:=Ku (Hn x m) (iA x (12-m) l);omega
theorem UN{x:Hs}{m:Nat}{l:List Pr}(d:cx l):Ju (wl x m l)=l:=by
 refine xi (Gq _) d fun p=>?_
 rw[N7];constructor
 ·intro h;exact(Ei m).1 (GM h)
 ·intro h
  have c:p∈(wl x m l).filter fun q=>decide (q.1=p.1):=List.mem_filter.2 ⟨(Ei m).2 h,decide_eq_true rfl⟩
  have a:jM (wl x m l) p.1≠none:=by
   unfold jM;intro e;rw[List.getLast?_eq_none_iff]at e;rw[e]at c;cases c
  cases hl:jM (wl x m l) p.1 with
  |none=>exact absurd hl a
  |some q=>
   have b:=Pv hl;have f:=(Ei m).1 (GM hl);have i:(p.1,q.2)∈l:=by rw[←b];exact f
   have g:=D7 d (k:=p.1) (v:=p.2) (w:=q.2) h i;rw[Prod.ext b g.symm]
def cw(x:Hs):Nat→List Pr→Nat
 |0,_=>2
 |m+1,l=>2+((iA x (12-m) l).map (cw x m)).sum
structure Fr where
 sp:SliceV
 sk:SliceV
 n:Nat
 ps:List Pr
 ks:List (Nat×List Pr)
abbrev Qb(v:SliceV×SliceV):List Value:= [sv v.1,sv v.2]
theorem Rr(x:SliceV×SliceV):(Qb x).length=2∧0<2:=⟨rfl,by omega⟩
def Fr.raw(f:Fr):SliceV×SliceV:=(f.sp,f.sk)
def Fr.rem(x:Hs)(f:Fr):List Pr:=f.ps++f.ks.flatMap fun k=>wl x (f.n-1) k.2
def Fr.cost(x:Hs)(f:Fr):Nat:=1+(f.ks.map fun k=>cw x (f.n-1) k.2).sum
def Bs(x:Hs)(l:List Fr):List Pr:=l.reverse.flatMap (Fr.rem x)
def Cy(x:Hs)(l:List Fr):Nat:=(l.map (Fr.cost x)).sum
theorem xj(x:Hs)(l:List Fr)(f:Fr):Bs x (l++ [f])=f.rem x++Bs x l:=by unfold Bs;rw[List.reverse_append];rfl
theorem yY(x:Hs)(l:List Fr)(f:Fr):Cy x (l++ [f])=Cy x l+f.cost x:=by unfold Cy;rw[bZ,List.sum_append];simp
abbrev Kg(k:Nat×List Pr):Option Addr:=some ⟨k.1,0,none⟩
structure Fr.Ok(W G:Nat→Prop)(x:Hs)(h:ae)(f:Fr):Prop where
 p:Sl eg 2 (fun y=>¬G y) h f.sp f.ps
 k:Sl p6 1 (fun y=>¬G y) h f.sk (f.ks.map Kg)
 pc:f.sp.len≤f.sp.cap
 kc:f.sk.len≤f.sk.cap
 t:∀k∈f.ks,TrieAt W x h (f.n-1) k.1 k.2∧k.2.length≤100000
 n0:f.ks≠[]→0<f.n
 n13:f.n≤13
theorem Fr.Ok.upd{W G M:Nat→Prop}{x:Hs}{h c:ae}{f:Fr}(o:f.Ok W G x h)(k:Upd M h c)(e:∀b,M b→W b∨h.size≤b)(d:∀b,M b→¬G b∨h.size≤b):f.Ok W G x c:=
 ⟨o.p.upd k d,o.k.upd k d,o.pc,o.kc,fun q a=>⟨TrieAt.updM k e (o.t q a).1,(o.t q a).2⟩,o.n0,o.n13⟩
theorem Fr.Ok.sub{W G G':Nat→Prop}{x:Hs}{h:ae}{f:Fr}(o:f.Ok W G x h)(d:∀b,G b→G' b):f.Ok W G' x h:=
 ⟨o.p.less fun b c=>.inl fun a=>c (d b a),o.k.less fun b c=>.inl fun a=>c (d b a),o.pc,o.kc,o.t,o.n0,o.n13⟩
abbrev Wo(s:SliceV)(d:Int):Array Value:= #[sv s,.int .i64 d]
structure CurW(W G C:Nat→Prop)(x:Hs)(h:ae)(cb:Nat)(fs:List Fr):Prop where
 ex:∃s d,h[cb]? =some (.cells (Wo s d) xX (0,0))∧OwnS Qb 2 dY C h s (fs.map Fr.raw)
 ok:∀f∈fs,f.Ok W G x h
 lt:∀b,(C b∨G b)→b<h.size
 dj:∀b,G b→¬C b∧b≠cb
 cc:¬C cb
 cw:(∀b,C b→W b)∧W cb
 lv:fs.Pairwise fun f g=>g.n<f.n
theorem CurW.upd{W G C M:Nat→Prop}{x:Hs}{h i:ae}{cb:Nat}{g:List Fr}(c:CurW W G C x h cb g)(k:Upd M h i)(t:∀b,M b→W b∨h.size≤b)(m:∀b,C b→¬M b)(p:∀b,G b→¬M b)(a:¬M cb):CurW W G C x i cb g:=by
 obtain⟨s,d,o,j⟩:=c.ex;exact⟨⟨s,d,k.get o a,j.upd k m⟩,fun f q=>(c.ok f q).upd k t fun b e=>.inl fun n=>p b n e,fun b e=>bI (c.lt b e) k.size,c.dj,c.cc,c.cw,c.lv⟩
theorem Rc:∀{a:List Fr} {n:Nat},a.Pairwise (fun f g=>g.n<f.n)→(∀f∈a,f.n≤n)→a.length≤n+1
 | [],_,_,_=>aS _
 |f::a,n,b,hn=>by
  have b:=ba.1 b;have d:=hn f (av ..);rcases a with _|⟨g,a⟩
  ·simp
  ·have c:=b.1 g (av ..)
   have:=Rc (n:=f.n-1) b.2 fun g c=>by have:=b.1 g c;omega
   rw[az];omega
theorem setCell{α:Type}{f:α→List Value}{c:Nat}{t:TypeId}{M:Nat→Prop}{h:ae}{s:SliceV}{P Q:List α}{x y:α}{j:Nat}{v:Value}(n:OwnS f c t M h s (P++x::Q))(F:j<c)(B:f y=(f x).set j v){a:Addr}(A:s.a=some a){i:Nat}(hi:i=P.length){G:ae→Prop}(E:∀g,OwnS f c t M g s (P++y::Q)→Upd M h g→G g):
  Wr h (adr (adr a (i*c)) j)∧At (hset h (adr (adr a (i*c)) j) v) G:=by
 subst hi;have p:=n.ne;have d:=n.len;have m:=n.cap;rcases n.blk with J|⟨b,e,k,w,hc,C⟩
 ·rw[ad,az]at d;omega
 rw[A]at k;cases k;have H:(P.flatMap f).length=P.length*c:=kK p P;rw[bq,aR]at hc;have I:=(p x).1;have D:adr (adr ⟨b,0,none⟩ (P.length*c)) j=⟨b,P.length*c+j,none⟩:=by rw[bV,bV,Nat.zero_add]
 rw[D];have u:P.length*c+j<(P.flatMap f++(f x++Q.flatMap f)++e).toArray.size:=by
  simp only[List.size_toArray,ad];omega
 refine⟨iX hc u,vB hc fun g o q=>E g ⟨by rw[d];simp,p,m,.inr ⟨b,e,A,w,?_,C⟩⟩ (q.mono fun z hz=>.inl (by have hz:z=b:=hz;rw[hz];exact w))⟩
 rw[o];congr 3
 rw[bq,aR,B];apply Array.toList_inj.1;rw[Array.toList_setIfInBounds];simp only[au];rw[List.set_append_right _ _ (by omega),show P.length*c+j-(P.flatMap f).length=j by omega,List.set_append_left _ _ (by omega)]
theorem GO{W:Nat→Prop}{x:Hs}{h:ae}{m:Nat}:∀{ks:List (Option Addr)} {ls:List (List Pr)},KidsAt W x h m ks ls→∃q:List (Nat×List Pr),ks=q.map Kg∧ls=q.map (·.2)∧∀k∈q,TrieAt W x h m k.1 k.2
 | [],[],_=>⟨[],rfl,rfl,fun k b=>by cases b⟩
 |_::_,[],h=>h.elim
 | [],_::_,h=>h.elim
 |k::ks,l::ls,b=>by
  obtain⟨⟨f,e,t⟩,i⟩:=b;obtain⟨q,c,d,g⟩:=GO i;refine⟨(f,l)::q,by rw[e,c];rfl,by rw[d];rfl,fun k' a=>?_⟩
  rcases aw.1 a with rfl|a
  ·exact t
  ·exact g k' a
theorem Gk{W:Nat→Prop}{x:Hs}{h:ae}{m b:Nat}{l:List Pr}(t:TrieAt W x h m b l)(hm:m≤13)(U:l.length≤100000){K:SliceV×SliceV→ae→Prop}
  (w:∀h' f,f.n=m→Fr.rem x f=wl x m l→f.cost x+1=cw x m l→f.Ok W (fun y=>h.size≤y∧y<h'.size) x h'→Upd No h h'→K f.raw h'):HC PG uy [.pointer (some ⟨b,0,none⟩)] [.agg [.slice,.slice]] K h:=by
 refine Hd (some ⟨b,0,none⟩) ?_;unfold B8 cS eP Qm VL;refine aP fun i b1 k1=>?_
 have S:=TrieAt.upd0 k1 (TrieAt.less (W':=Pro W h i) Pro.hm t);obtain⟨d,n,sp,sk,Q,ow,E,q,z,u,o,Y,hq,L,hcw,C,N⟩:∃d n sp sk Q ow E,∃q:List (Nat×List Pr),i[b]? =some (.cells (fR d n sp sk Q ow) bT (0,0))∧Sl eg 2 (Pro W h i) i sp E∧Sl p6 1 (Pro W h i) i sk (q.map Kg)∧E.length≤100000∧q.length≤32∧(E++q.flatMap fun k=>wl x (m-1) k.2)=wl x m l∧2+(q.map fun k=>cw x (m-1) k.2).sum=cw x m l∧(∀k∈q,TrieAt (Pro W h i) x i (m-1) k.1 k.2∧k.2.length≤100000)∧(q≠[]→0<m):=by
  cases m with
  |zero=>
   obtain⟨sp,sk,ow,z,u,o,_⟩:=BuckAt.ex S;exact⟨0,0,sp,sk,true,ow,l,[],z,u,o,U,by simp,by simp[wl],by simp[cw],fun k w=>(by cases w),fun h=>absurd rfl h⟩
  |succ m=>
   obtain⟨s,nd,G⟩:=S;have G:∀c,c<32→SlotIs (Pro W h i) x i m s c (part x (12-m) c l):=G;obtain⟨d,n,sp,sk,ow,z,bits,u,o,_⟩:=nd.ex;have J:=H4 (W:=Pro W h i) (x:=x) (h:=i) (m:=m) (lev:=12-m) (s:=s) (l:=l) 32 G;obtain⟨q,V,D,e3⟩:=GO J;have D:iA x (12-m) l=q.map (·.2):=D
   have B:=zN G;have hsl:=uv x (12-m) l;have R:=vO (g:=s.k);have Z:q.length=(fm s.k 32).length:=by rw[V,bH]
   refine⟨d,n,sp,sk,false,ow,fm s.p 32,q,z,u,by rw[←V];exact o,by rw[B];omega,by omega,?_,?_,fun k w=>⟨e3 k w,?_⟩,fun _=>Nat.succ_pos _⟩
   ·rw[Hm,B,D,List.flatMap_map];rfl
   ·show _=2+_
    rw[D,ry];rfl
   ·have:k.2∈iA x (12-m) l:=by rw[D];exact g8.2 ⟨k,w,rfl⟩
    obtain⟨_,c,hc⟩:=mE this;rw[hc];exact aX jX U
 refine oH z u (by omega) fun P h2 A j=>?_
 refine Dk (j.get0 z) (o.upd j fun _ h=>h.elim) (by rw[bH];omega) fun O h3 F v=>?_
 have b3:=v.get0 (j.get0 b1);have z1:=k1.size;have z2:=j.size;have z3:=v.size;have zb:=aN b1;refine cC (c:= [.slice none 0 0,.slice none 0 0]) (vs:= [sv P,sv O]) b3 rfl fun T X p=>?_
 refine⟨P,vc X 0,O,vc X 1,?_⟩;have z4:=p.size;have I:Upd No h T:=((k1.tr j).tr v).own p (aj _);refine w T ⟨P,O,m,E,q⟩ rfl L (by unfold Fr.cost;simp only;omega) ⟨?_,?_,A.cap,F.cap,fun k w=>⟨TrieAt.less (W:=Pro W h i) (fun y a=>.inl (.inl a)) (TrieAt.updM (M:=(· =h.size)) p (fun y a=>.inl (.inr (by have a:y=h.size:=a;omega))) (TrieAt.upd0 (j.tr v) (C k w).1)),(C k w).2⟩,N,hm⟩ I
 ·exact(((A.upd v fun _ _ h=>h).within).upd p fun y a e=>by have e:y=h.size:=e;have:=a.1;omega).sl fun y a _ H=>H ⟨by have:=a.1;omega,by have:=a.2;omega⟩
 ·exact(F.within.upd p fun y a e=>by have e:y=h.size:=e;have:=a.1;omega).sl fun y a _ H=>H ⟨by have:=a.1;omega,by have:=a.2;omega⟩
end Go.Proofs
