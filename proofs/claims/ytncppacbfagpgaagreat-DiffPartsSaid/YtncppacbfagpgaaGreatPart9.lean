/- A part of the proof that the named laws of this program answer true, whatever the input. -/
import Derived.Test.YtncppacbfagpgaaGreatPart8
import Derived.Test.YtncppacbfagpgaaGreatPart4
import Derived.Test.YtncppacbfagpgaaGreatPart7
import Derived.Test.YtncppacbfagpgaaGreatPart6
open Bool renaming and_eq_true→bc,eq_iff_iff→gS
open ByteArray renaming data_extract→lN
open Int renaming toNat_natCast→aS,tmod→oQ
open List renaming cons_append→ci,cons→eJ,take_succ_cons→fC,length_cons→aj,take_append_drop→aE,length→ef,length_drop→aN,length_nil→aB,pairwise_append→bH,mem_append_left→cg,mem_append_right→co,mem_cons_self→ar,mem_of_getLast?→iC,mem_cons→az,pairwise_cons→aA,mem_append→bd,mem_singleton→aC,take_length→bV,append_nil→aG,take_take→gu,length_take→aI,mem_cons_of_mem→aD,append_assoc→ao,pairwise_singleton→bU,sublist_append_right→nT,getElem?_eq_getElem→ai,length_singleton→aJ,length_append→ac,getElem?_append_right→aH,length_eq_zero_iff→av,take_of_length_le→aW,length_pos_iff→gF,take_succ_eq_append_getElem→bh,foldl_cons→iU,find?_cons→oY,filter_eq_self→kw,any_eq_true→bT,mem_range→gz
open List.Pairwise renaming nil→gB
open Nat renaming le_refl→aq,min_eq_left→bo,sub_self→dk,le_trans→aZ,lt_of_lt_of_le→ay,zero_le→be,min_eq_right→gd,zero_testBit→nS
open Option renaming some→bG
namespace Go.Proofs
open Go Go.Lift
theorem wg{a b:ByteArray}:kl a b↔Op.bytesLess a.data.toList b.data.toList=true:=by unfold kl;rw[ByteArray.toList_eq,ByteArray.toList_eq]
theorem yC{a b:UInt8}{x y:List UInt8}:Op.bytesLess (a::x) (b::y)=true↔a.toNat<b.toNat∨(a=b∧Op.bytesLess x y=true):=by
 simp only[Op.bytesLess,Bool.or_eq_true,decide_eq_true_iff,bc,beq_iff_eq,UInt8.lt_iff_toNat_lt]
theorem Ks(x:List UInt8):Op.bytesLess x []=false:=by cases x<;>rfl
theorem ON{x y:List UInt8}:∀pre:List UInt8,Op.bytesLess (pre++x) (pre++y)=true↔Op.bytesLess x y=true
 | []=>Iff.rfl
 |a::pre=>by rw[ci,ci,yC,ON pre];simp
theorem VT{x y:List UInt8}(h:Op.bytesLess x y=true)(hx:x≠[])(hy:y≠[]):hd x≤hd y:=by
 match x,y,hx,hy with
 |a::x,b::y,_,_=>
  show a.toNat≤b.toNat
  rcases yC.1 h with h|⟨rfl,_⟩<;>omega
theorem Lp:∀(t:Nat) {f p g:List UInt8},t≤cm f g→(f=p∨Op.bytesLess f p=true)→(p=g∨Op.bytesLess p g=true)→p.take t=f.take t∧t≤p.length
 |0,f,p,g,_,_,_=>by simp
 |t+1,[],p,g,h,_,_=>by simp[cm]at h
 |t+1,a::f,p,[],h,_,_=>by simp[cm]at h
 |t+1,a::f,p,b::g,h,h1,h2=>by
  unfold cm at h;split at h
  ·rename_i e
   subst e;rcases p with _|⟨c,p⟩
   ·rcases h1 with h1|h1
    ·cases h1
    ·rw[Ks]at h1;cases h1
   ·have hc:c=a:=by
     rcases h1 with h1|h1
     ·exact(eJ.inj h1).1.symm
     ·rcases h2 with h2|h2
      ·exact(eJ.inj h2).1
      ·have q1:=yC.1 h1
       have q2:=yC.1 h2;rcases q1 with q1|⟨q1,_⟩
       ·rcases q2 with q2|⟨q2,_⟩
        ·omega
        ·exact q2
       ·exact q1.symm
    subst hc;have:=Lp t (f:=f) (p:=p) (g:=g) (by omega) (h1.imp (fun h=>(eJ.inj h).2) fun h=>by
     rcases yC.1 h with h|⟨_,h⟩
     ·omega
     ·exact h) (h2.imp (fun h=>(eJ.inj h).2) fun h=>by
     rcases yC.1 h with h|⟨_,h⟩
     ·omega
     ·exact h)
    rw[fC,fC,this.1,aj];exact⟨rfl,by omega⟩
  ·omega
theorem Qd:∀f:List UInt8,cm f f=f.length
 | []=>rfl
 |a::f=>by unfold cm;rw[if_pos rfl,Qd f];rfl
abbrev ky(p:Pr):List UInt8:=p.1.data.toList
def UK(l:List Pr)(pre k:List UInt8)(v:ByteArray):Prop:=∃p∈l,ky p=pre++k∧p.2=v
structure Beg(l:List Pr)(pre:List UInt8):Prop where
 up:bD l
 at_:∀p∈l,(ky p).take pre.length=pre∧pre.length<(ky p).length
theorem Beg.sub{l l':List Pr}{pre:List UInt8}(b:Beg l pre)(h:l'.Sublist l):Beg l' pre:=⟨b.up.sublist h,fun p hp=>b.at_ p (h.subset hp)⟩
theorem Beg.split{l:List Pr}{pre:List UInt8}(b:Beg l pre){p:Pr}(hp:p∈l):ky p=pre++(ky p).drop pre.length∧(ky p).drop pre.length≠[]:=by
 obtain⟨h1,h2⟩:=b.at_ p hp;refine⟨?_,fun e=>?_⟩
 ·conv=>lhs;rw[←aE pre.length (ky p),h1]
 ·have:=congrArg ef e
  rw[aN,aB]at this;omega
def bt(n:Nat)(p:Pr):Nat:=hd ((ky p).drop n)
theorem Beg.mono{A B:List Pr}{pre:List UInt8}(b:Beg (A++B) pre){x y:Pr}(hx:x∈A)(hy:y∈B):bt pre.length x≤bt pre.length y:=by
 have h:=(bH.1 b.up).2.2 x hx y hy;rw[wg]at h;obtain⟨e1,n1⟩:=b.split (cg B hx);obtain⟨e2,n2⟩:=b.split (co A hy);change Op.bytesLess (ky x) (ky y)=true at h;rw[e1,e2,ON]at h;exact VT h n1 n2
theorem Jk{l:List Pr}{pre:List UInt8}{f g:Pr}(b:Beg l pre)(hf:∃r,l=f::r)(hg:l.getLast? =some g)(hb:bt pre.length f=bt pre.length g):
  pre.length<cm (ky f) (ky g)∧cm (ky f) (ky g)≤(ky f).length∧(∀p∈l,(ky p).take (cm (ky f) (ky g))=(ky f).take (cm (ky f) (ky g)))∧(∀p∈l,p=f∨cm (ky f) (ky g)<(ky p).length)∧
   (cm (ky f) (ky g)<(ky f).length→cm (ky f) (ky g)<(ky g).length∧hd ((ky f).drop (cm (ky f) (ky g)))≠hd ((ky g).drop (cm (ky f) (ky g)))):=by
 obtain⟨r,rfl⟩:=hf;have hfm:f∈f::r:=ar ..;have hgm:g∈f::r:=iC hg;obtain⟨e1,n1⟩:=b.split hfm;obtain⟨e2,n2⟩:=b.split hgm;have hcp:pre.length<cm (ky f) (ky g):=by
  have:∀(q x y:List UInt8),cm (q++x) (q++y)=q.length+cm x y:=by
   intro q x y;induction q with
   |nil=>simp
   |cons a q ih=>simp only[ci,cm,if_true,ih,aj];omega
  have h1:=this pre ((ky f).drop pre.length) ((ky g).drop pre.length);rw[←e1,←e2]at h1;have h2:=Tb n1 n2 hb;omega
 have hle:=Td (ky f) (ky g);have hfp:∀p∈f::r,ky f=ky p∨Op.bytesLess (ky f) (ky p)=true:=fun p hp=>by
  rcases az.1 hp with rfl|hp
  ·exact .inl rfl
  ·exact .inr (wg.1 ((aA.1 b.up).1 p hp))
 have hpg:∀p∈f::r,ky p=ky g∨Op.bytesLess (ky p) (ky g)=true:=fun p hp=>by
  rcases List.eq_nil_or_concat (f::r)with h|⟨l',y,h⟩
  ·cases h
  ·rw[List.concat_eq_append]at h
   rw[h,List.getLast?_concat]at hg;cases hg;have hup:=b.up;rw[h]at hp hup;rcases bd.1 hp with hp|hp
   ·exact .inr (wg.1 ((bH.1 hup).2.2 p hp g (aC.2 rfl)))
   ·rw[aC.1 hp];exact .inl rfl
 have hsw:∀p∈f::r,(ky p).take (cm (ky f) (ky g))=(ky f).take (cm (ky f) (ky g))∧cm (ky f) (ky g)≤(ky p).length:=fun p hp=>Lp _ (aq _) (hfp p hp) (hpg p hp)
 have hne:∀p∈f::r,p=f∨cm (ky f) (ky g)<(ky p).length:=fun p hp=>by
  obtain⟨h1,h2⟩:=hsw p hp;rcases Nat.lt_or_ge (cm (ky f) (ky g)) (ky p).length with h|h
  ·exact .inr h
  ·left
   have hl:(ky p).length=cm (ky f) (ky g):=by omega
   have e:ky p=(ky f).take (cm (ky f) (ky g)):=by rw[←h1,←hl,bV]
   rcases az.1 hp with rfl|hp
   ·rfl
   ·have hk:=wg.1 ((aA.1 b.up).1 p hp)
    change Op.bytesLess (ky f) (ky p)=true at hk;exfalso;have e3:ky f=ky p++(ky f).drop (cm (ky f) (ky g)):=by rw[e,aE]
    have h4:Op.bytesLess (ky p++(ky f).drop (cm (ky f) (ky g))) (ky p++ [])=true:=by rw[aG,←e3];exact hk
    rw[ON,Ks]at h4;cases h4
 refine⟨hcp,hle.1,fun p hp=>(hsw p hp).1,hne,fun hlt=>?_⟩
 have hgl:cm (ky f) (ky g)<(ky g).length:=by
  rcases hne g hgm with h|h
  ·exfalso
   rw[h,Qd]at hlt;omega
  ·exact h
 exact⟨hgl,Kp _ _ hlt hgl⟩
theorem OL{l l':List Pr}{pre:List UInt8}{f g:Pr}(b:Beg l pre)(hf:∃r,l=f::r)(hg:l.getLast? =some g)(hb:bt pre.length f=bt pre.length g){F:Fo}(hc:fz F)
  (hl':l'=if(ky f).length=cm (ky f) (ky g)then l.drop 1 else l)(hF:∀k v,qu F k v↔UK l' ((ky f).take (cm (ky f) (ky g))) k v){w:Option ByteArray}(hw:w=if(ky f).length=cm (ky f) (ky g)then some f.2 else none){lab:List UInt8}(hlab:lab=((ky f).take (cm (ky f) (ky g))).drop pre.length):
  KM (lab,w,F)∧hd lab=bt pre.length f∧∀k v,tg (lab,w,F) k v↔UK l pre k v:=by
 obtain⟨h1,h2,h3,h4,h5⟩:=Jk b hf hg hb;obtain⟨r,rfl⟩:=hf;have hfm:f∈f::r:=ar ..;have hgm:g∈f::r:=iC hg;generalize cm (ky f) (ky g)=to at*;have epre:pre++lab=(ky f).take to:=by
  have:=(b.at_ f hfm).1;rw[hlab];conv=>rhs;rw[←aE pre.length ((ky f).take to),gu,bo (by omega),this]
 have hlab0:lab≠[]:=fun e=>by
  have:=congrArg ef hlab;rw[e,aB,aN,aI]at this;omega
 have hin:∀k v,tg (lab,w,F) k v↔UK (f::r) pre k v:=by
  intro k v;constructor
  ·rintro⟨q,e,⟨rfl,e2⟩|e2⟩
   ·simp only at e e2
    rw[aG]at e;subst e;rw[hw]at e2;split at e2
    ·rename_i hto
     cases e2;refine⟨f,hfm,?_,rfl⟩;rw[epre,←hto,bV]
    ·cases e2
   ·simp only at e e2
    obtain⟨p,hp,e3,rfl⟩:=(hF q v).1 e2;refine⟨p,?_,?_,rfl⟩
    ·rw[hl']at hp
     split at hp
     ·exact aD _ hp
     ·exact hp
    ·rw[e3,e,←ao,epre]
  ·rintro⟨p,hp,e,rfl⟩
   have hpt:=h3 p hp;have ep:ky p=pre++(lab++(ky p).drop to):=by
    rw[←ao,epre,←hpt,aE]
   have ek:k=lab++(ky p).drop to:=List.append_cancel_left (e.symm.trans ep);refine⟨(ky p).drop to,ek,?_⟩;by_cases hto:(ky f).length=to
   ·rw[if_pos hto]at hw hl'
    rcases az.1 hp with rfl|hp
    ·left
     refine⟨List.drop_eq_nil_of_le (by omega),?_⟩;simp only;rw[hw]
    ·right
     refine(hF _ _).2 ⟨p,by rw[hl'];exact hp,?_,rfl⟩
     rw[←hpt,aE]
   ·rw[if_neg hto]at hw hl'
    right;refine(hF _ _).2 ⟨p,by rw[hl'];exact hp,?_,rfl⟩
    rw[←hpt,aE]
 refine⟨⟨hlab0,?_,hc⟩,?_,hin⟩
 ·by_cases hto:(ky f).length=to
  ·left;simp only;rw[hw,if_pos hto];rfl
  ·have hlt:to<(ky f).length:=by omega
   obtain⟨hgl,hne⟩:=h5 hlt;refine(Gy hc).2 (.inr ⟨(ky f).drop to,(ky g).drop to,f.2,g.2,.inr ?_,.inr ?_,fun e=>?_,fun e=>?_,hne⟩)
   ·exact(hF _ _).2 ⟨f,by rw[hl',if_neg hto];exact hfm,(aE ..).symm,rfl⟩
   ·exact(hF _ _).2 ⟨g,by rw[hl',if_neg hto];exact hgm,by rw[←h3 g hgm,aE],rfl⟩
   ·have:=congrArg ef e
    rw[aN,aB]at this;omega
   ·have:=congrArg ef e
    rw[aN,aB]at this;omega
 ·have e:=(b.split hfm).1
  unfold bt;have e2:(ky f).drop pre.length=lab++(ky f).drop to:=by
   have h6:ky f=pre++(lab++(ky f).drop to):=by rw[←ao,epre,aE]
   conv=>lhs;rw[h6]
   rw[List.drop_left]
  rw[e2,nX hlab0]
structure Row(L:List Bn)(D T:List Pr)(pre:List UInt8):Prop where
 can:∀n∈L,KM n
 up:L.Pairwise fun m n=>hd m.1<hd n.1
 lo:∀n∈L,∀p∈T,hd n.1<bt pre.length p
 got:∀k v,(∃n∈L,tg n k v)↔UK D pre k v
theorem Row.nil(T:List Pr)(pre:List UInt8):Row [] [] T pre:=⟨fun n h=>(by cases h),gB,fun n h=>(by cases h),fun k v=>⟨fun⟨n,h,_⟩=>(by cases h),fun⟨p,h,_⟩=>(by cases h)⟩⟩
theorem Row.more{L:List Bn}{D A B:List Pr}{pre:List UInt8}{n:Bn}{p:Pr}(r:Row L D (A++B) pre)(bg:Beg (A++B) pre)(hp:p∈A)(hA:∀a∈A,bt pre.length a=bt pre.length p)(hB:∀b B',B=b::B'→bt pre.length b≠bt pre.length p)(hc:KM n)(hn:hd n.1=bt pre.length p)(hg:∀k v,tg n k v↔UK A pre k v):Row (L++ [n]) (D++A) B pre:=by
 refine⟨fun m hm=>?_,bH.2 ⟨r.up,bU ..,fun a ha b hb=>?_⟩,fun m hm q hq=>?_,fun k v=>?_⟩
 ·rcases bd.1 hm with hm|hm
  ·exact r.can m hm
  ·rw[aC.1 hm];exact hc
 ·rw[aC.1 hb,hn]
  exact r.lo a ha p (cg _ hp)
 ·rcases bd.1 hm with hm|hm
  ·exact r.lo m hm q (co _ hq)
  ·rw[aC.1 hm,hn]
   rcases B with _|⟨b0,B'⟩
   ·cases hq
   have h1:=hB b0 B' rfl;have h2:=bg.mono hp (ar (a:=b0) (l:=B'));rcases az.1 hq with rfl|hq
   ·omega
   ·have bg':Beg ([b0]++B') pre:=bg.sub (nT A _)
    have:=bg'.mono (aC.2 rfl) hq;omega
 ·constructor
  ·rintro⟨m,hm,hi⟩
   rcases bd.1 hm with hm|hm
   ·obtain⟨q,hq,e⟩:=(r.got k v).1 ⟨m,hm,hi⟩
    exact⟨q,cg _ hq,e⟩
   ·rw[aC.1 hm]at hi
    obtain⟨q,hq,e⟩:=(hg k v).1 hi;exact⟨q,co _ hq,e⟩
  ·rintro⟨q,hq,e⟩
   rcases bd.1 hq with hq|hq
   ·obtain⟨m,hm,hi⟩:=(r.got k v).2 ⟨q,hq,e⟩
    exact⟨m,cg _ hm,hi⟩
   ·exact⟨n,co _ (aC.2 rfl),(hg k v).2 ⟨q,hq,e⟩⟩
theorem Row.done{L:List Bn}{D:List Pr}{pre:List UInt8}(r:Row L D [] pre):fz (.ofL L)∧∀k v,qu (.ofL L) k v↔UK D pre k v:=by
 refine⟨dU.2 ?_,fun k v=>?_⟩
 ·rw[Fo.to_of];exact⟨r.up,r.can⟩
 ·rw[fD,Fo.to_of];exact r.got k v
end Go.Proofs
namespace Go.Proofs
open Go Go.Lift
theorem S4(s:ByteArray)(a b:Nat):(s.extract a b).data.toList=(s.data.toList.take b).drop a:=by
 rw[lN,Array.toList_extract,List.extract_eq_take_drop,List.drop_take]
theorem SU(s:ByteArray):s.data.toList.length=s.size:=by simp
theorem Kid.less{W W':Nat→Prop}{h:af}(hm:∀b,W' b→W b∨h.size≤b){a:Option Addr}{n:Bn}:Kid W h a n→Kid W' h a n
 |⟨b,sl,e1,e2,e3⟩=>⟨b,sl,e1,e2,e3.less hm⟩
theorem Kid.updM{W M:Nat→Prop}{h h':af}(k:Upd M h h')(hm:∀b,M b→W b∨h.size≤b){a:Option Addr}{n:Bn}:Kid W h a n→Kid W h' a n
 |⟨b,sl,e1,e2,e3⟩=>⟨b,sl,e1,e2,e3.updM k hm⟩
theorem RxL.less{W W':Nat→Prop}{h:af}(hm:∀b,W' b→W b∨h.size≤b){ks:List (Option Addr)}{L:List Bn}(r:RxL W h ks L):RxL W' h ks L:=⟨r.1,fun p hp=>(r.2 p hp).less hm⟩
theorem RxL.updM{W M:Nat→Prop}{h h':af}(k:Upd M h h')(hm:∀b,M b→W b∨h.size≤b){ks:List (Option Addr)}{L:List Bn}(r:RxL W h ks L):RxL W h' ks L:=⟨r.1,fun p hp=>(r.2 p hp).updM k hm⟩
theorem Tj{p:Pr}{n:Nat}(h:n<(ky p).length):∃b:UInt8,p.1[n]? =some b∧b.toNat=bt n p:=by
 rw[QV];refine⟨(ky p)[n],ai h,?_⟩;unfold bt hd;rw[List.drop_eq_getElem_cons h];rfl
theorem MH{M:Nat→Prop}{h:af}{so:SliceV}{out:List (Option Addr)}{p:Option Addr}{K:SliceV→af→Prop}(ho:OwnS pC 1 aR M h so out)(hM:∀b,h.size≤b→M b)(hn:out.length+1≤1000000000)
  (hk:∀s' h',OwnS pC 1 aR M h' s' (out++ [p])→Upd M h h'→K s' h'):
  ∃xs,SRow (hnew h [.pointer p] aR) (some (ag h)) (1*1) xs∧AppP (some [.pointer none]) 1 8 aR so.a so.len so.cap 1 xs (hnew h [.pointer p] aR) K:=by
 have k:=Upd.hnew No h [.pointer p] aR;have h1:OwnS pC 1 aR (fun _=>True) (hnew h [.pointer p] aR) ⟨some (ag h),1,1⟩ [p]:=⟨rfl,mO,aq _,.inr ⟨h.size,[],rfl,trivial,bR ..,rfl⟩⟩
 refine⟨_,(h1.sl (W:=No) fun _ _ _ h=>h).srow,?_⟩
 refine AppP.own (ys:= [p]) (ho.upd k fun _ _ h=>h) rfl rfl rfl rfl (by omega) (by simp only[aJ];omega) (hM _ (by rw[hH];omega)) fun s' h' ho' hu=>?_
 exact hk s' h' ho' ((Upd.hnew M h _ _).tr hu)
theorem Im{W:Nat→Prop}{h:af}{s:SliceV}{ks:List (Option Addr)}{L:List Bn}(hs:Sl pC 1 No h s ks)(hL:RxL W h ks L)(hn:L.length≤100000)(hW:∀y,W y→y<h.size){label value:ByteArray}{has:Bool}{K:Option Addr→af→Prop}
  (hk:∀h' b,RxN W h' b label (if has then some value else none) (.ofL L)→Upd No h h'→K (some ⟨b,0,none⟩) h'):HC PG sw [.string label,.bool has,.string value,.slice s.a s.len s.cap] [.c .ptr] K h:=by
 refine KB label has value s ?_;unfold BN ae bS;refine bm fun h1 b1 k1=>?_
 have z1:=bF b1;have hlen:=hs.len;have hLl:=hL.1;refine Join.intro (fun _ h'=>∃val,h'[h.size]? =some (.cells (yY label has val ⟨none,0,0⟩ none) bM (0,0))∧val=(if has then value else⟨#[]⟩)∧Upd No h h') (fun R hR=>?_) ?_
 ·cases has with
  |true=>exact au.2 ⟨_,rfl,zr (i:=2) (c':=yY label true value ⟨none,0,0⟩ none) b1 (show 2<5 by decide) rfl fun h2 b2 hu2=>hR _ _ ⟨_,b2,rfl,k1.own hu2 (aq _)⟩⟩
  |false=>exact ak.2 (hR _ _ ⟨_,b1,rfl,k1⟩)
 rintro _ h2 ⟨val,b2,hval,k2⟩;refine LoopP.ghost (fun(g:List (Option Addr)×List (Option Addr)) (t:Int) h'=>t=(g.1.length:Int)∧ks=g.1++g.2∧(∃so,h'[h.size]? =some (.cells (yY label has val so none) bM (0,0))∧OwnS pC 1 aR (fun y=>h.size<y) h' so g.1)∧Upd No h h') (fun g=>g.2.length) ([],ks)
  ⟨rfl,rfl,⟨_,b2,OwnS.nil mO⟩,k2⟩ ?_
 rintro I ⟨K1,K2⟩ t h3 ⟨e1,e2,⟨so,b3,ho3⟩,k3⟩ hI;simp only at e1 e2 ho3;subst e1 e2;simp only[ac]at hlen hLl;have z3:=bF b3;refine ax (fun hlt=>?_) fun hge=>?_
 ·rcases K2 with _|⟨kp,K2⟩
  ·simp only[aB]at hlen;omega
  simp only[aj]at hlen hLl;refine Join.intro (fun _ h'=>(∃so,h'[h.size]? =some (.cells (yY label has val so none) bM (0,0))∧OwnS pC 1 aR (fun y=>h.size<y) h' so (K1++ [kp]))∧Upd No h h') (fun R hR=>?_) ?_
  ·obtain⟨kb,ksl,hki,_⟩:=hL.at (i:=K1.length) (by omega)
   have hkp:kp=some ⟨kb,0,none⟩:=by
    rw[aH (aq _),dk]at hki;exact bG.inj hki
   obtain⟨a,ha,_,hv⟩:=(hs.upd k3 fun _ h=>h.elim).at0 (i:=K1.length) (x:=kp) (by rw[aH (aq _),dk];rfl)
   refine⟨⟨by omega,by omega⟩,a,ha,kp,hv,?_⟩
   subst hkp;refine au.2 ⟨_,rfl,so,vc b3 3,bi ?_⟩;refine MH ho3 (fun b hb=>by omega) (by omega) fun s4 h4 ho4 hu4=>⟨_,rfl,?_⟩
   have b4:=hu4.get b3 (by simp);refine zr (i:=3) (c':=yY label has val s4 none) b4 (show 3<5 by decide) rfl fun h5 b5 hu5=>hR _ _ ⟨⟨s4,b5,ho4.upd hu5 fun x hx e=>by have e:x=h.size:=e;omega⟩,?_⟩
   exact(k3.trans hu4 fun x hx=>.inr (Nat.le_of_lt hx)).own hu5 (aq _)
  ·rintro _ h4 ⟨⟨s4,b4,ho4⟩,k4⟩
   have ew:IntKind.wrap .i64 ((K1.length:Int)+1)=((K1++ [kp]).length:Int):=by rw[ac,aJ,cS (by omega)];omega
   rw[ew];exact hI (K1++ [kp],K2) _ _ ⟨rfl,by simp,⟨s4,b4,ho4⟩,k4⟩ (by simp)
 ·have hK:K2= []:=av.1 (by omega)
  subst hK;rw[aG]at hL;refine hk h3 h.size ⟨val,so,none,K1,?_,?_,ho3.sl (fun x hx _ hw=>by have:=hW x hw;omega),⟨ho3.cap,fun hw=>by have:=hW _ hw;omega⟩,ki.2 (by rw[Fo.to_of];exact hL.upd0 k3)⟩ k3
  ·cases has<;>exact b3
  ·rw[hval];cases has<;>rfl
def Qk(B from_:Nat):Prop:=∀{W:Nat→Prop} {h:af} {s:SliceV} {l:List Pr} {pre:List UInt8},Sl eh 2 No h s l→s.len≤s.cap→Beg l pre→pre.length=from_→(∀p∈l,(ky p).length≤B)→l.length≤100000→(∀y,W y→y<h.size)→∀{K:SliceV→af→Prop},
 (∀h' s' ks L,OwnS pC 1 aR (fun y=>h.size≤y) h' s' ks→RxL W h' ks L→Row L l [] pre→Upd No h h'→K s' h')→HC PG sy [.slice s.a s.len s.cap,.int .i64 (from_:Int)] [.c .slice] K h
theorem OM{W:Nat→Prop}{B from_:Nat}(hB:B≤1000000)(hkids:∀to,from_<to→Qk B to){h:af}{s:SliceV}{l r:List Pr}{f g:Pr}{pre:List UInt8}(hs:Sl eh 2 No h s l)(hcap:s.len≤s.cap)(bg:Beg l pre)(hpre:pre.length=from_)(hlB:∀p∈l,(ky p).length≤B)(hn:l.length≤100000)(hW:∀y,W y→y<h.size)
  (hf:l=f::r)(hg:l.getLast? =some g)(hb:bt from_ f=bt from_ g){K:Option Addr→af→Prop}
  (hk:∀h' a n,Kid W h' a n→KM n→hd n.1=bt from_ f→(∀k v,tg n k v↔UK l pre k v)→Upd No h h'→K a h'):HC PG sX [.slice s.a s.len s.cap,.int .i64 (from_:Int)] [.c .ptr] K h:=by
 refine GM s from_ ?_;unfold yh ae bS;subst hpre;have hlen:=hs.len;have hl0:0<l.length:=by rw[hf];simp
 have hfm:f∈l:=by rw[hf];exact ar ..
 have hgm:g∈l:=iC hg;obtain⟨a,ha,_,hvf⟩:=hs.at (i:=0) (x:=f) (by rw[hf];rfl);obtain⟨a',ha',_,hvg⟩:=hs.at (i:=l.length-1) (x:=g) (by rw[←hg,List.getLast?_eq_getElem?]);rw[ha]at ha';cases ha';have ew:IntKind.wrap .i64 ((s.len:Int)-1)=((l.length-1:Nat):Int):=by rw[cS (by omega)];omega
 refine⟨⟨by omega,by omega⟩,a,ha,f.1,hvf 0 _ rfl,?_⟩
 rw[ew];have hsf:=hlB f hfm;have hszf:f.1.size=(ky f).length:=(SU f.1).symm;refine⟨⟨by omega,by omega⟩,a,ha,g.1,hvg 0 _ rfl,Jg (by omega) ?_⟩
 obtain⟨q1,q2,q3,q4,q5⟩:=Jk bg ⟨r,hf⟩ hg hb;have hbc:= @OL l (if(ky f).length=cm (ky f) (ky g)then l.drop 1 else l) pre f g bg ⟨r,hf⟩ hg hb
 obtain⟨to,hto⟩:∃to,cm (ky f) (ky g)=to:=⟨_,rfl⟩;rw[hto]at q1 q2 q3 q4 hbc;show _∧_
 change(_∧∃_,_∧_);have hto':cm f.1.data.toList g.1.data.toList=to:=hto;rw[hto'];refine⟨⟨by omega,by omega⟩,a,ha,f.1,hvf 0 _ rfl,⟨by omega,by omega⟩,⟨by omega,by rw[aS];omega⟩,⟨by omega,by omega⟩,a,ha,f.1,hvf 0 _ rfl,?_⟩
 have ehas:((f.1.size:Int)==(to:Int))=decide ((ky f).length=to):=by
  rw[gS,beq_iff_eq,decide_eq_true_iff];omega
 rw[ehas];have hlab:(f.1.extract (pre.length:Int).toNat (to:Int).toNat).data.toList=((ky f).take to).drop pre.length:=S4 ..;have hpl:((ky f).take to).length=to:=by rw[aI];omega
 refine Join.intro (fun(t:SliceV×ByteArray) h'=>h'=h∧Sl eh 2 No h t.1 (if(ky f).length=to then l.drop 1 else l)∧t.1.len≤t.1.cap∧((ky f).length=to→t.2=f.2)) (fun R hR=>?_) ?_
 ·refine ax (fun e=>?_) fun e=>?_
  ·refine⟨⟨by omega,by omega⟩,a,ha,f.2,hvf 1 _ rfl,⟨by omega,by omega⟩,hR _ _ ⟨rfl,?_,by simp only;omega,fun _=>rfl⟩⟩
   rw[if_pos e];have:=Sl.sub hs (l:=1) (hi:=l.length) (m:=s.cap) (c:=s.cap-1) (by omega) (aq _) (by omega);rw[aW (by rw[aN];omega),←hlen]at this;exact this
  ·exact hR _ _ ⟨rfl,by rw[if_neg e];exact hs,hcap,fun h=>absurd h e⟩
 rintro⟨s2,v2⟩ h' ⟨rfl,hs2,hc2,hv2⟩;simp only at hs2 hc2 hv2;have hsub:(if(ky f).length=to then l.drop 1 else l).Sublist l:=by
  split
  ·exact List.drop_sublist ..
  ·exact List.Sublist.refl _
 have hbeg:Beg (if(ky f).length=to then l.drop 1 else l) ((ky f).take to):=by
  refine⟨bg.up.sublist hsub,fun p hp=>?_⟩
  rw[hpl];refine⟨q3 p (hsub.subset hp),?_⟩;rcases q4 p (hsub.subset hp)with e|h
  ·subst e
   by_cases e2:(ky p).length=to
   ·rw[if_pos e2,hf]at hp
    have:=(aA.1 (hf▸bg.up)).1 p hp;exact absurd this (bQ _)
   ·omega
  ·exact h
 refine hkids to q1 hs2 hc2 hbeg hpl (fun p hp=>hlB p (hsub.subset hp)) (aZ hsub.length_le hn) hW fun h3 s3 ks L ho3 hL3 hrow hu3=>?_
 obtain⟨hcF,hgF⟩:=hrow.done;obtain⟨hcn,hhd,hin⟩:=hbc (F:=.ofL L) hcF rfl hgF rfl rfl;have hLl:L.length≤100000:=by
  have:=kq hcF;rw[Fo.to_of]at this;omega
 refine Im (W:=W) (ho3.sl fun _ _ _ h=>h) hL3 hLl (fun y hy=>ay (hW y hy) hu3.size) fun h4 b4 rn4 hu4=>?_
 have ew2:(if decide ((ky f).length=to)=true then some v2 else none)=if(ky f).length=to then some f.2 else none:=by
  by_cases e:(ky f).length=to
  ·rw[if_pos (decide_eq_true e),if_pos e,hv2 e]
  ·rw[if_neg (by simpa using e),if_neg e]
 rw[ew2]at rn4;exact hk h4 _ _ ⟨b4,_,rfl,hlab,rn4⟩ hcn hhd hin (hu3.tr hu4)
theorem IP{B from_:Nat}(hB:B≤1000000)(hkids:from_≤B→∀to,from_<to→Qk B to):Qk B from_:=by
 intro W h s l pre hs hcap bg hpre hlB hn hW K hk;refine KK s from_ ?_;unfold BW ae bS;refine bm fun h1 b1 k1=>?_
 subst hpre;refine LoopP.ghost (fun(g:List Pr×List Pr×List (Option Addr)×List Bn×(Nat→Prop)) (t:SliceV×SliceV) h'=>l=g.1++g.2.1∧Sl eh 2 (fun y=>h.size≤y) h' t.1 g.2.1∧t.1.len≤t.1.cap∧OwnS pC 1 aR g.2.2.2.2 h' t.2 g.2.2.1∧(∀y,g.2.2.2.2 y→h1.size≤y∧y<h'.size)∧RxL (fun y=>W y∨g.2.2.2.2 y) h' g.2.2.1 g.2.2.2.1∧Row g.2.2.2.1 g.1 g.2.1 pre∧Upd No h1 h') (fun g=>g.2.1.length) ([],l,[],[],No)
  ⟨rfl,(hs.less (W':=fun y=>h.size≤y) fun y hy=>.inr hy).upd k1 fun _ h=>h.elim,hcap,OwnS.nil mO,fun y hy=>hy.elim,⟨rfl,fun p hp=>(by cases hp)⟩,Row.nil _ _,Upd.refl _ _⟩ ?_
 rintro I ⟨D,T,ks,L,Mo⟩ ⟨sT,so⟩ h4 ⟨e1,hsT,hcT,ho,hMo,hL,hrow,hu⟩ hI;simp only at e1 hsT hcT ho hMo hL hrow;subst e1;have hlT:=hsT.len;simp only[ac]at hn;have bgT:Beg T pre:=bg.sub (nT D T);have k04:=k1.tr hu;refine ax (fun hgt=>?_) fun hle=>?_
 ·rcases T with _|⟨p,T⟩
  ·simp only[aB]at hlT;simp only at hgt;omega
  simp only[aj]at hlT hn;have hpl:=(bgT.at_ p (ar ..)).2;obtain⟨b8,hb8,hb8e⟩:=Tj hpl;obtain⟨a,ha,_,hv⟩:=hsT.at (i:=0) (x:=p) rfl;have c4:=hu.get0 b1;refine⟨⟨by omega,by simp only;omega⟩,a,ha,p.1,hv 0 _ rfl,_,He c4,b8,by omega,hb8,?_⟩
  refine bm fun h9 b9 k9=>?_
  have c9:=k9.get0 c4;obtain⟨a',ha',_,hv9⟩:=(hsT.upd k9 fun _ h=>h.elim).at (i:=0) (x:=p) rfl
  rw[ha]at ha';cases ha';refine⟨He c9,hv9 0 _ rfl,Fi b9 Nat.one_pos fun h10 b10 hu10=>?_⟩
  have k410:Upd No h4 h10:=k9.own hu10 (aq _);have c10:=k410.get0 c4;refine QT (hsT.upd k410 fun _ h=>h.elim) (by simp only[aj];omega) (g:=fun q=>decide (bt pre.length q≠bt pre.length p)) (fun q hq h' K' hu' hK=>?_) fun h11 A Bt e hAB hA hBn hBc hu11=>?_
  ·refine HV.mk' (GL q ⟨h.size,0,none⟩ ⟨h4.size,0,none⟩ ?_)
   unfold yg ae;refine bm fun h12 b12 k12=>?_
   have k':=hu'.tr k12;obtain⟨bq,hbq,hbqe⟩:=Tj (bgT.at_ q hq).2;refine⟨q.1,vc b12 0,_,He (k'.get0 c10),bq,by omega,hbq,_,He (k'.get0 b10),?_⟩
   have eb:((bq.toNat:Int) !=(b8.toNat:Int))=decide (bt pre.length q≠bt pre.length p):=by
    rw[gS,bne_iff_ne,decide_eq_true_iff];omega
   rw[eb];exact hK h12 k12
  obtain⟨A',rfl⟩:∃A',A=p::A':=by
   rcases A with _|⟨a0,A'⟩
   ·have:=(hBc p T (by rw[List.nil_append]at hAB;exact hAB.symm)).2
    simp at this
   ·rw[ci]at hAB
    exact⟨A',by rw[(eJ.inj hAB).1]⟩
  have hcA:∀q∈p::A',bt pre.length q=bt pre.length p:=fun q hq=>by simpa using hA q hq
  have hTA:p::T=(p::A')++Bt:=hAB;have hTl:T.length=A'.length+Bt.length:=by
   have:=congrArg ef hTA;simp only[aj,ac]at this;omega
  have k411:=k410.tr hu11;have k111:=hu.tr k411;have c11:=hu11.get0 c10;refine Join.intro (fun t h'=>t=((A'.length+1:Nat):Int)∧h'=h11) (fun R1 hR1=>?_) ?_
  ·refine ax (fun hneg=>hR1 _ _ ⟨?_,rfl⟩) fun hpos=>hR1 _ _ ⟨?_,rfl⟩
   ·rcases Bt with _|⟨b0,B'⟩
    ·have hTl:T.length=A'.length+0:=hTl
     show((sT.len:Nat):Int)=_
     omega
    ·have:=(hBc b0 B' rfl).1
     simp only[aj]at this;omega
   ·rcases Bt with _|⟨b0,B'⟩
    ·have:=hBn rfl;omega
    ·have:=(hBc b0 B' rfl).1
     simp only[aj]at this;exact this
  rintro t h' ⟨rfl,rfl⟩;refine Join.intro (fun t h9=>∃ka n Mp,OwnS pC 1 aR Mp h9 t (ks++ [ka])∧(∀y,Mp y→h1.size≤y∧y<h9.size)∧RxL (fun y=>W y∨Mp y) h9 (ks++ [ka]) (L++ [n])∧KM n∧hd n.1=bt pre.length p∧(∀k v,tg n k v↔UK (p::A') pre k v)∧Upd No h1 h9∧Sl eh 2 (fun y=>h.size≤y) h9 sT (p::T)) (fun R1 hR1=>?_) ?_
  ·refine⟨⟨by omega,by show((A'.length+1:Nat):Int)≤((sT.cap:Nat):Int);omega⟩,_,He c11,?_⟩
   have hsA:=Sl.sub (hsT.upd k411 fun _ h=>h.elim) (l:=0) (hi:=A'.length+1) (m:=sT.cap) (c:=sT.cap-0) (be _) (by simp only[aj];omega) (by omega)
   have etk:((p::T).drop 0).take (A'.length+1-0)=p::A':=by
    rw[List.drop_zero,Nat.sub_zero,hTA];exact List.take_left' (by simp)
   rw[etk]at hsA;obtain⟨g,hg⟩:∃g,(p::A').getLast? =some g:=⟨_,List.getLast?_eq_some_getLast (by simp)⟩;have hgm:g∈p::A':=iC hg;have hsub:(p::A').Sublist (D++p::T):=by
    rw[hTA];exact(List.sublist_append_left _ _).trans (nT D _)
   refine OM hB (hkids (by have:=hlB p (by simp);omega)) (hsA.less fun _ h=>h.elim) (by show A'.length+1-0≤sT.cap-0;omega) (bg.sub hsub) rfl (fun q hq=>hlB q (hsub.subset hq)) (by simp only[aj];omega) (W:=fun y=>W y∨Mo y) (fun y hy=>hy.elim (fun hy=>ay (hW y hy) (k04.tr k411).size) fun hy=>ay (hMo y hy).2 k411.size) rfl hg (hcA g hgm).symm fun h12 ka n kd hcn hhd hin hu12=>bi ?_
   have hu':=k411.tr hu12;have z':=(hu.tr hu').size;have hLn:L.length≤256:=by
    rcases CD (c:=0) hrow.up fun _ _=>be _ with e|e
    ·rw[e];simp
    ·omega
   have hkl:=hL.1;have z12:=hu'.size;refine MH (M:=fun y=>Mo y∨h12.size≤y) ((ho.upd hu' fun _ _ h=>h).more fun y hy=>.inl hy) (fun b hb=>.inr hb) (by omega) fun s13 h13 ho13 hu13=>hR1 _ _ ⟨ka,n,fun y=>(Mo y∨h12.size≤y)∧y<h13.size,ho13.within,fun y hy=>⟨?_,hy.2⟩,?_,hcn,hhd,hin,?_,?_⟩
   ·rcases hy.1 with h|h
    ·exact(hMo y h).1
    ·omega
   ·have hl:∀b,(W b∨((Mo b∨h12.size≤b)∧b<h13.size))→(W b∨Mo b)∨h12.size≤b:=fun b hb=>by
     rcases hb with h|⟨h|h,_⟩
     ·exact .inl (.inl h)
     ·exact .inl (.inr h)
     ·exact .inr h
    have hm:∀b,(Mo b∨h12.size≤b)→(W b∨((Mo b∨h12.size≤b)∧b<h13.size))∨h12.size≤b:=fun b hb=>by
     rcases hb with h|h
     ·exact .inl (.inr ⟨.inl h,by have:=(hMo b h).2;have:=hu13.size;omega⟩)
     ·exact .inr h
    exact(((hL.upd0 hu').app (RxL.one kd)).less hl).updM hu13 hm
   ·exact(hu.tr hu').trans hu13 fun y hy=>.inr (by
     rcases hy with h|h
     ·exact(hMo y h).1
     ·omega)
   ·refine(hsT.upd hu' fun _ h=>h.elim).upd hu13 fun b hb=>.inl ?_
    have:=k1.size;rcases hb with h|h
    ·have:=(hMo b h).1;omega
    ·omega
  ·rintro s9 h9 ⟨ka,n,Mp,ho9,hMp,hL9,hcn,hhd,hin,hu9,hsT9⟩
   refine⟨⟨by omega,by show((A'.length+1:Nat):Int)≤((sT.len:Nat):Int);omega⟩,?_⟩
   rw[aS];have hsB:=Sl.sub hsT9 (l:=A'.length+1) (hi:=(p::T).length) (m:=sT.cap) (c:=sT.cap-(A'.length+1)) (by simp only[aj];omega) (aq _) (by simp only[aj];omega);have edr:((p::T).drop (A'.length+1)).take ((p::T).length-(A'.length+1))=Bt:=by
    rw[hTA,List.drop_left' (by simp)];exact aW (by simp)
   rw[edr]at hsB;have elen:(p::T).length-(A'.length+1)=sT.len-(A'.length+1):=by simp only[aj];omega
   rw[elen]at hsB;have hr':Row (L++ [n]) (D++(p::A')) Bt pre:=by
    rw[hTA]at hrow bgT;exact hrow.more bgT (ar ..) hcA (fun b B' e=>by simpa using(hBc b B' e).2) hcn hhd hin
   refine hI (D++(p::A'),Bt,ks++ [ka],L++ [n],Mp) _ _ ⟨by rw[hTA,ao],hsB,by simp only;omega,ho9,hMp,hL9,hr',hu9⟩ ?_
   simp only[aj];omega
 ·have hT:T= []:=av.1 (by simp only at hle;omega)
  subst hT;rw[aG]at hk;exact hk h4 so ks L (ho.more fun y hy=>aZ k1.size (hMo y hy).1) (hL.less fun y hy=>.inl (.inl hy)) hrow k04
end Go.Proofs
namespace Go.Proofs
open Go Go.Lift
theorem L4{B:Nat}(hB:B≤1000000):∀(n from_:Nat),B<from_+n→Qk B from_
 |0,_,h=>IP hB fun h'=>by omega
 |n+1,from_,h=>IP hB fun _ to hto=>L4 hB n to (by omega)
theorem TW{l:List Pr}{p:Pr}(h:p∈vR l):p∈l:=CM (JZ.1 h)
theorem QB{W W0:Nat→Prop}{h:af}{s:SliceV}{l:List Pr}(hs:Sl eh 2 W0 h s l)(hW:∀y,W y→y<h.size)(hn:l.length≤100000)(hB:∀p∈l,p.1.size≤1000000){K:Option Addr→af→Prop}
  (hk:∀h' b,RadAt W h' b (vR l)→Upd No h h'→K (some ⟨b,0,none⟩) h'):HC PG uP [.slice s.a s.len s.cap] [.c .ptr] K h:=by
 refine HO s ?_;unfold zo ae bS;refine Cu (W':=No) hs (fun _ h=>h.elim) (by omega) fun e h2 hse hce k2=>?_
 have hln:=PH l;have hrs:=ym l;have hBs:∀p∈vR l,(ky p).length≤1000000:=fun p hp=>by have:=hB p (TW hp);rw[show(ky p).length=p.1.size from SU p.1];exact this
 generalize vR l=L at*;have hlen:=hse.len;refine Join.intro (fun(t:ByteArray×Bool) h'=>h'=h2∧(t.2=true↔∃p r,L=p::r∧ky p= [])) (fun R hR=>?_) ?_
 ·refine ax (fun hgt=>?_) fun hle=>hR _ _ ⟨rfl,⟨fun h=>(by cases h),fun⟨p,r,e,_⟩=>(by subst e;simp only[aj]at hlen;omega)⟩⟩
  rcases L with _|⟨p,r⟩
  ·simp only[aB]at hlen;omega
  obtain⟨a,ha,_,hv⟩:=hse.at (i:=0) (x:=p) rfl;refine⟨⟨by omega,by omega⟩,a,ha,p.1,hv 0 _ rfl,hR _ _ ⟨rfl,?_⟩⟩
  simp only;rw[dG,decide_eq_true_iff];constructor
  ·intro e;exact⟨p,r,rfl,by unfold ky;rw[e]⟩
  ·rintro⟨p',r',e,e2⟩
   cases e;exact qM.1 e2
 rintro⟨v6,has⟩ h' ⟨rfl,hhas⟩;simp only at hhas;refine Join.intro (fun(t:SliceV×ByteArray) h3=>h3=h'∧∃l',Sl eh 2 No h' t.1 l'∧t.1.len≤t.1.cap∧Beg l' []∧(∀p∈l',p∈L)∧l'.length≤L.length∧∀k v,((k= []∧(if has then some t.2 else none)=some v)∨UK l' [] k v)↔∃p∈L,p.1.data.toList=k∧p.2=v) (fun R hR=>?_) ?_
 ·cases has with
  |true=>
   obtain⟨p,r,rfl,e0⟩:=hhas.1 rfl;obtain⟨a,ha,_,hv⟩:=hse.at (i:=0) (x:=p) rfl;simp only[aj]at hlen;refine au.2 ⟨⟨by omega,by omega⟩,a,ha,p.2,hv 1 _ rfl,⟨by omega,by omega⟩,hR _ _ ⟨rfl,r,?_,by simp only;omega,⟨(aA.1 hrs).2,fun q hq=>⟨rfl,?_⟩⟩,fun q hq=>aD _ hq,by simp,fun k v=>?_⟩⟩
   ·have:=Sl.sub hse (l:=1) (hi:=(p::r).length) (m:=e.cap) (c:=e.cap-1) (by simp) (aq _) (by simp only[aj];omega)
    rw[List.drop_one,List.tail_cons,aW (by simp)]at this;have e2:(p::r).length-1=e.len-1:=by simp only[aj];omega
    rw[e2]at this;exact this
   ·have h1:=wg.1 ((aA.1 hrs).1 q hq)
    refine gF.2 fun e2=>?_
    change Op.bytesLess (ky p) (ky q)=true at h1;rw[e2,Ks]at h1;cases h1
   ·simp only[if_true]
    constructor
    ·rintro(⟨rfl,h⟩|⟨q,hq,h1,h2⟩)
     ·exact⟨p,ar ..,e0,bG.inj h⟩
     ·exact⟨q,aD _ hq,h1,h2⟩
    ·rintro⟨q,hq,h1,h2⟩
     rcases az.1 hq with rfl|hq
     ·exact .inl ⟨by rw[←h1];exact e0,by rw[h2]⟩
     ·exact .inr ⟨q,hq,h1,h2⟩
  |false=>
   have hno:∀p r,L=p::r→ky p≠[]:=fun p r e e0=>by have:=hhas.2 ⟨p,r,e,e0⟩;cases this
   refine ak.2 (hR _ _ ⟨rfl,L,hse,hce,⟨hrs,fun q hq=>⟨rfl,?_⟩⟩,fun q hq=>hq,aq _,fun k v=>?_⟩)
   ·refine gF.2 fun e2=>?_
    rcases L with _|⟨p,r⟩
    ·cases hq
    rcases az.1 hq with rfl|hq
    ·exact hno _ _ rfl e2
    ·have h1:=wg.1 ((aA.1 hrs).1 q hq)
     change Op.bytesLess (ky p) (ky q)=true at h1;rw[e2,Ks]at h1;cases h1
   ·simp only[Bool.false_eq_true,if_false]
    constructor
    ·rintro(⟨_,h⟩|⟨q,hq,h1,h2⟩)
     ·cases h
     ·exact⟨q,hq,h1,h2⟩
    ·rintro⟨q,hq,h1,h2⟩
     exact .inr ⟨q,hq,h1,h2⟩
 rintro⟨s3,v3⟩ h3 ⟨rfl,l',hs3,hc3,hbg,hsub,hll,hiff⟩;simp only at hs3 hc3 hiff;refine L4 (B:=1000000) (aq _) 1000001 0 (by omega) (W:=W) hs3 hc3 hbg rfl (fun p hp=>hBs p (hsub p hp)) (by omega) (fun y hy=>ay (hW y hy) k2.size) fun h4 s4 ks Lb ho4 hL4 hrow hu4=>?_
 obtain⟨hcF,hgF⟩:=hrow.done;have hLl:Lb.length≤100000:=by
  have:=kq hcF;rw[Fo.to_of]at this;omega
 refine Im (W:=W) (ho4.sl fun _ _ _ h=>h) hL4 hLl (fun y hy=>ay (hW y hy) (k2.tr hu4).size) fun h5 b5 rn5 hu5=>?_
 refine hk h5 b5 ⟨_,_,rn5,hcF,fun k v=>?_⟩ ((k2.tr hu4).tr hu5)
 rw[jt];unfold rL;rw[hgF,hiff]
theorem JW{h:af}{t:Tr}{k:af→Prop}(hk:∀h',h'[h.size]? =some (.cells (le t).toArray aV (0,0))→Upd No h h'→k h'):
  At (hnew h (le EC) aV) (fun h1=>dq h1 (some (ag h)) 0 (le t)∧At (aX h1 (ag h) 0 (le t)) k):=
 bm fun h1 b1 k1=>cR (c:=le EC) (vs:=le t) b1 rfl fun h2 b2 hu2=>hk h2 b2 (k1.own hu2 (aq _))
theorem Bh{W W0:Nat→Prop}{x:Hs}{h:af}{s:SliceV}{l:List Pr}(hs:Sl eh 2 W0 h s l)(hW:∀y,W y→y<h.size)(hn:l.length≤100000)(hB:∀p∈l,p.1.size≤256∧p.2.size≤4096){kind:Int}(hkd:kind=0∨kind=1){K:Tr×Int→af→Prop}
  (hk:∀h' t,TreeIs W h' kind x t (vR l)→Upd No h h'→K (t,0) h'):HC PG sA [.int .i64 kind,.agg #[.int .u64 x.k0,.int .u64 x.k1,.int .u64 x.mask],.slice s.a s.len s.cap] [.agg [.int .i64,.int .u64,.int .u64,.int .u64,.ptr,.ptr],.c (.int .i64)] K h:=by
 refine KL kind (x.k0,x.k1,x.mask) s ?_;unfold BX ae bS;refine bm fun h1 b1 k1=>bm fun h2 b2 k2=>?_
 have z1:=bF b1;have z2:=bF b2;have s1:h.size≤h1.size:=k1.size;have c1:=k2.get0 b1;have k02:=k1.tr k2;refine⟨_,vc c1 0,_,vc c1 1,_,vc c1 2,?_⟩;refine PE (W:=No) (x:=x) (fun _ h=>h.elim) hkd fun h3 t3 _ k3=>?_
 refine JW (t:=t3) fun h4 b4 k4=>?_
 refine ak.2 ?_;have k24:=k3.tr k4;have k04:=k02.tr k24;have hlen:=hs.len;refine LoopP.ghost (fun(i:Nat) (t:Int) h'=>t=(i:Int)∧i≤l.length∧Upd No h4 h') (fun i=>l.length-i) 0 ⟨rfl,be _,Upd.refl _ _⟩ ?_
 rintro I i t h5 ⟨rfl,hi,k5⟩ hI;have k05:=k04.tr k5;refine ax (fun hlt=>?_) fun hge=>?_
 ·have hlt:i<l.length:=by omega
  obtain⟨a,ha,_,hv⟩:=(hs.upd k05 fun _ h=>h.elim).at (ai hlt)
  have hb:=hB _ (List.getElem_mem hlt);refine⟨⟨by omega,by omega⟩,a,ha,l[i].1,hv 0 _ rfl,l[i].2,hv 1 _ rfl,?_⟩
  refine JX (p:=l[i]) fun h6 b6 k6=>⟨_,vc b6 0,_,vc b6 1,vd hb.1 hb.2 (ak.2 ?_)⟩
  rw[hE hlt (by omega)];exact hI (i+1) _ _ ⟨rfl,hlt,k5.tr k6⟩ (by omega)
 ·have hW5:=Pro.lt (h2:=h2) hW k02
  have hW5':∀y,Pro W h h2 y→y<h5.size:=fun y hy=>ay (hW5 y hy) (k24.tr k5).size
  have d2:=(k24.tr k5).get0 b2;have d1:=(k24.tr k5).get0 c1;rcases hkd with rfl|rfl
  ·refine ak.2 ⟨_,vc d1 0,_,vc d1 1,_,vc d1 2,_,vc d1 0,_,vc d1 1,_,vc d1 2,?_⟩
   refine Rd (z:=x) (hs.upd k05 fun _ h=>h.elim) hW5' hn fun h6 b6 t6 k6=>?_
   have e1:=k6.get0 d1;refine⟨⟨vc e1 0,vc e1 1,vc e1 2⟩,?_⟩;refine DR (x:=x) (.inr ⟨b6,rfl,t6⟩) (fun y hy=>ay (hW5' y hy) k6.size) fun h7 t7 i7 k7=>?_
   refine cR (c:=le EC) (vs:=le t7) (k7.get0 (k6.get0 d2)) rfl fun h8 b8 hu8=>?_
   refine⟨_,vc b8 0,_,vc b8 1,_,vc b8 2,_,vc b8 3,_,vc b8 4,_,vc b8 5,?_⟩;exact hk h8 t7 ((i7.updM hu8 (fun y hy=>.inl (.inr (by have hy:y=h1.size:=hy;omega)))).less Pro.sub) (((k05.tr k6).tr k7).own hu8 s1)
  ·refine au.2 (QB (hs.upd k05 fun _ h=>h.elim) hW5' hn (fun p hp=>by have:=(hB p hp).1;omega) fun h6 b6 t6 k6=>?_)
   refine DQ (x:=x) (.inr ⟨b6,rfl,t6⟩) (fun y hy=>ay (hW5' y hy) k6.size) fun h7 t7 i7 k7=>?_
   refine cR (c:=le EC) (vs:=le t7) (k7.get0 (k6.get0 d2)) rfl fun h8 b8 hu8=>?_
   refine⟨_,vc b8 0,_,vc b8 1,_,vc b8 2,_,vc b8 3,_,vc b8 4,_,vc b8 5,?_⟩;exact hk h8 t7 ((i7.updM hu8 (fun y hy=>.inl (.inr (by have hy:y=h1.size:=hy;omega)))).less Pro.sub) (((k05.tr k6).tr k7).own hu8 s1)
end Go.Proofs
namespace Go.Proofs
open Go Go.Lift
def j7(L0 l:List Pr):List Pr:=(l.take 25).foldl (fun acc p=>gU (Hu p) acc) L0
theorem IV{L0 l:List Pr}{i:Nat}(hi:i<l.length)(h25:i<25):j7 L0 (l.take (i+1))=gU (Hu l[i]) (j7 L0 (l.take i)):=by
 unfold j7;rw[gu,gu,gd (by omega),gd (by omega),bh hi,List.foldl_append];rfl
theorem IW{L0 l:List Pr}{i:Nat}(h25:25≤i):j7 L0 (l.take (i+1))=j7 L0 (l.take i):=by
 unfold j7;rw[gu,gu,bo (by omega),bo (by omega)]
theorem sE{n:Nat}{L0:List Pr}(f:Few n L0)(l:List Pr):Few (n+25) (j7 L0 l):=by
 unfold j7;have:∀(m:List Pr) (n:Nat) (acc:List Pr),Few n acc→Few (n+m.length) (m.foldl (fun acc p=>gU (Hu p) acc) acc):=by
  intro m;induction m with
  |nil=>intro n acc h;exact h
  |cons p m ih=>
   intro n acc h;have:=ih (n+1) _ (h.ins (Hu p) (tc _) (tc _));rw[iU,aj];rw[Nat.add_assoc,Nat.add_comm 1]at this;exact this
 have h:=this (l.take 25) n L0 f;exact⟨h.up,aZ h.len (by rw[aI];omega),h.fit⟩
theorem few_nil:Few 0 []:=⟨.nil,aq _,fun p hp=>by cases hp⟩
theorem Uv(s:ByteArray):((0:Int)≤(if 30<(s.size:Int)then 30 else(s.size:Int))∧(if 30<(s.size:Int)then 30 else(s.size:Int))≤((s.size:Nat):Int))∧s.extract 0 ((if 30<(s.size:Int)then 30 else(s.size:Int)).toNat)=oD s:=by
 unfold oD;split
 ·refine⟨⟨by omega,by omega⟩,?_⟩
  rw[gd (by omega)];rfl
 ·refine⟨⟨by omega,by omega⟩,?_⟩
  rw[bo (by omega),aS]
theorem VJ{h:af}{r:Rt}{k:af→Prop}(hk:∀h',h'[h.size]? =some (.cells (xj r).toArray dQ (0,0))→Upd No h h'→k h'):
  At (hnew h (xj Ss) dQ) (fun h1=>dq h1 (some (ag h)) 0 (xj r)∧At (aX h1 (ag h) 0 (xj r)) k):=
 bm fun h1 b1 k1=>cR (c:=xj Ss) (vs:=xj r) b1 rfl fun h2 b2 hu2=>hk h2 b2 (k1.own hu2 (aq _))
theorem SJ{x:Hs}{h:af}{K:Int×Int×Int→af→Prop}(hk:∀h',Upd No h h'→K (x.k0,x.k1,x.mask) h'):HC PG CW [.agg #[.int .u64 x.k0,.int .u64 x.k1,.int .u64 x.mask]] [.agg [.int .u64,.int .u64,.int .u64]] K h:=by
 refine Rv (x.k0,x.k1,x.mask) ?_;unfold Jt ae;refine bm fun h1 b1 k1=>bm fun h2 b2 k2=>?_
 have c1:=k2.get0 b1;refine⟨_,Hd c1 0 0,_,Hd c1 0 1,_,vc c1 2,?_⟩;refine cR (c:= [.int .u64 0,.int .u64 0,.int .u64 0]) (vs:= [.int .u64 x.k0,.int .u64 x.k1,.int .u64 x.mask]) b2 rfl fun h3 b3 hu3=>?_
 exact⟨_,vc b3 0,_,vc b3 1,_,vc b3 2,hk h3 ((k1.tr k2).own hu3 k1.size)⟩
theorem OO{W:Nat→Prop}{x:Hs}{h:af}{k:Int}(h0:0≤k)(h1:k≤255)(hW:∀y,W y→y<h.size){K:Tr×Rt→af→Prop}
  (hk:∀h' t r,TreeIs W h' (IntKind.wrap .i64 (oQ k 2)) x t []→RefIs W h' (IntKind.wrap .i64 (oQ k 2)) x r []→Upd No h h'→K (t,r) h'):
  HC PG xK [.int .u8 k,.agg #[.int .u64 x.k0,.int .u64 x.k1,.int .u64 x.mask]] [.agg [.int .i64,.int .u64,.int .u64,.int .u64,.ptr,.ptr],.agg [.int .i64,.int .u64,.int .u64,.int .u64,.slice]] K h:=by
 refine MR k (x.k0,x.k1,x.mask) ?_;unfold Es ae;have hkd:=VL h0 h1;generalize IntKind.wrap .i64 (oQ k 2)=kind at hkd hk⊢;refine bm fun h1 b1 k1=>bm fun h2 b2 k2=>bm fun h3 b3 k3=>⟨by decide,?_⟩
 have z1:=bF b1;have z2:=bF b2;have z3:=bF b3;have s1:h.size≤h1.size:=k1.size;have s2:h1.size≤h2.size:=k2.size;have k03:=(k1.tr k2).tr k3;have c1:=k3.get0 (k2.get0 b1);have c2:=k3.get0 b2;have s3:=k3.size;refine⟨_,vc c1 0,_,vc c1 1,_,vc c1 2,?_⟩;refine PE (W:=Pro W h h3) (x:=x) (Pro.lt hW k03) hkd fun h8 t i8 k8=>?_
 refine JW (t:=t) fun h10 b10 k810=>⟨by decide,?_⟩
 have s8:=k8.size;have VF:=k810.size;have z10:=bF b10;have d1:=k810.get0 (k8.get0 c1);refine⟨_,vc d1 0,_,vc d1 1,_,vc d1 2,?_⟩;refine SJ (x:=x) fun h15 k15=>?_
 have s15:=k15.size;refine T8 (x:=x) (W:=Pro W h h3) hkd fun h17 r j17 k17=>?_
 have s17:=k17.size;refine VJ (r:=r) fun hL bL k17L=>?_
 have sL:=k17L.size;have zL:=bF bL;have k8L:Upd No h8 hL:=((k810.tr k15).tr k17).tr k17L;have kL:Upd No h hL:=(k03.tr k8).tr k8L;have tL:=k17L.get0 ((k15.tr k17).get0 b10);have rL1:=k8L.get0 (k8.get0 c2);have rL2:=k8L.get0 (k8.get0 b3);have hP1:Pro W h h3 h1.size:=.inr (by omega);have hP2:Pro W h h3 h2.size:=.inr (by omega);refine⟨_,vc tL 0,_,vc tL 1,_,vc tL 2,_,vc tL 3,_,vc tL 4,_,vc tL 5,_,vc bL 0,_,vc bL 1,_,vc bL 2,_,vc bL 3,r.2.2.2.2,vc bL 4,?_⟩
 refine cR (c:=le EC) (vs:=le t) rL1 rfl fun h70 b70 hu70=>?_
 have x70:=hu70.oth bL (by omega);refine⟨⟨vc x70 0,vc x70 1,vc x70 2,vc x70 3,vc x70 4⟩,?_⟩;refine cR (c:=xj Ss) (vs:=xj r) (hu70.oth rL2 (by omega)) rfl fun h71 b71 hu71=>?_
 have t71:=hu71.oth b70 (by omega);refine⟨_,vc t71 0,_,vc t71 1,_,vc t71 2,_,vc t71 3,_,vc t71 4,_,vc t71 5,_,vc b71 0,_,vc b71 1,_,vc b71 2,_,vc b71 3,r.2.2.2.2,vc b71 4,?_⟩;refine hk h71 t r ((((i8.upd0 k8L).updM hu70 fun y hy=>.inl (by have hy:y=h1.size:=hy;rw[hy];exact hP1)).updM hu71 fun y hy=>.inl (by have hy:y=h2.size:=hy;rw[hy];exact hP2)).less Pro.sub) ((((j17.upd0 k17L).updM hu70 fun y hy=>.inl (by have hy:y=h1.size:=hy;rw[hy];exact hP1)).updM hu71 fun y hy=>.inl (by have hy:y=h2.size:=hy;rw[hy];exact hP2)).less Pro.sub) ((kL.own hu70 s1).own hu71 (by omega))
end Go.Proofs
namespace Go.Proofs
open Go Go.Lift
abbrev U0:List Value:= [.string (⟨#[]⟩:ByteArray),.string (⟨#[]⟩:ByteArray),.string (⟨#[]⟩:ByteArray),.bool false,.bool false]
theorem PX{h:af}{t:TypeId}{c:Ch}{k:af→Prop}(hk:∀h',h'[h.size]? =some (.cells (p5 c).toArray t (0,0))→Upd No h h'→k h'):
  At (hnew h U0 t) fun h8=>dq h8 (some (ag h)) 0 (p5 c)∧At (aX h8 (ag h) 0 (p5 c)) k:=
 bm fun h1 b1 k1=>cR (c:=U0) (vs:=p5 c) b1 rfl fun h2 b2 hu2=>hk h2 b2 (k1.own hu2 (aq _))
theorem Bj{t:TypeId}{M:Nat→Prop}{h:af}{so:SliceV}{out:List Ch}{c:Ch}{K:SliceV→af→Prop}(ho:OwnS p5 5 t M h so out)(hM:∀b,h.size≤b→M b)(hn:out.length+1≤100000000)
  (hk:∀s' h',OwnS p5 5 t M h' s' (out++ [c])→Upd M h h'→K s' h'):
  At (hnew h (p5 c) t) fun h1=>∃xs,SRow h1 (some (ag h)) (1*5) xs∧AppP (some U0) 5 56 t so.a so.len so.cap 1 xs h1 K:=by
 refine bm fun h1 b1 k1=>?_
 have z1:=bF b1;have o1:OwnS p5 5 t (fun _=>True) h1 ⟨some (ag h),1,1⟩ [c]:=⟨rfl,zY,aq _,.inr ⟨h.size,[],rfl,trivial,b1,rfl⟩⟩
 refine⟨_,(o1.sl (W:=No) fun _ _ _ h=>h).srow,?_⟩
 refine AppP.own (ys:= [c]) (ho.upd k1 fun _ _ h=>h) rfl rfl rfl rfl (by omega) (by simp only[aJ];omega) (hM _ k1.size) fun s' h' ho' hu=>?_
 exact hk s' h' ho' (k1.wide.tr hu)
theorem Wl(a b:Ch):((a.1.toList==b.1.toList)&&((a.2.1.toList==b.2.1.toList)&&((a.2.2.1.toList==b.2.2.1.toList)&&((a.2.2.2.1==b.2.2.2.1)&&((a.2.2.2.2==b.2.2.2.2)&&true)))))=decide (a=b):=by
 rw[dG,dG,dG];by_cases e:a=b
 ·subst e;simp
 ·rw[decide_eq_false e]
  obtain⟨a1,a2,a3,a4,a5⟩:=a;obtain⟨b1,b2,b3,b4,b5⟩:=b;simp only[Prod.mk.injEq]at e;rw[Bool.eq_false_iff];intro h;simp only[bc,decide_eq_true_iff,beq_iff_eq,and_true]at h;exact e ⟨h.1,h.2.1,h.2.2.1,h.2.2.2.1,h.2.2.2.2⟩
theorem T0{W W':Nat→Prop}{h:af}{s s':SliceV}{l l':List Ch}(hs:Sl p5 5 W h s l)(hs':Sl p5 5 W' h s' l')(hn:l.length≤1000000){K:Bool→af→Prop}(hk:K (decide (l=l')) h):wN s s' K h:=by
 unfold wN ae bS;have hl:=hs.len;have hl':=hs'.len;by_cases ne:l.length=l'.length
 rotate_left
 ·rw[show((s.len:Int) !=(s'.len:Int))=true by rw[bne_iff_ne];omega]
  rw[decide_eq_false fun e=>ne (by rw[e])]at hk
  exact au.2 hk
 rw[show((s.len:Int) !=(s'.len:Int))=false by rw[bne_eq_false_iff_eq];omega]
 refine ak.2 (LoopP.ghost (fun(i:Nat) (t:Int) h'=>t=(i:Int)∧i≤l.length∧h'=h∧l.take i=l'.take i) (fun i=>l.length-i) 0 ⟨rfl,be _,rfl,rfl⟩ ?_)
 rintro I i t h' ⟨rfl,hi,rfl,ht⟩ hI;refine ax (fun hlt=>?_) fun hge=>?_
 ·have hlt:i<l.length:=by omega
  have hlt':i<l'.length:=by omega
  obtain⟨a,ha,_,hv⟩:=hs.at (ai hlt);obtain⟨a',ha',_,hv'⟩:=hs'.at (ai hlt');refine⟨⟨by omega,by omega⟩,a,ha,_,hv 0 _ rfl,_,hv 1 _ rfl,_,hv 2 _ rfl,_,hv 3 _ rfl,_,hv 4 _ rfl,⟨by omega,by omega⟩,a',ha',_,hv' 0 _ rfl,_,hv' 1 _ rfl,_,hv' 2 _ rfl,_,hv' 3 _ rfl,_,hv' 4 _ rfl,?_⟩
  rw[Wl l[i] l'[i]];by_cases e:l[i]=l'[i]
  ·rw[decide_eq_true e]
   refine ak.2 ?_;rw[hE hlt (by omega)];refine hI (i+1) _ _ ⟨rfl,hlt,rfl,?_⟩ (by omega);rw[bh hlt,bh hlt',ht,e]
  ·rw[decide_eq_false e]
   rw[decide_eq_false fun e2=>e (by subst e2;rfl)]at hk
   exact au.2 hk
 ·have hil:i=l.length:=by omega
  rw[hil,bV,ne,bV]at ht;rw[decide_eq_true ht]at hk;exact hk
theorem My{W W':Nat→Prop}{h:af}{s s':SliceV}{l l':List Ch}(hs:Sl p5 5 W h s l)(hs':Sl p5 5 W' h s' l')(hn:l.length≤1000000){K:Bool→af→Prop}(hk:K (decide (l=l')) h):HC PG xM [.slice s.a s.len s.cap,.slice s'.a s'.len s'.cap] [.c .bool] K h:=by
 refine MU s s' ?_;unfold Ev;refine mc s s' ?_;have:=T0 (K:=K) hs hs' hn hk;unfold wN ae bS at this;unfold g7 ae bS;exact this
end Go.Proofs
namespace Go.Proofs
open Go Go.Lift
abbrev bA:ByteArray:=⟨#[97]⟩
abbrev bB:ByteArray:=⟨#[98]⟩
theorem bab:kl bA bB:=by rw[wg];decide
end Go.Proofs
namespace Go.Proofs
open Go Go.Lift
abbrev b1:ByteArray:=⟨#[49]⟩
abbrev b2:ByteArray:=⟨#[50]⟩
abbrev b3:ByteArray:=⟨#[51]⟩
theorem TX(p:Pr):vR [p]= [p]:=rfl
theorem TV{v w:ByteArray}:vR [(bA,v),(bB,w)]= [(bA,v),(bB,w)]:=by
 unfold vR;rw[iU,iU,List.foldl_nil];have e1:gU (bA,v) []= [(bA,v)]:=rfl;rw[e1,fX,if_pos bab];rfl
theorem Qx{v w:ByteArray}:bD [(bA,v),(bB,w)]:=aA.2 ⟨fun p hp=>by rw[aC.1 hp];exact bab,bU ..⟩
theorem Ed:fy [(bA,b1)] [(bA,b2),(bB,b3)]= [(bA,b1,b2,true,true),(bB,⟨#[]⟩,b3,false,true)]:=by
 rw[rB (a:=(bA,b1)) (b:=(bA,b2)) rfl,iV];unfold xi;rw[if_neg (by decide)];rfl
theorem Jb{l:List Pr}(h:∀p∈l,p.1.size≤40∧p.2.size≤40):Fit l:=fun p hp=>by have:=h p hp;omega
theorem Ij{v w:ByteArray}(hv:v.size≤1)(hw:w.size≤1):∀p∈[(bA,v),(bB,w)],p.1.size≤40∧p.2.size≤40:=fun p hp=>by
 rcases az.1 hp with rfl|hp
 ·exact⟨(by decide:bA.size≤40),by simp only;omega⟩
 ·rw[aC.1 hp]
  exact⟨(by decide:bB.size≤40),by simp only;omega⟩
theorem Ik{v:ByteArray}(hv:v.size≤1):∀p∈[(bA,v)],p.1.size≤40∧p.2.size≤40:=fun p hp=>by
 rw[aC.1 hp];exact⟨(by decide:bA.size≤40),by simp only;omega⟩
theorem OP{h:af}{K:Bool→af→Prop}(hk:∀h',Upd No h h'→K true h'):HC PG xL [] [.c .bool] K h:=by
 refine MS ?_;unfold Et ae bS;refine bm fun h1 b1' k1=>?_
 have hs:Sl eh 2 No h1 ⟨some (ag h),1,1⟩ [(bA,b1)]:=⟨rfl,gg,fun _=>⟨_,rfl,fun h=>h.elim,pL b1' fun i v hv=>by simpa using hv⟩⟩
 refine Bh (W:=No) (x:=⟨0,0,0⟩) hs (fun _ h=>h.elim) (by simp) (fun p hp=>by have:=Ik (v:=b1) (by decide) p hp;omega) (.inr rfl) fun h3 t i3 k3=>?_
 rw[TX]at i3;refine JW (t:=t) fun h5 b5 k5=>?_
 refine bm fun h6 b6 k6=>?_
 have hs6:Sl eh 2 No h6 ⟨some (ag h5),2,2⟩ [(bA,b2),(bB,b3)]:=⟨rfl,gg,fun _=>⟨_,rfl,fun h=>h.elim,pL b6 fun i v hv=>by simpa using hv⟩⟩
 refine Bh (W:=No) (x:=⟨0,0,0⟩) hs6 (fun _ h=>h.elim) (by simp) (fun p hp=>by have:=Ij (v:=b2) (w:=b3) (by decide) (by decide) p hp;omega) (.inr rfl) fun h8 u i8 k8=>?_
 rw[TV]at i8;refine JW (t:=u) fun h10 b10 k10=>?_
 have c10:=(k6.tr (k8.tr k10)).get0 b5;refine⟨_,vc c10 0,_,vc c10 1,_,vc c10 2,_,vc c10 3,_,vc c10 4,_,vc c10 5,_,vc b10 0,_,vc b10 1,_,vc b10 2,_,vc b10 3,_,vc b10 4,_,vc b10 5,?_⟩;have i10:=i3.upd0 (((k5.tr k6).tr k8).tr k10);have j10:=i8.upd0 k10;have hl:oy t u=true:=CJ i10 j10;refine Q6 i10 j10 (bU ..) (Jb (Ik (by decide))) (by decide) Qx (Jb (Ij (by decide) (by decide))) (by decide) (fun _=>by rw[Ed];decide) (fun h=>by rw[hl]at h;cases h) fun _ h24 s24 ho k24=>?_
 rw[Ed]at ho;have hlen:=ho.len;have hsl:=ho.sl (W:=No) fun _ _ _ h=>h
 obtain⟨a,ha,_,hv⟩:=hsl.at (i:=0) (x:=(bA,b1,b2,true,true)) rfl;obtain⟨a',ha',_,hv'⟩:=hsl.at (i:=1) (x:=(bB,(⟨#[]⟩:ByteArray),b3,false,true)) rfl;rw[ha]at ha';cases ha';refine au.2 ?_;have e1:((s24.len:Int)==(2:Int))=true:=by rw[hlen];rfl
 rw[show((s24,(0:Int)).1.len:Int)=(s24.len:Int)from rfl,e1]
 refine au.2 ⟨⟨by omega,by rw[hlen];decide⟩,a,ha,bA,hv 0 _ rfl,b1,hv 1 _ rfl,b2,hv 2 _ rfl,true,hv 3 _ rfl,true,hv 4 _ rfl,?_⟩
 rw[beq_self_eq_true,beq_self_eq_true,beq_self_eq_true];refine au.2 ⟨⟨by omega,by rw[hlen];decide⟩,a,ha,bB,hv' 0 _ rfl,?_⟩
 rw[beq_self_eq_true];refine au.2 ⟨⟨by omega,by rw[hlen];decide⟩,a,ha,false,hv' 3 _ rfl,?_⟩
 exact hk h24 ((((((k1.tr k3).tr k5).tr k6).tr k8).tr k10).tr k24)
end Go.Proofs
namespace Go.Proofs
open Go Go.Lift
def look(l:List Pr)(k:ByteArray):Option ByteArray:=(l.find? fun p=>decide (p.1=k)).map (·.2)
theorem II{l:List Pr}{k:ByteArray}(h:cf l k=false):look l k=none:=by
 unfold look;rw[Option.map_eq_none_iff,List.find?_eq_none];intro p hp;unfold cf at h;rw[List.any_eq_false]at h;exact h p hp
theorem vf:∀{l:List Pr} {k v:ByteArray},bD l→(k,v)∈l→look l k=some v
 |p::l,k,v,hr,h=>by
  have hr:=aA.1 hr;unfold look;rw[oY];rcases az.1 h with e|h
  ·subst e;simp
  ·have hne:p.1≠k:=fun e=>by
    have:=hr.1 _ h;simp only at this;rw[e]at this;exact bQ _ this
   rw[decide_eq_false hne];exact vf hr.2 h
theorem Uj{l:List Pr}(hr:bD l){k v:ByteArray}(h1:cf l k=true→(k,v)∈l)(h2:cf l k=false→v=⟨#[]⟩):((look l k).getD ⟨#[]⟩,(look l k).isSome)=(v,cf l k):=by
 cases ht:cf l k with
 |true=>rw[vf hr (h1 ht)];rfl
 |false=>rw[II ht,h2 ht];rfl
theorem QQ{x:Hs}{lev:Nat}{l:List Pr}{k:ByteArray}:look (part x lev (ck x lev k) l) k=look l k:=by
 unfold look part;congr 1
 rw[List.find?_filter];congr 1
 funext p;by_cases e:p.1=k
 ·rw[e];simp
 ·simp[e]
theorem MD{W:Nat→Prop}{x:Hs}{h:af}{b:Nat}{l:List Pr}(t:TrieAt W x h 13 b l)(hW:∀y,W y→y<h.size)(hr:bD l)(hn:l.length≤1000000)(k:ByteArray){K:ByteArray×Bool→af→Prop}
  (hk:∀h',Upd No h h'→K ((look l k).getD ⟨#[]⟩,(look l k).isSome) h'):HC PG xQ [.agg #[.int .u64 x.k0,.int .u64 x.k1,.int .u64 x.mask],.pointer (some ⟨b,0,none⟩),.string k] [.c .str,.c .bool] K h:=by
 refine MY (x.k0,x.k1,x.mask) (some ⟨b,0,none⟩) k ?_;unfold EA ae;refine bm fun h1 b1 k1=>⟨_,vc b1 0,_,vc b1 1,_,vc b1 2,?_⟩
 refine yy fun h2 k2=>?_
 have k12:=k1.tr k2;refine JE (.inr ⟨b,rfl,TrieAt.upd0 k12 t⟩) (fun y hy=>ay (hW y hy) k12.size) fun h3 b3 t3 k3 _=>?_
 have k13:=k12.tr k3;refine LoopP.ghost (fun(g:Nat×Nat×List Pr) (t:Option Addr×Int) h'=>t=(some ⟨g.2.1,0,none⟩,((13-g.1:Nat):Int))∧g.1≤13∧TrieAt W x h' g.1 g.2.1 g.2.2∧bD g.2.2∧g.2.2.length≤1000000∧look g.2.2 k=look l k∧Upd No h h') (fun g=>g.1) (13,b3,l)
  ⟨rfl,aq _,t3,hr,hn,rfl,k13⟩ ?_
 rintro I ⟨m,c,lm⟩ t h4 ⟨rfl,hm,tm,hrm,hnm,hlk,hu⟩ hI;simp only at hm tm hrm hnm hlk;rcases m with _|m
 ·obtain⟨sp,sk,ow,hb,_⟩:=BuckAt.ex tm
  refine gI hb (au.2 (SV tm hrm (by omega) k fun h5 v k5 e1 e2=>?_))
  have:=hk h5 (hu.tr k5);rw[←hlk,Uj hrm e1 e2]at this;exact this
 ·obtain⟨s,nd,hs⟩:=tm
  have hs:∀c,c<32→SlotIs W x h4 m s c (part x (12-m) c lm):=hs;obtain⟨d,n,sp,sk,ow,hb,_⟩:=nd.ex;refine gI hb (ak.2 ?_);refine Rc (by omega) ?_;rw[show 13-(m+1)=12-m by omega]
  have hi:=xU x (12-m) k;have hsi:=hs _ hi;have hlp:look (part x (12-m) (ck x (12-m) k) lm) k=look l k:=by rw[QQ,hlk]
  have hrp:bD (part x (12-m) (ck x (12-m) k) lm):=iS hrm;have hnp:(part x (12-m) (ck x (12-m) k) lm).length≤1000000:=aZ mT hnm;generalize part x (12-m) (ck x (12-m) k) lm=lp at hsi hlp hrp hnp;generalize ck x (12-m) k=i at hi hsi;refine AP nd hi fun h5 k5=>?_
  refine AO fun h6 b6 k6=>?_
  have k46:=k5.tr k6;rcases hsi with⟨e0,e1,e2⟩|⟨p,e0,e1,e2⟩|⟨_,e1,kb,e2,tk⟩
  ·rw[e1]
   refine ak.2 (vZ (nd.upd k46 fun _ h=>h.elim) hi ?_)
   rw[e2];refine au.2 ?_;have:=hk h6 (hu.tr k46);rw[←hlp,e0]at this;exact this
  ·rw[e1]at b6⊢
   refine au.2 ⟨p.1,vc b6 0,?_⟩;rw[dG];have:=hk h6 (hu.tr k46);rw[←hlp,e0]at this;by_cases e:p.1=k
   ·rw[decide_eq_true e]
    refine ak.2 ⟨p.2,vc b6 1,?_⟩;have e3:look [p] k=some p.2:=by unfold look;rw[oY,decide_eq_true e];rfl
    rw[e3]at this;exact this
   ·rw[decide_eq_false e]
    have e3:look [p] k=none:=by unfold look;rw[oY,decide_eq_false e];rfl
    rw[e3]at this;exact au.2 this
  ·rw[e1]
   refine ak.2 (vZ (nd.upd k46 fun _ h=>h.elim) hi ?_)
   rw[e2];refine ak.2 ?_;have ew:IntKind.wrap .i64 (((13-(m+1):Nat):Int)+1)=((13-m:Nat):Int):=by rw[cS (by omega)];omega
   rw[show 13-(m+1)=12-m by omega]at ew
   show I (some ⟨kb,0,none⟩,IntKind.wrap .i64 (((12-m:Nat):Int)+1)) h6
   rw[ew];exact hI (m,kb,lp) _ h6 ⟨rfl,by simp only;omega,TrieAt.upd0 k46 tk,hrp,hnp,hlp,hu.tr k46⟩ (by simp only;omega)
abbrev Sd:=ByteArray×Bool
end Go.Proofs
namespace Go.Proofs
open Go Go.Lift
def mE(k:ByteArray)(l:List Pr):List Pr:=l.filter fun q=>decide (q.1≠k)
theorem vm(k:ByteArray)(q:Pr)(l:List Pr):mE k (q::l)=if q.1=k then mE k l else q::mE k l:=by
 unfold mE;rw[List.filter_cons];by_cases h:q.1=k
 ·rw[if_pos h,if_neg (by simpa using h)]
 ·rw[if_neg h,if_pos (by simpa using h)]
theorem xT{k:ByteArray}{l:List Pr}(h:∀q∈l,q.1≠k):mE k l=l:=kw.2 fun q hq=>decide_eq_true (h q hq)
theorem AD{k:ByteArray}{l:List Pr}(h:cf l k=false):∀q∈l,q.1≠k:=fun q hq e=>by
 have:cf l k=true:=bT.2 ⟨q,hq,decide_eq_true e⟩;rw[h]at this;cases this
theorem xt{k:ByteArray}{l:List Pr}(h:∀q∈l,q.1≠k):cf l k=false:=by
 rcases ht:cf l k with _|_
 ·rfl
 ·obtain⟨q,hq,e⟩:=bT.1 ht
  exact absurd (of_decide_eq_true e) (h q hq)
theorem Iq{k:ByteArray}{l:List Pr}(hr:bD l):bD (mE k l):=hr.sublist List.filter_sublist
theorem E9{k:ByteArray}{l:List Pr}{p:Pr}:p∈mE k l↔p∈l∧p.1≠k:=by unfold mE;rw[List.mem_filter,decide_eq_true_iff]
theorem OG{k:ByteArray}{l:List Pr}:(mE k l).length≤l.length:=List.length_filter_le ..
theorem P8{k:ByteArray}:∀{l:List Pr},bD l→l.length≤(mE k l).length+1
 | [],_=>be _
 |q::l,hr=>by
  have hr:=aA.1 hr;rw[vm];by_cases h:q.1=k
  ·rw[if_pos h,xT fun r hm e=>by have:=hr.1 r hm;rw[h,e]at this;exact bQ _ this];exact aq _
  ·rw[if_neg h]
   have:=P8 (k:=k) hr.2;simp only[aj];omega
theorem P9(k:ByteArray):∀{l:List Pr},bD l→Q7 l k=mE k l
 | [],_=>by simp[Q7,mE,cf]
 |q::l,hr=>by
  have hr':=hr;have hr:=aA.1 hr;have hpos:o8 (q::l) k=if kl q.1 k then o8 l k+1 else 0:=by
   unfold o8;rw[List.takeWhile_cons];by_cases h:kl q.1 k
   ·rw[if_pos (by simpa using h),if_pos h];rfl
   ·rw[if_neg (by simpa using h),if_neg h];rfl
  have hth:cf (q::l) k=(decide (q.1=k)||cf l k):=by unfold cf;rw[List.any_cons]
  by_cases h:kl q.1 k
  ·have hne:q.1≠k:=fun e=>by rw[e]at h;exact bQ _ h
   rw[vm,if_neg hne,←P9 k hr.2];unfold Q7;rw[hth,hpos,if_pos h,decide_eq_false hne,Bool.false_or];by_cases ht:cf l k=true
   ·rw[if_pos ht,if_pos ht];rfl
   ·rw[if_neg ht,if_neg ht]
  ·by_cases e:q.1=k
   ·have hno:∀r∈l,r.1≠k:=fun r hm e2=>by have:=hr.1 r hm;rw[e,e2]at this;exact bQ _ this
    rw[vm,if_pos e,xT hno];unfold Q7;rw[hth,hpos,if_neg h,decide_eq_true e,Bool.true_or,if_pos rfl];rfl
   ·have hgt:=o9 h e
    have hno:∀r∈q::l,r.1≠k:=fun r hm e2=>by
     rcases az.1 hm with rfl|hm
     ·exact e e2
     ·have:=hr.1 r hm
      rw[e2]at this;exact bQ _ (fp hgt this)
    rw[xT hno];unfold Q7;rw[xt hno];rfl
theorem LQ{x:Hs}{lev c:Nat}{k:ByteArray}{l:List Pr}:part x lev c (mE k l)=mE k (part x lev c l):=by
 unfold part mE;rw[List.filter_filter,List.filter_filter];exact List.filter_congr fun p _=>Bool.and_comm ..
theorem QK{x:Hs}{lev c:Nat}{k:ByteArray}{l:List Pr}(h:c≠ck x lev k):part x lev c (mE k l)=part x lev c l:=by
 rw[LQ];exact xT fun q hq e=>h (by rw[←e];exact(mV.1 hq).2.symm)
theorem Nv{W:Nat→Prop}{x:Hs}{h h':af}{m b':Nat}{s s':Slots}{l:List Pr}{k:ByteArray}(hu:Upd No h h')(nd:NodeAt W h' b' s')(hs:∀c,c<32→SlotIs W x h m s c (part x (12-m) c l))
  (hp:∀c,c≠ck x (12-m) k→s'.p c=s.p c∧s'.k c=s.k c)(hi:SlotIs W x h' m s' (ck x (12-m) k) (mE k (part x (12-m) (ck x (12-m) k) l))):TrieAt W x h' (m+1) b' (mE k l):=by
 refine⟨s',nd,fun c hc=>?_⟩
 by_cases e:ck x (12-m) k=c
 ·rw[LQ];subst e;exact hi
 ·rw[QK fun h=>e h.symm]
  have t:=SlotIs.upd0 hu (hs c hc);obtain⟨e1,e2⟩:=hp c fun h=>e h.symm
  unfold SlotIs at t;rw[←e1,←e2]at t;exact t
theorem P5{β:Type}(g:Nat→Option β):∀n,(fm g n).length=((List.range n).map fun c=>(g c).toList.length).sum
 |0=>rfl
 |n+1=>by
  rw[ss,ac,P5 g n,List.range_succ,List.map_append,List.sum_append];simp
theorem Ln{x:Hs}{lev:Nat}{l:List Pr}(h:∀c,c<32→(part x lev c l).length≤1):(kF x lev l).length=l.length:=by
 unfold kF;rw[P5];have e:=yu x lev l 32;have e2:(l.filter fun p=>decide (ck x lev p.1<32))=l:=kw.2 fun p _=>decide_eq_true (xU x lev p.1)
 rw[e2]at e;rw[←e];refine congrArg List.sum (List.map_congr_left fun c hc=>?_)
 have:=h c (gz.1 hc);match hp:part x lev c l with
 | []=>rfl
 | [p]=>rfl
 |a::b::r=>rw[hp]at this;simp at this
theorem Nw{W:Nat→Prop}{x:Hs}{h:af}{m b:Nat}{l:List Pr}(t:TrieAt W x h m b l)(hn:l.length≤1000000):
  ∃d n sp sk bu ow lp lk,h[b]? =some (.cells (fa d n sp sk bu ow) bw (0,0))∧Sl eh 2 W h sp lp∧Sl rp 1 W h sk lk∧lp.length≤1000000∧lk.length≤32∧(lp.length+lk.length=1∧n=0↔l.length=1)∧∀p,l= [p]→lp= [p]:=by
 cases m with
 |zero=>
  obtain⟨sp,sk,ow,hb,hsp,hsk,_⟩:=BuckAt.ex t;exact⟨0,0,sp,sk,true,ow,l,[],hb,hsp,hsk,hn,by simp,by simp,fun p e=>e⟩
 |succ m=>
  obtain⟨s,nd,hs⟩:=t;have hs:∀c,c<32→SlotIs W x h m s c (part x (12-m) c l):=hs;obtain⟨d,n,sp,sk,ow,hb,bits,hsp,hsk,_⟩:=nd.ex;have hso:=JF hs;have hl32:=y3 (g:=s.p);refine⟨d,n,sp,sk,false,ow,_,_,hb,hsp,hsk,by omega,y3,?_,?_⟩
  ·by_cases hk:∀c,c<32→s.k c=none
   ·have e0:n=0:=Nat.eq_of_testBit_eq fun c=>by
     rw[nS];by_cases hc:c<32
     ·rw[bits.nk c hc,hk c hc];rfl
     ·exact Nat.testBit_lt_two_pow (ay bits.n32 (Nat.pow_le_pow_right (n:=2) (by omega) (by omega:32≤c)))
    have ek:fm s.k 32= []:=by
     unfold fm;rw[List.filterMap_eq_nil_iff];exact fun c hc=>hk c (gz.1 hc)
    have el:(fm s.p 32).length=l.length:=by
     rw[hso];refine Ln fun c hc=>?_
     rcases hs c hc with⟨h0,_⟩|⟨p,h0,_⟩|⟨_,_,kb,h2,_⟩
     ·rw[h0];simp
     ·rw[h0];simp
     ·rw[hk c hc]at h2;cases h2
    rw[ek,el,e0];simp
   ·obtain⟨c,hc⟩:=Classical.not_forall.1 hk
    obtain⟨hc,hkc⟩:=Classical.not_imp.1 hc;have hne:n≠0:=fun e0=>by
     have:=bits.nk c hc;rw[e0,nS]at this;cases hkk:s.k c with
     |none=>exact hkc hkk
     |some y=>rw[hkk]at this;cases this
    rcases hs c hc with⟨_,_,h0⟩|⟨p,_,_,h0⟩|⟨h2,_⟩
    ·exact absurd h0 hkc
    ·exact absurd h0 hkc
    ·have:=mT (x:=x) (lev:=12-m) (c:=c) (l:=l)
     constructor
     ·rintro⟨_,e⟩;exact absurd e hne
     ·intro e;omega
  ·rintro p rfl
   rw[hso];have hc:=xU x (12-m) p.1;have el:(kF x (12-m) [p]).length=1:=Ln fun c _=>aZ mT (by simp)
   match hq:kF x (12-m) [p],el with
   | [q],_=>
    have:q∈kF x (12-m) [p]:=by rw[hq];exact aC.2 rfl
    rw[aC.1 (sD this)]
theorem Uf{h:af}{b d n:Nat}{sp sk:SliceV}{bu:Bool}{ow:Option Addr}(hb:h[b]? =some (.cells (fa d n sp sk bu ow) bw (0,0))) (hl:sp.len+sk.len≤1000000000) {K:Int→af→Prop} (hk:K ((sp.len+sk.len:Nat):Int) h):HC PG lR [.pointer (some ⟨b,0,none⟩)] [.c (.int .i64)] K h:=by
 refine w6 _ ?_;unfold rV ae;refine ak.2 ⟨_,rfl,sp,eA (i:=2) hb,_,rfl,sk,eA (i:=3) hb,?_⟩;have e:IntKind.wrap .i64 ((sp.len:Int)+(sk.len:Int))=((sp.len+sk.len:Nat):Int):=by rw[cS (by omega)];omega
 rw[e];exact hk
theorem Ty{W:Nat→Prop}{x:Hs}{h:af}{m b:Nat}{l:List Pr}(t:TrieAt W x h m b l)(hn:l.length≤1000000){K:Pr×Bool→af→Prop}
  (hk:∀h' p,Upd No h h'→(l.length=1→l= [p])→K (p,decide (l.length=1)) h'):HC PG uN [.pointer (some ⟨b,0,none⟩)] [.agg [.str,.str],.c .bool] K h:=by
 refine HM _ ?_;unfold zm ae bS;refine bm fun h1 b1 k1=>?_
 have t1:=TrieAt.upd0 k1 t;obtain⟨d,n,sp,sk,bu,ow,lp,lk,hb,hsp,hsk,h1l,h2l,hiff,hone⟩:=Nw t1 hn;have l1:=hsp.len;have l2:=hsk.len;refine Join.intro (fun t h'=>t= !decide (l.length=1)∧h'=h1) (fun R hR=>?_) ?_
 ·refine Uf hb (by omega) ?_
  by_cases e:sp.len+sk.len=1
  ·have e2:((sp.len+sk.len:Nat):Int)=1:=by omega
   rw[e2];refine ak.2 (FX hb (hR _ _ ⟨?_,rfl⟩));by_cases e0:n=0
   ·rw[decide_eq_true (hiff.1 ⟨by omega,e0⟩),e0];rfl
   ·rw[decide_eq_false fun h=>e0 (hiff.2 h).2]
    exact bne_iff_ne.2 (by omega)
  ·have e2:(((sp.len+sk.len:Nat):Int) !=(1:Int))=true:=bne_iff_ne.2 (by omega)
   rw[e2];refine au.2 (hR _ _ ⟨?_,rfl⟩);rw[decide_eq_false fun h=>e (by have:=(hiff.2 h).1;omega)];rfl
 ·rintro _ h' ⟨rfl,rfl⟩
  have b1':h'[h.size]? =some (.cells #[.string Nk.1,.string Nk.2] al (0,0)):=b1;by_cases e:l.length=1
  ·rw[decide_eq_true e]
   refine ak.2 ?_;refine sJ hb hsp (by omega) fun s2 h2 ho2 hu2=>?_
   match l,e,hone with
   | [p],e,hone=>
    have hlp:=hone p rfl;subst hlp;have hlen:=ho2.len;obtain⟨a,ha,_,hv⟩:=(ho2.sl (W:=No) fun _ _ _ h=>h).at (i:=0) (x:=p) rfl
    refine⟨⟨by omega,by simp at hlen;omega⟩,a,ha,p.1,hv 0 _ rfl,p.2,hv 1 _ rfl,?_⟩
    refine D1 (p:=p) (hu2.get0 b1') fun h3 b3 hu3=>⟨_,vc b3 0,_,vc b3 1,?_⟩
    have:=hk h3 p ((k1.tr hu2).own hu3 (aq _)) fun _=>rfl
    exact this
  ·have:=hk
   rw[decide_eq_false e];rw[decide_eq_false e]at hk;refine au.2 (D1 (p:=Nk) b1' fun h3 b3 hu3=>⟨_,vc b3 0,_,vc b3 1,?_⟩)
   exact hk h3 _ (k1.own hu3 (aq _)) fun h=>absurd h e
end Go.Proofs
