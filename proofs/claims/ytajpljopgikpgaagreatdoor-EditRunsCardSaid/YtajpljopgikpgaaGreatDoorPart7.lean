/- A part of the proof that the named laws of this program answer true, whatever the input. -/
import Derived.Test.YtajpljopgikpgaaGreatDoorPart6
open Array renaming size→cg
open BitVec renaming ofInt→ah,ofInt_natCast→eK,toNat_ofNat→nh
open Bool renaming and_eq_true→bC
open List renaming cons_append→cQ,cons→fi,take_succ_cons→dw,length_cons→aN,take_append_drop→aV,length→ga,length_drop→aL,length_nil→cF,pairwise_append→db,mem_append_left→dG,mem_append_right→fg,mem_cons_self→az,mem_of_getLast?→lj,mem_cons→au,pairwise_cons→bq,mem_append→bJ,mem_singleton→aq,take_length→bU,append_nil→bP,append_assoc→ar,drop_eq_nil_of_le→eV,getElem?_eq_getElem→af,length_append→ae,size_toArray→cP,flatMap_append→bA,flatMap_cons→aX,pairwise_iff_getElem→cI,map_append→dX,sum_append→iE,flatten_append→dM,map_cons→fQ,sum_cons→o6,getElem_mem→aP,length_map→gS
open List.Pairwise renaming nil→fX
open Nat renaming le_refl→ao,lt_or_ge→bH,zero_add→aE,add_zero→cZ,testBit_zero→jq,testBit_succ→gu,zero_testBit→fI,eq_of_testBit_eq→gz,testBit_and→gO,mod_eq_of_lt→de,zero_le→aU
namespace Go.Proofs
open Go Go.Lift
theorem vV{a b:ByteArray}:kl a b↔Op.bytesLess a.data.toList b.data.toList=true:=by unfold kl;rw[ByteArray.toList_eq,ByteArray.toList_eq]
theorem wh{a b:UInt8}{x y:List UInt8}:Op.bytesLess (a::x) (b::y)=true↔a.toNat<b.toNat∨(a=b∧Op.bytesLess x y=true):=by
 simp only[Op.bytesLess,Bool.or_eq_true,decide_eq_true_iff,bC,beq_iff_eq,UInt8.lt_iff_toNat_lt]
theorem KP(x:List UInt8):Op.bytesLess x []=false:=by cases x<;>rfl
theorem GN{x y:List UInt8}:∀pre:List UInt8,Op.bytesLess (pre++x) (pre++y)=true↔Op.bytesLess x y=true
 | []=>Iff.rfl
 |a::pre=>by rw[cQ,cQ,wh,GN pre];simp
theorem TX{x y:List UInt8}(h:Op.bytesLess x y=true)(hx:x≠[])(c:y≠[]):hd x≤hd y:=by
 match x,y,hx,c with
 |a::x,b::y,_,_=>
  show a.toNat≤b.toNat
  rcases wh.1 h with h|⟨rfl,_⟩<;>omega
theorem Hu:∀(t:Nat) {f p g:List UInt8},t≤cm f g→(f=p∨Op.bytesLess f p=true)→(p=g∨Op.bytesLess p g=true)→p.take t=f.take t∧t≤p.length
 |0,f,p,g,_,_,_=>by simp
 |t+1,[],p,g,h,_,_=>by simp[cm]at h
 |t+1,a::f,p,[],h,_,_=>by simp[cm]at h
 |t+1,a::f,p,b::g,h,d,i=>by
  unfold cm at h;split at h
  ·rename_i e
   subst e;rcases p with _|⟨c,p⟩
   ·rcases d with d|d
    ·cases d
    ·rw[KP]at d;cases d
   ·have hc:c=a:=by
     rcases d with d|d
     ·exact(fi.inj d).1.symm
     ·rcases i with i|i
      ·exact(fi.inj i).1
      ·have k:=wh.1 d
       have j:=wh.1 i;rcases k with k|⟨k,_⟩
       ·rcases j with j|⟨j,_⟩
        ·omega
        ·exact j
       ·exact k.symm
    subst hc;have:=Hu t (f:=f) (p:=p) (g:=g) (by omega) (d.imp (fun h=>(fi.inj h).2) fun h=>by
     rcases wh.1 h with h|⟨_,h⟩
     ·omega
     ·exact h) (i.imp (fun h=>(fi.inj h).2) fun h=>by
     rcases wh.1 h with h|⟨_,h⟩
     ·omega
     ·exact h)
    rw[dw,dw,this.1,aN];exact⟨rfl,by omega⟩
  ·omega
theorem Mn:∀f:List UInt8,cm f f=f.length
 | []=>rfl
 |a::f=>by unfold cm;rw[if_pos rfl,Mn f];rfl
abbrev ky(p:Pr):List UInt8:=p.1.data.toList
def Rl(l:List Pr)(a k:List UInt8)(v:ByteArray):Prop:=∃p∈l,ky p=a++k∧p.2=v
structure Beg(l:List Pr)(pre:List UInt8):Prop where
 up:cu l
 at_:∀p∈l,(ky p).take pre.length=pre∧pre.length<(ky p).length
theorem Beg.sub{l l':List Pr}{a:List UInt8}(b:Beg l a)(h:l'.Sublist l):Beg l' a:=⟨b.up.sublist h,fun p c=>b.at_ p (h.subset c)⟩
theorem Beg.split{l:List Pr}{a:List UInt8}(b:Beg l a){p:Pr}(c:p∈l):ky p=a++(ky p).drop a.length∧(ky p).drop a.length≠[]:=by
 obtain⟨d,f⟩:=b.at_ p c;refine⟨?_,fun e=>?_⟩
 ·conv=>lhs;rw[←aV a.length (ky p),d]
 ·have:=congrArg ga e
  rw[aL,cF]at this;omega
def bt(n:Nat)(p:Pr):Nat:=hd ((ky p).drop n)
theorem Beg.mono{A B:List Pr}{a:List UInt8}(b:Beg (A++B) a){x y:Pr}(hx:x∈A)(c:y∈B):bt a.length x≤bt a.length y:=by
 have h:=(db.1 b.up).2.2 x hx y c;rw[vV]at h;obtain⟨f,e⟩:=b.split (dG B hx);obtain⟨g,d⟩:=b.split (fg A c);change Op.bytesLess (ky x) (ky y)=true at h;rw[f,g,GN]at h;exact TX h e d
theorem FC{l:List Pr}{d:List UInt8}{f g:Pr}(b:Beg l d)(D:∃r,l=f::r)(u:l.getLast? =some g)(L:bt d.length f=bt d.length g):
  d.length<cm (ky f) (ky g)∧cm (ky f) (ky g)≤(ky f).length∧(∀p∈l,(ky p).take (cm (ky f) (ky g))=(ky f).take (cm (ky f) (ky g)))∧(∀p∈l,p=f∨cm (ky f) (ky g)<(ky p).length)∧
   (cm (ky f) (ky g)<(ky f).length→cm (ky f) (ky g)<(ky g).length∧hd ((ky f).drop (cm (ky f) (ky g)))≠hd ((ky g).drop (cm (ky f) (ky g)))):=by
 obtain⟨r,rfl⟩:=D;have w:f∈f::r:=az ..;have i:g∈f::r:=lj u;obtain⟨I,K⟩:=b.split w;obtain⟨G,E⟩:=b.split i;have t:d.length<cm (ky f) (ky g):=by
  have:∀(q x y:List UInt8),cm (q++x) (q++y)=q.length+cm x y:=by
   intro q x y;induction q with
   |nil=>simp
   |cons a q ih=>simp only[cQ,cm,if_true,ih,aN];omega
  have A:=this d ((ky f).drop d.length) ((ky g).drop d.length);rw[←I,←G]at A;have F:=PC K E L;omega
 have s:=Mp (ky f) (ky g);have z:∀p∈f::r,ky f=ky p∨Op.bytesLess (ky f) (ky p)=true:=fun p c=>by
  rcases au.1 c with rfl|c
  ·exact .inl rfl
  ·exact .inr (vV.1 ((bq.1 b.up).1 p c))
 have v:∀p∈f::r,ky p=ky g∨Op.bytesLess (ky p) (ky g)=true:=fun p c=>by
  rcases List.eq_nil_or_concat (f::r)with h|⟨l',y,h⟩
  ·cases h
  ·rw[List.concat_eq_append]at h
   rw[h,List.getLast?_concat]at u;cases u;have o:=b.up;rw[h]at c o;rcases bJ.1 c with c|c
   ·exact .inr (vV.1 ((db.1 o).2.2 p c g (aq.2 rfl)))
   ·rw[aq.1 c];exact .inl rfl
 have n:∀p∈f::r,(ky p).take (cm (ky f) (ky g))=(ky f).take (cm (ky f) (ky g))∧cm (ky f) (ky g)≤(ky p).length:=fun p c=>Hu _ (ao _) (z p c) (v p c)
 have m:∀p∈f::r,p=f∨cm (ky f) (ky g)<(ky p).length:=fun p c=>by
  obtain⟨A,F⟩:=n p c;rcases bH (cm (ky f) (ky g)) (ky p).length with h|h
  ·exact .inr h
  ·left
   have J:(ky p).length=cm (ky f) (ky g):=by omega
   have e:ky p=(ky f).take (cm (ky f) (ky g)):=by rw[←A,←J,bU]
   rcases au.1 c with rfl|c
   ·rfl
   ·have B:=vV.1 ((bq.1 b.up).1 p c)
    change Op.bytesLess (ky f) (ky p)=true at B;exfalso;have H:ky f=ky p++(ky f).drop (cm (ky f) (ky g)):=by rw[e,aV]
    have C:Op.bytesLess (ky p++(ky f).drop (cm (ky f) (ky g))) (ky p++ [])=true:=by rw[bP,←H];exact B
    rw[GN,KP]at C;cases C
 refine⟨t,s.1,fun p c=>(n p c).1,m,fun j=>?_⟩
 have k:cm (ky f) (ky g)<(ky g).length:=by
  rcases m g i with h|h
  ·exfalso
   rw[h,Mn]at j;omega
  ·exact h
 exact⟨k,GI _ _ j k⟩
theorem KM{l l':List Pr}{a:List UInt8}{f g:Pr}(b:Beg l a)(C:∃r,l=f::r)(D:l.getLast? =some g)(K:bt a.length f=bt a.length g){F:Fo}(hc:eW F)
  (d:l'=if(ky f).length=cm (ky f) (ky g)then l.drop 1 else l)(x:∀k v,ox F k v↔Rl l' ((ky f).take (cm (ky f) (ky g))) k v){w:Option ByteArray}(y:w=if(ky f).length=cm (ky f) (ky g)then some f.2 else none){lab:List UInt8}(s:lab=((ky f).take (cm (ky f) (ky g))).drop a.length):
  Ja (lab,w,F)∧hd lab=bt a.length f∧∀k v,qW (lab,w,F) k v↔Rl l a k v:=by
 obtain⟨O,M,E,N,H⟩:=FC b C D K;obtain⟨r,rfl⟩:=C;have o:f∈f::r:=az ..;have u:g∈f::r:=lj D;generalize cm (ky f) (ky g)=to at*;have i:a++lab=(ky f).take to:=by
  have:=(b.at_ f o).1;rw[s];conv=>rhs;rw[←aV a.length ((ky f).take to),List.take_take,Nat.min_eq_left (by omega),this]
 have j:lab≠[]:=fun e=>by
  have:=congrArg ga s;rw[e,cF,aL,List.length_take]at this;omega
 have z:∀k v,qW (lab,w,F) k v↔Rl (f::r) a k v:=by
  intro k v;constructor
  ·rintro⟨q,e,⟨rfl,m⟩|m⟩
   ·simp only at e m
    rw[bP]at e;subst e;rw[y]at m;split at m
    ·rename_i c
     cases m;refine⟨f,o,?_,rfl⟩;rw[i,←c,bU]
    ·cases m
   ·simp only at e m
    obtain⟨p,n,I,rfl⟩:=(x q v).1 m;refine⟨p,?_,?_,rfl⟩
    ·rw[d]at n
     split at n
     ·exact List.mem_cons_of_mem _ n
     ·exact n
    ·rw[I,e,←ar,i]
  ·rintro⟨p,n,e,rfl⟩
   have t:=E p n;have L:ky p=a++(lab++(ky p).drop to):=by
    rw[←ar,i,←t,aV]
   have ek:k=lab++(ky p).drop to:=List.append_cancel_left (e.symm.trans L);refine⟨(ky p).drop to,ek,?_⟩;by_cases c:(ky f).length=to
   ·rw[if_pos c]at y d
    rcases au.1 n with rfl|n
    ·left
     refine⟨eV (by omega),?_⟩;simp only;rw[y]
    ·right
     refine(x _ _).2 ⟨p,by rw[d];exact n,?_,rfl⟩
     rw[←t,aV]
   ·rw[if_neg c]at y d
    right;refine(x _ _).2 ⟨p,by rw[d];exact n,?_,rfl⟩
    rw[←t,aV]
 refine⟨⟨j,?_,hc⟩,?_,z⟩
 ·by_cases c:(ky f).length=to
  ·left;simp only;rw[y,if_pos c];rfl
  ·have A:to<(ky f).length:=by omega
   obtain⟨J,B⟩:=H A;refine(Ds hc).2 (.inr ⟨(ky f).drop to,(ky g).drop to,f.2,g.2,.inr ?_,.inr ?_,fun e=>?_,fun e=>?_,B⟩)
   ·exact(x _ _).2 ⟨f,by rw[d,if_neg c];exact o,(aV ..).symm,rfl⟩
   ·exact(x _ _).2 ⟨g,by rw[d,if_neg c];exact u,by rw[←E g u,aV],rfl⟩
   ·have:=congrArg ga e
    rw[aL,cF]at this;omega
   ·have:=congrArg ga e
    rw[aL,cF]at this;omega
 ·have e:=(b.split o).1
  unfold bt;have m:(ky f).drop a.length=lab++(ky f).drop to:=by
   have G:ky f=a++(lab++(ky f).drop to):=by rw[←ar,i,aV]
   conv=>lhs;rw[G]
   rw[List.drop_left]
  rw[m,nI j]
structure Row(L:List Bn)(D T:List Pr)(pre:List UInt8):Prop where
 can:∀n∈L,Ja n
 up:L.Pairwise fun m n=>hd m.1<hd n.1
 lo:∀n∈L,∀p∈T,hd n.1<bt pre.length p
 got:∀k v,(∃n∈L,qW n k v)↔Rl D pre k v
theorem Row.nil(T:List Pr)(a:List UInt8):Row [] [] T a:=⟨fun n h=>(by cases h),fX,fun n h=>(by cases h),fun k v=>⟨fun⟨n,h,_⟩=>(by cases h),fun⟨p,h,_⟩=>(by cases h)⟩⟩
theorem Row.more{L:List Bn}{D A B:List Pr}{c:List UInt8}{n:Bn}{p:Pr}(r:Row L D (A++B) c)(o:Beg (A++B) c)(s:p∈A)(z:∀a∈A,bt c.length a=bt c.length p)(w:∀b f,B=b::f→bt c.length b≠bt c.length p)(hc:Ja n)(j:hd n.1=bt c.length p)(t:∀k v,qW n k v↔Rl A c k v):Row (L++ [n]) (D++A) B c:=by
 refine⟨fun m hm=>?_,db.2 ⟨r.up,List.pairwise_singleton ..,fun a u b x=>?_⟩,fun m hm q d=>?_,fun k v=>?_⟩
 ·rcases bJ.1 hm with hm|hm
  ·exact r.can m hm
  ·rw[aq.1 hm];exact hc
 ·rw[aq.1 x,j]
  exact r.lo a u p (dG _ s)
 ·rcases bJ.1 hm with hm|hm
  ·exact r.lo m hm q (fg _ d)
  ·rw[aq.1 hm,j]
   rcases B with _|⟨i,f⟩
   ·cases d
   have y:=w i f rfl;have C:=o.mono s (az (a:=i) (l:=f));rcases au.1 d with rfl|d
   ·omega
   ·have g:Beg ([i]++f) c:=o.sub (List.sublist_append_right A _)
    have:=g.mono (aq.2 rfl) d;omega
 ·constructor
  ·rintro⟨m,hm,hi⟩
   rcases bJ.1 hm with hm|hm
   ·obtain⟨q,d,e⟩:=(r.got k v).1 ⟨m,hm,hi⟩
    exact⟨q,dG _ d,e⟩
   ·rw[aq.1 hm]at hi
    obtain⟨q,d,e⟩:=(t k v).1 hi;exact⟨q,fg _ d,e⟩
  ·rintro⟨q,d,e⟩
   rcases bJ.1 d with d|d
   ·obtain⟨m,hm,hi⟩:=(r.got k v).2 ⟨q,d,e⟩
    exact⟨m,dG _ hm,hi⟩
   ·exact⟨n,fg _ (aq.2 rfl),(t k v).2 ⟨q,d,e⟩⟩
theorem Row.done{L:List Bn}{D:List Pr}{a:List UInt8}(r:Row L D [] a):eW (.ofL L)∧∀k v,ox (.ofL L) k v↔Rl D a k v:=by
 refine⟨eg.2 ?_,fun k v=>?_⟩
 ·rw[Fo.to_of];exact⟨r.up,r.can⟩
 ·rw[fw,Fo.to_of];exact r.got k v
end Go.Proofs
namespace Go.Proofs
open Go Go.Lift
theorem Ki(s:ByteArray):s.data.toList.length=s.size:=by simp
theorem Kid.less{W W':Nat→Prop}{h:ad}(hm:∀b,W' b→W b∨h.size≤b){a:Option Addr}{n:Bn}:Kid W h a n→Kid W' h a n
 |⟨b,sl,e1,e2,e3⟩=>⟨b,sl,e1,e2,e3.less hm⟩
theorem Kid.updM{W M:Nat→Prop}{h c:ad}(k:Upd M h c)(hm:∀b,M b→W b∨h.size≤b){a:Option Addr}{n:Bn}:Kid W h a n→Kid W c a n
 |⟨b,sl,e1,e2,e3⟩=>⟨b,sl,e1,e2,e3.updM k hm⟩
theorem RxL.less{W W':Nat→Prop}{h:ad}(hm:∀b,W' b→W b∨h.size≤b){ks:List (Option Addr)}{L:List Bn}(r:RxL W h ks L):RxL W' h ks L:=⟨r.1,fun p a=>(r.2 p a).less hm⟩
theorem RxL.updM{W M:Nat→Prop}{h a:ad}(k:Upd M h a)(hm:∀b,M b→W b∨h.size≤b){ks:List (Option Addr)}{L:List Bn}(r:RxL W h ks L):RxL W a ks L:=⟨r.1,fun p c=>(r.2 p c).updM k hm⟩
theorem PK{p:Pr}{n:Nat}(h:n<(ky p).length):∃b:UInt8,p.1[n]? =some b∧b.toNat=bt n p:=by
 rw[Ie];refine⟨(ky p)[n],af h,?_⟩;unfold bt hd;rw[List.drop_eq_getElem_cons h];rfl
end Go.Proofs
namespace Go.Proofs
open Go Go.Lift
theorem Gp{h:ad}{t:Tr}{k:ad→Prop}(d:∀h',h'[h.size]? =some (.cells (je t).toArray aS (0,0))→Upd No h h'→k h'):
  At (hnew h (je wM) aS) (fun a=>sS a (some (aC h)) 0 (je t)∧At (gT a (aC h) 0 (je t)) k):=
 aO fun a b1 k1=>dd (c:=je wM) (vs:=je t) b1 rfl fun e b2 b=>d e b2 (k1.own b (ao _))
end Go.Proofs
namespace Go.Proofs
open Go Go.Lift
theorem Qz{h:ad}{b n:Nat}{t:TypeId}{c d vs:List Value}(a:h[b]? =some (.cells (c++d).toArray t (0,0))) (f:c.length=n) (m:vs.length=d.length) {k:ad→Prop}
  (g:∀h',h'[b]? =some (.cells (c++vs).toArray t (0,0))→Upd (· =b) h h'→k h'):sS h (some (adr ⟨b,0,none⟩ n)) 0 vs∧At (gT h (adr ⟨b,0,none⟩ n) 0 vs) k:=by
 rw[bL,aE];have e:=iB vs h 0 n (c++d) a (by rw[ae];omega);refine⟨.inr ⟨_,rfl,fun j i=>by rw[bL];exact ia a (by rw[cP,ae];omega)⟩,bT ?_⟩
 rw[e];refine g _ ?_ (Upd.set h _ rfl);rw[jL a];congr 3
 subst f;rw[cZ,List.take_left,eV (by rw[ae];omega),bP]
abbrev edL(pb tb:Nat)(t:Tr):List Value:= [.pointer (some ⟨pb,0,none⟩),.pointer (some ⟨tb,0,none⟩)]++je t
def EdAt(h:ad)(eb pb tb:Nat)(t:Tr):Prop:=h[eb]? =some (.cells (edL pb tb t).toArray AW (0,0))
theorem O1{h:ad}{tb pb:Nat}{ti:Int}{a:Bool}(k:TokAt h tb pb ti a){K:Bool→ad→Prop}(b:K a h):HC PG eE [.pointer (some ⟨tb,0,none⟩)] [.c .bool] K h:=by
 refine yG k.by_ ?_;cases a<;>exact b
theorem Ip{h:ad}{eb pb tb:Nat}{t:Tr}{ti:Int}{a:Bool}(e:EdAt h eb pb tb t)(k:TokAt h tb pb ti a){K:Bool→ad→Prop}(b:K (!a) h):HC PG m6 [.pointer (some ⟨eb,0,none⟩)] [.c .bool] K h:=by
 refine xX _ ?_;unfold qO fE;exact aA.2 ⟨_,rfl,_,vc e 1,O1 k b⟩
theorem vY{h:ad}{eb pb tb:Nat}{t:Tr}{ti:Int}{a:Bool}(e:EdAt h eb pb tb t)(k:TokAt h tb pb ti a){K:Int→ad→Prop}(b:K (if a then 0 else 5) h):HC PG jn [.pointer (some ⟨eb,0,none⟩)] [.c (.int .i64)] K h:=by
 refine AN _ ?_;unfold tA;refine aj.2 (Ip e k ?_);cases a
 ·exact aA.2 b
 ·exact aj.2 b
theorem EdAt.upd{M:Nat→Prop}{h a:ad}{eb pb tb:Nat}{t:Tr}(e:EdAt h eb pb tb t)(k:Upd M h a)(hm:¬M eb):EdAt a eb pb tb t:=k.get e hm
theorem TokAt.upd{M:Nat→Prop}{h b:ad}{tb pb:Nat}{ti:Int}{a:Bool}(e:TokAt h tb pb ti a)(k:Upd M h b)(hm:¬M tb):TokAt b tb pb ti a:=k.get e hm
theorem HV.mono{P:Program}{V:Value}{args:List Value}{ks:List Kind}{K a:sU ks→ad→Prop}{h:ad}{f:FuncId}{cap:Array Value}(e:V=.func (.func f) #[] cap)(hc:HC P f (args++cap.toList) ks K h)(b:∀t h',K t h'→a t h'):HV P V args ks a h:=by
 subst e;exact HV.mk' (by simpa using hc.mono b)
abbrev RW:List Kind:= [.agg [.int .i64,.int .u64,.int .u64,.int .u64,.ptr,.ptr],.c (.int .i64)]
theorem Bi{h:ad}{eb pb tb:Nat}{tu:Tr}{f:FuncId}{cap:Array Value}(e:EdAt h eb pb tb tu){K:Int→ad→Prop}
  (hc:HC PG f ([.pointer (some ⟨tb,0,none⟩)]++cap.toList) RW (fun(z:Tr×Int) n=>EdAt n eb pb tb tu∧∀i,Upd No n i→((z.2=0→∀h',EdAt h' eb pb tb z.1→Upd (· =eb) i h'→K 0 h')∧(z.2≠0→K z.2 i))) h):HC PG jQ [.pointer (some ⟨eb,0,none⟩),.func (.func f) #[] cap] [.c (.int .i64)] K h:=by
 refine xW _ _ ?_;unfold qN bo ag fE D5 nv sK uO BC QY aJ;refine⟨_,rfl,_,vc e 1,HV.mono rfl hc fun(z:Tr×Int) n hz=>?_⟩
 obtain⟨p,hz⟩:=hz;refine aO fun i t v=>dd (c:=je wM) (vs:=je z.1) t rfl fun s b m=>?_
 have g:=v.own m (ao _);obtain⟨j,o⟩:=hz s g;refine CondP.intro (fun a=>?_) fun a=>?_
 ·have a:z.2=0:=by simpa using a
  refine⟨_,vc b 0,_,vc b 1,_,vc b 2,_,vc b 3,_,vc b 4,_,vc b 5,_,rfl,?_⟩;refine Qz (c:= [.pointer (some ⟨pb,0,none⟩),.pointer (some ⟨tb,0,none⟩)]) (d:=je tu) (vs:=je z.1) (p.upd g id) rfl rfl fun u q k=>?_
  rw[a];exact j a u q k
 ·exact o (by simpa using a)
structure EdO(W S:Nat→Prop)(h:ad)(eb pb tb:Nat)(ti:Int)(kind:Int)(x:Hs)(tu:Tr)(lu:List Pr):Prop where
 ed:EdAt h eb pb tb tu
 tk:TokAt h tb pb ti true
 iu:TreeO (some ⟨tb,0,none⟩) (fun y=>W y∨S y) h kind x tu lu S
 lt:∀y,(W y∨S y)→y<h.size
 we:W eb
 wt:W tb
 ap:∀y,S y→¬W y
 up:cu lu
 fit:Fit lu
theorem EdO.can{W S:Nat→Prop}{h:ad}{eb pb tb:Nat}{ti:Int}{b:Int}{x:Hs}{tu:Tr}{lu:List Pr}(e:EdO W S h eb pb tb ti b x tu lu):Can (some ⟨tb,0,none⟩) (some ⟨tb,0,none⟩) (fun y=>W y∨S y) S h:=
 ⟨e.tk.by_,e.lt,fun y d=>.inr d,fun a h=>by cases h;exact .inl e.wt,fun a h c=>by cases h;exact e.ap _ c e.wt⟩
theorem EdO.fin{W S i:Nat→Prop}{h m o w u j:ad}{eb pb tb b:Nat}{ti:Int}{d:Int}{x:Hs}{tu g:Tr}{lu f:List Pr}(e:EdO W S h eb pb tb ti d x tu lu)(C:Upd No h m)(v:Upd S m o)(E:TreeO (some ⟨tb,0,none⟩) (fun y=>Pro (fun y=>W y∨S y) h m y∨i y) o d x g f i)(k:∀y,i y→(S y∨m.size≤y)∧y<o.size)
  (q:Upd (· =b) o w)(J:h.size≤b)(D:b<m.size)(t:Upd No w u)(I:EdAt j eb pb tb g)(p:Upd (· =eb) u j)(up:cu f)(fit:Fit f):EdO W i j eb pb tb ti d x g f∧Upd (fun y=>S y∨y=eb) h j∧∀y,i y→(S y∨h.size≤y)∧y<j.size:=by
 have s3:=C.size;have N:=v.size;have M:=q.size;have L:=t.size;have O:=p.size;have s:∀y,S y→y<h.size:=fun y c=>e.lt y (.inr c)
 have G:=e.lt _ (.inl e.we);have F:=e.lt _ (.inl e.wt);have A:∀{z},W z→¬i z:=fun n h=>by
  rcases(k _ h).1 with h|h
  ·exact e.ap _ h n
  ·have:=e.lt _ (.inl n);omega
 have B:Upd (fun y=>S y∨y=eb) h j:=(((C.wide.tr (v.mono fun y c=>.inl (.inl c))).trans q fun y c=>.inr (by have c:y=b:=c;omega)).tr t.wide).trans p fun y c=>.inl (.inr c)
 have K:=E.loc q J D s k;have H:=(K.upd0 t).upd p (fun y c=>by have:=(k y c).2;omega) fun y c=>by
  have c:y=eb:=c;subst c;exact .inl ⟨.inl (.inl (.inl e.we)),A e.we⟩
 refine⟨⟨I,e.tk.upd B fun h=>?_,H.less fun y c=>.inl (c.imp (fun h=>.inl (.inl h)) id),fun y c=>c.elim (fun h=>?_) fun h=>?_,e.we,e.wt,fun y c n=>A n c,up,fit⟩,B,fun y c=>⟨(k y c).1.imp id fun h=>by omega,by have:=(k y c).2;omega⟩⟩
 ·rcases h with h|h
  ·exact e.ap _ h e.wt
  ·have a:=e.tk
   rw[h]at a;have a:=a.symm.trans e.ed;simp at a
 ·have:=e.lt y (.inl h);omega
 ·have:=(k y h).2;omega
set_option maxHeartbeats 1000000 in
theorem Im{W S:Nat→Prop}{h:ad}{eb pb tb:Nat}{ti:Int}{f:Int}{x:Hs}{tu:Tr}{lu:List Pr}(e:EdO W S h eb pb tb ti f x tu lu)(N:lu.length≤1000000)(p:Pr){K:Int→ad→Prop}
  (B:∀k a o,EdO W o k eb pb tb ti f x a (l6 lu p)→Upd (fun y=>S y∨y=eb) h k→(∀y,o y→(S y∨h.size≤y)∧y<k.size)→K (yf p) k)(g:Fit (l6 lu p)):HC PG gN [.pointer (some ⟨eb,0,none⟩),.agg #[.string p.1,.string p.2]] [.c (.int .i64)] K h:=by
 refine uE _ p ?_;unfold pK uL;refine aO fun h1 b1 k1=>aO fun T b2 A=>?_
 have Y:=aD b1;have Z:=aD b2;have s1:=k1.size;have s2:=A.size;have c1:=A.get0 b1;have d:=k1.tr A;refine⟨_,vc c1 0,vY (e.ed.upd d id) (e.tk.upd d id) (aj.2 ⟨_,vc c1 0,?_⟩)⟩;refine Bi (e.ed.upd d id) (zm _ _ _ ?_);unfold rR bo mu ag bN fE bM eO BE qX sK uO aJ;refine aO fun V b3 E=>?_
 have G:=aD b3;have b:=d.tr E;have j:=e.ed.upd b id;have I:=E.get0 b2;have J:=E.get0 c1;refine⟨_,vc J 0,_,rfl,_,fu j 2 0,_,fu j 2 1,_,fu j 2 2,_,fu j 2 3,_,fu j 2 4,_,fu j 2 5,p.1,vc I 0,p.2,vc I 1,?_⟩;have t:∀y,S y→y<h.size:=fun y R=>e.lt y (.inr R)
 refine EL (e.iu.pro b) (e.can.pro b) e.up N p fun h4 a o m F u O=>?_
 have X:=m.size;refine⟨vc (m.get J fun q=>by have:=t _ q;omega) 0,?_⟩
 refine dd (c:=je wM) (vs:=je a) (m.get b3 fun q=>by have:=t _ q;omega) rfl fun M n i=>?_
 refine⟨_,vc n 0,_,vc n 1,_,vc n 2,_,vc n 3,_,vc n 4,_,vc n 5,?_⟩;have H:EdAt M eb pb tb tu:=(j.upd m fun q=>e.ap _ q e.we).upd i (by have:=e.lt _ (.inl e.we);omega)
 have s:cu (l6 lu p):=by
  unfold l6;split
  ·exact zZ p e.up
  ·exact e.up
 refine⟨H,fun L C=>⟨fun hz k P D=>?_,fun hz=>?_⟩⟩
 ·obtain⟨z,w,v⟩:=e.fin b m F u i (by omega) G C P D s g
  have hz:yf p=0:=hz;rw[hz]at B;exact B k a o z w v
 ·have hz:yf p≠0:=hz
  have Q:=O hz;subst Q;obtain⟨z,w,v⟩:=e.fin b m F u i (by omega) G C (H.upd C id) (Upd.refl _ _) s g;exact B L a o z w v
end Go.Proofs
namespace Go.Proofs
open Go Go.Lift
theorem Jy{W:Nat→Prop}{h:ad}{b:Nat}{sl:ByteArray}{w:Option ByteArray}{F:Fo}(r:RxN W h b sl w F){K:ByteArray×Bool→ad→Prop}(c:∀v,(∀u,w=some u→v=u)→K (v,w.isSome) h):HC PG m0 [.pointer (some ⟨b,0,none⟩)] [.c .str,.c .bool] K h:=by
 refine xT _ ?_;unfold qK bM ie;obtain⟨val,s,ow,ks,a,hv,_⟩:=r;exact aj.2 ⟨_,rfl,val,dz (i:=2) a,_,rfl,w.isSome,dz (i:=1) a,c val (vw hv)⟩
theorem MU{W:Nat→Prop}{h:ad}{b:Nat}{sl:ByteArray}{w:Option ByteArray}{F:Fo}(r:RxN W h b sl w F)(m:F.toL.length≤256){K:SliceV→ad→Prop}(f:∀s' a ks,OwnS lB 1 aY (fun y=>h.size≤y) a s' ks→RxL W a ks F.toL→Upd No h a→K s' a):HC PG nO [.pointer (some ⟨b,0,none⟩)] [.c .slice] K h:=by
 refine zd _ ?_;unfold rK bD;obtain⟨val,s,ow,ks,j,hv,k,_,e⟩:=r;have d:=pY.1 e;refine aj.2 ⟨_,rfl,s,dz (i:=3) j,?_⟩;refine FA k (by rw[d.1];omega) fun s' a g c=>f s' a ks g (d.upd0 c) c
theorem M8(lab:List UInt8)(w:Option ByteArray)(a b:Fo):xt (.cons lab w a b)=((w.map fun v=>(([]:List UInt8),v)).toList++xt a).map (fun p=>(lab++p.1,p.2))++xt b:=rfl
end Go.Proofs
namespace Go.Proofs
open Go Go.Lift
end Go.Proofs
namespace Go.Proofs
open Go Go.Lift
end Go.Proofs
namespace Go.Proofs
open Go Go.Lift
end Go.Proofs
namespace Go.Proofs
theorem O0:∀{n x:Nat},x<2^n→0<x→∃c,c<n∧x.testBit c=true∧∀j,j<c→x.testBit j=false
 |0,x,h,h'=>by simp at h;omega
 |n+1,x,h,h'=>by
  by_cases e:x%2=1
  ·exact⟨0,by omega,by rw[jq];simpa using e,fun j a=>absurd a (Nat.not_lt_zero _)⟩
  ·obtain⟨c,f,b,d⟩:=O0 (n:=n) (x:=x/2) (by rw[Nat.pow_succ]at h;omega) (by omega)
   refine⟨c+1,by omega,by rw[gu];exact b,fun j a=>?_⟩
   cases j with
   |zero=>rw[jq];simpa using e
   |succ j=>rw[gu];exact d j (by omega)
theorem CL:∀{c x:Nat},x.testBit c=true→(∀j,j<c→x.testBit j=false)→∀i,(x-1).testBit i=if i<c then true else if i=c then false else x.testBit i
 |0,x,h,_,i=>by
  have h:x%2=1:=by rw[jq]at h;simpa using h
  cases i with
  |zero=>rw[jq,if_neg (by omega),if_pos rfl];simp;omega
  |succ i=>rw[gu,gu,if_neg (by omega),if_neg (by omega)];congr 1;omega
 |c+1,x,h,hl,i=>by
  have a:=hl 0 (by omega);rw[jq]at a;have f:¬x%2=1:=by simpa using a
  have a:x%2=0:=by omega
  rw[gu]at h;have b:0<x/2:=by
   rcases Nat.eq_zero_or_pos (x/2)with e|e
   ·rw[e,fI]at h;cases h
   ·exact e
  cases i with
  |zero=>rw[jq,if_pos (by omega)];simp;omega
  |succ i=>
   have:=CL (x:=x/2) h (fun j d=>by have:=hl (j+1) (by omega);rwa [gu]at this) i
   rw[gu,gu,show(x-1)/2=x/2-1 by omega,this]
   simp only[Nat.add_lt_add_iff_right,Nat.add_right_cancel_iff]
theorem QU{c x:Nat}(h:x.testBit c=true)(d:∀j,j<c→x.testBit j=false)(hc:c<32)(hx:x<4294967296):x&&&(4294967296-x)=2^c:=by
 have f:0<x:=by
  rcases Nat.eq_zero_or_pos x with e|e
  ·rw[e,fI]at h;cases h
  ·exact e
 refine gz fun i=>?_
 have e:4294967296-x=2^32-((x-1)+1):=by omega
 rw[gO,e,Nat.testBit_two_pow_sub_succ (by omega),CL h d,Nat.testBit_two_pow];by_cases a:i<c
 ·rw[if_pos a,d i a];simp;omega
 ·rw[if_neg a]
  by_cases b:i=c
  ·subst b;simp[h,hc]
  ·rw[if_neg b]
   cases x.testBit i<;>simp<;>omega
theorem Nz{c x:Nat}(h:x.testBit c=true)(d:∀j,j<c→x.testBit j=false)(i:Nat):(x&&&(x-1)).testBit i=(x.testBit i&&decide (c<i)):=by
 rw[gO,CL h d];by_cases a:i<c
 ·rw[if_pos a,d i a];rfl
 ·rw[if_neg a]
  by_cases b:i=c
  ·subst b;simp
  ·rw[if_neg b]
   have:c<i:=by omega
   simp[this]
end Go.Proofs
namespace Go.Proofs
open Go Go.Lift
def wl(x:Hs):Nat→List Pr→List Pr
 |0,l=>l
 |m+1,l=>fC x (12-m) l++(iV x (12-m) l).flatMap (wl x m)
def cw(x:Hs):Nat→List Pr→Nat
 |0,_=>2
 |m+1,l=>2+((iV x (12-m) l).map (cw x m)).sum
structure Fr where
 sp:SliceV
 sk:SliceV
 n:Nat
 ps:List Pr
 ks:List (Nat×List Pr)
def Fr.raw(f:Fr):SliceV×SliceV:=(f.sp,f.sk)
def Fr.rem(x:Hs)(f:Fr):List Pr:=f.ps++f.ks.flatMap fun k=>wl x (f.n-1) k.2
theorem setCell{α:Type}{f:α→List Value}{c:Nat}{t:TypeId}{M:Nat→Prop}{h:ad}{s:SliceV}{P Q:List α}{x y:α}{j:Nat}{v:Value}(n:OwnS f c t M h s (P++x::Q))(F:j<c)(D:f y=(f x).set j v){a:Addr}(w:s.a=some a){i:Nat}(hi:i=P.length){G:ad→Prop}(B:∀g,OwnS f c t M g s (P++y::Q)→Upd M h g→G g):
  Wr h (adr (adr a (i*c)) j)∧At (hset h (adr (adr a (i*c)) j) v) G:=by
 subst hi;have o:=n.ne;have e:=n.len;have m:=n.cap;rcases n.blk with H|⟨b,d,k,A,hc,C⟩
 ·rw[ae,aN]at e;omega
 rw[w]at k;cases k;have I:(P.flatMap f).length=P.length*c:=jR o P;rw[bA,aX]at hc;have J:=(o x).1;have E:adr (adr ⟨b,0,none⟩ (P.length*c)) j=⟨b,P.length*c+j,none⟩:=by rw[bL,bL,aE]
 rw[E];have q:P.length*c+j<(P.flatMap f++(f x++Q.flatMap f)++d).toArray.size:=by
  simp only[cP,ae];omega
 refine⟨ia hc q,ui hc fun g u p=>B g ⟨by rw[e];simp,o,m,.inr ⟨b,d,w,A,?_,C⟩⟩ (p.mono fun z hz=>.inl (by have hz:z=b:=hz;rw[hz];exact A))⟩
 rw[u];congr 3
 rw[bA,aX,D];apply Array.toList_inj.1;rw[Array.toList_setIfInBounds];simp only[ar];rw[List.set_append_right _ _ (by omega),show P.length*c+j-(P.flatMap f).length=j by omega,List.set_append_left _ _ (by omega)]
end Go.Proofs
namespace Go.Proofs
open Go Go.Lift
end Go.Proofs
namespace Go.Proofs
open Go Go.Lift
def Below(W:Nat→Prop)(x:Hs)(h:ad)(m:Nat)(r:Option Addr)(l:List Pr):Prop:=(r=none∧l= [])∨∃b,r=some ⟨b,0,none⟩∧TrieAt W x h m b l
theorem Below.upd0{W:Nat→Prop}{x:Hs}{h a:ad}{m:Nat}{r:Option Addr}{l:List Pr}(k:Upd No h a)(t:Below W x h m r l):Below W x a m r l:=t.imp id fun⟨b,e,t⟩=>⟨b,e,TrieAt.upd0 k t⟩
theorem Below.less{W W':Nat→Prop}{x:Hs}{h:ad}{m:Nat}{r:Option Addr}{l:List Pr}(hm:∀b,W' b→W b∨h.size≤b)(t:Below W x h m r l):Below W' x h m r l:=t.imp id fun⟨b,e,t⟩=>⟨b,e,TrieAt.less hm t⟩
theorem Below.updM{W M:Nat→Prop}{x:Hs}{h a:ad}{m:Nat}{r:Option Addr}{l:List Pr}(k:Upd M h a)(hm:∀b,M b→W b∨h.size≤b)(t:Below W x h m r l):Below W x a m r l:=t.imp id fun⟨b,e,t⟩=>⟨b,e,TrieAt.updM k hm t⟩
end Go.Proofs
namespace Go.Proofs
open Go Go.Lift
abbrev tzL:List Nat:= [0,1,28,2,29,14,24,3,30,22,20,15,25,17,4,8,31,27,13,23,21,19,16,7,26,12,18,6,11,5,10,9]
def Tab(h:ad):Prop:=∀i,i<32→aM h ⟨0,i,none⟩=some (.int .u8 ((tzL.getD i 0:Nat):Int))
theorem Tab.upd{M:Nat→Prop}{h a:ad}(t:Tab h)(k:Upd M h a)(hm:¬M 0):Tab a:=fun i hi=>k.cell (t i hi) hm
theorem RU:∀c:Fin 32,Int.fdiv (IntKind.wrap .u32 (IntKind.wrap .u32 ((2^c.val:Nat):Int)*125613361)) (2^(min (27:Int).toNat (IntKind.bits .u32)))=((2^c.val*125613361%4294967296/134217728:Nat):Int)∧2^c.val*125613361%4294967296/134217728<32∧tzL.getD (2^c.val*125613361%4294967296/134217728) 0=c.val:=by decide+kernel
theorem PU{a b:Nat}(c:a<4294967296)(d:b<4294967296):(ah (IntKind.bits .u32) (a:Int)&&&ah (IntKind.bits .u32) (b:Int)).toNat=a&&&b:=by
 rw[show IntKind.bits .u32=32 from rfl,eK,eK,BitVec.toNat_and,nh,nh,de (show a<2^32 from c),de (show b<2^32 from d)]
theorem Ty{h:ad}(tb:Tab h){x c:Nat}(hx:x<4294967296)(hc:c<32)(a:x.testBit c=true)(i:∀j,j<c→x.testBit j=false){K:Int→ad→Prop}(g:K (c:Int) h):HC PG g4 [.int .u32 (x:Int)] [.c (.int .i64)] K h:=by
 refine qe x ?_;unfold kM bQ dK;have k:0<x:=by
  rcases Nat.eq_zero_or_pos x with e|e
  ·rw[e,fI]at a;cases a
  ·exact e
 refine CondP.intro (fun e=>?_) fun _=>?_
 ·have e:(x:Int)=0:=by simpa using e
  omega
 have ew:IntKind.wrap .u32 (0-(x:Int))=((4294967296-x:Nat):Int):=by rw[IntKind.wrap_u32];omega
 rw[ew,PU hx (by omega),QU a i hc hx];obtain⟨d,b,f⟩:=RU ⟨c,hc⟩;simp only at d b f;simp only[Bd];rw[d];refine⟨by decide,⟨by omega,by omega⟩,((tzL.getD (2^c*125613361%4294967296/134217728) 0:Nat):Int),?_,?_⟩
 ·rw[Nat.mul_one,bL,aE,Int.toNat_natCast];exact tb _ b
 ·rw[f,oq (by omega)];exact g
def dk(d k:Nat):Nat:=(d>>>k)<<<k
theorem Au(d k i:Nat):(dk d k).testBit i=(decide (k≤i)&&d.testBit i):=by
 unfold dk;rw[Nat.testBit_shiftLeft];by_cases h:k≤i
 ·rw[decide_eq_true (show i≥k from h),Nat.testBit_shiftRight];congr 2;omega
 ·rw[decide_eq_false (show ¬i≥k from h)];rfl
theorem RF(d k:Nat):dk d k≤d:=by
 unfold dk;rw[Nat.shiftLeft_eq,Nat.shiftRight_eq_div_pow];exact Nat.div_mul_le_self ..
theorem Rc(d:Nat):dk d 0=d:=gz fun i=>by rw[Au];simp
theorem EY{d:Nat}(hd:d<4294967296){u:Nat}{h:ad}(B:h[u]? =some (.cells #[.int .u32 (d:Int)] tG (0,0)))
  {BODY:Int→(Option Ex→ad→Prop)→ad→Prop} {N:ad→Prop} {X:Nat→ad→Prop} {R:ad→Prop} (Inv:Nat→ad→Prop) (M:Nat→Prop)
  (O:∀k a,Inv k a→Tab a) (h0:Inv 0 h) (f:∀k a q,Inv k a→h.size≤a.size→Upd (fun b=>b=u∨h.size≤b) a q→Inv k q)
  (hM:∀b,M b→b≠u∧b<h.size)
  (step:∀k c a (KK:Option Ex→ad→Prop),Inv k a→k≤c→c<32→d.testBit c=true→(∀j,k≤j→j<c→d.testBit j=false)→(∀q,Inv (c+1) q→Upd M a q→KK none q)→BODY (c:Int) KK a)
  (fin:∀k a,Inv k a→(∀j,k≤j→j<32→d.testBit j=false)→a[h.size]? =some (.deferred (some []))→N a):
  RangeP PG (.func (.func ii) #[] #[.pointer (some ⟨u,0,none⟩)]) [.c (.int .i64)] h
   (fun EX bz (x:Int) k E=>(E[(cg h+1)]? =some EX∧At (Array.setIfInBounds E (cg h+1) bz) (fun Y=>BODY x k Y))) N X R:=by
 refine⟨fun lo hlo t=>?_⟩
 refine⟨ii,#[],#[.pointer (some ⟨u,0,none⟩)],rfl,?_⟩;have zb:=aD B;have k1:Upd No h ((h.push (.deferred (some []))).push (lo .ready none)):=(Upd.push No _ _).tr (Upd.push No _ _);have S:((h.push (.deferred (some []))).push (lo .ready none))[h.size+1]? =some (lo .ready none):=by
  have:=CJ (h.push (.deferred (some []))) (lo .ready none);rwa [Array.size_push]at this
 have l1:((h.push (.deferred (some []))).push (lo .ready none))[h.size]? =some (.deferred (some [])):=(Upd.push No _ _).get0 (CJ h _);have b1:=k1.get0 B;have i1:=f 0 _ _ h0 (ao _) k1.wide;have z1:=aD S;generalize (h.push (.deferred (some []))).push (lo .ready none)=a at k1 S l1 b1 i1 z1;refine wB (.func (.yield (h.size+1)) #[] #[]) ⟨u,0,none⟩ ?_;unfold m9
 refine LoopP.ghost (fun(k:Nat) (_:Unit) g=>Inv k g∧g[u]? =some (.cells #[.int .u32 ((dk d k:Nat):Int)] tG (0,0))∧g[h.size]? =some (.deferred (some []))∧g[h.size+1]? =some (lo .ready none)∧k≤32) (fun k=>33-k) 0 ⟨i1,by rw[Rc];exact b1,l1,S,aU _⟩ ?_
 rintro I k ⟨⟩ g ⟨hi,C,G,p,hk32⟩ hI;have zz:=aD p;have D:=Nat.lt_of_le_of_lt (RF d k) hd;refine⟨_,bj C,CondP.intro (fun e=>?_) fun e=>?_⟩
 ·have V:0<dk d k:=by
   have:((dk d k:Nat):Int)≠0:=by simpa using e
   omega
  obtain⟨c,hc,w,y⟩:=O0 (n:=32) D V;have z:=w;rw[Au,bC,decide_eq_true_iff]at z;refine⟨_,bj C,Ty (O k _ hi) D hc w y ?_⟩;refine t (c:Int) g _ p ⟨p,?_⟩;have J:Upd (· =h.size+1) g (g.setIfInBounds (h.size+1) (lo .busy none)):=Upd.set _ _ rfl
  have lb:=jL (o:=lo .busy none) p;have sb:=J.size;refine bT ?_;generalize g.setIfInBounds (h.size+1) (lo .busy none)=q at J lb sb;refine step k c q _ (f k _ _ hi (by omega) (J.mono fun b B=>.inl (.inr (by omega)))) z.1 hc z.2 (fun j a q=>?_) fun T W s=>?_
  ·have:=y j q
   rw[Au,decide_eq_true a]at this;simpa using this
  have H:=s.get lb fun e=>by have:=(hM _ e).2;omega
  have Q:=s.get (J.get C (show ¬u=h.size+1 by omega)) fun e=>(hM _ e).1 rfl
  have Z:=s.get (J.get G (show ¬h.size=h.size+1 by omega)) fun e=>by have:=(hM _ e).2;omega
  refine⟨H,?_⟩;have v:Upd (· =h.size+1) T (T.setIfInBounds (h.size+1) (lo .ready none)):=Upd.set _ _ rfl
  have l5:=jL (o:=lo .ready none) H;have m:=v.get Q (show ¬u=h.size+1 by omega)
  have K:=v.get Z (show ¬h.size=h.size+1 by omega)
  have s3:=s.size;have i5:=f (c+1) _ _ W (by omega) (v.mono fun b B=>.inl (.inr (by omega)))
  simp only[Option.isNone_none,if_true];refine aj.2 ?_;generalize T.setIfInBounds (h.size+1) (lo .ready none)=h5 at v l5 m K i5;refine⟨_,bj m,_,bj m,?_⟩;have ew:IntKind.wrap .u32 (((dk d k:Nat):Int)-1)=((dk d k-1:Nat):Int):=by rw[IntKind.wrap_u32];omega
  have ea:dk d k&&&(dk d k-1)=dk d (c+1):=by
   refine gz fun i=>?_
   rw[Nz w y,Au,Au];by_cases F:c<i
   ·rw[decide_eq_true F,decide_eq_true (show k≤i by omega),decide_eq_true (show c+1≤i by omega)];simp
   ·rw[decide_eq_false F,decide_eq_false (show ¬c+1≤i by omega)];simp
  simp only[Bd];rw[ew,PU D (by omega),ea];have P:IntKind.wrap .u32 ((dk d (c+1):Nat):Int)=((dk d (c+1):Nat):Int):=by have:=RF d (c+1);rw[IntKind.wrap_u32];omega
  rw[P];refine⟨ia m (by simp),ui m fun h6 L A=>?_⟩
  have s5:=v.size;refine hI (c+1) () h6 ⟨f _ _ _ i5 (by omega) (A.mono fun b B=>.inl (.inl B)),L,A.oth K (by omega),A.oth l5 (by omega),hc⟩ (by omega)
 ·have hz:dk d k=0:=by
   have:((dk d k:Nat):Int)=0:=by simpa using e
   omega
  have v:Upd (· =h.size+1) g (g.setIfInBounds (h.size+1) (lo .exhausted none)):=Upd.set _ _ rfl
  refine⟨.ready,none,by decide,p,?_⟩
  refine fin k _ (f k _ _ hi (by omega) (v.mono fun b B=>.inl (.inr (by omega)))) (fun j a _=>?_) (v.get G (show ¬h.size=h.size+1 by omega))
  have:=Au d k j;rw[hz,fI,decide_eq_true a]at this;simpa using this.symm
end Go.Proofs
namespace Go.Proofs
open Go Go.Lift
abbrev Rz(n:Nat):List Value:= [.int .i64 (n:Int)]
theorem Su(n:Nat):(Rz n).length=1∧0<1:=⟨rfl,by omega⟩
theorem zM{h:ad}{b:Nat}{c:Array Value}{t:TypeId}(a:h[b]? =some (.cells c t (0,0))):aM h ⟨b,0,none⟩=c[0]?:=bj a
theorem Cm{h:ad}{b:Nat}{c c':Array Value}{t:TypeId}{v:Value}{k:ad→Prop}(f:h[b]? =some (.cells c t (0,0))) (hi:0<c.size) (e:c.setIfInBounds 0 v=c') (i:∀a,a[b]? =some (.cells c' t (0,0))→Upd (· =b) h a→k a):Wr h ⟨b,0,none⟩∧At (hset h ⟨b,0,none⟩ v) k:=
 ⟨ia f hi,ui f fun a d g=>i a (e▸d) g⟩
theorem jN{h:ad}{b:Nat}{cs:List Value}{t:TypeId}(a:h[b]? =some (.cells cs.toArray t (0,0))):SRow h (some ⟨b,0,none⟩) cs.length cs:=
 ⟨rfl,.inr ⟨_,rfl,oV a fun i v hv=>by rw[aE,List.getElem?_toArray];exact hv⟩⟩
theorem CW{W:Nat→Prop}{x:Hs}{k:ByteArray}{h:ad}{s:SliceV}{way:List Nat}(f:Sl Rz 1 W h s way)(o:way.length≤13)(m:∀i c,way[i]? =some c→ck x i k=c) {K:Bool→ad→Prop} (n:K true h):HC PG mA [.int .u64 (kX x k),.slice s.a s.len s.cap] [.c .bool] K h:=by
 refine En (kX x k) s ?_;unfold wW bQ dK l9;have e:=f.len;refine LoopP.ghost (fun(i:Nat) (t:Int) d=>t=(i:Int)∧i≤way.length∧d=h) (fun i=>way.length-i) 0 ⟨rfl,aU _,rfl⟩ ?_
 rintro I i t d ⟨rfl,hi,rfl⟩ g;refine aG (fun b=>?_) fun _=>n
 have b:i<way.length:=by omega
 obtain⟨a,j,_,hv⟩:=f.at0 (af b);refine⟨⟨by omega,by omega⟩,a,j,_,hv,PE (x:=x) (k:=k) (lev:=i) (by omega) ?_⟩
 rw[m i _ (af b),bne_self_eq_false];refine aj.2 ?_;rw[cz b (by omega)];exact g (i+1) _ _ ⟨rfl,b,rfl⟩ (by omega)
theorem Ng{W:Nat→Prop}{h:ad}{s:SliceV}{l:List Pr}(e:Sl fP 2 W h s l)(m:cu l)(q:l.length≤1000000){K:Bool→ad→Prop}(p:K true h):HC PG uc [.slice s.a s.len s.cap] [.c .bool] K h:=by
 refine G0 s ?_;unfold zD bQ dK bM;have g:=e.len;refine LoopP.ghost (fun(i:Nat) (t:Int) f=>t=((i+1:Nat):Int)∧f=h) (fun i=>l.length-i) 0 ⟨rfl,rfl⟩ ?_
 rintro I i t f ⟨rfl,rfl⟩ k;refine aG (fun b=>?_) fun _=>p
 have b:i+1<l.length:=by omega
 have j:IntKind.wrap .i64 (((i+1:Nat):Int)-1)=(i:Int):=by rw[oq (by omega)];omega
 rw[j];obtain⟨a,n,_,hv⟩:=e.at (af (show i<l.length by omega))
 obtain⟨a',d,_,c⟩:=e.at (af b);refine⟨⟨by omega,by omega⟩,a,n,_,hv 0 _ rfl,⟨by omega,by omega⟩,a',d,_,c 0 _ rfl,?_⟩
 have:=cI.1 m i (i+1) (by omega) b (by omega);have o:Op.bytesLess l[i].1.toList l[i+1].1.toList=true:=this;rw[o];refine aj.2 ?_;rw[cz b (by omega)];exact k (i+1) _ _ ⟨rfl,rfl⟩ (by omega)
theorem ML(x:Hs)(lev:Nat)(l:List Pr):(fC x lev l).length+(iV x lev l).flatten.length=l.length:=by
 have h:=qi x lev l 32;have d:(l.filter fun p=>decide (ck x lev p.1<32))=l:=List.filter_eq_self.2 fun p _=>decide_eq_true (yU ..)
 rw[d]at h;have:∀n,(fm (fun c=>gk (part x lev c l)) n).length+(fm (fun c=>dZ (part x lev c l)) n).flatten.length=((List.range n).map fun c=>(part x lev c l).length).sum:=by
  intro n;induction n with
  |zero=>simp[fm]
  |succ n ih=>
   rw[fS,fS,List.range_succ,dX,iE];simp only[ae,dM,fQ,List.map_nil,o6,List.sum_nil,cZ];generalize part x lev n l=q;have:(gk q).toList.length+(dZ q).toList.flatten.length=q.length:=by
    match q with
    | []=>simp[gk,dZ]
    | [a]=>simp[gk,dZ]
    |a::b::q=>simp[gk,dZ]
   omega
 have:=this 32;unfold fC iV;omega
theorem Gz{β:Type}{g:Nat→Option β}{k:Nat}:∀{c:Nat},k≤c→(∀j,k≤j→j<c→g j=none)→fm g c=fm g k
 |0,h,_=>by rw[show k=0 by omega]
 |c+1,h,hn=>by
  rcases bH k (c+1)with b|b
  ·rw[fS,hn c (by omega) (by omega),Gz (by omega) fun j a d=>hn j a (by omega)];simp
  ·rw[show k=c+1 by omega]
end Go.Proofs
namespace Go.Proofs
open Go Go.Lift
theorem MN{W:Nat→Prop}{x:Hs}{h:ad}{m:Nat}{s:Slots}{c:Nat}{l:List Pr}(t:SlotIs W x h m s c l)(b:(s.p c).isSome):∃p,l= [p]∧s.p c=some p:=by
 rcases t with⟨_,a,_⟩|⟨p,d,a,_⟩|⟨_,a,_⟩
 ·rw[a]at b;cases b
 ·exact⟨p,d,a⟩
 ·rw[a]at b;cases b
theorem MO{W:Nat→Prop}{x:Hs}{h:ad}{m:Nat}{s:Slots}{c:Nat}{l:List Pr}(t:SlotIs W x h m s c l)(b:(s.k c).isSome):2≤l.length∧∃d,s.k c=some (some ⟨d,0,none⟩)∧TrieAt W x h m d l:=by
 rcases t with⟨_,_,a⟩|⟨p,_,_,a⟩|⟨e,_,d,a,f⟩
 ·rw[a]at b;cases b
 ·rw[a]at b;cases b
 ·exact⟨e,d,a,f⟩
theorem FS{W:Nat→Prop}{h:ad}{s:SliceV}{way:List Nat}{c:Nat}{xs:List Value}(f:Sl Rz 1 W h s way)(hc:s.cap=s.len)(g:way.length≤13)(hx:xs= [.int .i64 (c:Int)]){K:SliceV→ad→Prop}
  (e:∀s' a,Sl Rz 1 No a s' (way++ [c])→s'.len≤s'.cap→Upd No h a→K s' a):AppP (some [.int .i64 0]) 1 8 nz s.a s.len s.cap 1 xs h K:=by
 subst hx;refine IB (ys:= [c]) f rfl rfl rfl (by omega) (by omega) (by simp;omega) fun s' a b d=>e s' a (b.sl fun _ _ _ h=>h) b.cap d
def OnWay(x:Hs)(way:List Nat)(l:List Pr):Prop:=∀p∈l,∀i c,way[i]? =some c→ck x i p.1=c
theorem OnWay.part{x:Hs}{way:List Nat}{l:List Pr}{c:Nat}(o:OnWay x way l):OnWay x (way++ [c]) (part x way.length c l):=fun p a i d hd=>by
 have a:=my.1 a;rcases bH i way.length with h|h
 ·rw[List.getElem?_append_left h]at hd;exact o p a.1 i d hd
 ·rw[List.getElem?_append_right h]at hd
  have:i-way.length=0:=by have:=(List.getElem?_eq_some_iff.1 hd).1;simp at this;omega
  rw[this]at hd;simp only[List.getElem?_cons_zero,Option.some.injEq]at hd;subst hd;rw[show i=way.length by omega];exact a.2
theorem PF{W:Nat→Prop}{x:Hs}:∀(m:Nat),m≤13→∀{h:ad} {b:Nat} {l:List Pr} {sw:SliceV} {way:List Nat},TrieAt W x h m b l→Tab h→Sl Rz 1 No h sw way→sw.len≤sw.cap→way.length=13-m→OnWay x way l→cu l→l.length≤60000→∀{K:Int×Bool→ad→Prop},(∀T,Upd No h T→K ((l.length:Int),true) T)→
  HC PG mB [.agg #[.int .u64 x.k0,.int .u64 x.k1,.int .u64 x.mask],.pointer (some ⟨b,0,none⟩),.slice sw.a sw.len sw.cap] [.c (.int .i64),.c .bool] K h:=by
 intro m;induction m with
 |zero=>
  intro _ h b l sw way t tb hs hcp hw Y hr hn K hk;refine wS (x.k0,x.k1,x.mask) (some ⟨b,0,none⟩) sw ?_;unfold sF dK ag bM aB nv Ae vM mo jw BH uL kC ME;refine aO fun h1 b1 k1=>aO fun h2 b2 k2=>aO fun h3 b3 Z=>aO fun h4 b4 O=>aO fun h5 b5 Q=>?_
  have J:Upd No h h5:=(((k1.tr k2).tr Z).tr O).tr Q;have c1:=Q.get0 (O.get0 (Z.get0 (k2.get0 b1)));have c2:=Q.get0 (O.get0 (Z.get0 b2));have c3:=Q.get0 (O.get0 b3);have c4:=Q.get0 b4;have s1:=k1.size;have s2:=k2.size;have s3:=Z.size;have s4:=O.size;have z3:=aD b3;have z4:=aD b4;have z5:=aD b5;obtain⟨sp,sk,ow,hb,hsp,_⟩:=(BuckAt.upd t J fun _ h=>h.elim:BuckAt W h5 b l).ex
  refine⟨_,zM c2,pf hb hsp (by omega) fun s8 D ho8 A=>?_⟩
  refine⟨_,zM (A.get0 c2),g7 (A.get0 hb) (aA.2 ?_)⟩;have d1:=A.get0 c1;have d3:=A.get0 c3;have d4:=A.get0 c4;have d5:=A.get0 b5;have s8':=A.size;have hs8:Sl fP 2 No D s8 l:=ho8.sl fun _ _ _ h=>h
  have hlen:=hs8.len;have hwl:=hs.len;have hs':Sl Rz 1 No D sw way:=(hs.upd J fun _ h=>h.elim).upd A fun _ h=>h.elim
  refine Join.plain ⟨sw,zM d3,?_⟩;rw[show((sw.len:Int) !=(13:Int))=false by rw[bne_eq_false_iff_eq];omega]
  refine aj.2 (Ng hs8 hr (by omega) (aj.2 ?_));refine LoopP.ghost (fun(i:Nat) (t:Int) T=>t=(i:Int)∧i≤l.length∧Upd No D T) (fun i=>l.length-i) 0 ⟨rfl,aU _,Upd.refl _ _⟩ ?_
  rintro I i t T ⟨rfl,hi,S⟩ hI;refine aG (fun M=>?_) fun hge=>?_
  ·have M:i<l.length:=by omega
   obtain⟨a,ha,_,hv⟩:=(hs8.upd S fun _ h=>h.elim).at (af M)
   refine⟨⟨by omega,by omega⟩,a,ha,_,hv 0 _ rfl,_,hv 1 _ rfl,wN (p:=l[i]) fun h9 b9 k9=>?_⟩
   have z:=S.tr k9;refine⟨_,vc (z.get0 d1) 0,_,vc (z.get0 d1) 1,_,vc (z.get0 d1) 2,_,vc b9 0,sw,zM (z.get0 d3),tP fun h10 k10=>⟨zM (k10.get0 (z.get0 d3)),?_⟩⟩
   refine CW ((hs'.upd z fun _ h=>h.elim).upd k10 fun _ h=>h.elim) (by omega) (fun j c hj=>Y _ (aP M) j c hj) (aj.2 ?_)
   rw[cz M (by omega)];exact hI (i+1) _ _ ⟨rfl,M,z.tr k10⟩ (by omega)
  ·have hil:i=l.length:=by omega
   subst hil;refine Cm (S.get0 d4) (by simp) rfl fun h9 b9 z=>Cm (z.oth (S.get0 d5) (by omega)) (by simp) rfl fun h10 b10 v=>?_
   refine⟨_,zM (v.oth b9 (by omega)),_,zM b10,?_⟩;have e:((s8.len:Nat):Int)=(l.length:Int):=by omega
   rw[e];exact hk _ ((((J.tr A).tr S).own z (by omega)).own v (by omega))
 |succ m ih=>
  intro hm h b l sw way t tb hs hcp hw Y hr hn K hk;refine wS (x.k0,x.k1,x.mask) (some ⟨b,0,none⟩) sw ?_;unfold sF dK ag bM aB nv Ae vM mo jw BH uL kC ME;obtain⟨sl,nd,hs0⟩:=t;have P:∀c,c<32→SlotIs W x h m sl c (part x (12-m) c l):=hs0;refine aO fun h1 b1 k1=>aO fun h2 b2 k2=>aO fun h3 b3 Z=>aO fun h4 b4 O=>aO fun h5 b5 Q=>?_
  have J:Upd No h h5:=(((k1.tr k2).tr Z).tr O).tr Q;have c1:=Q.get0 (O.get0 (Z.get0 (k2.get0 b1)));have c2:=Q.get0 (O.get0 (Z.get0 b2));have c3:=Q.get0 (O.get0 b3);have c4:=Q.get0 b4;have s1:=k1.size;have s2:=k2.size;have s3:=Z.size;have s4:=O.size;have z1:=aD b1;have z2:=aD b2;have z3:=aD b3;have z4:=aD b4;have z5:=aD b5;obtain⟨d,n,sp,sk,ow,hb,bits,hsp,hsk,_⟩:=(nd.upd J fun _ h=>h.elim).ex
  have hfp:(fm sl.p 32).length≤32:=vi;refine⟨_,zM c2,pf hb hsp (by omega) fun s8 D ho8 A=>?_⟩
  refine⟨_,zM (A.get0 c2),g7 (A.get0 hb) (aj.2 ⟨sw,zM (A.get0 c3),?_⟩)⟩;have k08:=J.tr A;have hl8:=ho8.len;rw[BX P]at hl8;have hwl:=hs.len;rw[decide_eq_false (by omega)];refine aj.2 (aO fun h9 b9 k9=>?_)
  have z:=A.tr k9;have s8':=A.size;have z9:=aD b9;refine Cm b9 (by simp) rfl fun h10 b10 v=>?_
  have d1:=v.oth (z.get0 c1) (by omega);have d2:=v.oth (z.get0 c2) (by omega);have d3:=v.oth (z.get0 c3) (by omega);have d4:=v.oth (z.get0 c4) (by omega);have d5:=v.oth (z.get0 b5) (by omega);refine⟨sw,zM d3,sw,zM d3,sw,zM d3,⟨by omega,by omega⟩,⟨by omega,by omega⟩,?_⟩
  refine Cm d3 (by simp) rfl fun H b11 C=>?_
  have g:Upd No h H:=((k08.tr k9).own v (by omega)).own C (by omega);have E:=C.oth d1 (by omega);have e2:=C.oth d2 (by omega);have e4:=C.oth d4 (by omega);have e5:=C.oth d5 (by omega);have e9:=C.oth b10 (by omega);have s11:=g.size;have s10a:=v.size;have s11a:=C.size;have F:Sl Rz 1 (fun y=>h.size≤y) H ⟨bh sw.a 0 ((sw.len:Int).toNat) 1,((sw.len:Int).toNat)-0,((sw.len:Int).toNat)-0⟩ way:=by
   have:=Sl.sub ((hs.less (W':=fun y=>h.size≤y) fun _ h=>.inr h).upd g fun _ h=>h.elim) (l:=0) (hi:=sw.len) (m:=sw.len) (c:=sw.len-0) (aU _) (by omega) (ao _)
   rw[List.drop_zero,List.take_of_length_le (by omega)]at this;exact this
  have X:(⟨bh sw.a 0 ((sw.len:Int).toNat) 1,((sw.len:Int).toNat)-0,((sw.len:Int).toNat)-0⟩:SliceV).cap=(⟨bh sw.a 0 ((sw.len:Int).toNat) 1,((sw.len:Int).toNat)-0,((sw.len:Int).toNat)-0⟩:SliceV).len:=rfl;have s:H[h2.size]? =some (.cells #[sv ⟨bh sw.a 0 ((sw.len:Int).toNat) 1,((sw.len:Int).toNat)-0,((sw.len:Int).toNat)-0⟩] LO (0,0)):=b11;clear b11;generalize (⟨bh sw.a 0 ((sw.len:Int).toNat) 1,((sw.len:Int).toNat)-0,((sw.len:Int).toNat)-0⟩:SliceV)=s0 at F X s
  obtain⟨d',n',sp',sk',ow',hb',N,_⟩:=(nd.upd g fun _ h=>h.elim).ex
  have tb11:=tb.upd g id;refine⟨_,zM e2,GE hb' (sW d' (aO fun h12 b12 k12=>?_))⟩
  have s12:=k12.size;have z12:=aD b12;refine EY (d:=d') N.d32 b12 (fun k T=>Upd No H T) No (fun k h1 hi=>tb11.upd hi id) k12 (fun k ha hb hi hle S=>hi.trans S fun y q=>.inr (by omega)) (fun _ h=>h.elim) (fun k c ha KK hi hkc hc hdc _ hK=>?_) fun k ha hi _ hde=>?_
  ·
   have hdc':=hdc;rw[N.dp c hc]at hdc';obtain⟨p,hp1,hp2⟩:=MN (P c hc) hdc';refine⟨_,zM (hi.get0 e2),CT (nd.upd (g.tr hi) fun _ h=>h.elim) hc fun hb kb=>?_⟩
   rw[hp2];have ib:=hi.tr kb;refine wN (p:=p) fun hc' bc kc=>?_
   have G:=ib.tr kc;have hon:∀i c',(way++ [c])[i]? =some c'→ck x i p.1=c':=by
    have:=Y.part (c:=c);rw[hw,show 13-(m+1)=12-m by omega,hp1]at this
    exact this p (aq.2 rfl)
   refine Join.intro (fun t hd=>t=false∧Upd No hc' hd) (fun R hR=>?_) ?_
   ·refine⟨_,vc (G.get0 E) 0,_,vc (G.get0 E) 1,_,vc (G.get0 E) 2,_,vc bc 0,s0,zM (G.get0 s),?_,?_⟩
    ·refine tP fun hd f=>⟨zM (f.get0 (G.get0 s)),aO fun he be V=>⟨zM (V.get0 (f.get0 (G.get0 s))),_,jN be,?_⟩⟩
     refine FS (((F.upd G fun _ h=>h.elim).upd f fun _ h=>h.elim).upd V fun _ h=>h.elim) X (by omega) rfl fun s' hf hsf _ kf=>?_
     exact CW hsf (by simp;omega) hon (hR _ _ ⟨rfl,(f.tr V).tr kf⟩)
    ·refine aO fun hd bd f=>⟨zM (f.get0 (G.get0 s)),vc (f.get0 bc) 0,⟨vc (f.get0 (G.get0 E)) 0,vc (f.get0 (G.get0 E)) 1,vc (f.get0 (G.get0 E)) 2⟩,?_⟩
     refine tP fun he V=>⟨zM (V.get0 (f.get0 (G.get0 s))),_,jN (V.get0 bd),?_⟩
     refine FS (((F.upd G fun _ h=>h.elim).upd f fun _ h=>h.elim).upd V fun _ h=>h.elim) X (by omega) rfl fun s' hf hsf _ kf=>?_
     exact CW hsf (by simp;omega) hon (hR _ _ ⟨rfl,(f.tr V).tr kf⟩)
   ·rintro t hd ⟨rfl,f⟩
    exact aj.2 (hK hd (G.tr f) ((kb.tr kc).tr f))
  ·
   obtain⟨d'',n'',sp'',sk'',ow'',hb'',u,_⟩:=(nd.upd (g.tr hi) fun _ h=>h.elim).ex
   refine⟨_,zM (hi.get0 e2),yA hb'' (sW n'' (aO fun h13 b13 k13=>?_))⟩
   have i13:=hi.tr k13;have s13:=k13.size;have z13:=aD b13;have sa:=hi.size;have zde:=aD hde;have hl8':s8.len=(fC x (12-m) l).length:=hl8;have hall:=ML x (12-m) l;have hfl:∀k,(fm (fun c=>dZ (part x (12-m) c l)) k).flatten.length≤60000∨32<k:=fun k=>by
    rcases bH 32 k with h|h
    ·exact .inr h
    ·refine .inl ?_
     have:((fm (fun c=>dZ (part x (12-m) c l)) k).flatten).length≤(iV x (12-m) l).flatten.length:=by
      unfold iV;have hj:∀j,∃r,fm (fun c=>dZ (part x (12-m) c l)) (k+j)=fm (fun c=>dZ (part x (12-m) c l)) k++r:=fun j=>by
       induction j with
       |zero=>exact⟨[],by simp⟩
       |succ j ihj=>obtain⟨r,hr⟩:=ihj;exact⟨r++(dZ (part x (12-m) (k+j) l)).toList,by rw[←Nat.add_assoc,fS,hr,ar]⟩
      have this:=hj (32-k);rw[show k+(32-k)=32 by omega]at this
      obtain⟨r,hr⟩:=this;rw[hr,dM,ae];omega
     omega
   refine EY (d:=n'') u.n32 b13 (fun k T=>k≤32∧Upd (· =D.size) ha T∧T[D.size]? =some (.cells #[.int .i64 (((fC x (12-m) l).length+(fm (fun c=>dZ (part x (12-m) c l)) k).flatten.length:Nat):Int)] nz (0,0))) (· =D.size)
    (fun k hx q=>(tb11.upd hi id).upd q.2.1 fun e=>by have e:0=D.size:=e;omega) ⟨aU _,k13.wide,?_⟩ (fun k hx q hz hle S=>⟨hz.1,hz.2.1.trans S fun y q=>.inr (by omega),S.get hz.2.2 (by omega)⟩) (fun y q=>⟨by have q:y=D.size:=q;omega,by have q:y=D.size:=q;omega⟩) (fun k c hx KK q hkc hc hnc hno hK=>?_) fun k hx q hno hdx=>?_
   ·have:=i13.get0 e9
    rw[show((fC x (12-m) l).length+(fm (fun c=>dZ (part x (12-m) c l)) 0).flatten.length:Nat)=s8.len by rw[hl8'];simp[fm]]
    exact this
   ·obtain⟨hk32,w,L⟩:=q
    have hnc':=hnc;rw[u.nk c hc]at hnc';obtain⟨h2l,kb,hkb,tk⟩:=MO (P c hc) hnc';have B:∀{y:Nat} {o:Obj},H[y]? =some o→y≠D.size→hx[y]? =some o:=fun q hne=>w.get (hi.get0 q) hne
    have uW:Upd No h hx:=(g.tr hi).trans w fun y q=>.inr (by have q:y=D.size:=q;omega)
    refine⟨_,zM (B e2 (by omega)),Gr (nd.upd uW fun _ h=>h.elim) hc ?_⟩
    rw[hkb];have hmc:dZ (part x (12-m) c l)=some (part x (12-m) c l):=by unfold dZ;rw[if_pos h2l]
    have hskip:fm (fun c=>dZ (part x (12-m) c l)) c=fm (fun c=>dZ (part x (12-m) c l)) k:=Gz hkc fun j h1 h2=>by
     have:=hno j h1 h2;rw[u.nk j (by omega),(Cv (P j (by omega))).2]at this;simpa using this
    have hnext:(fm (fun c=>dZ (part x (12-m) c l)) (c+1)).flatten.length=(fm (fun c=>dZ (part x (12-m) c l)) k).flatten.length+(part x (12-m) c l).length:=by
     rw[fS,hskip,hmc];simp
    have hpl:(part x (12-m) c l).length≤l.length:=j3;refine Join.intro (fun t hd=>t=(((part x (12-m) c l).length:Int),true)∧Upd No hx hd) (fun R hR=>?_) ?_
    ·refine⟨_,vc (B E (by omega)) 0,_,vc (B E (by omega)) 1,_,vc (B E (by omega)) 2,s0,zM (B s (by omega)),aO fun hd bd f=>?_⟩
     refine⟨zM (f.get0 (B s (by omega))),⟨vc (f.get0 (B E (by omega))) 0,vc (f.get0 (B E (by omega))) 1,vc (f.get0 (B E (by omega))) 2⟩,_,jN bd,?_⟩;have hsx:Sl Rz 1 (fun y=>h.size≤y) hd s0 way:=((F.upd hi fun _ h=>h.elim).upd w fun y q=>.inl (by have q:y=D.size:=q;omega)).upd f fun _ h=>h.elim
     refine FS hsx X (by omega) rfl fun s' he hse hce V=>?_
     have gE:=f.tr V;refine⟨⟨vc (gE.get0 (B E (by omega))) 0,vc (gE.get0 (B E (by omega))) 1,vc (gE.get0 (B E (by omega))) 2⟩,?_⟩;refine ih (by omega) (TrieAt.upd0 (uW.tr gE) tk) (tb.upd (uW.tr gE) id) hse hce (by simp;omega) ?_ (qq hr) (by omega) fun hf kf=>hR _ _ ⟨rfl,gE.tr kf⟩
     have:=Y.part (c:=c);rw[hw,show 13-(m+1)=12-m by omega]at this
     exact this
    ·rintro t hd ⟨rfl,f⟩
     refine Join.plain (aj.2 ?_);rw[decide_eq_false (by simp only;omega)];refine aj.2 ⟨_,zM (f.get0 L),?_⟩;have hf1:=(hfl k).resolve_right (by omega);have hS:(fC x (12-m) l).length≤60000:=by omega
     refine Cm (c':= #[.int .i64 (((fC x (12-m) l).length+(fm (fun c=>dZ (part x (12-m) c l)) (c+1)).flatten.length:Nat):Int)]) (f.get0 L) (by simp) ?_ fun hf bf uf=>?_
     ·rw[hnext]
      have:IntKind.wrap .i64 ((((fC x (12-m) l).length+(fm (fun c=>dZ (part x (12-m) c l)) k).flatten.length:Nat):Int)+((part x (12-m) c l).length:Int))=(((fC x (12-m) l).length+((fm (fun c=>dZ (part x (12-m) c l)) k).flatten.length+(part x (12-m) c l).length):Nat):Int):=by rw[oq (by omega)];omega
      simp only[this];rfl
     ·exact hK hf ⟨hc,(w.tr f.wide).tr uf,bf⟩ (f.wide.tr uf)
   ·obtain⟨hk32,w,L⟩:=q
    have B:∀{y:Nat} {o:Obj},H[y]? =some o→y≠D.size→hx[y]? =some o:=fun q hne=>w.get (hi.get0 q) hne
    have hkm:fm (fun c=>dZ (part x (12-m) c l)) 32=fm (fun c=>dZ (part x (12-m) c l)) k:=Gz hk32 fun j h1 h2=>by
     have:=hno j h1 h2;rw[u.nk j (by omega),(Cv (P j (by omega))).2]at this;simpa using this
    have ev:((fC x (12-m) l).length+(fm (fun c=>dZ (part x (12-m) c l)) k).flatten.length:Nat)=l.length:=by rw[←hkm];exact hall
    rw[ev]at L;have sx:=w.size;refine⟨_,zM L,Cm (B e4 (by omega)) (by simp) rfl fun hf bf uf=>Cm (uf.oth (B e5 (by omega)) (by omega)) (by simp) rfl fun hg bg ug=>?_⟩
    have sf:=uf.size;have sg:=ug.size;have g2:=ug.oth (uf.oth hdx (by omega)) (by omega);have kh:Upd (· =h13.size) hg (hg.setIfInBounds h13.size (.deferred none)):=Upd.set _ _ rfl
    refine⟨g2,bT ?_⟩;generalize hg.setIfInBounds h13.size (.deferred none)=hh at kh;have g3:=kh.oth (ug.oth (uf.oth (w.get hde (by omega)) (by omega)) (by omega)) (by omega);have kj:Upd (· =h12.size) hh (hh.setIfInBounds h12.size (.deferred none)):=Upd.set _ _ rfl
    refine⟨g3,bT ?_⟩;generalize hh.setIfInBounds h12.size (.deferred none)=hj at kj;refine⟨_,zM (kj.oth (kh.oth (ug.oth bf (by omega)) (by omega)) (by omega)),_,zM (kj.oth (kh.oth bg (by omega)) (by omega)),?_⟩;refine hk hj ?_;refine(((((g.tr hi).trans w fun y q=>.inr ?_).own uf (by omega)).own ug (by omega)).own kh (by omega)).own kj (by omega)
    have q:y=D.size:=q;omega
end Go.Proofs
namespace Go.Proofs
open Go Go.Lift
theorem CB{W:Nat→Prop}{h:ad}{b:Nat}{sl val:ByteArray}{has:Bool}{s:SliceV}{ow:Option Addr}{ks:List (Option Addr)}{F:Fo}(P:h[b]? =some (.cells (vQ sl has val s ow) bw (0,0))) (J:Sl lB 1 W h s ks) (D:RxL W h ks F.toL) (hc:eW F) {K:Bool→ad→Prop} (Z:K true h):HC PG jP [.pointer (some ⟨b,0,none⟩)] [.c .bool] K h:=by
 refine xR (some ⟨b,0,none⟩) ?_;unfold qI bQ dK bM bD;refine⟨_,rfl,s,dz (i:=3) P,?_⟩;have u:=J.len;rw[D.1]at u;have L:=iY hc;have j:=eg.1 hc;refine LoopP.ghost (fun(i:Nat) (t:Int) w=>t=(i:Int)∧i≤F.toL.length∧w=h) (fun i=>F.toL.length-i) 0 ⟨rfl,aU _,rfl⟩ ?_
 rintro I i t w ⟨rfl,hi,rfl⟩ X;refine aG (fun e=>?_) fun _=>Z
 have e:i<F.toL.length:=by omega
 obtain⟨kb,g,v,q,kv,O,V,kk,k,_⟩:=D.at e;obtain⟨a,Y,_,hv⟩:=J.at0 v;have p:g.data.toList≠[]:=by rw[q];exact(j.2 _ (aP e)).1
 have T:(g.toList==(⟨#[]⟩:ByteArray).toList)=false:=by
  rw[beq_eq_false_iff_ne,ByteArray.toList_eq,ByteArray.toList_eq];exact p
 obtain⟨c,x,A⟩:=C4 p;refine⟨⟨by omega,by omega⟩,a,Y,_,hv,Join.intro (fun t N=>t=false∧N=w) (fun R M=>?_) ?_⟩
 ·refine⟨_,rfl,g,dz (i:=0) k,?_⟩
  rw[T];refine aj.2 (aG (fun y=>?_) fun _=>M _ _ ⟨rfl,rfl⟩)
  have S:0<i:=by have:(i:Int)>0:=y;omega
  have e1:IntKind.wrap .i64 ((i:Int)-1)=((i-1:Nat):Int):=by rw[oq (by omega)];omega
  rw[e1];have f:i-1<F.toL.length:=by omega
  obtain⟨jb,m,z,n,jv,Q,js',jk,G,_⟩:=D.at f;obtain⟨a',B,_,C⟩:=J.at0 z;have o:m.data.toList≠[]:=by rw[n];exact(j.2 _ (aP f)).1
  obtain⟨d,H,E⟩:=C4 o;refine⟨_,rfl,s,dz (i:=3) P,⟨by omega,by omega⟩,a',B,_,C,_,rfl,m,dz (i:=0) G,d,by decide,H,_,rfl,g,dz (i:=0) k,c,by decide,x,M _ _ ⟨?_,rfl⟩⟩
  have:=cI.1 j.1 (i-1) i f e (by omega);rw[q]at A;rw[n]at E;exact decide_eq_false (by omega)
 ·rintro t N ⟨rfl,rfl⟩
  refine aj.2 ?_;rw[cz e (by omega)];exact X (i+1) _ _ ⟨rfl,e,rfl⟩ (by omega)
theorem FG{W:Nat→Prop}{h:ad}{s:SliceV}{ks:List (Option Addr)}{L:List Bn}{f:FuncId}(k:Sl lB 1 W h s ks)(j:RxL W h ks L)(w:L.length≤256)(m:∀i (hi:i<L.length) {b:Nat} {sl:ByteArray},RxN W h b sl L[i].2.1 L[i].2.2→∀{K:Bool→ad→Prop},K false h→HC PG f [.pointer (some ⟨b,0,none⟩)] [.c .bool] K h){K:Bool→ad→Prop}(u:K false h):
  HC PG cD [.slice s.a s.len s.cap,.func (.func f) #[] #[]] [.c .bool] K h:=by
 refine ix s _ ?_;unfold eN;refine iT s _ ?_;unfold fp bQ dK;have d:=k.len;rw[j.1]at d;refine LoopP.ghost (fun(i:Nat) (t:Int) g=>t=(i:Int)∧i≤L.length∧g=h) (fun i=>L.length-i) 0 ⟨rfl,aU _,rfl⟩ ?_
 rintro I i t g ⟨rfl,hi,rfl⟩ n;refine aG (fun c=>?_) fun _=>u
 have c:i<L.length:=by omega
 obtain⟨x,v,e,o,q⟩:=j.at c;obtain⟨a,p,_,hv⟩:=k.at0 e;refine⟨⟨by omega,by omega⟩,a,p,_,hv,HV.mk' (m i c q (aj.2 ?_))⟩
 rw[cz c (by omega)];exact n (i+1) _ _ ⟨rfl,c,rfl⟩ (by omega)
def UJ(n:Bn):Prop:=∀{W:Nat→Prop} {h:ad} {b:Nat} {sl:ByteArray},RxN W h b sl n.2.1 n.2.2→∀{K:Bool→ad→Prop},K true h→HC PG iX [.pointer (some ⟨b,0,none⟩)] [.c .bool] K h
theorem SZ{lab:List UInt8}{w:Option ByteArray}{F:Fo}(hc:eW F)(c:w.isSome∨2≤F.toL.length)(o:∀n∈F.toL,UJ n):UJ (lab,w,F):=by
 intro W h b sl r K u;simp only at r;obtain⟨val,s,ow,ks,d,hv,g,m,q⟩:=r;have f:=pY.1 q;have a:=g.len;rw[f.1]at a;refine wz (some ⟨b,0,none⟩) ?_;unfold pU bD ie;refine Join.intro (fun t j=>t=false∧j=h) (fun R k=>?_) ?_
 ·refine CB d g f hc (aj.2 ⟨_,rfl,w.isSome,dz (i:=1) d,?_⟩)
  cases hwS:w.isSome with
  |true=>exact aj.2 (k _ _ ⟨rfl,rfl⟩)
  |false=>
   refine aA.2 ⟨_,rfl,s,dz (i:=3) d,k _ _ ⟨decide_eq_false ?_,rfl⟩⟩;rw[hwS]at c;rcases c with c|c
   ·cases c
   ·omega
 ·rintro t j ⟨rfl,rfl⟩
  refine aj.2 ⟨_,rfl,s,dz (i:=3) d,FG g f (iY hc) (fun i hi b sl p v e=>?_) u⟩
  refine uN _ ?_;unfold oy;exact o _ (aP hi) p e
theorem GM:∀{F:Fo},eW F→∀n∈F.toL,UJ n
 | .nil,_,n,a=>by simp[Fo.toL]at a
 | .cons lab w kids rest,h,n,a=>by
  rcases au.1 a with rfl|a
  ·exact SZ h.2.2.1 h.2.1 (GM h.2.2.1)
  ·exact GM h.2.2.2.2 n a
theorem JB{W:Nat→Prop}{h:ad}{b:Nat}{l:List Pr}(t:RadAt W h b l){K:Bool→ad→Prop}(k:K true h):HC PG sr [.pointer (some ⟨b,0,none⟩)] [.c .bool] K h:=by
 obtain⟨w,F,r,hc,_⟩:=t.ex;obtain⟨val,s,ow,ks,c,hv,e,f,j⟩:=r;have d:=pY.1 j;refine Et (some ⟨b,0,none⟩) ?_;unfold w7 bM bD;refine aA.2 ⟨_,rfl,_,dz (i:=0) c,?_⟩;rw[beq_self_eq_true];refine aA.2 (CB c e d hc (aA.2 ⟨_,rfl,s,dz (i:=3) c,FG e d (iY hc) (fun i hi b sl g m a=>?_) k⟩))
 refine BN _ ?_;unfold uF;exact GM hc _ (aP hi) g a
theorem MK{W:Nat→Prop}{x:Hs}{h:ad}{d:Int}{t:Tr}{l:List Pr}(i:TreeIs W h d x t l)(tb:Tab h)(j:cu l)(g:l.length≤60000){K:Bool→ad→Prop}(f:∀h',Upd No h h'→K true h'):HC PG nK [LK t] [.c .bool] K h:=by
 refine y6 t ?_;unfold rF bo ag bN vM BE sK aJ;refine aO fun n b1 k1=>⟨_,vc b1 0,?_⟩
 rcases i with⟨_,b,rfl,t⟩|⟨_,b,rfl,t⟩
 ·refine aj.2 ⟨_,fu b1 1 0,_,fu b1 1 1,_,fu b1 1 2,_,vc b1 0,_,vc b1 1,_,vc b1 2,_,vc b1 3,_,vc b1 4,_,vc b1 5,?_⟩
  refine EM (TrieAt.upd0 k1 t) fun q e=>⟨⟨fu (e.get0 b1) 1 0,fu (e.get0 b1) 1 1,fu (e.get0 b1) 1 2⟩,?_⟩
  refine Eo (x.k0,x.k1,x.mask) _ ?_;unfold wX ag Ae vM;refine aO fun s b3 o=>aj.2 ⟨_,vc b3 0,_,vc b3 1,_,vc b3 2,?_⟩
  have a:=(k1.tr e).tr o;refine PF 13 (ao _) (sw:=⟨none,0,0⟩) (way:= []) (TrieAt.upd0 a t) (tb.upd a id) (Sl.nil Su) (ao _) rfl (fun p _ i c hc=>by simp at hc) j g fun k m=>?_
  exact f k (a.tr m)
 ·refine aA.2 ⟨_,vc b1 5,JB (t.upd0 k1) (f n k1)⟩
end Go.Proofs
namespace Go.Proofs
open Go Go.Lift
end Go.Proofs
namespace Go.Proofs
open Go Go.Lift
theorem HP:∀F:Fo,(xt F).length=(F.toL.map fun n=>(nF n.2.1 n.2.2).length).sum
 | .nil=>rfl
 | .cons lab w kids rest=>by
  rw[M8,Fo.toL_cons,fQ,o6,←HP rest,ae,gS];rfl
def Te(n:Bn):Prop:=∀{W:Nat→Prop} {h:ad} {b:Nat} {sl:ByteArray},RxN W h b sl n.2.1 n.2.2→(nF n.2.1 n.2.2).length≤1000000000→∀{K:Int→ad→Prop},(∀h',Upd No h h'→K (((nF n.2.1 n.2.2).length:Nat):Int) h')→HC PG ri [.pointer (some ⟨b,0,none⟩)] [.c (.int .i64)] K h
theorem L3{lab:List UInt8}{w:Option ByteArray}{F:Fo}(J:F.toL.length≤256)(N:∀n∈F.toL,Te n):Te (lab,w,F):=by
 intro W h b sl r O K E;simp only at r O E;refine IH (some ⟨b,0,none⟩) ?_;unfold Bs bQ dK;have g:(nF w F).length=(w.map fun v=>(([]:List UInt8),v)).toList.length+(F.toL.map fun n=>(nF n.2.1 n.2.2).length).sum:=by
  rw[←HP,←ae];rfl
 refine Join.intro (fun t B=>t=(((w.map fun v=>(([]:List UInt8),v)).toList.length:Nat):Int)∧B=h) (fun R C=>?_) ?_
 ·refine Jy r fun v _=>?_
  cases w with
  |none=>exact aj.2 (C _ _ ⟨rfl,rfl⟩)
  |some u=>exact aA.2 (C _ _ ⟨rfl,rfl⟩)
 ·rintro t B ⟨rfl,rfl⟩
  generalize (w.map fun v=>(([]:List UInt8),v)).toList.length=c0 at g
  refine MU r J fun s1 A ks y f k1=>?_
  have d:Sl lB 1 No A s1 ks:=y.sl fun _ _ _ h=>h
  have j:=d.len;rw[f.1]at j;refine LoopP.ghost (fun(i:Nat) (t:Int×Int) q=>t.1=((c0+((F.toL.take i).map fun n=>(nF n.2.1 n.2.2).length).sum:Nat):Int)∧t.2=(i:Int)∧i≤F.toL.length∧Upd No A q) (fun i=>F.toL.length-i) 0 ⟨by simp,rfl,aU _,Upd.refl _ _⟩ ?_
  rintro I i ⟨S,ti⟩ q ⟨G,D,hi,k⟩ L;simp only at G D;subst G D;have o:∀i,((F.toL.take i).map fun n=>(nF n.2.1 n.2.2).length).sum≤(F.toL.map fun n=>(nF n.2.1 n.2.2).length).sum:=fun i=>by
   conv=>rhs;rw[←aV i F.toL,dX,iE]
   omega
  refine aG (fun c=>?_) fun z=>?_
  ·have c:i<F.toL.length:=by have:(i:Int)<(s1.len:Int):=c;omega
   obtain⟨P,Q,m,_,x⟩:=(f.upd0 k).at c;obtain⟨a,M,_,hv⟩:=(d.upd k fun _ h=>h.elim).at0 m
   refine⟨⟨by simp only;omega,by simp only;omega⟩,a,M,some ⟨P,0,none⟩,hv,?_⟩
   have H:((F.toL.take (i+1)).map fun n=>(nF n.2.1 n.2.2).length).sum=((F.toL.take i).map fun n=>(nF n.2.1 n.2.2).length).sum+(nF F.toL[i].2.1 F.toL[i].2.2).length:=by
    rw[List.take_succ_eq_append_getElem c,dX,iE];simp
   have A:=o (i+1);refine N _ (aP c) x (by omega) fun T s=>?_
   rw[cz c (by omega)];have e:IntKind.wrap .i64 (((c0+((F.toL.take i).map fun n=>(nF n.2.1 n.2.2).length).sum:Nat):Int)+((nF F.toL[i].2.1 F.toL[i].2.2).length:Int))=((c0+((F.toL.take (i+1)).map fun n=>(nF n.2.1 n.2.2).length).sum:Nat):Int):=by
    rw[oq (by omega)];omega
   rw[e];exact L (i+1) _ _ ⟨rfl,rfl,c,k.tr s⟩ (by omega)
  ·have p:i=F.toL.length:=by have:¬(i:Int)<(s1.len:Int):=z;omega
   subst p;rw[bU,←g];exact E q (k1.tr k)
theorem CV:∀{F:Fo},eW F→∀n∈F.toL,Te n
 | .nil,_,n,a=>by simp[Fo.toL]at a
 | .cons lab w kids rest,h,n,a=>by
  rcases au.1 a with rfl|a
  ·exact L3 (iY h.2.2.1) (CV h.2.2.1)
  ·exact CV h.2.2.2.2 n a
theorem Oo{W:Nat→Prop}{x:Hs}{h:ad}{t:Tr}{l:List Pr}(i:TreeIs W h 1 x t l)(f:cu l)(o:l.length≤60000){K:Int→ad→Prop}(k:∀h',Upd No h h'→K (l.length:Int) h'):HC PG j4 [LK t] [.c (.int .i64)] K h:=by
 refine uB t ?_;unfold pH bo sK aJ;rcases i with⟨e,_⟩|⟨_,b,rfl,t⟩
 ·cases e
 refine aO fun p b1 k1=>⟨_,vc b1 0,aA.2 ⟨_,vc b1 5,?_⟩⟩
 obtain⟨w,F,g,c,d⟩:=(t.upd0 k1).ex;have j:=Ga c f d;have a:=congrArg ga j;unfold LM at a;rw[gS]at a;refine L3 (lab:= []) (iY c) (CV c) g (by simp only;omega) fun n m=>?_
 simp only;rw[a];exact k n (k1.tr m)
theorem Oq{t:Tr}{h:ad}{K:Int→ad→Prop}(b:∀h',Upd No h h'→K t.1 h'):HC PG oH [LK t] [.c (.int .i64)] K h:=by
 refine AC t ?_;unfold sZ bo sK;exact aO fun a b1 k1=>⟨_,vc b1 0,b a k1⟩
end Go.Proofs
