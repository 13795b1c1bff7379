/- A part of the proof that the named laws of this program answer true, whatever the input. -/
import Derived.Test.YtopdngagmfanlaaGreatDoorPart4
import Derived.Test.YtopdngagmfanlaaGreatDoorPart2
import Derived.Test.YtopdngagmfanlaaGreatDoorPart3
open Go.IntKind renaming wrap→ac
open Go.Op renaming bytesLess→cR
open Iff renaming rfl→yS
open List renaming length_append→ah,length_cons→aG,flatMap_append→cn,flatMap_cons→bD,cons_append→mC,length_drop→aR,length_nil→bU,pairwise_append→eJ,mem_append_left→gF,mem_append_right→iH,mem_append→bM,mem_singleton→aM,mem_cons→aA,length_singleton→bw,pairwise_cons→bS,find?_cons→rz,nodup_nil→po,mem_of_getElem?→bC,getElem?_eq_some_iff→aQ,filter_eq_self→jD,any_eq_true→bZ,any_cons→qq,mem_range→iv,length_take→aL,getElem_mem→bp,getElem_of_mem→dq,mem_of_getElem→mV
open List.Pairwise renaming nil→jo
open Nat renaming le_trans→bH,le_refl→ax,lt_of_lt_of_le→aF,not_lt→ir,zero_le→be,zero_testBit→mB
namespace Go.Proofs
open Go Go.Lift
def wl(x:Hs):Nat→List Pr→List Pr
 |0,l=>l
 |m+1,l=>Bb x (12-m) l++(Vg x (12-m) l).flatMap (wl x m)
def cw(x:Hs):Nat→List Pr→Nat
 |0,_=>2
 |m+1,l=>2+((Vg x (12-m) l).map (cw x m)).sum
structure Fr where
 sp:SliceV
 sk:SliceV
 n:Nat
 ps:List Pr
 ks:List (Nat×List Pr)
def Fr.raw(f:Fr):SliceV×SliceV:=(f.sp,f.sk)
def Fr.rem(x:Hs)(f:Fr):List Pr:=f.ps++f.ks.flatMap fun k=>wl x (f.n-1) k.2
theorem setCell{α:Type}{f:α→List Value}{c:Nat}{t:TypeId}{M:Nat→Prop}{h:ad}{s:SliceV}{P Q:List α}{x y:α}{j:Nat}{v:Value}(m:OwnS f c t M h s (P++x::Q))(F:j<c)(B:f y=(f x).set j v){a:Addr}(w:s.a=some a){i:Nat}(hi:i=P.length){G:ad→Prop}(D:∀h',OwnS f c t M h' s (P++y::Q)→Upd M h h'→G h'):
  Wr h (adr (adr a (i*c)) j)∧At (hset h (adr (adr a (i*c)) j) v) G:=by
 subst hi;have u:=m.ne;have e:=m.len;have k:=m.cap;rcases m.blk with I|⟨b,d,g,A,hc,C⟩
 ·rw[ah,aG]at e;omega
 rw[w]at g;cases g;have J:(P.flatMap f).length=P.length*c:=jj u P;rw[cn,bD]at hc;have H:=(u x).1;have E:adr (adr ⟨b,0,none⟩ (P.length*c)) j=⟨b,P.length*c+j,none⟩:=by rw[cc,cc,Nat.zero_add]
 rw[E];have p:P.length*c+j<(P.flatMap f++(f x++Q.flatMap f)++d).toArray.size:=by
  simp only[List.size_toArray,ah];omega
 refine⟨ij hc p,wB hc fun h' q n=>D h' ⟨by rw[e];simp,u,k,.inr ⟨b,d,w,A,?_,C⟩⟩ (n.mono fun z o=>.inl (by have o:z=b:=o;rw[o];exact A))⟩
 rw[q];congr 3
 rw[cn,bD,B];apply Array.toList_inj.1;rw[Array.toList_setIfInBounds];simp only[List.append_assoc];rw[List.set_append_right _ _ (by omega),show P.length*c+j-(P.flatMap f).length=j by omega,List.set_append_left _ _ (by omega)]
end Go.Proofs
namespace Go.Proofs
open Go Go.Lift
end Go.Proofs
namespace Go.Proofs
open Go Go.Lift
def Below(W:Nat→Prop)(x:Hs)(h:ad)(m:Nat)(r:Option Addr)(l:List Pr):Prop:=(r=none∧l= [])∨∃b,r=some ⟨b,0,none⟩∧TrieAt W x h m b l
theorem Below.upd0{W:Nat→Prop}{x:Hs}{h h':ad}{m:Nat}{r:Option Addr}{l:List Pr}(k:Upd No h h')(t:Below W x h m r l):Below W x h' m r l:=t.imp id fun⟨b,e,t⟩=>⟨b,e,TrieAt.upd0 k t⟩
theorem Below.less{W W':Nat→Prop}{x:Hs}{h:ad}{m:Nat}{r:Option Addr}{l:List Pr}(hm:∀b,W' b→W b∨h.size≤b)(t:Below W x h m r l):Below W' x h m r l:=t.imp id fun⟨b,e,t⟩=>⟨b,e,TrieAt.less hm t⟩
theorem Below.updM{W M:Nat→Prop}{x:Hs}{h h':ad}{m:Nat}{r:Option Addr}{l:List Pr}(k:Upd M h h')(hm:∀b,M b→W b∨h.size≤b)(t:Below W x h m r l):Below W x h' m r l:=t.imp id fun⟨b,e,t⟩=>⟨b,e,TrieAt.updM k hm t⟩
end Go.Proofs
namespace Go.Proofs
open Go.Lift
abbrev Ch:=ByteArray×ByteArray×ByteArray×Bool×Bool
abbrev zD(c:Ch):List Value:= [.string c.1,.string c.2.1,.string c.2.2.1,.bool c.2.2.2.1,.bool c.2.2.2.2]
end Go.Proofs
namespace Go.Proofs
open Go Go.Lift
theorem Da(x:Ch):(zD x).length=5∧0<5:=⟨rfl,by omega⟩
end Go.Proofs
namespace Go.Proofs
open Go Go.Lift
end Go.Proofs
namespace Go.Proofs
open Go Go.Lift
end Go.Proofs
namespace Go.Proofs
open Go Go.Lift
def hx(kind v:Int):Int:=if kind=0 then v else 0
end Go.Proofs
namespace Go.Proofs
open Go Go.Lift
structure Few(n:Nat)(L:List Pr):Prop where
 up:eH L
 len:L.length≤n
 fit:∀p∈L,p.1.size≤30∧p.2.size≤30
theorem Few.ins{n:Nat}{L:List Pr}(f:Few n L)(p:Pr)(b:p.1.size≤30)(c:p.2.size≤30):Few (n+1) (jA p L):=
 ⟨Ij p f.up,bH (IJ p) (by have:=f.len;omega),fun q a=>(Bl a).elim (fun e=>by rw[e];exact⟨b,c⟩) fun h=>f.fit q h⟩
theorem Few.fits{n:Nat}{L:List Pr}(f:Few n L):Fit L:=fun p a=>by have:=f.fit p a;omega
end Go.Proofs
namespace Go.Proofs
open Go Go.Lift
end Go.Proofs
namespace Go.Proofs
open Go Go.Lift
theorem Nz{h:ad}{b:Nat}{c:Array Value}{t:TypeId}(a:h[b]? =some (.cells c t (0,0))) (hc:0<c.size):gy h ⟨b,0,none⟩:=⟨c,t,a,hc⟩
theorem TrieAt.plain{W:Nat→Prop}{x:Hs}{h:ad}:∀{m b:Nat} {l:List Pr},TrieAt W x h m b l→gy h ⟨b,0,none⟩
 |0,_,_,t=>by obtain⟨_,_,_,a,_⟩:=BuckAt.ex t;exact Nz a (by simp[fu])
 |m+1,_,_,⟨s,nd,_⟩=>by obtain⟨_,_,_,_,_,a,_⟩:=nd.ex;exact Nz a (by simp[fu])
end Go.Proofs
namespace Go.Proofs
open Go Go.Lift
end Go.Proofs
namespace Go.Proofs
open Go Go.Lift
theorem RxN.plain{W:Nat→Prop}{h:ad}{b:Nat}{sl:ByteArray}{w:Option ByteArray}{F:Fo}(r:RxN W h b sl w F):gy h ⟨b,0,none⟩:=by
 obtain⟨val,s,ow,ks,a,_⟩:=r;exact Nz a (by simp[FF])
end Go.Proofs
namespace Go.Proofs
open Go Go.Lift
end Go.Proofs
namespace Go.Proofs
open Go Go.Lift
def XU(a b:Ch):Bool:=decide (kl a.1 b.1)
theorem Xe(M:Nat→Prop):Cmp XU zD M (fun _=>True) (.func (.func xT) #[] #[]):=by
 refine⟨fun a b h K _ d=>HV.mk' (MB a b ?_),fun _ h=>h⟩
 unfold Ee aq kf VP;refine cx fun f b1 k1=>cx fun e b2 c=>?_
 refine⟨a.1,vc (c.get0 b1) 0,b.1,vc b2 0,Gv (d e _ (k1.tr c) ?_)⟩;unfold Kf XU;split
 ·rename_i h;rw[decide_eq_true h];rfl
 ·rename_i h
  rw[decide_eq_false h];split<;>rfl
end Go.Proofs
namespace Go.Proofs
open Go Go.Lift
end Go.Proofs
namespace Go.Proofs
open Go Go.Lift
end Go.Proofs
namespace Go.Proofs
open Go Go.Lift
end Go.Proofs
namespace Go.Proofs
open Go Go.Lift
theorem UA{a b:ByteArray}:kl a b↔cR a.data.toList b.data.toList=true:=by unfold kl;rw[ByteArray.toList_eq,ByteArray.toList_eq]
theorem Pw{a b:UInt8}{x y:List UInt8}:cR (a::x) (b::y)=true↔a.toNat<b.toNat∨(a=b∧cR x y=true):=by
 simp only[cR,Bool.or_eq_true,decide_eq_true_iff,Bool.and_eq_true,beq_iff_eq,UInt8.lt_iff_toNat_lt]
theorem Tq{x y:List UInt8}:∀pre:List UInt8,cR (pre++x) (pre++y)=true↔cR x y=true
 | []=>yS
 |a::pre=>by rw[mC,mC,Pw,Tq pre];simp
theorem Xi{x y:List UInt8}(h:cR x y=true)(hx:x≠[])(c:y≠[]):hd x≤hd y:=by
 match x,y,hx,c with
 |a::x,b::y,_,_=>
  show a.toNat≤b.toNat
  rcases Pw.1 h with h|⟨rfl,_⟩<;>omega
abbrev ky(p:Pr):List UInt8:=p.1.data.toList
def Yk(l:List Pr)(a k:List UInt8)(v:ByteArray):Prop:=∃p∈l,ky p=a++k∧p.2=v
structure Beg(l:List Pr)(pre:List UInt8):Prop where
 up:eH l
 at_:∀p∈l,(ky p).take pre.length=pre∧pre.length<(ky p).length
theorem Beg.sub{l c:List Pr}{a:List UInt8}(b:Beg l a)(h:c.Sublist l):Beg c a:=⟨b.up.sublist h,fun p d=>b.at_ p (h.subset d)⟩
theorem Beg.split{l:List Pr}{a:List UInt8}(b:Beg l a){p:Pr}(d:p∈l):ky p=a++(ky p).drop a.length∧(ky p).drop a.length≠[]:=by
 obtain⟨c,f⟩:=b.at_ p d;refine⟨?_,fun e=>?_⟩
 ·conv=>lhs;rw[←List.take_append_drop a.length (ky p),c]
 ·have:=congrArg List.length e
  rw[aR,bU]at this;omega
def bt(n:Nat)(p:Pr):Nat:=hd ((ky p).drop n)
theorem Beg.mono{A B:List Pr}{a:List UInt8}(b:Beg (A++B) a){x y:Pr}(hx:x∈A)(c:y∈B):bt a.length x≤bt a.length y:=by
 have h:=(eJ.1 b.up).2.2 x hx y c;rw[UA]at h;obtain⟨e1,d⟩:=b.split (gF B hx);obtain⟨e2,e⟩:=b.split (iH A c);change cR (ky x) (ky y)=true at h;rw[e1,e2,Tq]at h;exact Xi h d e
structure Row(L:List Bn)(D T:List Pr)(pre:List UInt8):Prop where
 can:∀n∈L,QS n
 up:L.Pairwise fun m n=>hd m.1<hd n.1
 lo:∀n∈L,∀p∈T,hd n.1<bt pre.length p
 got:∀k v,(∃n∈L,xh n k v)↔Yk D pre k v
theorem Row.nil(T:List Pr)(a:List UInt8):Row [] [] T a:=⟨fun n h=>(by cases h),jo,fun n h=>(by cases h),fun k v=>⟨fun⟨n,h,_⟩=>(by cases h),fun⟨p,h,_⟩=>(by cases h)⟩⟩
theorem Row.more{L:List Bn}{D A B:List Pr}{c:List UInt8}{n:Bn}{p:Pr}(r:Row L D (A++B) c)(o:Beg (A++B) c)(s:p∈A)(_:∀a∈A,bt c.length a=bt c.length p)(x:∀b f,B=b::f→bt c.length b≠bt c.length p)(hc:QS n)(j:hd n.1=bt c.length p)(t:∀k v,xh n k v↔Yk A c k v):Row (L++ [n]) (D++A) B c:=by
 refine⟨fun m hm=>?_,eJ.2 ⟨r.up,List.pairwise_singleton ..,fun a w b u=>?_⟩,fun m hm q d=>?_,fun k v=>?_⟩
 ·rcases bM.1 hm with hm|hm
  ·exact r.can m hm
  ·rw[aM.1 hm];exact hc
 ·rw[aM.1 u,j]
  exact r.lo a w p (gF _ s)
 ·rcases bM.1 hm with hm|hm
  ·exact r.lo m hm q (iH _ d)
  ·rw[aM.1 hm,j]
   rcases B with _|⟨i,f⟩
   ·cases d
   have y:=x i f rfl;have z:=o.mono s (List.mem_cons_self (a:=i) (l:=f));rcases aA.1 d with rfl|d
   ·omega
   ·have g:Beg ([i]++f) c:=o.sub (List.sublist_append_right A _)
    have:=g.mono (aM.2 rfl) d;omega
 ·constructor
  ·rintro⟨m,hm,hi⟩
   rcases bM.1 hm with hm|hm
   ·obtain⟨q,d,e⟩:=(r.got k v).1 ⟨m,hm,hi⟩
    exact⟨q,gF _ d,e⟩
   ·rw[aM.1 hm]at hi
    obtain⟨q,d,e⟩:=(t k v).1 hi;exact⟨q,iH _ d,e⟩
  ·rintro⟨q,d,e⟩
   rcases bM.1 d with d|d
   ·obtain⟨m,hm,hi⟩:=(r.got k v).2 ⟨q,d,e⟩
    exact⟨m,gF _ hm,hi⟩
   ·exact⟨n,iH _ (aM.2 rfl),(t k v).2 ⟨q,d,e⟩⟩
theorem Row.done{L:List Bn}{D:List Pr}{a:List UInt8}(r:Row L D [] a):jk (.ofL L)∧∀k v,ud (.ofL L) k v↔Yk D a k v:=by
 refine⟨eE.2 ?_,fun k v=>?_⟩
 ·rw[Fo.to_of];exact⟨r.up,r.can⟩
 ·rw[gX,Fo.to_of];exact r.got k v
end Go.Proofs
namespace Go.Proofs
open Go Go.Lift
theorem Kid.less{W W':Nat→Prop}{h:ad}(hm:∀b,W' b→W b∨h.size≤b){a:Option Addr}{n:Bn}:Kid W h a n→Kid W' h a n
 |⟨b,sl,e1,e2,e3⟩=>⟨b,sl,e1,e2,e3.less hm⟩
theorem Kid.updM{W M:Nat→Prop}{h h':ad}(k:Upd M h h')(hm:∀b,M b→W b∨h.size≤b){a:Option Addr}{n:Bn}:Kid W h a n→Kid W h' a n
 |⟨b,sl,e1,e2,e3⟩=>⟨b,sl,e1,e2,e3.updM k hm⟩
theorem RxL.less{W W':Nat→Prop}{h:ad}(hm:∀b,W' b→W b∨h.size≤b){ks:List (Option Addr)}{L:List Bn}(r:RxL W h ks L):RxL W' h ks L:=⟨r.1,fun p a=>(r.2 p a).less hm⟩
theorem RxL.updM{W M:Nat→Prop}{h h':ad}(k:Upd M h h')(hm:∀b,M b→W b∨h.size≤b){ks:List (Option Addr)}{L:List Bn}(r:RxL W h ks L):RxL W h' ks L:=⟨r.1,fun p a=>(r.2 p a).updM k hm⟩
end Go.Proofs
namespace Go.Proofs
open Go Go.Lift
end Go.Proofs
namespace Go.Proofs
open Go Go.Lift
end Go.Proofs
namespace Go.Proofs
open Go Go.Lift
abbrev Vp:List Value:= [.string (⟨#[]⟩:ByteArray),.string (⟨#[]⟩:ByteArray),.string (⟨#[]⟩:ByteArray),.bool false,.bool false]
theorem WT{h:ad}{t:TypeId}{c:Ch}{k:ad→Prop}(e:∀h',h'[h.size]? =some (.cells (zD c).toArray t (0,0))→Upd No h h'→k h'):
  At (hnew h Vp t) fun b=>td b (some (aJ h)) 0 (zD c)∧At (gP b (aJ h) 0 (zD c)) k:=
 cx fun _ b1 k1=>cY (c:=Vp) (vs:=zD c) b1 rfl fun d b2 a=>e d b2 (k1.own a (ax _))
theorem Tv{t:TypeId}{M:Nat→Prop}{h:ad}{d:SliceV}{out:List Ch}{c:Ch}{K:SliceV→ad→Prop}(g:OwnS zD 5 t M h d out)(hM:∀b,h.size≤b→M b)(k:out.length+1≤100000000)
  (i:∀s' h',OwnS zD 5 t M h' s' (out++ [c])→Upd M h h'→K s' h'):
  At (hnew h (zD c) t) fun a=>∃xs,SRow a (some (aJ h)) (1*5) xs∧AppP (some Vp) 5 56 t d.a d.len d.cap 1 xs a K:=by
 refine cx fun a b1 k1=>?_
 have m:=bv b1;have j:OwnS zD 5 t (fun _=>True) a ⟨some (aJ h),1,1⟩ [c]:=⟨rfl,Da,ax _,.inr ⟨h.size,[],rfl,trivial,b1,rfl⟩⟩
 refine⟨_,(j.sl (W:=No) fun _ _ _ h=>h).srow,?_⟩
 refine AppP.own (ys:= [c]) (g.upd k1 fun _ _ h=>h) rfl rfl rfl rfl (by omega) (by simp only[bw];omega) (hM _ k1.size) fun s' h' e f=>?_
 exact i s' h' e (k1.wide.tr f)
end Go.Proofs
namespace Go.Proofs
open Go Go.Lift
end Go.Proofs
namespace Go.Proofs
open Go Go.Lift
abbrev b1:ByteArray:=⟨#[49]⟩
abbrev b2:ByteArray:=⟨#[50]⟩
abbrev b3:ByteArray:=⟨#[51]⟩
end Go.Proofs
namespace Go.Proofs
open Go Go.Lift
def look(l:List Pr)(k:ByteArray):Option ByteArray:=(l.find? fun p=>decide (p.1=k)).map (·.2)
theorem Qb{l:List Pr}{k:ByteArray}(h:cu l k=false):look l k=none:=by
 unfold look;rw[Option.map_eq_none_iff,List.find?_eq_none];intro p a;unfold cu at h;rw[List.any_eq_false]at h;exact h p a
theorem C0:∀{l:List Pr} {k v:ByteArray},eH l→(k,v)∈l→look l k=some v
 |p::l,k,v,a,h=>by
  have a:=bS.1 a;unfold look;rw[rz];rcases aA.1 h with e|h
  ·subst e;simp
  ·have b:p.1≠k:=fun e=>by
    have:=a.1 _ h;simp only at this;rw[e]at this;exact eN _ this
   rw[decide_eq_false b];exact C0 a.2 h
theorem Ux{l:List Pr}(c:eH l){k v:ByteArray}(a:cu l k=true→(k,v)∈l)(b:cu l k=false→v=⟨#[]⟩):((look l k).getD ⟨#[]⟩,(look l k).isSome)=(v,cu l k):=by
 cases ht:cu l k with
 |true=>rw[C0 c (a ht)];rfl
 |false=>rw[Qb ht,b ht];rfl
theorem Qa{x:Hs}{lev:Nat}{l:List Pr}{k:ByteArray}:look (part x lev (ck x lev k) l) k=look l k:=by
 unfold look part;congr 1
 rw[List.find?_filter];congr 1
 funext p;by_cases e:p.1=k
 ·rw[e];simp
 ·simp[e]
theorem Mh{W:Nat→Prop}{x:Hs}{h:ad}{b:Nat}{l:List Pr}(t:TrieAt W x h 13 b l)(V:∀y,W y→y<h.size)(hr:eH l)(S:l.length≤1000000)(k:ByteArray){K:ByteArray×Bool→ad→Prop}
  (O:∀h',Upd No h h'→K ((look l k).getD ⟨#[]⟩,(look l k).isSome) h'):HC PG xW [.agg #[.int .u64 x.k0,.int .u64 x.k1,.int .u64 x.mask],.pointer (some ⟨b,0,none⟩),.string k] [.c .str,.c .bool] K h:=by
 refine MF (x.k0,x.k1,x.mask) (some ⟨b,0,none⟩) k ?_;unfold Ei aq nv rV oq iL A0 rc ae yV oo;refine cx fun h1 b1 k1=>⟨_,vc b1 0,_,vc b1 1,_,vc b1 2,?_⟩
 refine Bw fun h2 X=>?_
 have q:=k1.tr X;refine Jp (.inr ⟨b,rfl,TrieAt.upd0 q t⟩) (fun y Y=>aF (V y Y) q.size) fun h3 b3 U k3 _=>?_
 have J:=q.tr k3;refine LoopP.ghost (fun(g:Nat×Nat×List Pr) (t:Option Addr×Int) h'=>t=(some ⟨g.2.1,0,none⟩,((13-g.1:Nat):Int))∧g.1≤13∧TrieAt W x h' g.1 g.2.1 g.2.2∧eH g.2.2∧g.2.2.length≤1000000∧look g.2.2 k=look l k∧Upd No h h') (fun g=>g.1) (13,b3,l)
  ⟨rfl,ax _,U,hr,S,rfl,J⟩ ?_
 rintro I ⟨m,c,B⟩ t T ⟨rfl,hm,tm,j,A,u,C⟩ hI;simp only at hm tm j A u;rcases m with _|m
 ·obtain⟨sp,sk,ow,G,_⟩:=BuckAt.ex tm
  refine j3 G (aB.2 (SH tm j (by omega) k fun P v N e1 e2=>?_))
  have:=O P (C.tr N);rw[←u,Ux j e1 e2]at this;exact this
 ·obtain⟨s,nd,L⟩:=tm
  have L:∀c,c<32→SlotIs W x T m s c (part x (12-m) c B):=L;obtain⟨d,n,sp,sk,ow,G,_⟩:=nd.ex;refine j3 G (aj.2 ?_);refine Tg (by omega) ?_;rw[show 13-(m+1)=12-m by omega]
  have hi:=Gy x (12-m) k;have o:=L _ hi;have f:look (part x (12-m) (ck x (12-m) k) B) k=look l k:=by rw[Qa,u]
  have w:eH (part x (12-m) (ck x (12-m) k) B):=Aj j;have z:(part x (12-m) (ck x (12-m) k) B).length≤1000000:=bH xy A;generalize part x (12-m) (ck x (12-m) k) B=lp at o f w z;generalize ck x (12-m) k=i at hi o;refine FQ nd hi fun P N=>?_
  refine WS fun D F Z=>?_
  have a:=N.tr Z;rcases o with⟨H,e1,e2⟩|⟨p,H,e1,e2⟩|⟨_,e1,Q,e2,tk⟩
  ·rw[e1]
   refine aj.2 (EX (nd.upd a fun _ h=>h.elim) hi ?_)
   rw[e2];refine aB.2 ?_;have:=O D (C.tr a);rw[←f,H]at this;exact this
  ·rw[e1]at F⊢
   refine aB.2 ⟨p.1,vc F 0,?_⟩;rw[eG];have:=O D (C.tr a);rw[←f,H]at this;by_cases e:p.1=k
   ·rw[decide_eq_true e]
    refine aj.2 ⟨p.2,vc F 1,?_⟩;have E:look [p] k=some p.2:=by unfold look;rw[rz,decide_eq_true e];rfl
    rw[E]at this;exact this
   ·rw[decide_eq_false e]
    have E:look [p] k=none:=by unfold look;rw[rz,decide_eq_false e];rfl
    rw[E]at this;exact aB.2 this
  ·rw[e1]
   refine aj.2 (EX (nd.upd a fun _ h=>h.elim) hi ?_)
   rw[e2];refine aj.2 ?_;have R:ac .i64 (((13-(m+1):Nat):Int)+1)=((13-m:Nat):Int):=by rw[lz (by omega)];omega
   rw[show 13-(m+1)=12-m by omega]at R
   show I (some ⟨Q,0,none⟩,ac .i64 (((12-m:Nat):Int)+1)) D
   rw[R];exact hI (m,Q,lp) _ D ⟨rfl,by simp only;omega,TrieAt.upd0 a tk,w,z,f,C.tr a⟩ (by simp only;omega)
abbrev Sd:=ByteArray×Bool
end Go.Proofs
namespace Go.Proofs
open Go Go.Lift
section
variable {W:Nat→Prop} {h:ad} {vp:Nat} {s:VS}
end
end Go.Proofs
namespace Go.Proofs
open Go Go.Lift
structure NSt(h8:ad)(b:Nat)(t:Tr)(h:ad)(ps ms:List Nat):Prop where
 k:Upd No h8 h
 blk:h[b]? =some (.cells (pu t).toArray bW (0,0))
 gs:∀p∈ps,GraphAt (GI (p+1) p) h (p+1) p [] 1∧h8.size≤p
 mp:∀m∈ms,h[m]? =some (.map #[] 0)∧h8.size≤m
section
variable {h8 h h':ad} {b:Nat} {t:Tr} {ps ms:List Nat}
theorem NSt.upd(n:NSt h8 b t h ps ms)(k:Upd No h h'):NSt h8 b t h' ps ms:=
 ⟨n.k.tr k,k.get0 n.blk,fun p a=>⟨(n.gs p a).1.upd0 k,(n.gs p a).2⟩,fun m hm=>⟨k.get0 (n.mp m hm).1,(n.mp m hm).2⟩⟩
theorem NSt.rds(n:NSt h8 b t h ps ms):aC h (adr ⟨b,0,none⟩ 0)=some (.int .i64 t.1)∧aC h (adr ⟨b,0,none⟩ 1)=some (.int .u64 t.2.1)∧aC h (adr ⟨b,0,none⟩ 2)=some (.int .u64 t.2.2.1)∧aC h (adr ⟨b,0,none⟩ 3)=some (.int .u64 t.2.2.2.1)∧aC h (adr ⟨b,0,none⟩ 4)=some (.pointer t.2.2.2.2.1)∧aC h (adr ⟨b,0,none⟩ 5)=some (.pointer t.2.2.2.2.2):=
 ⟨vc n.blk 0,vc n.blk 1,vc n.blk 2,vc n.blk 3,vc n.blk 4,vc n.blk 5⟩
theorem NSt.map(n:NSt h8 b t h ps ms){k:ad→Prop}(c:∀h',NSt h8 b t h' ps (h.size::ms)→h.size<h'.size→k h'):At (Array.push h (.map #[] 0)) k:=by
 have d:=Upd.push No h (.map #[] 0);have a:=n.upd d;refine aY (c _ ⟨a.k,a.blk,a.gs,fun m hm=>?_⟩ (by simp))
 rcases aA.1 hm with rfl|hm
 ·exact⟨oD h _,n.k.size⟩
 ·exact a.mp m hm
theorem NSt.graph(n:NSt h8 b t h ps ms){K:Option Addr→ad→Prop}(d:∀h',NSt h8 b t h' (h.size::ps) ms→h.size+1<h'.size→K (some ⟨h.size+1,0,none⟩) h'):HC PG dz [] [.c .ptr] K h:=by
 refine UI fun h' e g=>?_
 have a:=n.upd e;refine d h' ⟨a.k,a.blk,fun p c=>?_,a.mp⟩ (g.lt _ (.inl rfl))
 rcases aA.1 c with rfl|c
 ·exact⟨g,n.k.size⟩
 ·exact a.gs p c
theorem NSt.put(n:NSt h8 b t h ps ms){cs:List Value}{ty:TypeId}{k:ad→Prop}(a:∀h',NSt h8 b t h' ps ms→h'[h.size]? =some (.cells cs.toArray ty (0,0))→h8.size≤h.size→k h'):At (hnew h cs ty) k:=
 cx fun h' b' k'=>a h' (n.upd k') b' n.k.size
theorem NSt.done{W:Nat→Prop}{kind:Int}{x:Hs}(n:NSt h8 b t h ps ms)(z:∀y,W y→y<h8.size)(i:TreeIs W h8 kind x t [])(w:kind=0∨kind=1){c p k j o:Nat}{K:Option Addr×Int→ad→Prop}
  (D:∀h' vp gp gm tm bm nm,VaultAt (fun y=>W y∨VS.M ⟨gp,gm,tm,bm,nm,kind,x,t,[],1,[],[],[]⟩ y) h' vp ⟨gp,gm,tm,bm,nm,kind,x,t,[],1,[],[],[]⟩→h8.size≤vp→(∀y,VS.M ⟨gp,gm,tm,bm,nm,kind,x,t,[],1,[],[],[]⟩ y→h8.size≤y)→Upd No h8 h'→K (some ⟨vp,0,none⟩,0) h')
  (C:h[c]? =some (.cells (pu t++ [Value.pointer (some ⟨p+1,0,none⟩),Value.map (some k),Value.map (some j),Value.map (some o)]).toArray bV (0,0)))
  (A:h8.size≤c) (f:∀m∈(p+1)::p::ms,c≠m) (F:p∈ps) (q:k∈ms) (u:j∈ms) (s:o∈ms) (ne: [p+1,p,k,j,o].Nodup):K (some ⟨c,0,none⟩,0) h:=by
 obtain⟨g,B⟩:=n.gs p F;have hM:∀y,VS.M ⟨p+1,p,k,j,o,kind,x,t,[],1,[],[],[]⟩ y→h8.size≤y∧y<h.size∧c≠y:=fun y a=>by
  rcases a with e|e|e|e|e<;>(simp only at e;subst e)
  ·exact⟨by omega,g.lt _ (.inl rfl),f _ (by simp)⟩
  ·exact⟨B,g.lt _ (.inr rfl),f _ (by simp)⟩
  ·exact⟨(n.mp _ q).2,bv (n.mp _ q).1,f _ (by simp[q])⟩
  ·exact⟨(n.mp _ u).2,bv (n.mp _ u).1,f _ (by simp[u])⟩
  ·exact⟨(n.mp _ s).2,bv (n.mp _ s).1,f _ (by simp[s])⟩
 obtain⟨m,hm,v⟩:=g.map;have em:∀{κ β:Type} {E:KeyE κ} {g:β→Value} {r:Nat},h[r]? =some (.map #[] 0)→MapAt E g h r []:=fun v=>⟨[],0,⟨v,po,po,fun _ h=>by cases h⟩,rfl⟩
 refine D h c (p+1) p k j o ⟨C,⟨g.blk,⟨m,hm,fun id=>(v id).elim (fun⟨_,_,_,e,_⟩=>by cases e) .inr⟩,.inr (.inl rfl),.inr (.inr (.inl rfl)),fun y a=>a.elim (fun e=>aF (z y e) n.k.size) fun e=>(hM y e).2.1,g.nd⟩,em (n.mp _ q).1,em (n.mp _ u).1,em (n.mp _ s).1,fun y a=>.inr a,fun a=>a.elim (fun e=>by have:=z _ e;omega) fun e=>(hM _ e).2.2 rfl,ne,?_,fun d hd=>(by cases hd),fun id=>yS,Inv.nil,w⟩ A (fun y a=>(hM y a).1) n.k
 exact(i.less fun y a=>a.imp id fun e=>(hM y e).1).upd0 n.k
end
theorem TW{W:Nat→Prop}{h:ad}(p:∀y,W y→y<h.size){kind:Int}(m:kind=0∨kind=1){x:Hs}{K:Option Addr×Int→ad→Prop}
  (B:∀h' d gp gm tm bm nm t,VaultAt (fun y=>W y∨VS.M ⟨gp,gm,tm,bm,nm,kind,x,t,[],1,[],[],[]⟩ y) h' d ⟨gp,gm,tm,bm,nm,kind,x,t,[],1,[],[],[]⟩→h.size≤d→(∀y,VS.M ⟨gp,gm,tm,bm,nm,kind,x,t,[],1,[],[],[]⟩ y→h.size≤y)→Upd No h h'→K (some ⟨d,0,none⟩,0) h'):
  HC PG xK [.int .i64 kind,.agg #[.int .u64 x.k0,.int .u64 x.k1,.int .u64 x.mask]] [.c .ptr,.c (.int .i64)] K h:=by
 refine Mp kind (x.k0,x.k1,x.mask) ?_;unfold D3 ar nv rc ae yV ak pD mc;refine cx fun H b1 k1=>⟨_,vc b1 0,_,vc b1 1,_,vc b1 2,?_⟩
 refine Ub (W:=W) (x:=x) (fun y a=>aF (p y a) k1.size) m fun A t i u=>?_
 have k:=k1.tr u;refine cx fun I w s=>cY (c:=pu CD) (vs:=pu t) w rfl fun f g j=>aj.2 ?_
 have b:Upd No h f:=(k.tr s).own j k.size;have G:TreeIs W f kind x t []:=((i.less (W':=fun y=>W y∨y=A.size) fun y a=>a.imp id fun e=>Nat.le_of_eq e.symm).updM (s.wide.tr (j.mono fun _ e=>.inl (.inr e))) fun y a=>.inl a).less fun y a=>.inl (.inl a)
 have q:∀y,W y→y<f.size:=fun y a=>aF (p y a) b.size
 have o:∀h' d gp gm tm bm nm,VaultAt (fun y=>W y∨VS.M ⟨gp,gm,tm,bm,nm,kind,x,t,[],1,[],[],[]⟩ y) h' d ⟨gp,gm,tm,bm,nm,kind,x,t,[],1,[],[],[]⟩→f.size≤d→(∀y,VS.M ⟨gp,gm,tm,bm,nm,kind,x,t,[],1,[],[],[]⟩ y→f.size≤y)→Upd No f h'→K (some ⟨d,0,none⟩,0) h':=
  fun h' d gp gm tm bm nm v C hM D=>B h' d gp gm tm bm nm t v (bH b.size C) (fun y a=>bH b.size (hM y a)) (b.tr D)
 have n:NSt f A.size t f [] []:=⟨Upd.refl _ _,g,fun _ h=>(by cases h),fun _ h=>(by cases h)⟩
 refine⟨_,vc g 0,_,vc g 1,_,vc g 2,_,vc g 3,_,vc g 4,_,vc g 5,?_⟩;clear B b p g j k i u s w b1 k1;repeat' first
  |refine⟨n.rds,?_⟩
  |refine n.graph fun _ n z=>?_
  |refine n.map fun _ n z=>?_
  |refine n.put fun _ n E F=>?_
  |exact n.done q G m o E F (by simp;omega) (by simp) (by simp) (by simp) (by simp) (by simp;omega)
  |refine And.intro ?_ ?_
end Go.Proofs
namespace Go.Proofs
open Go Go.Lift
end Go.Proofs
namespace Go.Proofs
open Go Go.Lift
end Go.Proofs
namespace Go.Proofs
open Go Go.Lift
theorem Uv{α:Type}{l:List α}{i:Nat}{a b:α}(h:b∈l.set i a):b=a∨∃j,j≠i∧l[j]? =some b:=by
 obtain⟨j,c⟩:=List.getElem?_of_mem h;rw[List.getElem?_set]at c;split at c
 ·split at c
  ·cases c;exact .inl rfl
  ·cases c
 ·exact .inr ⟨j,by omega,c⟩
def sb(s:SliceV)(y:Nat):Prop:=s.cap≠0∧∃a,s.a=some a∧y=a.block
section
variable {α:Type} {f:α→List Value} {sz:Nat} {ty:TypeId} {M:Nat→Prop} {h:ad} {s so:SliceV} {xs out:List α}
theorem _root_.Go.Lift.OwnS.sub(o:OwnS f sz ty M h s xs):∀y,sb s y→M y∧y<h.size:=fun y ⟨hc,a,g,e⟩=>by
 rcases o.blk with i|⟨b,d,c,hm,j,_⟩
 ·exact absurd i hc
 ·rw[g]at c
  cases c;exact⟨e▸hm,e▸bv j⟩
theorem _root_.Go.Lift.OwnS.its(o:OwnS f sz ty M h s xs):OwnS f sz ty (sb s) h s xs:=by
 refine⟨o.len,o.ne,o.cap,?_⟩;by_cases hc:s.cap=0
 ·exact .inl hc
 ·rcases o.blk with d|⟨b,a,c,hm,e,g⟩
  ·exact absurd d hc
  ·exact .inr ⟨b,a,c,⟨hc,_,c,rfl⟩,e,g⟩
theorem Js{a:Option Addr}{n:Nat}:∀y,¬sb ⟨a,n,0⟩ y:=fun _ h=>h.1 rfl
theorem _root_.Go.Lift.OwnS.one{x:α}{b:Nat}(a:∀x,(f x).length=sz∧0<sz)(c:h[b]? =some (.cells (f x).toArray ty (0,0))):OwnS f sz ty (sb ⟨some ⟨b,0,none⟩,1,1⟩) h ⟨some ⟨b,0,none⟩,1,1⟩ [x]:=
 ⟨rfl,a,ax _,.inr ⟨b,[],rfl,⟨by simp,_,rfl,rfl⟩,by simpa using c,by simp⟩⟩
theorem Wf{a:Nat}{z:List Value}{t:α}{b:Nat}{K:SliceV→ad→Prop}(i:OwnS f sz ty (sb so) h so out)(m:h[b]? =some (.cells (f t).toArray ty (0,0))) (d:cj (f t)=true) (j:z.length=sz) (e:0<a∧a≤64) (k:out.length+1≤1000000)
  (o:∀s' h',OwnS f sz ty (sb s') h' s' (out++ [t])→Upd (sb so) h h'→(∀y,sb s' y→(sb so y∨h.size≤y)∧y<h'.size)→K s' h'):
  ∃xs,SRow h (some ⟨b,0,none⟩) (1*sz) xs∧AppP (some z) sz a ty so.a so.len so.cap 1 xs h K:=by
 refine⟨_,((OwnS.one i.ne m).sl (W:=No) fun _ _ _ h=>h).srow,?_⟩
 refine AppP.own (M:=fun y=>sb so y∨h.size≤y) (ys:= [t]) (i.more fun y g=>.inl g) rfl rfl (by simpa using d) j e.1 ?_ (.inr (ax _)) fun s' h' c n=>o s' h' c.its (n.mono fun y g=>g) c.sub
 simp only[bw];calc (out.length+1)*a≤1000000*64:=Nat.mul_le_mul k e.2
  _≤140737488355328:=by omega
end
structure Sp where
 T:Nat→Prop
 Q:ad→Prop
 loc:∀{M:Nat→Prop} {h h':ad},Q h→Upd M h h'→(∀y,T y→¬M y)→Q h'
def Th(b:Nat)(cs:List Value)(t:TypeId):Sp:=⟨(· =b),fun h=>h[b]? =some (.cells cs.toArray t (0,0)),fun q k a=>k.get q (a _ rfl)⟩
def Af{α:Type}(f:α→List Value)(b:Nat)(ty:TypeId)(s:SliceV)(xs:List α):Sp:=⟨sb s,fun h=>OwnS f b ty (sb s) h s xs,fun q k a=>q.upd k a⟩
def AL(Ss:List Sp)(y:Nat):Prop:=∃s∈Ss,s.T y
structure Own(Ss:List Sp)(h:ad):Prop where
 q:∀s∈Ss,s.Q h
 lt:∀s∈Ss,∀y,s.T y→y<h.size
 pd:∀(i j:Nat) (a b:Sp),Ss[i]? =some a→Ss[j]? =some b→i≠j→∀y,a.T y→¬b.T y
section
variable {Ss:List Sp} {h h':ad} {M:Nat→Prop} {s s':Sp} {i:Nat}
theorem Own.get(o:Own Ss h)(hi:Ss[i]? =some s):s.Q h:=o.q s (bC hi)
theorem Own.away(o:Own Ss h)(k:Upd M h h')(hm:∀y,AL Ss y→¬M y):Own Ss h':=
 ⟨fun s a=>s.loc (o.q s a) k fun y b=>hm y ⟨s,a,b⟩,fun s a y b=>aF (o.lt s a y b) k.size,o.pd⟩
theorem Own.nil:Own [] h:=⟨(fun _ h=>by cases h),(fun _ h=>by cases h),(fun i j a b h=>by simp at h)⟩
theorem Own.set(o:Own Ss h)(hi:Ss[i]? =some s) (k:Upd M h h') (hm:∀y,M y→s.T y∨h.size≤y) (q:s'.Q h') (w:∀y,s'.T y→(s.T y∨h.size≤y)∧y<h'.size):Own (Ss.set i s') h':=by
 have A:i<Ss.length:=(aQ.1 hi).1;have val:∀{j:Nat} {a:Sp},(Ss.set i s')[j]? =some a→(j=i∧a=s')∨(j≠i∧Ss[j]? =some a):=fun{j a} c=>by
  by_cases e:j=i
  ·subst e;rw[List.getElem?_set_self A]at c;cases c;exact .inl ⟨rfl,rfl⟩
  ·rw[List.getElem?_set_ne (Ne.symm e)]at c;exact .inr ⟨e,c⟩
 have one:∀{j:Nat} {a:Sp},j≠i→Ss[j]? =some a→∀y,a.T y→¬s'.T y:=fun{j a} f c y d h'=>
  (w y h').1.elim (o.pd j i a s c hi f y d) fun h=>by have:=o.lt a (bC c) y d;omega
 refine⟨fun a c=>?_,fun a c y d=>?_,fun p j a b c z m y d g=>?_⟩
 ·obtain⟨j,f⟩:=List.getElem?_of_mem c
  rcases val f with⟨_,rfl⟩|⟨u,f⟩
  ·exact q
  ·refine a.loc (o.get f) k fun y d hM=>?_
   rcases hm y hM with h|h
   ·exact o.pd j i a s f hi u y d h
   ·have:=o.lt a (bC f) y d;omega
 ·obtain⟨j,f⟩:=List.getElem?_of_mem c
  rcases val f with⟨_,rfl⟩|⟨u,f⟩
  ·exact(w y d).2
  ·exact aF (o.lt a (bC f) y d) k.size
 ·rcases val c with⟨n,rfl⟩|⟨n,v⟩<;>rcases val z with⟨t,rfl⟩|⟨t,x⟩
  ·exact m (n.trans t.symm)
  ·exact one t x y g d
  ·exact one n v y d g
  ·exact o.pd p j a b v x m y d g
theorem Own.push(o:Own Ss h)(k:Upd No h h')(q:s'.Q h')(g:∀y,s'.T y→h.size≤y∧y<h'.size):Own (Ss++ [s']) h':=by
 have val:∀{j:Nat} {a:Sp},(Ss++ [s'])[j]? =some a→(j=Ss.length∧a=s')∨Ss[j]? =some a:=fun{j a} c=>by
  rw[List.getElem?_append]at c;split at c
  ·exact .inr c
  ·have:j-Ss.length=0:=by have:=(aQ.1 c).1;simp only[bw]at this;omega
   rw[this]at c;cases c;exact .inl ⟨by omega,rfl⟩
 have mem:∀{a},a∈Ss++ [s']→a∈Ss∨a=s':=fun h=>(bM.1 h).imp id aM.1
 refine⟨fun a c=>?_,fun a c y e=>?_,fun p j a b c n f y e d=>?_⟩
 ·rcases mem c with c|rfl
  ·exact a.loc (o.q a c) k fun _ _ h=>h
  ·exact q
 ·rcases mem c with c|rfl
  ·exact aF (o.lt a c y e) k.size
  ·exact(g y e).2
 ·rcases val c with⟨s,rfl⟩|i<;>rcases val n with⟨t,rfl⟩|m
  ·omega
  ·have:=o.lt b (bC m) y d;have:=(g y e).1;omega
  ·have:=o.lt a (bC i) y e;have:=(g y d).1;omega
  ·exact o.pd p j a b i m f y e d
theorem Wh(hi:Ss[i]? =some s) {z:Nat} (e:∀y,s'.T y→s.T y∨z≤y):∀y,AL (Ss.set i s') y→AL Ss y∨z≤y:=fun y ⟨a,d,b⟩=>by
 rcases Uv d with rfl|⟨j,_,c⟩
 ·exact(e y b).imp (fun h=>⟨s,bC hi,h⟩) id
 ·exact .inl ⟨a,bC c,b⟩
end
theorem GraphAt.re{W W' M:Nat→Prop}{h h':ad}{gp gm:Nat}{L:gi}{nx:Int}(g:GraphAt W h gp gm L nx)(k:Upd M h h')(hm:∀b,M b→(W b∧b≠gp∧b≠gm)∨h.size≤b)(i:∀b,W' b→(W b∨h.size≤b)∧b<h'.size)(c:W' gp)(d:W' gm):GraphAt W' h' gp gm L nx:=by
 have p:=g.upd k hm;obtain⟨m,f,q⟩:=g.map;refine⟨p.blk,⟨m,f.upd k fun e=>(hm _ e).elim (fun e=>e.2.2 rfl) fun e=>absurd (g.lt _ g.wm) (ir.2 e),fun j=>?_⟩,c,d,fun b a=>(i b a).2,g.nd⟩
 rcases q j with⟨s,ps,c,d,n⟩|o
 ·exact .inl ⟨s,ps,c,d,((n.less (W':=fun b=>W b∨h.size≤b) fun b a=>a).upd k fun b a=>.inl ((hm b a).imp (·.1) id)).less fun b a=>.inl (i b a).1⟩
 ·exact .inr o
theorem TreeIs.re{W W' M:Nat→Prop}{h h':ad}{kind:Int}{x:Hs}{t:Tr}{l:List Pr}(i:TreeIs W h kind x t l)(k:Upd M h h')(hm:∀b,M b→W b∨h.size≤b)(c:∀b,W' b→W b∨h.size≤b):TreeIs W' h' kind x t l:=
 ((i.less (W':=fun b=>W b∨h.size≤b) fun _ a=>a).updM k fun b a=>.inl (hm b a)).less fun b a=>.inl (c b a)
theorem VaultAt.re{W W' M:Nat→Prop}{h h':ad}{j:Nat}{s:VS}(v:VaultAt W h j s)(k:Upd M h h')(hm:∀b,M b→(W b∧¬s.M b)∨h.size≤b)(m:∀b,W' b→(W b∨h.size≤b)∧b<h'.size)(hM:∀y,s.M y→W' y):VaultAt W' h' j s:=by
 have g:=v.upd k hm;have f:∀b,M b→W b∨h.size≤b:=fun b c=>(hm b c).imp (·.1) id
 have a:∀b,W' b→W b∨h.size≤b:=fun b c=>(m b c).1
 exact⟨g.blk,v.g.re k (fun b c=>(hm b c).imp (fun e=>⟨e.1,fun i=>e.2 (.inl i),fun i=>e.2 (.inr (.inl i))⟩) id) m (hM _ (.inl rfl)) (hM _ (.inr (.inl rfl))),g.t,g.b,g.n,hM,fun n=>(a _ n).elim v.wv fun e=>absurd (bv v.blk) (by omega),v.ne,v.em.re k f a,fun d hd=>⟨(v.ts d hd).1.re k f a,(v.ts d hd).2⟩,v.sub,v.inv,v.kd⟩
structure Vw(Ss:List Sp)(h:ad)(vp:Nat)(s:VS):Prop where
 own:Own Ss h
 v:VaultAt (fun y=>s.M y∨AL Ss y) h vp s
 ap:∀y,AL Ss y→¬s.M y
section
variable {Ss:List Sp} {h h':ad} {vp:Nat} {s:VS} {p p':Sp} {i:Nat} {M:Nat→Prop}
theorem Vw.up0(w:Vw Ss h vp s)(k:Upd No h h'):Vw Ss h' vp s:=⟨w.own.away k fun _ _ h=>h,w.v.upd0 k,w.ap⟩
theorem Vw.lt(w:Vw Ss h vp s):∀y,(s.M y∨AL Ss y)→y<h.size:=w.v.g.lt
theorem Vw.set(w:Vw Ss h vp s)(hi:Ss[i]? =some p) (k:Upd M h h') (hm:∀y,M y→p.T y∨h.size≤y) (q:p'.Q h') (d:∀y,p'.T y→(p.T y∨h.size≤y)∧y<h'.size):Vw (Ss.set i p') h' vp s:=by
 have o:=w.own.set hi k hm q d;have f:=Wh hi (z:=h.size) fun y b=>(d y b).1
 have c:∀y,p.T y→AL Ss y:=fun y b=>⟨p,bC hi,b⟩
 refine⟨o,w.v.re k (fun y b=>(hm y b).imp (fun e=>⟨.inr (c y e),w.ap y (c y e)⟩) id) (fun y b=>?_) fun y b=>.inl b,fun y b hM=>(f y b).elim (fun e=>w.ap y e hM) fun e=>absurd (w.lt y (.inl hM)) (ir.2 e)⟩
 rcases b with b|b
 ·exact⟨.inl (.inl b),aF (w.lt y (.inl b)) k.size⟩
 ·exact⟨(f y b).imp .inr id,let⟨a,g,b⟩:=b;o.lt a g y b⟩
theorem Vw.push(w:Vw Ss h vp s)(k:Upd No h h')(q:p'.Q h')(d:∀y,p'.T y→h.size≤y∧y<h'.size):Vw (Ss++ [p']) h' vp s:=by
 have o:=w.own.push k q d;have f:∀y,AL (Ss++ [p']) y→AL Ss y∨h.size≤y:=fun y ⟨a,c,b⟩=>by
  rcases bM.1 c with c|c
  ·exact .inl ⟨a,c,b⟩
  ·rw[aM.1 c]at b;exact .inr (d y b).1
 refine⟨o,w.v.re k (fun _ h=>h.elim) (fun y b=>?_) fun y b=>.inl b,fun y b hM=>(f y b).elim (fun e=>w.ap y e hM) fun e=>absurd (w.lt y (.inl hM)) (ir.2 e)⟩
 rcases b with b|b
 ·exact⟨.inl (.inl b),aF (w.lt y (.inl b)) k.size⟩
 ·exact⟨(f y b).imp .inr id,let⟨a,c,b⟩:=b;o.lt a c y b⟩
theorem Vw.cell(w:Vw Ss h vp s){b:Nat}{cs a:List Value}{t c:TypeId}(hi:Ss[i]? =some (Th b cs t)) (k:Upd (· =b) h h') (q:h'[b]? =some (.cells a.toArray c (0,0))):Vw (Ss.set i (Th b a c)) h' vp s:=
 w.set (p':=Th b a c) hi k (fun _ h=>.inl h) q fun y d=>⟨.inl d,(show y=b from d)▸bv q⟩
theorem Vw.slice(w:Vw Ss h vp s){α:Type}{f:α→List Value}{b:Nat}{ty:TypeId}{c a:SliceV}{xs ys:List α}(hi:Ss[i]? =some (Af f b ty c xs)) (k:Upd (sb c) h h') (q:OwnS f b ty (sb a) h' a ys) (d:∀y,sb a y→(sb c y∨h.size≤y)∧y<h'.size):Vw (Ss.set i (Af f b ty a ys)) h' vp s:=
 w.set (p':=Af f b ty a ys) hi k (fun _ h=>.inl h) q d
theorem Vw.ed(w:Vw Ss h vp s){s':VS}(k:Upd s.M h h')(v:VaultAt (fun y=>s.M y∨AL Ss y) h' vp s')(e:s'.M=s.M):Vw Ss h' vp s':=
 ⟨w.own.away k fun y a=>w.ap y a,by rw[e];exact v,fun y a=>by rw[e];exact w.ap y a⟩
end
end Go.Proofs
namespace Go.Proofs
open Go Go.Lift
def oh(k:ByteArray)(l:List Pr):List Pr:=l.filter fun q=>decide (q.1≠k)
theorem yI(k:ByteArray)(q:Pr)(l:List Pr):oh k (q::l)=if q.1=k then oh k l else q::oh k l:=by
 unfold oh;rw[List.filter_cons];by_cases h:q.1=k
 ·rw[if_pos h,if_neg (by simpa using h)]
 ·rw[if_neg h,if_pos (by simpa using h)]
theorem Az{k:ByteArray}{l:List Pr}(h:∀q∈l,q.1≠k):oh k l=l:=jD.2 fun q a=>decide_eq_true (h q a)
theorem Fm{k:ByteArray}{l:List Pr}(h:cu l k=false):∀q∈l,q.1≠k:=fun q a e=>by
 have:cu l k=true:=bZ.2 ⟨q,a,decide_eq_true e⟩;rw[h]at this;cases this
theorem LK{k:ByteArray}{l:List Pr}(h:∀q∈l,q.1≠k):cu l k=false:=by
 rcases ht:cu l k with _|_
 ·rfl
 ·obtain⟨q,a,e⟩:=bZ.1 ht
  exact absurd (of_decide_eq_true e) (h q a)
theorem Pb{k:ByteArray}{l:List Pr}{p:Pr}:p∈oh k l↔p∈l∧p.1≠k:=by unfold oh;rw[List.mem_filter,decide_eq_true_iff]
theorem V5{k:ByteArray}{l:List Pr}:(oh k l).length≤l.length:=List.length_filter_le ..
theorem Pl{k:ByteArray}:∀{l:List Pr},eH l→l.length≤(oh k l).length+1
 | [],_=>be _
 |q::l,a=>by
  have a:=bS.1 a;rw[yI];by_cases h:q.1=k
  ·rw[if_pos h,Az fun r hm e=>by have:=a.1 r hm;rw[h,e]at this;exact eN _ this];exact ax _
  ·rw[if_neg h]
   have:=Pl (k:=k) a.2;simp only[aG];omega
theorem Pm(k:ByteArray):∀{l:List Pr},eH l→Qu l k=oh k l
 | [],_=>by simp[Qu,oh,cu]
 |q::l,c=>by
  have j:=c;have c:=bS.1 c;have b:pos (q::l) k=if kl q.1 k then pos l k+1 else 0:=by
   unfold pos;rw[List.takeWhile_cons];by_cases h:kl q.1 k
   ·rw[if_pos (by simpa using h),if_pos h];rfl
   ·rw[if_neg (by simpa using h),if_neg h];rfl
  have d:cu (q::l) k=(decide (q.1=k)||cu l k):=by unfold cu;rw[qq]
  by_cases h:kl q.1 k
  ·have f:q.1≠k:=fun e=>by rw[e]at h;exact eN _ h
   rw[yI,if_neg f,←Pm k c.2];unfold Qu;rw[d,b,if_pos h,decide_eq_false f,Bool.false_or];by_cases g:cu l k=true
   ·rw[if_pos g,if_pos g];rfl
   ·rw[if_neg g,if_neg g]
  ·by_cases e:q.1=k
   ·have a:∀r∈l,r.1≠k:=fun r hm e2=>by have:=c.1 r hm;rw[e,e2]at this;exact eN _ this
    rw[yI,if_pos e,Az a];unfold Qu;rw[d,b,if_neg h,decide_eq_true e,Bool.true_or,if_pos rfl];rfl
   ·have i:=FY h e
    have a:∀r∈q::l,r.1≠k:=fun r hm e2=>by
     rcases aA.1 hm with rfl|hm
     ·exact e e2
     ·have:=c.1 r hm
      rw[e2]at this;exact eN _ (qC i this)
    rw[Az a];unfold Qu;rw[LK a];rfl
theorem LC{x:Hs}{lev c:Nat}{k:ByteArray}{l:List Pr}:part x lev c (oh k l)=oh k (part x lev c l):=by
 unfold part oh;rw[List.filter_filter,List.filter_filter];exact List.filter_congr fun p _=>Bool.and_comm ..
theorem PZ{x:Hs}{lev c:Nat}{k:ByteArray}{l:List Pr}(h:c≠ck x lev k):part x lev c (oh k l)=part x lev c l:=by
 rw[LC];exact Az fun q a e=>h (by rw[←e];exact(sG.1 a).2.symm)
theorem M5{W:Nat→Prop}{x:Hs}{h h':ad}{m b':Nat}{s s':Slots}{l:List Pr}{k:ByteArray}(d:Upd No h h')(nd:NodeAt W h' b' s')(b:∀c,c<32→SlotIs W x h m s c (part x (12-m) c l))
  (a:∀c,c≠ck x (12-m) k→s'.p c=s.p c∧s'.k c=s.k c)(hi:SlotIs W x h' m s' (ck x (12-m) k) (oh k (part x (12-m) (ck x (12-m) k) l))):TrieAt W x h' (m+1) b' (oh k l):=by
 refine⟨s',nd,fun c hc=>?_⟩
 by_cases e:ck x (12-m) k=c
 ·rw[LC];subst e;exact hi
 ·rw[PZ fun h=>e h.symm]
  have t:=SlotIs.upd0 d (b c hc);obtain⟨e1,e2⟩:=a c fun h=>e h.symm
  unfold SlotIs at t;rw[←e1,←e2]at t;exact t
theorem Pj{β:Type}(g:Nat→Option β):∀n,(fm g n).length=((List.range n).map fun c=>(g c).toList.length).sum
 |0=>rfl
 |n+1=>by
  rw[UM,ah,Pj g n,List.range_succ,List.map_append,List.sum_append];simp
theorem Lh{x:Hs}{lev:Nat}{l:List Pr}(h:∀c,c<32→(part x lev c l).length≤1):(Bb x lev l).length=l.length:=by
 unfold Bb;rw[Pj];have e:=CW x lev l 32;have e2:(l.filter fun p=>decide (ck x lev p.1<32))=l:=jD.2 fun p _=>decide_eq_true (Gy x lev p.1)
 rw[e2]at e;rw[←e];refine congrArg List.sum (List.map_congr_left fun c hc=>?_)
 have:=h c (iv.1 hc);match hp:part x lev c l with
 | []=>rfl
 | [p]=>rfl
 |a::b::r=>rw[hp]at this;simp at this
theorem M6{W:Nat→Prop}{x:Hs}{h:ad}{m b:Nat}{l:List Pr}(t:TrieAt W x h m b l)(D:l.length≤1000000):
  ∃d n sp sk bu ow lp lk,h[b]? =some (.cells (fu d n sp sk bu ow) bi (0,0))∧Sl kK 2 W h sp lp∧Sl tP 1 W h sk lk∧lp.length≤1000000∧lk.length≤32∧(lp.length+lk.length=1∧n=0↔l.length=1)∧∀p,l= [p]→lp= [p]:=by
 cases m with
 |zero=>
  obtain⟨sp,sk,ow,v,i,f,_⟩:=BuckAt.ex t;exact⟨0,0,sp,sk,true,ow,l,[],v,i,f,D,by simp,by simp,fun p e=>e⟩
 |succ m=>
  obtain⟨s,nd,k⟩:=t;have k:∀c,c<32→SlotIs W x h m s c (part x (12-m) c l):=k;obtain⟨d,n,sp,sk,ow,v,bits,i,f,_⟩:=nd.ex;have o:=Uf k;have C:=DT (g:=s.p);refine⟨d,n,sp,sk,false,ow,_,_,v,i,f,by omega,DT,?_,?_⟩
  ·by_cases u:∀c,c<32→s.k c=none
   ·have z:n=0:=Nat.eq_of_testBit_eq fun c=>by
     rw[mB];by_cases hc:c<32
     ·rw[bits.nk c hc,u c hc];rfl
     ·exact Nat.testBit_lt_two_pow (aF bits.n32 (Nat.pow_le_pow_right (n:=2) (by omega) (by omega:32≤c)))
    have ek:fm s.k 32= []:=by
     unfold fm;rw[List.filterMap_eq_nil_iff];exact fun c hc=>u c (iv.1 hc)
    have w:(fm s.p 32).length=l.length:=by
     rw[o];refine Lh fun c hc=>?_
     rcases k c hc with⟨a,_⟩|⟨p,a,_⟩|⟨_,_,E,B,_⟩
     ·rw[a];simp
     ·rw[a];simp
     ·rw[u c hc]at B;cases B
    rw[ek,w,z];simp
   ·obtain⟨c,hc⟩:=Classical.not_forall.1 u
    obtain⟨hc,j⟩:=Classical.not_imp.1 hc;have A:n≠0:=fun z=>by
     have:=bits.nk c hc;rw[z,mB]at this;cases hkk:s.k c with
     |none=>exact j hkk
     |some y=>rw[hkk]at this;cases this
    rcases k c hc with⟨_,_,a⟩|⟨p,_,_,a⟩|⟨B,_⟩
    ·exact absurd a j
    ·exact absurd a j
    ·have:=xy (x:=x) (lev:=12-m) (c:=c) (l:=l)
     constructor
     ·rintro⟨_,e⟩;exact absurd e A
     ·intro e;omega
  ·rintro p rfl
   rw[o];have hc:=Gy x (12-m) p.1;have w:(Bb x (12-m) [p]).length=1:=Lh fun c _=>bH xy (by simp)
   match hq:Bb x (12-m) [p],w with
   | [q],_=>
    have:q∈Bb x (12-m) [p]:=by rw[hq];exact aM.2 rfl
    rw[aM.1 (P9 this)]
theorem Ut{h:ad}{b d n:Nat}{sp sk:SliceV}{c:Bool}{ow:Option Addr}(a:h[b]? =some (.cells (fu d n sp sk c ow) bi (0,0))) (g:sp.len+sk.len≤1000000000) {K:Int→ad→Prop} (f:K ((sp.len+sk.len:Nat):Int) h):HC PG rp [.pointer (some ⟨b,0,none⟩)] [.c (.int .i64)] K h:=by
 refine ED _ ?_;unfold wZ ce;refine aj.2 ⟨_,rfl,sp,eu (i:=2) a,_,rfl,sk,eu (i:=3) a,?_⟩;have e:ac .i64 ((sp.len:Int)+(sk.len:Int))=((sp.len+sk.len:Nat):Int):=by rw[lz (by omega)];omega
 rw[e];exact f
theorem TB{W:Nat→Prop}{x:Hs}{h:ad}{m b:Nat}{l:List Pr}(t:TrieAt W x h m b l)(D:l.length≤1000000){K:Pr×Bool→ad→Prop}
  (u:∀h' p,Upd No h h'→(l.length=1→l= [p])→K (p,decide (l.length=1)) h'):HC PG uU [.pointer (some ⟨b,0,none⟩)] [.agg [.str,.str],.c .bool] K h:=by
 refine HW _ ?_;unfold zV dE aq bE fe rV kf;refine cx fun H b1 k1=>?_
 have F:=TrieAt.upd0 k1 t;obtain⟨d,n,sp,sk,O,ow,L,lk,y,o,v,G,I,f,c⟩:=M6 F D;have Q:=o.len;have N:=v.len;refine Join.intro (fun t h'=>t= !decide (l.length=1)∧h'=H) (fun R C=>?_) ?_
 ·refine Ut y (by omega) ?_
  by_cases e:sp.len+sk.len=1
  ·have e2:((sp.len+sk.len:Nat):Int)=1:=by omega
   rw[e2];refine aj.2 (LJ y (C _ _ ⟨?_,rfl⟩));by_cases A:n=0
   ·rw[decide_eq_true (f.1 ⟨by omega,A⟩),A];rfl
   ·rw[decide_eq_false fun h=>A (f.2 h).2]
    exact bne_iff_ne.2 (by omega)
  ·have e2:(((sp.len+sk.len:Nat):Int) !=(1:Int))=true:=bne_iff_ne.2 (by omega)
   rw[e2];refine aB.2 (C _ _ ⟨?_,rfl⟩);rw[decide_eq_false fun h=>e (by have:=(f.2 h).1;omega)];rfl
 ·rintro _ h' ⟨rfl,rfl⟩
  have j:h'[h.size]? =some (.cells #[.string OO.1,.string OO.2] au (0,0)):=b1;by_cases e:l.length=1
  ·rw[decide_eq_true e]
   refine aj.2 ?_;refine LG y o (by omega) fun J P s k=>?_
   match l,e,c with
   | [p],e,c=>
    have w:=c p rfl;subst w;have q:=s.len;obtain⟨a,E,_,B⟩:=(s.sl (W:=No) fun _ _ _ h=>h).at (i:=0) (x:=p) rfl
    refine⟨⟨by omega,by simp at q;omega⟩,a,E,p.1,B 0 _ rfl,p.2,B 1 _ rfl,?_⟩
    refine FJ (p:=p) (k.get0 j) fun z b3 g=>⟨_,vc b3 0,_,vc b3 1,?_⟩
    have:=u z p ((k1.tr k).own g (ax _)) fun _=>rfl
    exact this
  ·have:=u
   rw[decide_eq_false e];rw[decide_eq_false e]at u;refine aB.2 (FJ (p:=OO) j fun z b3 g=>⟨_,vc b3 0,_,vc b3 1,?_⟩)
   exact u z _ (k1.own g (ax _)) fun h=>absurd h e
end Go.Proofs
namespace Go.Proofs
open Go Go.Lift
theorem LH{h:ad}{s:SliceV}{l:List Pr}(f:Sl kK 2 No h s l)(hc:s.len≤s.cap)(u:eH l)(B:l.length≤1000000000)(k:ByteArray)
  {K:SliceV→ad→Prop}(w:∀s' h',OwnS kK 2 au (fun b=>h.size≤b) h' s' (oh k l)→Upd No h h'→K s' h'):HC PG xP [.slice s.a s.len s.cap,.string k] [.c .slice] K h:=by
 refine Mx s k ?_;unfold Ea El;have e:=f.len;refine JY f u B k fun t a=>?_
 have D:=Sg l k;cases ht:cu l k with
 |false=>
  refine aB.2 (yJ (f.upd a fun _ h=>h.elim) (by omega) fun J L n g=>?_)
  rw[Az (Fm ht)]at w;exact w _ _ (n.more fun b q=>bH a.size q) (a.tr g)
 |true=>
  obtain⟨E,_⟩:=JF u ht;have H:ac .i64 ((pos l k:Int)+1)=((pos l k+1:Nat):Int):=by rw[lz (by omega)];omega
  refine aj.2 ?_;simp only;rw[H];refine⟨by omega,by omega,?_⟩
  simp only[Bd,Int.toNat_natCast];refine aY ?_;have c:=f.upd a fun _ h=>h.elim
  have y:=Upd.hnew No t [.slice (aN s.a 0 s.cap 2) (pos l k-0) (s.cap-0),.slice (aN s.a (pos l k+1) s.cap 2) (s.len-(pos l k+1)) (s.cap-(pos l k+1))] dY;have G:=bG t [.slice (aN s.a 0 s.cap 2) (pos l k-0) (s.cap-0),.slice (aN s.a (pos l k+1) s.cap 2) (s.len-(pos l k+1)) (s.cap-(pos l k+1))] dY;have A:=Jq c (i:=0) (j:=pos l k) (m:=s.cap) (be _) D (by omega) (s.cap-0)
  have p:=Jq c (i:=pos l k+1) (j:=l.length) (m:=s.cap) (by omega) (ax _) (by omega) (s.cap-(pos l k+1));rw[←e]at p;rw[List.drop_zero]at A;rw[List.take_of_length_le (by rw[aR];omega)]at p;have F:oh k l= [l.take (pos l k-0),l.drop (pos l k+1)].flatten:=by rw[←Pm k u];unfold Qu;rw[if_pos ht];simp
  refine I0 (s:=⟨some (aJ t),2,2⟩) (vs:= [⟨aN s.a 0 s.cap 2,pos l k-0,s.cap-0⟩,⟨aN s.a (pos l k+1) s.cap 2,s.len-(pos l k+1),s.cap-(pos l k+1)⟩]) (ls:= [l.take (pos l k-0),l.drop (pos l k+1)])
   ⟨rfl,fun x=>⟨rfl,Nat.one_pos⟩,fun _=>⟨_,rfl,fun h=>h.elim,qc G fun i v C=>by simpa[XL]using C⟩⟩ ⟨A.upd y fun _ h=>h.elim,p.upd y fun _ h=>h.elim,trivial⟩ ?_ (by simp) fun N I d o=>?_
  ·simp only[List.flatten_cons,List.flatten_nil,ah,aL,aR,bU];omega
  ·rw[←F]at d
   have z:=a.tr y;exact w _ _ (d.more fun b q=>bH z.size q) (z.tr o)
theorem Ts{W:Nat→Prop}{h:ad}{b:Nat}{l:List Pr}(q:BuckAt W h b l)(m:∀x,W x→x<h.size)(D:eH l)(o:l.length≤1000000000)(k:ByteArray){K:Option Addr→ad→Prop}
  (F:∀h' b',BuckAt W h' b' (oh k l)→Upd No h h'→K (some ⟨b',0,none⟩) h'):
  HC PG pP [.pointer (some ⟨b,0,none⟩),.pointer none,.string k] [.c .ptr] K h:=by
 refine Dq _ none k ?_;unfold vK ci ce iY El;obtain⟨sp,sk,ow,B,C,y,z,A⟩:=q.ex;refine j3 B (aj.2 ?_);refine O8 q o fun I v p b2 u t f=>?_
 refine⟨_,rfl,v,eu (i:=2) b2,?_⟩;refine LH (u.sl fun _ _ _ h=>h) u.cap D o k fun s H d a=>?_
 have b3:=a.get0 b2;refine⟨_,rfl,TS (i:=2) b3 (show 2<6 by decide),Ho (i:=2) (c':=fu 0 0 s p true none) b3 rfl fun w E c=>?_⟩
 have G:=bv b2;have n:=d.upd c fun x hx e=>by have e:x=h.size:=e;omega
 have j:=(t.upd a fun _ _ h=>h).upd c fun x hx e=>by have e:x=h.size:=e;omega
 refine F w h.size ⟨⟨s,p,none,E,n.sl fun x hx _ g=>?_,j.sl fun x hx _ g=>?_,d.cap,t.cap⟩,fun g=>?_⟩ ((f.tr a).trans c fun x hx=>.inr ?_)
 ·have:=m x g;have:=f.size;omega
 ·have:=m x g;omega
 ·have:=m _ g;omega
 ·have hx:x=h.size:=hx
  omega
theorem Mi{W:Nat→Prop}{x:Hs}:∀(m:Nat),m≤13→∀{b:Nat} {l:List Pr} (k:ByteArray) {h:ad},TrieAt W x h m b l→(∀y,W y→y<h.size)→eH l→l.length≤1000000→∀{K:(Option Addr)×Bool→ad→Prop},
  (∀h' b',Upd No h h'→TrieAt W x h' m b' (oh k l)→(cu l k=false→b'=b)→K (some ⟨b',0,none⟩,cu l k) h')→
  HC PG lw [Rb x k,.pointer (some ⟨b,0,none⟩),.int .i64 ((13-m:Nat):Int)] [.c .ptr,.c .bool] K h:=by
 intro m;induction m with
 |zero=>
  intro _ b l k h t hW hr hn K D;have S:∀{h'},Upd No h h'→∀y,W y→y<h'.size:=fun k y Q=>aF (hW y Q) k.size
  refine ug (x.k0,x.k1,x.mask,none,k,i5 x k) (some ⟨b,0,none⟩) ((13-0:Nat):Int) ?_;unfold pf aq nv rV oq iL xn A0 ae ak Ek zX oo Jl JG Ff;refine cx fun u b1 k1=>?_
  have bk:BuckAt W u b l:=BuckAt.upd t k1 fun _ h=>h.elim
  obtain⟨sp,sk,ow,hb,_⟩:=bk.ex;refine j3 hb (aB.2 ⟨_,vc b1 4,Vh bk hr (by omega) k fun L v j hv=>?_⟩)
  have b3:=j.get0 b1;cases z:cu l k with
  |false=>
   rw[z]at D;exact aB.2 (D L b (k1.tr j) (by rw[Az (Fm z)];exact bk.upd j fun _ h=>h.elim) fun _=>rfl)
  |true=>
   rw[z]at D;refine aj.2 ⟨none,vc b3 3,_,vc b3 4,?_⟩;refine Ts (bk.upd j fun _ h=>h.elim) (S (k1.tr j)) hr (by omega) k fun h5 b5 bk5 I=>?_
   exact D h5 b5 ((k1.tr j).tr I) bk5 fun h=>by cases h
 |succ m ih=>
  intro hm b l k h t hW hr hn K D;have S:∀{h'},Upd No h h'→∀y,W y→y<h'.size:=fun k y Q=>aF (hW y Q) k.size
  have hl:13-(m+1)<13:=by omega
  have X:13-(m+1)=12-m:=by omega
  refine ug (x.k0,x.k1,x.mask,none,k,i5 x k) (some ⟨b,0,none⟩) ((13-(m+1):Nat):Int) ?_;unfold pf aq nv rV oq iL xn A0 ae ak Ek zX oo Jl JG Ff;refine cx fun u b1 k1=>?_
  have t1:=TrieAt.upd0 k1 t;obtain⟨s,E,hs⟩:=t1;have hs:∀c,c<32→SlotIs W x u m s c (part x (12-m) c l):=hs;obtain⟨d,n,sp,sk,ow,hb,_⟩:=E.ex;refine j3 hb (aj.2 ⟨_,vc b1 5,Tg hl ?_⟩);rw[X];have hi:=Gy x (12-m) k;have J:=hs _ hi;have H:cu (part x (12-m) (ck x (12-m) k) l) k=cu l k:=Fl;have U:eH (part x (12-m) (ck x (12-m) k) l):=Aj hr;have hnp:(part x (12-m) (ck x (12-m) k) l).length≤1000000:=bH xy hn
  have w:∀{h':ad} {b':Nat} {s':Slots},Upd No u h'→NodeAt W h' b' s'→(∀c,c≠ck x (12-m) k→s'.p c=s.p c∧s'.k c=s.k c)→SlotIs W x h' m s' (ck x (12-m) k) (oh k (part x (12-m) (ck x (12-m) k) l))→TrieAt W x h' (m+1) b' (oh k l):=fun P nd hp hi=>M5 P nd hs hp hi
  have tt:∀{h':ad},Upd No u h'→TrieAt W x h' (m+1) b l:=fun P=>TrieAt.upd0 (k1.tr P) t
  generalize hc:ck x (12-m) k=c at*;generalize hlc:part x (12-m) c l=lc at*;refine FQ E hi fun L j=>?_
  refine cx fun h4 b4 k4=>?_
  have b4':h4[L.size]? =some (.cells #[.string OO.1,.string OO.2] au (0,0)):=b4;refine FJ (p:=SK (s.p c)) b4' fun h5 b5 I=>?_
  have a:Upd No u h5:=(j.tr k4).own I j.size;have c1:=a.get0 b1;have T:=E.upd a fun _ h=>h.elim
  have same:∀{h':ad},Upd No u h'→cu l k=false→K (some ⟨b,0,none⟩,false) h':=fun P z=>by
   have:=D _ b (k1.tr P) (by rw[Az (Fm z)];exact tt P) fun _=>rfl
   rw[z]at this;exact this
  cases hsp:s.p c with
  |some y=>
   rw[hsp]at b5;obtain⟨B,hk0⟩:lc= [y]∧s.k c=none:=by
    rcases J with⟨_,g,_⟩|⟨q,u,g,L⟩|⟨_,g,_⟩
    ·rw[hsp]at g;cases g
    ·rw[hsp]at g;cases g;exact⟨u,L⟩
    ·rw[hsp]at g;cases g
   refine aB.2 ⟨y.1,vc b5 0,k,vc c1 4,?_⟩;rw[eG];by_cases e1:y.1=k
   ·have z:cu l k=true:=by rw[←H,B];exact bZ.2 ⟨y,aM.2 rfl,decide_eq_true e1⟩
    rw[decide_eq_true e1];rw[z]at D;refine aj.2 ⟨none,vc c1 3,Tf T (S (k1.tr a)) hi fun h6 b6 nd6 F=>?_⟩
    refine D h6 b6 ((k1.tr a).tr F) (w (a.tr F) nd6 (fun c' o=>⟨gc o,gc o⟩) ?_) fun h=>by cases h
    refine .inl ⟨?_,gu,gu⟩;rw[B,yI,if_pos e1];rfl
   ·rw[decide_eq_false e1]
    have z:cu l k=false:=by
     rw[←H,B];unfold cu;rw[qq,decide_eq_false e1];rfl
    exact aB.2 (same a z)
  |none=>
   refine aj.2 (EX T hi ?_);cases hsk:s.k c with
   |none=>
    have V:lc= []:=by
     rcases J with⟨u,_⟩|⟨q,_,g,_⟩|⟨_,_,R,g,_⟩
     ·exact u
     ·rw[hsp]at g;cases g
     ·rw[hsk]at g;cases g
    exact aB.2 (same a (by rw[←H,V];rfl))
   |some kp=>
    obtain⟨h2l,R,rfl,tk⟩:2≤lc.length∧∃R,kp=some ⟨R,0,none⟩∧TrieAt W x u m R lc:=by
     rcases J with⟨_,_,g⟩|⟨q,_,g,_⟩|⟨u,_,R,g,L⟩
     ·rw[hsk]at g;cases g
     ·rw[hsp]at g;cases g
     ·rw[hsk]at g;cases g;exact⟨u,R,rfl,L⟩
    refine aj.2 ⟨_,vc c1 0,_,vc c1 1,_,vc c1 2,_,vc c1 3,_,vc c1 4,_,vc c1 5,?_⟩;have ew:ac .i64 (((12-m:Nat):Int)+1)=((13-m:Nat):Int):=by rw[lz (by omega)];omega
    rw[ew];refine ih (by omega) k (TrieAt.upd0 a tk) (S (k1.tr a)) U hnp fun h6 b6 F t6 hsame=>?_
    have C:=a.tr F;rw[H];cases z:cu l k with
    |false=>exact aB.2 (same C z)
    |true=>
     rw[z]at D;have hdl:=Pl (k:=k) U;have hdn:(oh k lc).length≤1000000:=bH V5 hnp;refine aj.2 (TB t6 hdn fun h7 p G hp=>?_)
     refine cx fun h8 b8 k8=>?_
     have b8':h8[h7.size]? =some (.cells #[.string OO.1,.string OO.2] au (0,0)):=b8;refine FJ (p:=p) b8' fun h9 b9 Y=>?_
     have f:Upd No u h9:=((C.tr G).tr k8).own Y (C.tr G).size;have c9:=f.get0 b1;have Z:=E.upd f fun _ h=>h.elim
     refine aK (fun e=>?_) fun e=>?_
     ·refine⟨none,vc c9 3,p.1,vc b9 0,p.2,vc b9 1,sB Z (S (k1.tr f)) hi (fun y Q=>by rw[hsp]at Q;cases Q) p fun N O A i=>?_⟩
      refine D N O ((k1.tr f).tr i) (w (f.tr i) A (fun c' o=>⟨gc o,gc o⟩) ?_) fun h=>by cases h
      exact .inr (.inl ⟨p,hp e,gu,gu⟩)
     ·refine⟨none,vc c9 3,yB Z (S (k1.tr f)) hi (fun _ _=>hsp) ⟨b6,0,none⟩ fun N O A i=>?_⟩
      refine D N O ((k1.tr f).tr i) (w (f.tr i) A (fun c' o=>⟨gc o,gc o⟩) ?_) fun h=>by cases h
      exact .inr (.inr ⟨by omega,gu,b6,gu,TrieAt.upd0 ((G.tr k8).own Y G.size|>.tr i) t6⟩)
theorem Kg{W:Nat→Prop}{x:Hs}{h:ad}{b:Nat}{l:List Pr}(t:TrieAt W x h 13 b l)(o:∀y,W y→y<h.size)(w:eH l)(p:l.length≤1000000)(k:ByteArray){K:Option Addr×Bool→ad→Prop}
  (A:∀h' b',Upd No h h'→TrieAt W x h' 13 b' (oh k l)→(cu l k=false→b'=b)→K (some ⟨b',0,none⟩,cu l k) h'):
  HC PG wz [.agg #[.int .u64 x.k0,.int .u64 x.k1,.int .u64 x.mask],.pointer none,.pointer (some ⟨b,0,none⟩),.string k] [.c .ptr,.c .bool] K h:=by
 refine KL (x.k0,x.k1,x.mask) none (some ⟨b,0,none⟩) k ?_;unfold Cx rc ae yV zX;refine cx fun B b1 k1=>?_
 refine Jp (.inr ⟨b,rfl,TrieAt.upd0 k1 t⟩) (fun y j=>aF (o y j) k1.size) fun D b2 s f i=>?_
 have d:=f.get0 b1;refine⟨_,vc d 0,_,vc d 1,_,vc d 2,_,vc d 0,_,vc d 1,_,vc d 2,?_⟩;refine Bw fun C c=>?_
 have m:=c.get0 d;refine⟨⟨vc m 0,vc m 1,vc m 2⟩,?_⟩;have a:=(k1.tr f).tr c;refine Mi 13 (ax _) k (TrieAt.upd0 c s) (fun y j=>aF (o y j) a.size) w p fun q z n u g=>?_
 refine A q z (a.tr n) u fun v=>?_
 rw[g v];rcases i with e|e
 ·cases e;rfl
 ·cases e
end Go.Proofs
namespace Go.Proofs
def uG(P a:List UInt8→ByteArray→Prop)(k:List UInt8):Prop:=∀k' v',a k' v'↔k'≠k∧P k' v'
theorem Oa{P:List UInt8→ByteArray→Prop}{k:List UInt8}(h:∀v,¬P k v):uG P P k:=fun _ b=>⟨fun a=>⟨fun e=>h b (e▸a),a⟩,fun h=>h.2⟩
theorem N9{w:Option ByteArray}{F:Fo}(h:jk F):uG (vz w F) (vz none F) []:=by
 intro k' a;unfold vz;constructor
 ·rintro(⟨_,f⟩|hi)
  ·cases f
  ·exact⟨C2 h hi,.inr hi⟩
 ·rintro⟨e,⟨f,_⟩|hi⟩
  ·exact absurd f e
  ·exact .inr hi
theorem Gp{w:Option ByteArray}{F a:Fo}{k:List UInt8}(b:k≠[])(h:uG (ud F) (ud a) k):uG (vz w F) (vz w a) k:=by
 intro k' c;unfold vz;rw[h k' c];constructor
 ·rintro(⟨e,f⟩|hi)
  ·exact⟨fun d=>b (d.symm.trans e),.inl ⟨e,f⟩⟩
  ·exact⟨hi.1,.inr hi.2⟩
 ·rintro⟨e,hi|hi⟩
  ·exact .inl hi
  ·exact .inr ⟨e,hi⟩
theorem Ob{lab r:List UInt8}{w w':Option ByteArray}{F f:Fo}(h:uG (vz w F) (vz w' f) r):uG (xh (lab,w,F)) (xh (lab,w',f)) (lab++r):=by
 intro k' d;constructor
 ·rintro⟨s,e,b⟩
  obtain⟨a,g⟩:=(h s d).1 b;exact⟨fun c=>a (List.append_cancel_left (e.symm.trans c)),s,e,g⟩
 ·rintro⟨a,s,e,b⟩
  exact⟨s,e,(h s d).2 ⟨fun c=>a (by rw[e,c]),b⟩⟩
theorem Qr{F:Fo}{i:Nat}{m:Bn}{k:List UInt8}(h:jk F)(hi:i<F.toL.length)(ek:hd F.toL[i].1=hd k)(g:uG (xh F.toL[i]) (xh m) k):uG (ud F) (ud (.ofL (F.toL.set i m))) k:=by
 intro k' f;have hc:=eE.1 h;rw[gX,gX,Fo.to_of];constructor
 ·rintro⟨n,a,b⟩
  rcases(lJ hi (vZ h hi)).1 a with rfl|⟨a,d⟩
  ·obtain⟨c,j⟩:=(g k' f).1 b
   exact⟨c,_,bp hi,j⟩
  ·refine⟨fun e=>d ?_,n,a,b⟩
   obtain⟨r,o,_⟩:=b;refine yK h a (bp hi) ?_;rw[ek,←e,o,uN (hc.2 n a).1]
 ·rintro⟨c,n,a,b⟩
  by_cases e:n=F.toL[i]
  ·exact⟨m,(lJ hi (vZ h hi)).2 (.inl rfl),(g k' f).2 ⟨c,by rw[←e];exact b⟩⟩
  ·exact⟨n,(lJ hi (vZ h hi)).2 (.inr ⟨a,e⟩),b⟩
theorem DR{α:Type}{l:List α}{i:Nat}(hi:i<l.length){x:α}(nd:∀j (a:j<l.length),j≠i→l[j]≠l[i]):x∈l.take i++l.drop (i+1)↔x∈l∧x≠l[i]:=by
 constructor
 ·intro h
  rcases bM.1 h with h|h
  ·obtain⟨j,a,e⟩:=dq h
   rw[aL]at a;rw[List.getElem_take]at e;exact⟨List.mem_of_mem_take h,by rw[←e];exact nd j (by omega) (by omega)⟩
  ·obtain⟨j,a,e⟩:=dq h
   rw[aR]at a;rw[List.getElem_drop]at e;exact⟨List.mem_of_mem_drop h,by rw[←e];exact nd (i+1+j) (by omega) (by omega)⟩
 ·rintro⟨h,b⟩
  obtain⟨j,a,e⟩:=dq h;rcases Nat.lt_trichotomy j i with c|c|c
  ·exact bM.2 (.inl (mV (i:=j) (h:=by rw[aL];omega) (by rw[List.getElem_take];exact e)))
  ·subst c;exact absurd e.symm b
  ·refine bM.2 (.inr (mV (i:=j-(i+1)) (h:=by rw[aR];omega) ?_))
   rw[List.getElem_drop];have:i+1+(j-(i+1))=j:=by omega
   simp only[this];exact e
theorem UT{F:Fo}{i:Nat}(h:jk F):jk (.ofL (F.toL.take i++F.toL.drop (i+1))):=by
 have hc:=eE.1 h;rw[eE,Fo.to_of];have a:(F.toL.take i++F.toL.drop (i+1)).Sublist F.toL:=by rw[←List.eraseIdx_eq_take_drop_succ];exact List.eraseIdx_sublist ..
 exact⟨hc.1.sublist a,fun n b=>hc.2 n (a.subset b)⟩
theorem Qs{F:Fo}{i:Nat}{k:List UInt8}(h:jk F)(hi:i<F.toL.length)(ek:hd F.toL[i].1=hd k)(g:∀k' d,xh F.toL[i] k' d→k'=k):uG (ud F) (ud (.ofL (F.toL.take i++F.toL.drop (i+1)))) k:=by
 intro k' d;have hc:=eE.1 h;rw[gX,gX,Fo.to_of];constructor
 ·rintro⟨n,a,b⟩
  obtain⟨a,c⟩:=(DR hi (vZ h hi)).1 a;refine⟨fun e=>c ?_,n,a,b⟩
  obtain⟨r,j,_⟩:=b;refine yK h a (bp hi) ?_;rw[ek,←e,j,uN (hc.2 n a).1]
 ·rintro⟨f,n,a,b⟩
  by_cases e:n=F.toL[i]
  ·exact absurd (g k' d (by rw[←e];exact b)) f
  ·exact⟨n,(DR hi (vZ h hi)).2 ⟨a,e⟩,b⟩
def U6(n:Bn)(o:Option Bn):Prop:=(o=none∧∀k v,¬xh n k v)∨∃m,o=some m∧QS m∧hd m.1=hd n.1∧∀k v,xh m k v↔xh n k v
theorem P7{lab:List UInt8}{w:Option ByteArray}{F:Fo}(a:lab≠[])(hc:jk F)(h:w.isSome∨2≤F.toL.length):U6 (lab,w,F) (some (lab,w,F)):=.inr ⟨_,rfl,⟨a,h,hc⟩,rfl,fun _ _=>yS⟩
theorem P8{lab:List UInt8}{F:Fo}(h:F.toL= []):U6 (lab,none,F) none:=by
 refine .inl ⟨rfl,fun k v hi=>?_⟩
 obtain⟨r,_,⟨_,h'⟩|h'⟩:=hi
 ·cases h'
 ·obtain⟨n,a,_⟩:=gX.1 h'
  simp only at a;rw[h]at a;cases a
theorem Sw{lab lk:List UInt8}{a:Option ByteArray}{F Fk:Fo}(c:lab≠[])(hc:jk F)(h:F.toL= [(lk,a,Fk)]):U6 (lab,none,F) (some (lab++lk,a,Fk)):=by
 have d:F=.cons lk a Fk .nil:=by
  rw[←Fo.of_to F,h];rfl
 have b:=(eE.1 hc).2 (lk,a,Fk) (by rw[h];exact aM.2 rfl);refine .inr ⟨_,rfl,⟨fun e=>c (List.append_eq_nil_iff.1 e).1,b.2.1,b.2.2⟩,uN c,fun k v=>?_⟩
 have:=IL (lab:=lab++lk) (w:=a) (F:=Fk) lab.length k v;rw[List.take_left,List.drop_left]at this;rw[d];exact this.symm
end Go.Proofs
