/- A part of the proof that the named laws of this program answer true, whatever the input. -/
import Derived.Test.YtakmnggbneeicaaGreatPart9
import Derived.Test.YtakmnggbneeicaaGreatPart8
import Derived.Test.YtakmnggbneeicaaGreatPart5
import Derived.Sort.AssemblyPlain
import Derived.Test.YtakmnggbneeicaaGreatPart2
import Derived.Test.YtakmnggbneeicaaGreatPart7
open BitVec renaming ofInt→aA
open Bool renaming and_eq_true→bj,true_and→ko
open ByteArray renaming mk→vX
open Go.IntKind renaming wrap→ac,bits→ak
open Go.Op renaming bytesLess→bI
open Int renaming toNat_natCast→bf
open List renaming take_succ_eq_append_getElem→av,mem_cons_of_mem→ax,mem_cons_self→ar,map_append→cD,filter_append→ci,filter_cons→aR,filter_nil→gL,length_filter_le→bF,length_map→bS,mem_filter→bE,mem_map→aP,filter_sublist→cX,pairwise_map→fi,pairwise_cons→ay,mem_cons→aq,getElem_of_mem→bD,getElem_mem→aH,length_eq_zero_iff→aG,getElem?_eq_getElem→af,length_take→aQ,take_length→bP,mem_append→aF,mem_singleton→al,take_of_length_le→aS,filterMap_cons→jm
open List.Pairwise renaming nil→cf
open Nat renaming le_trans→aW,le_of_eq→cC,lt_of_lt_of_le→az,lt_or_ge→cr,le_refl→ai,zero_le→aN
namespace Go.Proofs
open Go Go.Lift
def xN(o:Option ByteArray):Sd:=(o.getD ⟨#[]⟩,o.isSome)
theorem UC{a b:Option ByteArray}:xN a=xN b↔a=b:=by
 constructor
 ·intro h
  unfold xN at h;cases a<;>cases b<;>simp_all
 ·rintro rfl;rfl
def rC(b o t:Option ByteArray)(p:Int):Option ByteArray×Bool:=if o=t∨t=b then(o,true)else if o=b then(t,true)else if p=1 then(o,false)else if p=2 then(t,false)else(b,false)
theorem OY(b o t:Option ByteArray)(p:Int):wP (xN b) (xN o) (xN t) p=(xN (rC b o t p).1,(rC b o t p).2):=by
 unfold wP rC;simp only[UC];split
 ·rfl
 ·split
  ·rfl
  ·split
   ·rfl
   ·split<;>rfl
theorem BJ(b o t:Option ByteArray)(p:Int):(rC b o t p).1=b∨(rC b o t p).1=o∨(rC b o t p).1=t:=by
 unfold rC;split
 ·exact .inr (.inl rfl)
 ·split
  ·exact .inr (.inr rfl)
  ·split
   ·exact .inr (.inl rfl)
   ·split
    ·exact .inr (.inr rfl)
    ·exact .inl rfl
theorem KV{b o t:Option ByteArray}{p:Int}:(rC b o t p).2=false↔o≠t∧t≠b∧o≠b:=by
 unfold rC;by_cases a:o=t∨t=b
 ·rw[if_pos a]
  exact⟨fun h=>(by cases h),fun h=>absurd a fun e=>e.elim h.1 h.2.1⟩
 ·rw[if_neg a]
  by_cases c:o=b
  ·rw[if_pos c]
   exact⟨fun h=>(by cases h),fun h=>absurd c h.2.2⟩
  ·rw[if_neg c]
   refine⟨fun _=>⟨fun e=>a (.inl e),fun e=>a (.inr e),c⟩,fun _=>?_⟩
   split
   ·rfl
   ·split<;>rfl
def GU(L:List Pr)(k:ByteArray):Option ByteArray→List Pr
 |some v=>fG (k,v) L
 |none=>lA k L
theorem Qv(L:List Pr)(k:ByteArray)(o:Option ByteArray)(j:ByteArray):look (GU L k o) j=if k=j then o else look L j:=by
 cases o with
 |some v=>exact Fs (k,v) j
 |none=>exact Ft k j
theorem Nm{L:List Pr}(h:bM L)(k:ByteArray)(o:Option ByteArray):bM (GU L k o):=by
 cases o with
 |some v=>exact nI _ h
 |none=>exact BR h
theorem Tb{n:Nat}{L:List Pr}(f:Few n L){k:ByteArray}{o:Option ByteArray}(b:k.size≤30)(a:(o.getD ⟨#[]⟩).size≤30):Few (n+1) (GU L k o):=by
 cases o with
 |some v=>exact f.ins (k,v) b a
 |none=>have g:=f.del k;exact⟨g.up,Nat.le_succ_of_le g.len,g.fit⟩
def tk(B O T:List Pr)(p:Int)(k:ByteArray):Option ByteArray×Bool:=rC (look B k) (look O k) (look T k) p
def qq(B O T:List Pr)(p:Int)(acc:List Pr)(l:List Ch):List Pr:=l.foldl (fun acc c=>GU acc c.1 (tk B O T p c.1).1) acc
theorem LK{B O T:List Pr}{p:Int}{acc:List Pr}{l:List Ch}{i:Nat}(hi:i<l.length):qq B O T p acc (l.take (i+1))=GU (qq B O T p acc (l.take i)) l[i].1 (tk B O T p l[i].1).1:=by
 unfold qq;rw[av hi,List.foldl_append];rfl
theorem CT{B O T:List Pr}{p:Int}{k:ByteArray}:∀{l:List Ch} {acc:List Pr},look (qq B O T p acc l) k=if(fd l k).isSome then(tk B O T p k).1 else look acc k
 | [],_=>rfl
 |c::l,acc=>by
  show look (qq B O T p (GU acc c.1 (tk B O T p c.1).1) l) k=_
  rw[CT,vJ,Qv];by_cases e:c.1=k
  ·subst e
   rw[if_pos rfl,if_pos rfl,if_pos (show(some c).isSome=true from rfl)]
   split<;>rfl
  ·rw[if_neg e,if_neg e]
theorem vB{B O T:List Pr}{p:Int}:∀{l:List Ch} {acc:List Pr},bM acc→bM (qq B O T p acc l)
 | [],_,h=>h
 |c::l,_,h=>vB (l:=l) (Nm h c.1 _)
theorem zr{B O T:List Pr}{p:Int}{nb no nt:Nat}(f:Few nb B)(a:Few no O)(b:Few nt T):∀{l:List Ch} {n:Nat} {acc:List Pr},(∀c∈l,c.1.size≤30)→Few n acc→Few (n+l.length) (qq B O T p acc l)
 | [],_,_,_,h=>h
 |c::l,n,_,hl,h=>by
  have g:((tk B O T p c.1).1.getD ⟨#[]⟩).size≤30:=by
   unfold tk;rcases BJ (look B c.1) (look O c.1) (look T c.1) p with e|e|e
   ·rw[e];exact lx f _
   ·rw[e];exact lx a _
   ·rw[e];exact lx b _
  have:=zr (p:=p) f a b (l:=l) (fun d hd=>hl d (ax _ hd)) (Tb h (hl c (ar ..)) g)
  rw[List.length_cons,show n+(l.length+1)=n+1+l.length by omega]
  exact this
def is(B O T:List Pr)(p:Int):List Pr:=qq B O T p O (gM B T)
theorem Fq{B O T:List Pr}{p:Int}(b:bM B)(a:bM T)(k:ByteArray):look (is B O T p) k=(tk B O T p k).1:=by
 unfold is;rw[CT,N5 b a];unfold VR;by_cases e:look B k=look T k
 ·rw[if_pos e]
  show look O k=_
  unfold tk rC;rw[if_pos (.inr e.symm)]
 ·rw[if_neg e];rfl
def DX(B O T:List Pr)(p:Int)(l:List Ch):List ByteArray:=(l.map (·.1)).filter fun k=> !(tk B O T p k).2
theorem QQ{B O T:List Pr}{p:Int}{l:List Ch}{i:Nat}(hi:i<l.length):DX B O T p (l.take (i+1))=DX B O T p (l.take i)++if(tk B O T p l[i].1).2 then[]else[l[i].1]:=by
 unfold DX;rw[av hi,cD,ci];congr 1
 rw[List.map_singleton,aR,gL];cases(tk B O T p l[i].1).2<;>rfl
theorem Tp{B O T:List Pr}{p:Int}{l:List Ch}:(DX B O T p l).length≤l.length:=aW (bF ..) (cC (bS ..))
abbrev ns(B O T:List Pr)(p:Int):List ByteArray:=DX B O T p (gM B T)
theorem SB{B O T:List Pr}{p:Int}(b:bM B)(a:bM T){k:ByteArray}:k∈ns B O T p↔(tk B O T p k).2=false:=by
 unfold ns DX;rw[bE];refine⟨fun h=>by simpa using h.2,fun h=>⟨?_,by rw[h];rfl⟩⟩
 have ne:=(KV.1 h).2.1;have:=RP b a k;rw[show decide (look B k≠look T k)=true by simpa using fun e=>ne e.symm]at this
 obtain⟨c,hc,e⟩:=List.any_eq_true.1 this;exact aP.2 ⟨c,hc,by simpa using e⟩
theorem Ur{B O T:List Pr}{p:Int}(b:bM B)(a:bM T):(ns B O T p).Pairwise kl:=by
 unfold ns DX;refine List.Pairwise.sublist cX ?_;exact fi.2 (y9 b a)
theorem LP:∀{l m:List ByteArray},l.Pairwise kl→m.Pairwise kl→(∀k,k∈l↔k∈m)→l=m
 | [],[],_,_,_=>rfl
 | [],q::m,_,_,h=>absurd ((h q).2 (ar ..)) (by simp)
 |p::l,[],_,_,h=>absurd ((h p).1 (ar ..)) (by simp)
 |p::l,q::m,c,a,h=>by
  have c:=ay.1 c;have a:=ay.1 a;have e:p=q:=by
   rcases aq.1 ((h p).1 (ar ..))with e|g
   ·exact e
   ·rcases aq.1 ((h q).2 (ar ..))with e|f
    ·exact e.symm
    ·exact absurd (dw (c.1 q f) (a.1 p g)) (bN _)
  subst e;rw[LP c.2 a.2 fun z=>?_]
  constructor
  ·intro d
   rcases aq.1 ((h z).1 (ax _ d))with e|b
   ·exact absurd (c.1 z d) (by rw[e];exact bN _)
   ·exact b
  ·intro d
   rcases aq.1 ((h z).2 (ax _ d))with e|b
   ·exact absurd (a.1 z d) (by rw[e];exact bN _)
   ·exact b
abbrev Cf:=ByteArray×Sd×Sd×Sd
def BB(B O T:List Pr)(k:ByteArray):Cf:=(k,xN (look B k),xN (look O k),xN (look T k))
end Go.Proofs
namespace Go.Proofs
open Go Go.Lift Go.Sort
abbrev Tq:Value:=.func (.func 187) #[] #[]
def B4(dec:Int→Ch)(i j:Int):Bool:=Yx (dec i) (dec j)
structure SA(dec:Int→Ch)(M:Nat→Prop)(s:SliceV)(h:ad)(d:Array Int):Prop where
 own:OwnS GN 5 209 M h s (d.toList.map dec)
 small:d.size≤1000000000
 lt:∀b,M b→b<h.size
variable {dec:Int→Ch} {M:Nat→Prop} {s:SliceV} {h:ad} {d:Array Int}
theorem SA.len(a:SA dec M s h d):s.len=d.size:=by have:=a.own.len;simpa using this
theorem SA.upd0{h':ad}(a:SA dec M s h d)(k:Upd No h h'):SA dec M s h' d:=⟨a.own.upd k fun _ _ h=>h,a.small,fun b hb=>az (a.lt b hb) k.size⟩
theorem SA.at(b:SA dec M s h d){i:Nat}(hi:i<d.size):∃a,s.a=some a∧∀j v,(GN (dec d[i]!))[j]? =some v→aK h (adr (adr a (((i:Int)).toNat*5)) j)=some v:=by
 have hx:(d.toList.map dec)[i]? =some (dec d[i]!):=by
  rw[List.getElem?_map,Array.getElem?_toList,Array.getElem?_eq_getElem hi,getElem!_pos d i hi];rfl
 obtain⟨a,c,_,hv⟩:=(b.own.sl (W:=No) fun _ _ _ h=>h).at hx
 exact⟨a,c,by simpa using hv⟩
theorem SA.rd(b:SA dec M s h d){t:Int}{i:Nat}(e:t=(i:Int))(hi:i<d.size){R:ByteArray→ByteArray→ByteArray→Bool→Bool→Prop}(f:R (dec d[i]!).1 (dec d[i]!).2.1 (dec d[i]!).2.2.1 (dec d[i]!).2.2.2.1 (dec d[i]!).2.2.2.2):
  ((0:Int)≤t∧t<((s.len:Nat):Int))∧∃a:Addr,s.a=some a∧∃v1:ByteArray,aK h (adr (adr a (t.toNat*5)) 0)=some (.string v1)∧∃v2:ByteArray,aK h (adr (adr a (t.toNat*5)) 1)=some (.string v2)∧∃v3:ByteArray,aK h (adr (adr a (t.toNat*5)) 2)=some (.string v3)∧∃v4:Bool,aK h (adr (adr a (t.toNat*5)) 3)=some (.bool v4)∧∃v5:Bool,aK h (adr (adr a (t.toNat*5)) 4)=some (.bool v5)∧R v1 v2 v3 v4 v5:=by
 subst e;obtain⟨a,c,hv⟩:=b.at hi;exact⟨by rw[b.len];omega,a,c,_,hv 0 _ rfl,_,hv 1 _ rfl,_,hv 2 _ rfl,_,hv 3 _ rfl,_,hv 4 _ rfl,f⟩
theorem SA.st(c:SA dec M s h d){t:Int}{i:Nat}{x:Int}(g:t=(i:Int))(hi:i<d.size){R:ad→Prop}(n:∀h',SA dec M s h' (d.setIfInBounds i x)→Upd M h h'→R h'):
  ((0:Int)≤t∧t<((s.len:Nat):Int))∧∃a:Addr,s.a=some a∧(pk h (some (adr a (t.toNat*5))) 0 [.string (dec x).1,.string (dec x).2.1,.string (dec x).2.2.1,.bool (dec x).2.2.2.1,.bool (dec x).2.2.2.2]∧At (eN h (adr a (t.toNat*5)) 0 [.string (dec x).1,.string (dec x).2.1,.string (dec x).2.2.1,.bool (dec x).2.2.2.1,.bool (dec x).2.2.2.2]) R):=by
 subst g;obtain⟨a,j,m,o,p,f⟩:=OwnS.setAt c.own (k:=i) (by simpa using hi) (dec x);refine⟨by rw[c.len];omega,a,j,?_⟩;rw[bf];have e:Upd M h _:=f.mono fun b hb=>.inl (by have hb:b=a.block:=hb;rw[hb];exact m)
 refine⟨o,bL (n _ ⟨?_,by simpa using c.small,fun b hb=>az (c.lt b hb) f.size⟩ e)⟩
 rw[show(d.setIfInBounds i x).toList.map dec=(d.toList.map dec).take i++dec x::(d.toList.map dec).drop (i+1) by
  rw[Array.toList_setIfInBounds,List.map_set,List.set_eq_take_append_cons_drop,if_pos (by simpa using hi)]]
 exact p
@[simp] theorem Xd(d:Array Int)(i j:Nat):(swp d i j).size=d.size:=by simp[swp]
theorem SA.swap(e:SA dec M s h d){b c:Int}{i j:Nat}(m:b=(i:Int))(n:c=(j:Int))(hi:i<d.size)(o:j<d.size){R:ad→Prop}(p:∀h',SA dec M s h' (swp d i j)→Upd M h h'→R h'):
  ((0:Int)≤c∧c<((s.len:Nat):Int))∧∃a:Addr,s.a=some a∧∃v1:ByteArray,aK h (adr (adr a (c.toNat*5)) 0)=some (.string v1)∧∃v2:ByteArray,aK h (adr (adr a (c.toNat*5)) 1)=some (.string v2)∧∃v3:ByteArray,aK h (adr (adr a (c.toNat*5)) 2)=some (.string v3)∧∃v4:Bool,aK h (adr (adr a (c.toNat*5)) 3)=some (.bool v4)∧∃v5:Bool,aK h (adr (adr a (c.toNat*5)) 4)=some (.bool v5)∧
   (((0:Int)≤b∧b<((s.len:Nat):Int))∧∃a:Addr,s.a=some a∧∃w1:ByteArray,aK h (adr (adr a (b.toNat*5)) 0)=some (.string w1)∧∃w2:ByteArray,aK h (adr (adr a (b.toNat*5)) 1)=some (.string w2)∧∃w3:ByteArray,aK h (adr (adr a (b.toNat*5)) 2)=some (.string w3)∧∃w4:Bool,aK h (adr (adr a (b.toNat*5)) 3)=some (.bool w4)∧∃w5:Bool,aK h (adr (adr a (b.toNat*5)) 4)=some (.bool w5)∧
    (((0:Int)≤b∧b<((s.len:Nat):Int))∧∃a:Addr,s.a=some a∧(pk h (some (adr a (b.toNat*5))) 0 [.string v1,.string v2,.string v3,.bool v4,.bool v5]∧At (eN h (adr a (b.toNat*5)) 0 [.string v1,.string v2,.string v3,.bool v4,.bool v5]) (fun f=>
     (((0:Int)≤c∧c<((s.len:Nat):Int))∧∃a:Addr,s.a=some a∧(pk f (some (adr a (c.toNat*5))) 0 [.string w1,.string w2,.string w3,.bool w4,.bool w5]∧At (eN f (adr a (c.toNat*5)) 0 [.string w1,.string w2,.string w3,.bool w4,.bool w5]) R)))))):=by
 refine e.rd n o (e.rd m hi (e.st (x:=d[j]!) m hi fun f k k1=>k.st (x:=d[i]!) n (by simpa using o) fun t g q=>p t g (k1.tr q)))
theorem SA.less(f:SA dec M s h d){b c:Int}{i j:Nat}(g:b=(i:Int))(m:c=(j:Int))(hi:i<d.size)(n:j<d.size){R:Int→ad→Prop}(o:∀h' e,SA dec M s h' d→Upd No h h'→decide (e<0)=B4 dec d[i]! d[j]!→R e h'):
  ((0:Int)≤b∧b<((s.len:Nat):Int))∧∃a:Addr,s.a=some a∧∃v1:ByteArray,aK h (adr (adr a (b.toNat*5)) 0)=some (.string v1)∧∃v2:ByteArray,aK h (adr (adr a (b.toNat*5)) 1)=some (.string v2)∧∃v3:ByteArray,aK h (adr (adr a (b.toNat*5)) 2)=some (.string v3)∧∃v4:Bool,aK h (adr (adr a (b.toNat*5)) 3)=some (.bool v4)∧∃v5:Bool,aK h (adr (adr a (b.toNat*5)) 4)=some (.bool v5)∧
   (((0:Int)≤c∧c<((s.len:Nat):Int))∧∃a:Addr,s.a=some a∧∃w1:ByteArray,aK h (adr (adr a (c.toNat*5)) 0)=some (.string w1)∧∃w2:ByteArray,aK h (adr (adr a (c.toNat*5)) 1)=some (.string w2)∧∃w3:ByteArray,aK h (adr (adr a (c.toNat*5)) 2)=some (.string w3)∧∃w4:Bool,aK h (adr (adr a (c.toNat*5)) 3)=some (.bool w4)∧∃w5:Bool,aK h (adr (adr a (c.toNat*5)) 4)=some (.bool w5)∧
    HV PG Tq [.agg #[.string v1,.string v2,.string v3,.bool v4,.bool v5],.agg #[.string w1,.string w2,.string w3,.bool w4,.bool w5]] [.c (.int .i64)] R h):=
 f.rd g hi (f.rd m n ((XV M).call (dec d[i]!) (dec d[j]!) trivial fun h' e k p=>o h' e (f.upd0 k) k p))
end Go.Proofs
namespace Go.Proofs
open Go Go.Lift Go.Sort
variable {dec:Int→Ch} {M:Nat→Prop} {s:SliceV} {h:ad} {d:Array Int}
@[simp] theorem T3(lt:Int→Int→Bool)(hi first root:Nat)(d:Array Int):(siftDown lt hi first root d).size=d.size:=by
 fun_induction siftDown lt hi first root d<;>simp_all
@[simp] theorem FB(lt:Int→Int→Bool)(hi first:Nat):∀(k:Nat) (d:Array Int),(heapBuild lt hi first k d).size=d.size
 |0,d=>rfl
 |k+1,d=>by rw[heapBuild,FB lt hi first k];simp
theorem VE{root hi first:Nat}(J:SA dec M s h d)(hb:first+hi≤d.size){K:Unit→ad→Prop}(L:∀h',SA dec M s h' (siftDown (B4 dec) hi first root d)→Upd M h h'→K () h')(U:root≤1000000000):
  dd 314 [.slice s.a s.len s.cap,.int .i64 root,.int .i64 hi,.int .i64 first,Tq] K h:=by
 refine cW (gQ s root hi first Tq) mA Tryz.func314 Tryz.call314 ?_
 dsimp only[gQ,wI,DH,DF,KL,Vx,cB,fQ,jA,Ot,cZ,gl,Hf,Q2,Q1];have O:=J.small;refine LoopP.ghost (fun(g:Nat×Array Int) (t:Int) h'=>t=(g.1:Int)∧SA dec M s h' g.2∧g.2.size=d.size∧siftDown (B4 dec) hi first g.1 g.2=siftDown (B4 dec) hi first root d∧Upd M h h'∧g.1≤1000000000) (fun g=>hi-g.1) (root,d)
  ⟨rfl,J,rfl,rfl,Upd.refl _ _,U⟩ ?_
 rintro I ⟨i,a⟩ t H ⟨ht,m,o,k,w,C⟩ V;(try simp only at ht m o k C)
 subst ht;have P:ac .i64 (ac .i64 (2*(i:Int))+1)=((2*i+1:Nat):Int):=by rw[df (x:=2*(i:Int)) (by omega),df (by omega)];omega
 have F:ac .i64 (((2*i+1:Nat):Int)+1)=((2*i+2:Nat):Int):=by rw[df (by omega)];omega
 rw[P];refine ao (fun N=>?_) fun A=>?_
 ·refine L _ ?_ w
  rw[←k,siftDown,dif_pos (by omega)];exact m
 ·have A:2*i+1<hi:=by omega
  refine Join.intro (fun t h'=>SA dec M s h' a∧Upd No H h'∧∃c:Nat,t=(c:Int)∧c=if 2*i+2<hi∧(B4 dec) a[first+(2*i+1)]! a[first+(2*i+1)+1]! =true then 2*i+2 else 2*i+1) (fun R G=>?_) ?_
  ·refine Join.intro (fun t h'=>SA dec M s h' a∧Upd No H h'∧(t=true↔2*i+2<hi∧(B4 dec) a[first+(2*i+1)]! a[first+(2*i+1)+1]! =true)) (fun R2 p=>?_) ?_
   ·show CondP (decide (ac .i64 (((2*i+1:Nat):Int)+1)<(hi:Int))) _ _
    rw[F];refine ao (fun f=>?_) fun f=>p _ _ ⟨m,Upd.refl _ _,by simp;omega⟩
    show(((0:Int)≤ac .i64 ((first:Int)+((2*i+1:Nat):Int))∧_)∧_)
    refine m.less (i:=first+(2*i+1)) (j:=first+(2*i+1)+1) (by rw[df (by omega)];omega) (by rw[df (x:=(first:Int)+_) (by omega),df (by omega)];omega) (by omega) (by omega) fun X W b n B=>p _ _ ⟨b,n,?_⟩
    rw[B];simp;omega
   ·rintro t h' ⟨b,n,u⟩
    refine CondP.intro (fun f=>?_) fun f=>?_
    ·show R (ac .i64 (((2*i+1:Nat):Int)+1)) _
     rw[F];exact G _ _ ⟨b,n,_,rfl,by rw[if_pos (u.1 f)]⟩
    ·exact G _ _ ⟨b,n,_,rfl,by rw[if_neg fun Q=>by rw[u.2 Q]at f;cases f]⟩
  ·rintro t h' ⟨b,n,c,rfl,hc⟩
   have T:c<hi∧i<c:=by rw[hc];split<;>omega
   refine b.less (i:=first+i) (j:=first+c) (by rw[df (by omega)];omega) (by rw[df (by omega)];omega) (by omega) (by omega) fun h5 Z v S E=>?_
   have q:=w.tr (n.tr S).wide;rw[E];have e:siftDown (B4 dec) hi first i a=if !(B4 dec) a[first+i]! a[first+c]! then a else siftDown (B4 dec) hi first c (swp a (first+i) (first+c)):=by
    rw[siftDown,dif_neg (by omega)];by_cases y:2*i+2<hi∧(B4 dec) a[first+(2*i+1)]! a[first+(2*i+1)+1]! =true
    ·rw[if_pos (by simp only[bj,decide_eq_true_iff];exact y),dif_pos y.1]
     rw[if_pos y]at hc;rw[hc]
    ·rw[if_neg (by simp only[bj,decide_eq_true_iff];exact y)]
     rw[if_neg y]at hc;rw[hc]
   refine CondP.intro (fun f=>?_) fun f=>?_
   ·refine L _ ?_ q
    rw[←k,e,if_pos f];exact v
   ·refine v.swap (i:=first+i) (j:=first+c) (by rw[df (by omega)];omega) (by rw[df (by omega)];omega) (by omega) (by omega) fun Y D z=>?_
    refine V (c,swp a (first+i) (first+c)) _ _ ⟨rfl,D,by simp[o],?_,q.tr z,by(try simp only);omega⟩ (by(try simp only);omega)
    rw[←k,e,if_neg (by rw[f];simp)]
end Go.Proofs
namespace Go.Proofs
open Go Go.Lift Go.Sort
variable {dec:Int→Ch} {M:Nat→Prop} {s:SliceV} {h:ad} {d:Array Int}
end Go.Proofs
namespace Go.Proofs
open Go Go.Lift Go.Sort
variable {dec:Int→Ch} {M:Nat→Prop} {s:SliceV} {h:ad} {d:Array Int}
@[simp] theorem EX(lt:Int→Int→Bool):∀(j:Nat) (d:Array Int),(shiftDown lt j d).size=d.size
 |0,d=>rfl
 |j+1,d=>by rw[shiftDown];split;rfl;rw[EX lt j];simp
@[simp] theorem UB(lt:Int→Int→Bool)(e j:Nat)(d:Array Int):(shiftUp lt e j d).size=d.size:=by
 fun_induction shiftUp lt e j d<;>simp_all
theorem T9{a e:Nat}(hs:SA dec M s h d)(ha:a<e)(he:e≤d.size){K:Bool→ad→Prop}(S:∀h',SA dec M s h' (partialInsertionSort (B4 dec) d a e).1→Upd M h h'→K (partialInsertionSort (B4 dec) d a e).2 h'):
  fI 298 [.slice s.a s.len s.cap,.int .i64 a,.int .i64 e,Tq] K h:=by
 refine cW (dZ s a e Tq) iP Tryz.func298 Tryz.call298 ?_;dsimp only[dZ,Vy,DH,DF,Vx,cB,fQ,jA,Ot,cZ,gl,Hf,Vw,wI,KL];have hsm:=hs.small;refine LoopP.ghost (fun(g:Nat×Nat×Array Int) (t:Int×Int) h'=>t.1=(g.2.1:Int)∧t.2=5-(g.1:Int)∧SA dec M s h' g.2.2∧g.2.2.size=d.size∧partialIns (B4 dec) a e g.1 g.2.1 g.2.2=partialInsertionSort (B4 dec) d a e∧Upd M h h'∧g.1≤5∧a<g.2.1∧g.2.1≤e) (fun g=>g.1) (5,a+1,d)
  ⟨by(try simp only);rw[df (by omega)];rfl,by(try simp only);omega,hs,rfl,rfl,Upd.refl _ _,by simp,by simp,by(try simp only);omega⟩ ?_
 rintro I ⟨st,i0,A⟩ ⟨t1,t2⟩ h1 ⟨V,ht2,F,Y,w,hu1,hst,hai,U⟩ hI;(try simp only at V ht2 F Y w hst hai U)
 subst V ht2;refine ao (fun hlt=>?_) fun hge=>?_
 ·obtain⟨st,rfl⟩:∃k,st=k+1:=⟨st-1,by have:5-(st:Int)<5:=hlt;omega⟩
  refine Join.intro (fun t h'=>∃Q W,t=(Q:Nat)∧SA dec M s h' W∧W.size=d.size∧partialIns (B4 dec) a e st Q W=partialInsertionSort (B4 dec) d a e∧Upd M h h'∧a<Q∧Q≤e) (fun R hR=>?_) ?_
  ·refine LoopP.ghost (fun(i:Nat) (t:Int) h'=>t=(i:Int)∧SA dec M s h' A∧Upd No h1 h'∧scanSorted (B4 dec) A e i=scanSorted (B4 dec) A e i0∧a<i∧i≤e) (fun i=>e-i) i0 ⟨rfl,F,Upd.refl _ _,rfl,hai,U⟩ ?_
   rintro I2 i t h' ⟨rfl,v,k2,hsc,m,n⟩ hI2;refine Join.intro (fun c D=>SA dec M s D A∧Upd No h' D∧(c=true↔i<e∧(B4 dec) A[i]! A[i-1]! =false)) (fun R2 hR2=>?_) ?_
   ·refine ao (fun hle=>?_) fun hgt=>hR2 _ _ ⟨v,Upd.refl _ _,by simp;omega⟩
    exact v.less (i:=i) (j:=i-1) rfl (by rw[df (by omega)];omega) (by omega) (by omega) fun B e3 p k3 he3=>hR2 _ _ ⟨p,k3,by rw[he3];simp;omega⟩
   ·rintro c D ⟨p,k3,hc⟩
    have x:=hu1.tr (k2.tr k3).wide;refine CondP.intro (fun h2=>?_) fun h2=>?_
    ·have hh:=hc.1 h2
     refine hI2 (i+1) _ _ ⟨by rw[df (by omega)];rfl,p,k2.tr k3,?_,by omega,by omega⟩ (by omega)
     rw[←hsc];conv=>rhs;rw[scanSorted]
     rw[if_pos (by simp[hh])]
    ·have hsi:scanSorted (B4 dec) A e i=i:=by
      rw[scanSorted,if_neg];intro hh;simp only[bj,decide_eq_true_iff,Bool.not_eq_eq_eq_not,Bool.not_true]at hh;rw[hc.2 hh]at h2;cases h2
     have b:=w;rw[partialIns]at b;simp only[←hsc,hsi]at b;refine CondP.intro (fun B=>?_) fun B=>?_
     ·have B:i=e:=by
       have:(i:Int)=e:=by simpa using B
       omega
      rw[if_pos B]at b;rw[←b]at S;exact S _ p x
     ·have B:i≠e:=fun e'=>by subst e';simp at B
      rw[if_neg B]at b;have we:ac .i64 ((e:Int)-(a:Int))=((e-a:Nat):Int):=by rw[df (by omega)];omega
      show CondP (decide (ac .i64 ((e:Int)-(a:Int))<50)) _ _
      rw[we];refine ao (fun h4=>?_) fun h4=>?_
      ·rw[if_pos (by omega)]at b
       rw[←b]at S;exact S _ p x
      ·rw[if_neg (by omega)]at b
       have hi1:1≤i:=by omega
       refine p.swap (i:=i) (j:=i-1) rfl (by rw[df (by omega)];omega) (by omega) (by omega) fun h5 J hu5=>?_
       have P:(swp A i (i-1)).size=d.size:=by simp[Y]
       generalize swp A i (i-1)=d5 at J P b;refine Join.intro (fun _ h'=>SA dec M s h' (if i-a≥2 then shiftDown (B4 dec) (i-1) d5 else d5)∧Upd M h h') (fun R3 q=>?_) ?_
       ·have wi:ac .i64 ((i:Int)-(a:Int))=((i-a:Nat):Int):=by rw[df (by omega)];omega
        show CondP (decide (ac .i64 ((i:Int)-(a:Int))≥2)) _ _
        rw[wi];refine ao (fun h6=>?_) fun h6=>?_
        ·rw[if_pos (by omega)]at q
         refine LoopP.ghost (fun(g:Nat×Array Int) (t:Int) h'=>t=(g.1:Int)∧SA dec M s h' g.2∧g.2.size=d.size∧shiftDown (B4 dec) g.1 g.2=shiftDown (B4 dec) (i-1) d5∧Upd M h h'∧g.1<e) (fun g=>g.1) (i-1,d5)
          ⟨by rw[df (by omega)];(try simp only);omega,J,P,rfl,x.tr hu5,by(try simp only);omega⟩ ?_
         rintro I4 ⟨j,d6⟩ t h7 ⟨ht,H,hz7,o,hu7,C⟩ E;(try simp only at ht H hz7 o C)
         subst ht;refine ao (fun h8=>?_) fun h8=>?_
         ·obtain⟨j,rfl⟩:∃k,j=k+1:=⟨j-1,by omega⟩
          have T:ac .i64 (((j+1:Nat):Int)-1)=(j:Int):=by rw[df (by omega)];omega
          rw[shiftDown]at o;refine H.less (i:=j+1) (j:=j) rfl T (by omega) (by omega) fun hL eL hsL kL G=>?_
          have u:=hu7.tr kL.wide;rw[G];refine CondP.intro (fun h9=>?_) fun h9=>?_
          ·rw[if_pos h9]at o
           exact q _ _ ⟨by rw[←o];exact hsL,u⟩
          ·rw[if_neg (by rw[h9];simp)]at o
           refine hsL.swap (i:=j+1) (j:=j) rfl T (by omega) (by omega) fun y hs10 hu10=>?_
           exact E (j,swp d6 (j+1) j) _ _ ⟨T,hs10,by simp[hz7],o,u.tr hu10,by(try simp only);omega⟩ (by simp)
         ·have:j=0:=by omega
          subst this;exact q _ _ ⟨by rw[←o];exact H,hu7⟩
        ·rw[if_neg (by omega)]at q
         exact q _ _ ⟨J,x.tr hu5⟩
       ·rintro _ h6 ⟨O,Z⟩
        have N:(if i-a≥2 then shiftDown (B4 dec) (i-1) d5 else d5).size=d.size:=by split<;>simp[P]
        generalize (if i-a≥2 then shiftDown (B4 dec) (i-1) d5 else d5)=d6 at O N b
        have wi:ac .i64 ((e:Int)-(i:Int))=((e-i:Nat):Int):=by rw[df (by omega)];omega
        show CondP (decide (ac .i64 ((e:Int)-(i:Int))≥2)) _ _
        rw[wi];refine ao (fun h7=>?_) fun h7=>?_
        ·rw[if_pos (by omega)]at b
         refine LoopP.ghost (fun(g:Nat×Array Int) (t:Int) h'=>t=(g.1:Int)∧SA dec M s h' g.2∧g.2.size=d.size∧shiftUp (B4 dec) e g.1 g.2=shiftUp (B4 dec) e (i+1) d6∧Upd M h h'∧1≤g.1∧g.1≤e) (fun g=>e-g.1) (i+1,d6)
          ⟨by rw[df (by omega)];rfl,O,N,rfl,Z,by simp,by(try simp only);omega⟩ ?_
         rintro I4 ⟨j,d7⟩ t h8 ⟨ht,L,z,f,hu8,hj1,C⟩ E;(try simp only at ht L z f hj1 C)
         subst ht;refine ao (fun h9=>?_) fun h9=>?_
         ·have T:ac .i64 ((j:Int)-1)=((j-1:Nat):Int):=by rw[df (by omega)];omega
          rw[shiftUp,if_pos (by omega)]at f;refine L.less (i:=j) (j:=j-1) rfl T (by omega) (by omega) fun hL eL hsL kL G=>?_
          have u:=hu8.tr kL.wide;rw[G];refine CondP.intro (fun y=>?_) fun y=>?_
          ·rw[if_pos y]at f
           exact hR _ _ ⟨i,d7,rfl,hsL,z,by rw[f];exact b,u,m,n⟩
          ·rw[if_neg (by rw[y];simp)]at f
           refine hsL.swap (i:=j) (j:=j-1) rfl T (by omega) (by omega) fun h11 X hu11=>?_
           exact E (j+1,swp d7 j (j-1)) _ _ ⟨by rw[df (by omega)];rfl,X,by simp[z],f,u.tr hu11,by simp,by(try simp only);omega⟩ (by(try simp only);omega)
         ·rw[shiftUp,if_neg (by omega)]at f
          exact hR _ _ ⟨i,d7,rfl,L,z,by rw[f];exact b,hu8,m,n⟩
        ·rw[if_neg (by omega)]at b
         exact hR _ _ ⟨i,d6,rfl,O,N,b,Z,m,n⟩
  ·rintro t h' ⟨Q,W,rfl,v,hz2,b,hu2,m,n⟩
   exact hI (st,Q,W) _ _ ⟨rfl,by(try simp only);rw[df (by omega)];omega,v,hz2,b,hu2,by(try simp only);omega,m,n⟩ (by simp)
 ·have:st=0:=by have:¬5-(st:Int)<5:=hge;omega
  subst this;rw[partialIns]at w;rw[←w]at S;exact S _ F hu1
end Go.Proofs
namespace Go.Proofs
open Go Go.Lift Go.Sort
variable {dec:Int→Ch} {M:Nat→Prop} {s:SliceV} {h:ad} {d:Array Int}
theorem Yh(x:Int):ac .u64 x=x%18446744073709551616:=by
 simp[ac,ak,IntKind.signed]
theorem and_le_right(x:Int){m:Int}(a:0≤m)(hm:m<18446744073709551616):0≤ac .u64 ((aA (ak .u64) x&&&aA (ak .u64) m).toNat:Int)∧ac .u64 ((aA (ak .u64) x&&&aA (ak .u64) m).toNat:Int)≤m:=by
 have c:(aA (ak .u64) x&&&aA (ak .u64) m).toNat≤(aA (ak .u64) m).toNat:=by
  rw[BitVec.toNat_and];exact Nat.and_le_right
 have b:((aA (ak .u64) m).toNat:Int)=m:=by
  show((aA 64 m).toNat:Int)=m
  rw[BitVec.toNat_ofInt];have:m%((2^64:Nat):Int)=m:=Int.emod_eq_of_lt a (by omega);rw[this];omega
 rw[Yh];omega
end Go.Proofs
namespace Go.Proofs
open Go Go.Lift Go.Sort
variable {dec:Int→Ch} {M:Nat→Prop} {s:SliceV} {h:ad} {d:Array Int}
end Go.Proofs
namespace Go.Proofs
open Go Go.Lift
end Go.Proofs
namespace Go.Proofs
open Go Go.Lift
theorem Few.mono{n m:Nat}{L:List Pr}(f:Few n L)(h:n≤m):Few m L:=⟨f.up,aW f.len h,f.fit⟩
end Go.Proofs
namespace Go.Proofs
open Go Go.Lift
theorem Ll{W:Nat→Prop}{h:ad}{b:Nat}{l:List Pr}(t:RadAt W h b l)(hW:∀y,W y→y<h.size)(hr:bM l)(k:ByteArray){K:ByteArray×Bool→ad→Prop}
  (V:∀h',Upd No h h'→K ((look l k).getD ⟨#[]⟩,(look l k).isSome) h'):q9 259 [gS b,.string k] K h:=by
 refine cW (Dg (some ⟨b,0,none⟩) k) My Tryz.func259 Tryz.call259 ?_;dsimp only[Dg,kJ,GR,AW,zD,cB,jA,fQ,pn,cg,cH,xw,cZ];refine BN (.inr ⟨b,rfl,t⟩) hW fun h2 b2 t2 hu2 _=>?_
 obtain⟨w,F,r1,r2,r3⟩:=t2.ex;have d:∀v,uT w F k.data.toList v↔look l k=some v:=fun v=>by
  rw[←lu,r3];constructor
  ·rintro⟨p,hp,e1,rfl⟩
   rw[←rW.1 e1];exact ry hr hp
  ·intro hp;exact⟨_,ly hp,rfl,rfl⟩
 refine LoopP.ghost (fun(g:ByteArray×Nat×ByteArray×Option ByteArray×Fo) (t:ByteArray×Option Addr) h'=>t=(g.1,some ⟨g.2.1,0,none⟩)∧RxN W h' g.2.1 g.2.2.1 g.2.2.2.1 g.2.2.2.2∧gA g.2.2.2.2∧(∀v,uT g.2.2.2.1 g.2.2.2.2 g.1.data.toList v↔look l k=some v)∧Upd No h h') (fun g=>g.1.size) (k,b2,⟨#[]⟩,w,F) ⟨rfl,r1,r2,d,hu2⟩ ?_
 clear d r1 r2 r3 t2;rintro I ⟨E,c,sl,w,F⟩ t h5 ⟨rfl,r,hc,d,hu⟩ hI;(try simp only at r hc d)
 simp only[dI];by_cases G:E=⟨#[]⟩
 ·subst G
  refine ag.2 (Lc r ?_);have e:look l k=w:=Option.ext fun v=>by
   rw[←d v];constructor
   ·rintro(⟨_,h⟩|h)
    ·exact h
    ·exact absurd rfl (vG hc h)
   ·intro h;exact .inl ⟨rfl,h⟩
  rw[e]at V;exact V _ hu
 ·rw[decide_eq_false G]
  refine aw.2 ?_;have x:E.data.toList≠[]:=fun e=>G (by cases E;exact congrArg vX (Array.toList_inj.1 e))
  obtain⟨c0,Y,S⟩:=JP x;refine⟨c0,Int.le_refl _,Y,?_⟩;have Z:=r;obtain⟨val,s,ow,ks,hb,_,hs,hcap,hF⟩:=r;have hL:=kK.1 hF;have D:=dA.1 hc;have o:(∀v,¬sX F E.data.toList v)→K ((⟨#[]⟩:ByteArray),false) h5:=fun A=>by
   have e:look l k=none:=by
    cases e:look l k with
    |none=>rfl
    |some v=>
     rcases(d v).2 e with⟨h,_⟩|h
     ·exact absurd h x
     ·exact absurd h (A v)
   rw[e]at V;exact V _ hu
  refine BP Z hc (c:=c0.toNat) (UInt8.toNat_lt _) fun i ok hil O L N=>?_
  rw[S]at O L N;cases ok with
  |false=>
   refine aw.2 (o fun v d=>?_)
   obtain⟨n',H,e,_⟩:=vH hc d;obtain⟨j,U,rfl⟩:=bD H;rcases cr j i with hl|hl
   ·have:=O j U hl;omega
   ·have h1:=L j U hl
    have h2:=L i (by omega) (ai _);rcases cr i j with Q|Q
    ·have h3:=List.pairwise_iff_getElem.1 D.1 i j (by omega) U Q
     omega
    ·have:i=j:=by omega
     subst this;have:=N.2 ⟨U,e⟩;cases this
  |true=>
   obtain⟨hi,R⟩:=N.1 rfl;refine ag.2 ⟨_,rfl,s,eK (i:=3) hb,?_⟩;obtain⟨kb,P,hki,z,C⟩:=hL.at hi;have q:F.toL[i]∈F.toL:=aH hi;have B:=D.2 _ q;obtain⟨a,ha,_,hvv⟩:=hs.at0 hki;have J:=hs.len;rw[hL.1]at J;have f:∀v,sX F E.data.toList v↔wK F.toL[i] E.data.toList v:=fun v=>by
    constructor
    ·intro d
     obtain⟨n',H,e,hN⟩:=vH hc d;rw[←yb hc H q (by omega)];exact hN
    ·intro d;exact gB.2 ⟨_,q,d⟩
   refine⟨⟨by(try simp only);omega,by(try simp only);omega⟩,a,ha,some ⟨kb,0,none⟩,hvv,_,rfl,?_⟩
   obtain⟨kval,kss,kow,kks,T,_⟩:=id C;generalize F.toL[i]=m at z C B f R;obtain⟨lab,wk,Fk⟩:=m;(try simp only at z C B R T)
   refine⟨P,eK (i:=0) T,Tl (fun u n=>?_) fun A=>?_⟩
   ·rw[z]at n
    have hlne:lab.length≠0:=fun e=>B.1 (aG.1 e)
    have hrl:u.size<E.size:=by
     rw[←jq u,←jq E,n,List.length_append];omega
    refine ag.2 (hI (u,kb,P,wk,Fk) _ _ ⟨rfl,C,B.2.2,fun v=>?_,hu⟩ hrl)
    rw[←d v];constructor
    ·intro h;exact .inr ((f v).2 ⟨_,n,h⟩)
    ·rintro(⟨h,_⟩|h)
     ·exact absurd h x
     ·obtain⟨r',e,X⟩:=(f v).1 h
      (try simp only at e)
      rw[n]at e;rw[List.append_cancel_left e];exact X
   ·rw[z]at A
    refine aw.2 (o fun v h=>?_)
    obtain⟨r',e,_⟩:=(f v).1 h;exact A r' e
theorem Uv{W:Nat→Prop}{x:Hs}{h:ad}{kind:Int}{t:Tr}{l:List Pr}(i:TreeIs W h kind x t l)(g:∀y,W y→y<h.size)(e:bM l)(j:l.length≤1000000)(k:ByteArray){K:Sd→ad→Prop}(f:∀h',Upd No h h'→K ((look l k).getD ⟨#[]⟩,(look l k).isSome) h'):q9 188 [Ab t,.string k] K h:=by
 refine cW (ww t k) .nil Tryz.func188 Tryz.call188 ?_;dsimp only[ww,aY,BG,aD,fP,AY,ge,l7,tf];rcases i with⟨_,b,rfl,t⟩|⟨_,b,rfl,t⟩
 ·refine ba fun m b1 k1=>⟨_,vc b1 0,ag.2 ⟨_,gw b1 1 0,_,gw b1 1 1,_,gw b1 1 2,_,vc b1 4,?_⟩⟩
  exact Mi (TrieAt.upd0 k1 t) (fun y a=>az (g y a) k1.size) e j k fun d c=>f d (k1.tr c)
 ·refine ba fun m b1 k1=>⟨_,vc b1 0,aw.2 ⟨_,vc b1 5,?_⟩⟩
  exact Ll (t.upd0 k1) (fun y a=>az (g y a) k1.size) e k fun d c=>f d (k1.tr c)
end Go.Proofs
namespace Go.Proofs
open Go Go.Lift
theorem Pu{W:Nat→Prop}{x:Hs}{h:ad}{kind:Int}{t:Tr}{l:List Pr}(i:TreeIs W h kind x t l)(o:∀y,W y→y<h.size)(j:bM l)(g:l.length≤1000000)(k:ByteArray){K:Sd→ad→Prop}(n:∀h',Upd No h h'→K (xN (look l k)) h'):B8 121 [Ab t,.string k] K h:=by
 refine cW (Du t k) .nil Tryz.func121 Tryz.call121 ?_;dsimp only[Du,dt,sM,DD,wH,nh,aD,wL,aY,aj,sS,bi,gI,l7,tf];refine ba fun q b1 k1=>ba fun u b2 e=>?_
 have c1:=e.get0 b1;have a:=k1.tr e;refine⟨_,vc c1 0,_,vc c1 1,_,vc c1 2,_,vc c1 3,_,vc c1 4,_,vc c1 5,?_⟩;refine Uv (i.upd0 a) (fun y m=>az (o y m) a.size) j g k fun s d=>?_
 refine cn (c:= [.string (⟨#[]⟩:ByteArray),.bool false]) (vs:=V9 (xN (look l k))) (d.get0 b2) rfl fun p f b=>?_
 exact⟨_,vc f 0,_,vc f 1,n p ((a.tr d).own b k1.size)⟩
theorem US{W:Nat→Prop}{x:Hs}{h:ad}{kind:Int}{t:Tr}{l:List Pr}(i:TreeIs W h kind x t l)(F:∀y,W y→y<h.size)(G:bM l)(P:Fit l)(H:l.length≤1000000)(k:ByteArray)(o:Option ByteArray)(p:k.size≤256)(A:(o.getD ⟨#[]⟩).size≤4096){K:Tr→ad→Prop}
  (T:∀h' a,TreeIs W h' kind x a (GU l k o)→Upd No h h'→K a h'):U4 123 [Ab t,.string k,.agg #[.string (xN o).1,.bool (xN o).2]] K h:=by
 refine cW (Dt t k (xN o)) ME Tryz.func123 Tryz.call123 ?_;dsimp only[Dt,gI,dt,ux,tf,oW,sM,wH,nh,aD,wL,aY,aj,xA,MV,l7,fY,bi];refine ba fun I b1 k1=>ba fun w b2 C=>ba fun n b3 u=>?_
 have Y:=bw b1;have V:=bw b2;have U:=bw b3;have s1:h.size≤I.size:=k1.size;have X:I.size≤w.size:=C.size;have Z:=u.size;have b:=(k1.tr C).tr u;have c1:=u.get0 (C.get0 b1);have B:=u.get0 b2;have E:Pro W h n h.size:=.inr (by omega);have D:Pro W h n w.size:=.inr (by omega);refine Join.intro (fun _ h'=>∃a,TreeIs (Pro W h n) h' kind x a (GU l k o)∧h'[h.size]? =some (.cells (iH a).toArray 53 (0,0))∧h'[w.size]? =some (.cells (iH sY).toArray 53 (0,0))∧Upd (· =h.size) n h') (fun R N=>?_) ?_
 ·have fin:∀{e:ad} {a:Tr},Upd No n e→TreeIs (Pro W h n) e kind x a (GU l k o)→pk e (some (aL h)) 0 (iH a)∧At (eN e (aL h) 0 (iH a)) (fun J=>R () J):=fun{e a} g q=>
   cn (c:=iH t) (vs:=iH a) (g.get0 c1) rfl fun J S d=>N _ _ ⟨a,q.updM d fun y f=>.inl (by have f:y=h.size:=f;rw[f];exact E),S,d.oth (g.get0 b3) (by omega),g.wide.tr d⟩
  cases o with
  |some v=>
   refine⟨true,vc B 1,aw.2 ⟨_,vc c1 0,_,vc c1 1,_,vc c1 2,_,vc c1 3,_,vc c1 4,_,vc c1 5,v,vc B 0,?_⟩⟩;exact Af (i.pro b) (Pro.lt F b) G H (k,v) p A fun e a q _ g=>fin g q
  |none=>
   refine⟨false,vc B 1,ag.2 ⟨_,vc c1 0,_,vc c1 1,_,vc c1 2,_,vc c1 3,_,vc c1 4,_,vc c1 5,?_⟩⟩;exact CC (i.pro b) (Pro.lt F b) G P H k p fun e a q _ g=>fin g q
 ·rintro _ h6 ⟨a,Q,m,L,z⟩
  refine⟨_,vc m 0,_,vc m 1,_,vc m 2,_,vc m 3,_,vc m 4,_,vc m 5,?_⟩;refine cn (c:=iH sY) (vs:=iH a) L rfl fun O j s=>?_
  refine⟨_,vc j 0,_,vc j 1,_,vc j 2,_,vc j 3,_,vc j 4,_,vc j 5,T O a ((Q.updM s fun y f=>.inl (by have f:y=w.size:=f;rw[f];exact D)).less Pro.sub) ?_⟩
  exact(b.own z (ai _)).own s (by omega)
def PU(k:ByteArray)(o:Option ByteArray):Prop:=∀{W:Nat→Prop} {x:Hs} {h:ad} {kind:Int} {t:Tr} {l:List Pr},TreeIs W h kind x t l→(∀y,W y→y<h.size)→bM l→Fit l→l.length≤1000000→k.size≤256→(o.getD ⟨#[]⟩).size≤4096→∀{K:Tr→ad→Prop},
 (∀h' t',TreeIs W h' kind x t' (GU l k o)→Upd No h h'→K t' h')→U4 123 [Ab t,.string k,.agg #[.string (xN o).1,.bool (xN o).2]] K h
theorem Xg(k:ByteArray)(o:Option ByteArray):PU k o:=fun i d a e b f g _ c=>US i d a e b k o f g c
def WN(B T:List Pr):Prop:=∀{W W':Nat→Prop} {x x':Hs} {h:ad} {kind kind':Int} {t u:Tr},TreeIs W h kind x t B→TreeIs W' h kind' x' u T→∀{K:SliceV×Int→ad→Prop},(lz t u=false→∀h',Upd No h h'→K (⟨none,0,0⟩,11) h')→(lz t u=true→∀h' s',OwnS GN 5 209 (fun y=>h.size≤y) h' s' (gM B T)→Upd No h h'→K (s',0) h')→G7 120 [Ab t,Ab u] K h
theorem zl{p:Int}(b:0≤p)(c:p≤3):CQ p≠⟨#[]⟩:=by
 unfold CQ;have a:p=0∨p=1∨p=2∨p=3:=by omega
 rcases a with rfl|rfl|rfl|rfl<;>decide
abbrev sP(c:Cf):List Value:= [.string c.1,.string c.2.1.1,.bool c.2.1.2,.string c.2.2.1.1,.bool c.2.2.1.2,.string c.2.2.2.1,.bool c.2.2.2.2]
abbrev Uf:Cf:=(⟨#[]⟩,(⟨#[]⟩,false),(⟨#[]⟩,false),(⟨#[]⟩,false))
theorem Ka(c:Cf):(sP c).length=7∧0<7:=⟨rfl,by omega⟩
theorem Is{t:TypeId}{M:Nat→Prop}{h:ad}{so:SliceV}{out:List Cf}{c:Cf}{K:SliceV→ad→Prop}(i:OwnS sP 7 t M h so out)(f:∀b,h.size≤b→M b)(m:out.length+1≤100000000)
  (e:∀s' h',OwnS sP 7 t M h' s' (out++ [c])→Upd M h h'→K s' h'):
  At (hnew h (sP c) t) fun a=>∃xs,SRow a (some (aL h)) (1*7) xs∧AppP (some (sP Uf)) 7 88 t so.a so.len so.cap 1 xs a K:=by
 refine ba fun a b1 k1=>?_
 have k:=bw b1;have j:OwnS sP 7 t (fun _=>True) a ⟨some (aL h),1,1⟩ [c]:=⟨rfl,Ka,ai _,.inr ⟨h.size,[],rfl,trivial,b1,rfl⟩⟩
 refine⟨_,(j.sl (W:=No) fun _ _ _ h=>h).srow,?_⟩
 refine AppP.own (ys:= [c]) (i.upd k1 fun _ _ h=>h) rfl rfl rfl rfl (by omega) (by simp only[List.length_singleton];omega) (f _ k1.size) fun s' h' d g=>?_
 exact e s' h' d (k1.wide.tr g)
set_option maxHeartbeats 1000000 in
theorem CR{W:Nat→Prop}{x:Hs}{h:ad}{kind p:Int}{tb to tt:Tr}{B O T:List Pr}{nb no nt:Nat}(ib:TreeIs W h kind x tb B)(io:TreeIs W h kind x to O)(it:TreeIs W h kind x tt T)(hW:∀y,W y→y<h.size)(fB:Few nb B)(fO:Few no O)(fT:Few nt T)(lb:nb≤1000)(lo:no≤1000)(lt:nt≤1000)
  (hp0:0≤p)(hp1:p≤3)(hdf:WN B T)(hset:∀c∈gM B T,PU c.1 (tk B O T p c.1).1){K:Tr×SliceV×Int→ad→Prop}
  (hk0:p=0→ns B O T p≠[]→∀h' s',OwnS sP 7 85 (fun y=>h.size≤y) h' s' ((ns B O T p).map (BB B O T))→Upd No h h'→K (to,s',8) h')
  (hk:(p=0→ns B O T p= [])→∀h' t' s',TreeIs W h' kind x t' (is B O T p)→OwnS sP 7 85 (fun y=>h.size≤y) h' s' ((ns B O T p).map (BB B O T))→Upd No h h'→K (t',s',0) h'):
  Wq 70 [Ab tb,Ab to,Ab tt,.int .i64 p] K h:=by
 refine cW (GD tb to tt p) OH Tryz.func70 Tryz.call70 ?_;dsimp only[GD,bi,gI,dt,nv,ux,tf,sM,DE,DI,MV,PW,DH,Jc,DD,wH,nh,aD,wL,aY,aj,mF,Ot,cZ,gl,jA,fQ,Hf,sS,xA,xy,yh,l7,fY,TS,QZ];refine ba fun h1 b1 k1=>ba fun h2 b2 k2=>ba fun h3 b3 k3=>ba fun h4 b4 k4=>?_
 have z1:=bw b1;have z2:=bw b2;have z3:=bw b3;have z4:=bw b4;have s1:h.size≤h1.size:=k1.size;have s2:h1.size≤h2.size:=k2.size;have s3:h2.size≤h3.size:=k3.size;have s4:=k4.size;have k04:=((k1.tr k2).tr k3).tr k4;have c0:=k4.get0 (k3.get0 (k2.get0 b1));have c1:=k4.get0 (k3.get0 b2);have c2:=k4.get0 b3;refine Aw ?_;rw[dI,decide_eq_false (zl hp0 hp1)];refine ag.2 ?_
 refine Join.intro (fun t h'=>t=false∧Upd No h4 h') (fun R Y=>?_) ?_
 ·refine⟨_,vc c0 0,_,vc c0 1,_,vc c0 2,_,vc c0 3,_,vc c0 4,_,vc c0 5,_,vc c1 0,_,vc c1 1,_,vc c1 2,_,vc c1 3,_,vc c1 4,_,vc c1 5,?_⟩
  refine wQ (t:=tb) (u:=to) fun h5 k5=>?_
  rw[xX ib io];have X:=k5.get0 c0;have V:=k5.get0 c2;refine ag.2 ⟨_,vc X 0,_,vc X 1,_,vc X 2,_,vc X 3,_,vc X 4,_,vc X 5,_,vc V 0,_,vc V 1,_,vc V 2,_,vc V 3,_,vc V 4,_,vc V 5,?_⟩;refine wQ (t:=tb) (u:=tt) fun h6 k6=>?_
  rw[xX ib it];exact Y _ _ ⟨rfl,k5.tr k6⟩
 rintro t h50 ⟨rfl,U⟩;have X:=U.get0 c0;have d1:=U.get0 c1;have V:=U.get0 c2;have d3:=U.get0 b4;have k050:=k04.tr U;have s50:=U.size;have nB:=fB.len;have nO:=fO.len;have nT:=fT.len;refine ag.2 ⟨_,vc X 0,_,vc X 1,_,vc X 2,_,vc X 3,_,vc X 4,_,vc X 5,_,vc V 0,_,vc V 1,_,vc V 2,_,vc V 3,_,vc V 4,_,vc V 5,?_⟩;refine hdf (ib.upd0 k050) (it.upd0 k050) (fun e=>by rw[xX ib it]at e;cases e) fun _ E s77 hs77 k77=>?_
 have lC:=ri fB.up fT.up;have at30:=CE fB fT;have hcC:∀c∈gM B T,(c.1,(c.2.1,c.2.2.2.1),xN (look O c.1),(c.2.2.1,c.2.2.2.2))=BB B O T c.1:=fun c hc=>by
  have e:=(Tv fB.up fT.up hc).1;unfold BB xN;rw[congrArg (·.2.1) e,congrArg (·.2.2.1) e,congrArg (·.2.2.2.1) e,congrArg (·.2.2.2.2) e]
 have hsetC:∀i (hi:i<(gM B T).length),PU (gM B T)[i].1 (tk B O T p (gM B T)[i].1).1:=fun i hi=>hset _ (aH hi)
 have Z:∀i (hi:i<(gM B T).length),(gM B T)[i]∈gM B T:=fun i hi=>aH hi
 have hconK:DX B O T p (gM B T)=ns B O T p:=rfl;have hmrg:qq B O T p O (gM B T)=is B O T p:=rfl;have fM:∀i,Few (no+((gM B T).take i).length) (qq B O T p O ((gM B T).take i)):=fun i=>zr fB fO fT (fun c hc=>(at30 c (List.mem_of_mem_take hc)).1) fO
 clear hset;generalize gM B T=C at hs77 lC at30 hcC Z hconK hmrg fM hsetC;have hsl:=hs77.within.sl (W:=fun y=>E.size≤y) fun y d _ hw=>by omega
 have hlen:s77.len=C.length:=hs77.len;have e1:=k77.get0 d1;have e3:=k77.get0 d3;have hz77:=k77.size;refine⟨_,vc e1 0,_,vc e1 1,_,vc e1 2,_,vc e1 3,_,vc e1 4,_,vc e1 5,?_⟩;refine Wl (t:=to) fun F b85 k85=>?_
 have z85:=bw b85;have s85:=k85.size;have k085:=(k050.tr k77).tr k85;have f1:=k85.get0 e1;have f3:=k85.get0 e3;have hPo:Pro W h F E.size:=.inr (by omega);have hP3:Pro W h F h3.size:=.inr (by omega);have hWP:=Pro.lt hW k085;refine LoopP.ghost (fun(g:Nat×(Nat→Prop)) (t:SliceV×Int) h'=>t.2=(g.1:Int)∧g.1≤C.length∧OwnS sP 7 85 g.2 h' t.1 ((DX B O T p (C.take g.1)).map (BB B O T))∧(∀y,g.2 y→F.size≤y∧y<h'.size)∧(∃tv,TreeIs (fun y=>Pro W h F y∨g.2 y) h' kind x tv (qq B O T p O (C.take g.1))∧h'[E.size]? =some (.cells (iH tv).toArray 53 (0,0)))∧Upd (· =E.size) F h') (fun g=>C.length-g.1) (0,No)
  ⟨rfl,aN _,OwnS.nil Ka,fun _ h=>h.elim,⟨to,(io.pro k085).less fun y d=>.inl (d.elim id fun h=>h.elim),b85⟩,Upd.refl _ _⟩ ?_
 rintro I ⟨i,S⟩ ⟨sv,ti⟩ h88 ⟨e,hi,ho,hS,⟨tv,iv,bv⟩,hu⟩ hI;(try simp only at e hi ho hS iv)
 subst e;have g1:=hu.get f1 (by show ¬h1.size=E.size;omega);have g3:=hu.get f3 (by show ¬h3.size=E.size;omega);have s88:=hu.size;have k088:Upd No h h88:=k085.own hu (by omega);refine ao (fun v=>?_) fun hge=>?_
 ·have v:i<C.length:=by(try simp only at v);omega
  obtain⟨a,ha,_,hv⟩:=((hsl.upd k85 fun _ h=>h.elim).upd hu fun y d=>.inl (by have d:y=E.size:=d;omega)).at (af v)
  refine⟨⟨by(try simp only);omega,by(try simp only);omega⟩,a,ha,_,hv 0 _ rfl,_,hv 1 _ rfl,_,hv 2 _ rfl,_,hv 3 _ rfl,_,hv 4 _ rfl,?_⟩
  have fm:=fM i;have fml:=fm.len;rw[aQ]at fml;have hcon:(DX B O T p (C.take i)).length≤C.length:=aW Tp (by rw[aQ];omega);have hIc:=fun S' t h'=>hI (i+1,S') t h'
  simp only[LK v,QQ v,cD]at hIc;have hceq:=hcC _ (Z i v);have hc30:=(at30 _ (Z i v)).1;have hsc:= @hsetC i v;clear hI;generalize C[i]=c at hv hceq hc30 hIc hsc;refine Xn (c:=c) fun h96 w k96=>?_
  have s96:=k96.size;have z96:=bw w;have p1:=k96.get0 g1;have k096:=k088.tr k96;have ig:∀{h'},Upd No h96 h'→TreeIs W h' kind x to O:=fun k=>io.upd0 (k096.tr k)
  have hWg:∀{h'},Upd No h96 h'→∀y,W y→y<h'.size:=fun k y d=>az (hW y d) (k096.tr k).size
  refine Join.intro (fun t h'=>∃b,t=⟨b,0,none⟩∧h'[b]? =some (.cells (sP (BB B O T c.1)).toArray 85 (0,0))∧Upd No h96 h') (fun R Y=>?_) ?_
  ·rw[←hceq]at Y
   refine⟨c.1,vc w 0,c.2.1,vc w 1,c.2.2.2.1,vc w 3,_,vc p1 0,_,vc p1 1,_,vc p1 2,_,vc p1 3,_,vc p1 4,_,vc p1 5,c.1,vc w 0,c.2.2.1,vc w 2,c.2.2.2.2,vc w 4,?_,?_⟩
   ·refine Pu (ig (Upd.refl _ _)) (hWg (Upd.refl _ _)) fO.up (by omega) c.1 fun h110 k110=>?_
    have q:=k110.get0 w;refine⟨vc q 4,vc q 2,vc q 3,vc q 1,vc q 0,ba fun h111 b111 k111=>?_⟩
    have q':=k111.get0 q;refine⟨vc q' 4,vc q' 2,vc q' 3,vc q' 1,vc q' 0,?_⟩;refine cn (c:=sP Uf) (vs:=sP (c.1,(c.2.1,c.2.2.2.1),xN (look O c.1),(c.2.2.1,c.2.2.2.2))) b111 rfl fun h112 b112 hu112=>Y _ _ ⟨_,rfl,b112,(k110.tr k111).own hu112 k110.size⟩
   ·refine ba fun h149 b149 G=>?_
    have q:=G.get0 w;have p2:=G.get0 p1;refine⟨vc q 4,vc q 2,vc q 0,⟨vc p2 0,vc p2 1,vc p2 2,vc p2 3,vc p2 4,vc p2 5⟩,vc q 3,vc q 1,vc q 0,?_⟩;refine Pu (ig G) (hWg G) fO.up (by omega) c.1 fun h151 k151=>?_
    have q':=k151.get0 q;refine⟨vc q' 4,vc q' 2,vc q' 3,vc q' 1,vc q' 0,?_⟩;refine cn (c:=sP Uf) (vs:=sP (c.1,(c.2.1,c.2.2.2.1),xN (look O c.1),(c.2.2.1,c.2.2.2.2))) (k151.get0 b149) rfl fun L P hu152=>Y _ _ ⟨_,rfl,P,(G.tr k151).own hu152 (ai _)⟩
  rintro _ h142 ⟨bx,rfl,n,k142⟩;refine⟨_,gw n 1 0,_,gw n 1 1,_,gw n 3 0,_,gw n 3 1,_,gw n 5 0,_,gw n 5 1,?_⟩;refine SD (b:=xN (look B c.1)) (o:=xN (look O c.1)) (t:=xN (look T c.1)) fun h150 N=>?_
  rw[OY];have hok:∀r,rC (look B c.1) (look O c.1) (look T c.1) p=r→tk B O T p c.1=r:=fun r e=>e
  have hsz:((tk B O T p c.1).1.getD ⟨#[]⟩).size≤30:=by
   unfold tk;rcases BJ (look B c.1) (look O c.1) (look T c.1) p with e|e|e
   ·rw[e];exact lx fB _
   ·rw[e];exact lx fO _
   ·rw[e];exact lx fT _
  have htk:rC (look B c.1) (look O c.1) (look T c.1) p=tk B O T p c.1:=rfl;rw[htk];generalize tk B O T p c.1=tkc at hIc hsz hsc;refine VK (s:=xN tkc.1) fun L P k152=>?_
  have z152:=bw P;have f:=((k96.tr k142).tr N).tr k152;have k96152:=(k142.tr N).tr k152;have s150:h88.size≤h150.size:=((k96.tr k142).tr N).size;have s152:=f.size;have bv152:=f.get0 bv;have b96':=k96152.get0 w;have m:=(N.tr k152).get0 n;have iv152:=iv.upd0 f;refine Join.intro (fun t h'=>∃S',OwnS sP 7 85 S' h' t ((DX B O T p (C.take i)).map (BB B O T)++(if tkc.2=true then[]else[c.1]).map (BB B O T))∧(∀y,S' y→F.size≤y∧y<h'.size)∧TreeIs (fun y=>Pro W h F y∨S' y) h' kind x tv (qq B O T p O (C.take i))∧Upd S L h') (fun R Y=>?_) ?_
  ·refine CondP.intro (fun e=>?_) fun e=>?_
   ·have e2:tkc.2=false:=by simpa using e
    rw[e2,if_neg Bool.false_ne_true]at Y;refine⟨_,vc m 0,_,vc m 1,_,vc m 2,_,vc m 3,_,vc m 4,_,vc m 5,_,vc m 6,?_⟩;refine Is (c:=BB B O T c.1) (M:=fun y=>S y∨L.size≤y) ((ho.upd f fun _ _ h=>h).more fun _ h=>.inl h) (fun _ h=>.inr h) (by rw[bS];omega) fun s163 h164 ho164 H=>?_
    have s164:=H.size;refine Y _ _ ⟨_,ho164.within,fun y d=>⟨?_,d.2⟩,?_,H.mono fun y d=>d⟩
    ·rcases d.1 with h|h
     ·exact(hS y h).1
     ·omega
    ·refine TreeIs.less (fun y d=>?_) ((iv152.less (W':=fun y=>Pro W h F y∨(S y∨L.size≤y)) fun y d=>?_).updM H fun y d=>.inl (.inr d))
     ·exact .inl (d.imp id fun h=>h.1)
     ·rcases d with h|h|h
      ·exact .inl (.inl h)
      ·exact .inl (.inr h)
      ·exact .inr h
   ·have e2:tkc.2=true:=by simpa using e
    rw[e2,if_pos rfl,List.map_nil,List.append_nil]at Y;exact Y _ _ ⟨S,ho.upd f fun _ _ h=>h,fun y d=>⟨(hS y d).1,by have:=(hS y d).2;omega⟩,iv152,Upd.refl _ _⟩
  rintro sv' h166 ⟨S',ho',hS',it',hu'⟩;have s166:=hu'.size;have nS:∀y,S y→F.size≤y∧y<h88.size:=hS;have j:=hu'.get bv152 fun hx=>by have:=nS _ hx;omega
  have b96'':=hu'.get b96' fun hx=>by have:=nS _ hx;omega
  have b152':=hu'.get P fun hx=>by have:=nS _ hx;omega
  refine⟨_,vc j 0,_,vc j 1,_,vc j 2,_,vc j 3,_,vc j 4,_,vc j 5,c.1,vc b96'' 0,(xN tkc.1).1,vc b152' 0,(xN tkc.1).2,vc b152' 1,?_⟩;refine hsc it' (fun y d=>d.elim (fun h=>az (hWP y h) (by omega)) fun h=>(hS' y h).2) fm.up fm.fits (by omega) (by omega) (by omega) fun h177 t' i177 Q=>?_
  have s177:=Q.size;refine cn (c:=iH tv) (vs:=iH t') (Q.get0 j) rfl fun h178 b178 D=>?_
  have s178:=D.size;(try simp only)
  rw[kX v (by omega)];refine hIc S' _ _ ⟨rfl,v,(ho'.upd Q fun _ _ h=>h).upd D fun y d e=>?_,fun y d=>⟨(hS' y d).1,by have:=(hS' y d).2;omega⟩,⟨t',i177.updM D fun y d=>.inl (.inl (by have d:y=E.size:=d;rw[d];exact hPo)),b178⟩,?_⟩ (by omega)
  ·have e:y=E.size:=e
   have:=(hS' y d).1;omega
  ·refine((hu.tr f.wide).trans hu' fun y d=>.inr (nS y d).1).tr ?_
   exact Q.wide.tr D
 ·have hiN:i=C.length:=by(try simp only at hge);omega
  subst hiN;rw[bP]at ho iv;rw[hconK]at ho;rw[hmrg]at iv;have hsvl:=ho.len;rw[bS]at hsvl;have hb:(ns B O T p= [])↔sv.len=0:=by rw[hsvl];exact aG.symm
  have ho2:OwnS sP 7 85 (fun y=>h.size≤y∧y≠h3.size) h88 sv ((ns B O T p).map (BB B O T)):=ho.more fun y d=>by have:=(hS y d).1;omega
  refine Join.intro (fun t h'=>t=(decide (p=0)&&decide (sv.len>0))∧h'=h88) (fun R Y=>?_) ?_
  ·refine CondP.intro (fun e=>Y _ _ ⟨?_,rfl⟩) fun e=>Y _ _ ⟨?_,rfl⟩
   ·have e:p=0:=by simpa using e
    rw[decide_eq_true e,ko,decide_eq_decide];(try simp only);omega
   ·have e:p≠0:=by simpa using e
    rw[decide_eq_false e,Bool.false_and]
  rintro t h' ⟨rfl,rfl⟩;refine CondP.intro (fun e=>?_) fun e=>?_
  ·have e:p=0∧sv.len>0:=by simpa using e
   refine⟨_,vc g1 0,_,vc g1 1,_,vc g1 2,_,vc g1 3,_,vc g1 4,_,vc g1 5,?_⟩;refine cn (c:=iH sY) (vs:=iH to) g3 rfl fun h198 A hu198=>?_
   refine⟨_,vc A 0,_,vc A 1,_,vc A 2,_,vc A 3,_,vc A 4,_,vc A 5,?_⟩;exact hk0 e.1 (fun hc=>by have:=hb.1 hc;omega) h198 sv ((ho2.upd hu198 fun y d e=>d.2 e).more fun y d=>d.1) (k088.own hu198 (by omega))
  ·have e:p=0→sv.len=0:=fun hp=>by
    rw[decide_eq_true hp,ko]at e;have:=of_decide_eq_false e;omega
   refine⟨_,vc bv 0,_,vc bv 1,_,vc bv 2,_,vc bv 3,_,vc bv 4,_,vc bv 5,?_⟩;refine cn (c:=iH sY) (vs:=iH tv) g3 rfl fun h211 z J=>?_
   refine⟨_,vc z 0,_,vc z 1,_,vc z 2,_,vc z 3,_,vc z 4,_,vc z 5,?_⟩;exact hk (fun hp=>hb.2 (e hp)) h211 tv sv ((iv.updM J fun y d=>.inl (.inl (by have d:y=h3.size:=d;rw[d];exact hP3))).less fun y d=>.inl (.inl (.inl d))) ((ho2.upd J fun y d e=>d.2 e).more fun y d=>d.1) (k088.own J (by omega))
end Go.Proofs
namespace Go.Proofs
open Go Go.Lift
theorem N3{nb no nt:Nat}{B O T:List Pr}{p:Int}(b:Few nb B)(d:Few no O)(a:Few nt T):Few (no+(nb+nt)) (is B O T p):=by
 have h:=zr (p:=p) b d a (l:=gM B T) (fun c hc=>(CE b a c hc).1) d
 exact⟨h.up,aW h.len (by have:=ri b.up a.up;have:=b.len;have:=a.len;omega),h.fit⟩
def Met(L:cT)(a b d:Int):Prop:=(∀c,UpG L a c→UpG L b c→c≤d)∧(d=0∨UpG L a d∧UpG L b d)∧0≤d
def vR(s:VS)(a:Int)(B:TD):Prop:=(a=0∧B=(s.e,[]))∨(a≠0∧bC s.D a=some B)
section
variable {W:Nat→Prop} {h:ad} {vp:Nat} {s:VS}
theorem Ht(v:VaultAt W h vp s){id:Int}(hi:id=0∨id∈dF s.L){K:Tr×Int→ad→Prop}(a:∀B,vR s id B→∀h',Upd No h h'→K (B.1,0) h'):MJ 14 [pV vp,.int .u32 id] K h:=
 KP v id (fun e h' k=>a (s.e,[]) (.inl ⟨e,rfl⟩) h' k) (fun d hd e h' k=>a d (.inr ⟨e,hd⟩) h' k) fun hd e=>absurd ((v.sub id).2 (hi.resolve_left e)) (dN.1 hd)
theorem MY(v:VaultAt W h vp s){n m:ByteArray}{a b:Int}(ha:bC s.B n=some a)(hb:bC s.B m=some b){p:Int}(E:0≤p)(L:p≤3)(hn1:¬(b=0∨UpG s.L a b))(hn2:¬(a=0∨UpG s.L b a))
  {O T:TD}(hO:bC s.D a=some O)(hT:bC s.D b=some T){N:Nat}(P:N≤1000)(hF:∀d∈s.D,Few N d.2.2)
  (hS:∀g B,Met s.L a b g→vR s g B→WN B.2 T.2∧∀c∈gM B.2 T.2,PU c.1 (tk B.2 O.2 T.2 p c.1).1){K:Int×SliceV×Int→ad→Prop}
  (S:∀g B,Met s.L a b g→vR s g B→p=0→ns B.2 O.2 T.2 p≠[]→∀h' s',OwnS sP 7 85 (fun y=>h.size≤y) h' s' ((ns B.2 O.2 T.2 p).map (BB B.2 O.2 T.2))→Upd No h h'→K (0,s',8) h')
  (hk:∀g B,Met s.L a b g→vR s g B→(p=0→ns B.2 O.2 T.2 p= [])→∀h' t' s',OwnS sP 7 85 (fun y=>h.size≤y) h' s' ((ns B.2 O.2 T.2 p).map (BB B.2 O.2 T.2))→Upd s.M h h'→
   VaultAt W h' vp (wG s n (t',is B.2 O.2 T.2 p) (nz [a,b])).2→K (if(wG s n (t',is B.2 O.2 T.2 p) (nz [a,b])).1.2=0 then((wG s n (t',is B.2 O.2 T.2 p) (nz [a,b])).1.1,s',0)else(0,⟨none,0,0⟩,(wG s n (t',is B.2 O.2 T.2 p) (nz [a,b])).1.2)) h'):
  SR 24 [pV vp,.string n,.string m,.int .i64 p] K h:=by
 refine jk (some ⟨vp,0,none⟩) n m p ?_;dsimp only[gP,cB,aY,aj,dg,dt,nv,Ef,sL,ux,tf,aD,Lw,sM,fP,T0,uB,nh,wL,cH,yh,DZ];refine gN v n (gN v m ?_);rw[ha,hb];refine Join.plain (ag.2 (ag.2 (Aw ?_)));rw[dI,decide_eq_false (zl E L)];refine ag.2 (rx v b a fun c h1 hc k1=>CondP.intro (fun e=>absurd (hc.1 e) hn1) fun _=>?_)
 have v1:=v.upd0 k1;refine rx v1 a b fun c2 h2 hc2 k2=>CondP.intro (fun e=>absurd (hc2.1 e) hn2) fun _=>?_
 have v2:=v1.upd0 k2;refine⟨_,rfl,_,vc v2.blk 6,SY v2.g v2.inv.good.toSmall a b fun g h3 m1 m2 m3 k3=>?_⟩
 have Y:Met s.L a b g:=⟨m1,m2,m3⟩;have v3:=v2.upd0 k3;have V:=(k1.tr k2).tr k3;have go:∀B:TD,vR s g B→TreeIs W h3 s.kind s.x B.1 B.2∧Few N B.2:=fun B q=>by
  rcases q with⟨_,rfl⟩|⟨_,q⟩
  ·exact⟨v3.em,cf,aN _,fun _ h=>by cases h⟩
  ·exact⟨(v3.ts _ (j7 q)).1,hF _ (j7 q)⟩
 have gO:∀{h'},VaultAt W h' vp s→jv (.int .u32) (Ab sY) h' (some s.tm) (.int .u32 a) (Ab O.1) true:=fun v'=>by
  have:=v'.t.get a (sY,[]);rw[hO]at this;exact this
 have gT:∀{h'},VaultAt W h' vp s→jv (.int .u32) (Ab sY) h' (some s.tm) (.int .u32 b) (Ab T.1) true:=fun v'=>by
  have:=v'.t.get b (sY,[]);rw[hT]at this;exact this
 have fO:=hF _ (j7 hO);have fT:=hF _ (j7 hT);have X:∀y,W y→y<h.size:=v.g.lt;have fin:∀B:TD,vR s g B→∀z x C sv,Upd No h z→Upd No z x→(p=0→ns B.2 O.2 T.2 p= [])→TreeIs W x s.kind s.x C (is B.2 O.2 T.2 p)→OwnS sP 7 85 (fun y=>z.size≤y) x sv ((ns B.2 O.2 T.2 p).map (BB B.2 O.2 T.2))→
   At (hnew x [.int .u32 a,.int .u32 b] 31) (fun h50=>Eu 66 [pV vp,.string n,Ab C,.slice (some (aL x)) 2 2] (fun(J:Int×Int) Z=>CondP (J.2 !=(0:Int)) (K (0,⟨none,0,0⟩,J.2) Z) (K (J.1,sv,0) Z)) h50):=fun B q z x C sv F i E U os=>by
  have f:=N3 (p:=p) (go B q).2 fO fT;refine ba fun h8 R k=>?_
  have I:=v.upd0 (F.tr i);refine CA I k n (d:=(C,is B.2 O.2 T.2 p)) U f.up f.fits (pb:=x.size) (ai _) (bw R) (sl:=⟨some (aL x),2,2⟩) (ps:= [a,b]) ⟨rfl,jp,ai _,.inr ⟨x.size,[],rfl,rfl,R,rfl⟩⟩ (by simp) fun A w v9=>?_
  have s6:=F.size;have r:=hk g B Y q E A C sv ((os.upd w fun y o hM=>by have:=X y (v.w y hM);omega).more fun y o=>by omega) ((F.tr i).wide.tr w) v9
  refine CondP.intro (fun e=>?_) fun e=>?_
  ·rw[if_neg (by simpa using e)]at r;exact r
  ·rw[if_pos (by simpa using e)]at r;exact r
 refine Ht v3 (Y.2.1.imp id fun u=>u.1.right) fun B q h4 k4=>?_
 have s4:=k4.size;have nt:∀y,W y→y≠h4.size:=fun y o=>by have:=X y o;have:=V.size;omega
 refine ba fun h5 b5 k5=>cn (c:=iH sY) (vs:=iH B.1) b5 rfl fun z G u6=>?_
 have H:Upd No h3 z:=(k4.tr k5).own u6 s4;have j:=v3.upd0 H;have i6:=(go B q).1.upd0 H;have F:=V.tr H;obtain⟨S1,S2⟩:=hS g B Y q;have fB:=(go B q).2;refine⟨_,vc G 0,_,vc G 1,_,vc G 2,_,vc G 3,_,vc G 4,_,vc G 5,_,rfl,_,vc j.blk 7,O.1,true,gO j,_,rfl,_,vc j.blk 7,T.1,true,gT j,?_,?_⟩
 ·refine CR i6 (j.ts _ (j7 hO)).1 (j.ts _ (j7 hT)).1 j.g.lt fB fO fT P P P E L S1 S2 (fun e0 hc x sv os i=>?_) fun hc x C sv U os i=>?_
  ·refine⟨vc (j.upd0 i).blk 7,vc (j.upd0 i).blk 7,ba fun h8 R k=>⟨vc (j.upd0 (i.tr k)).blk 7,vc (j.upd0 (i.tr k)).blk 7,cn (c:=iH sY) (vs:=iH O.1) R rfl fun A t w=>aw.2 ?_⟩⟩
   have s7:=i.size;have D:Upd No x A:=k.own w (ai _);exact S g B Y q e0 hc A sv ((os.upd (k.own w (ai _)) fun _ _ h=>h).more fun y o=>by have:=F.size;omega) ((F.tr i).tr D)
  ·refine⟨vc (j.upd0 i).blk 7,vc (j.upd0 i).blk 7,ba fun h8 R k=>⟨vc (j.upd0 (i.tr k)).blk 7,vc (j.upd0 (i.tr k)).blk 7,cn (c:=iH sY) (vs:=iH C) R rfl fun A t w=>ag.2 ?_⟩⟩
   have D:Upd No x A:=k.own w (ai _);refine⟨_,vc t 0,_,vc t 1,_,vc t 2,_,vc t 3,_,vc t 4,_,vc t 5,?_⟩;exact fin B q z A C sv F (i.tr D) hc (U.upd0 D) (os.upd D fun _ _ h=>h)
 ·refine ba fun x b7 i=>⟨gT (j.upd0 i),vc (j.upd0 i).blk 7,gO (j.upd0 i),vc (j.upd0 i).blk 7,?_,?_⟩
  ·have Q:=i.get0 G
   exact⟨vc Q 0,vc Q 1,vc Q 2,vc Q 3,vc Q 4,vc Q 5⟩
  ·have I:=j.upd0 i
   have s6:=i.size;have z7:=bw b7;have hw:∀y,(W y∨y=z.size)→W y∨z.size≤y:=fun y o=>o.imp id fun e=>by omega
   refine CR (W:=fun y=>W y∨y=z.size) (i6.re i (fun _ h=>h.elim) hw) ((j.ts _ (j7 hO)).1.re i (fun _ h=>h.elim) hw) ((j.ts _ (j7 hT)).1.re i (fun _ h=>h.elim) hw) (fun y o=>o.elim (I.g.lt y) fun e=>by omega) fB fO fT P P P E L S1 S2 (fun e0 hc h8 sv os k=>?_) fun hc h8 C sv U os k=>?_
   ·refine⟨vc (I.upd0 k).blk 7,vc (I.upd0 k).blk 7,cn (c:=iH sY) (vs:=iH O.1) (k.get0 b7) rfl fun A t w=>aw.2 ?_⟩
    exact S g B Y q e0 hc A sv ((os.upd w fun y o e=>by have e:y=z.size:=e;omega).more fun y o=>by have:=F.size;omega) (F.tr ((i.tr k).own w (ai _)))
   ·refine⟨vc (I.upd0 k).blk 7,vc (I.upd0 k).blk 7,cn (c:=iH sY) (vs:=iH C) (k.get0 b7) rfl fun A t w=>ag.2 ?_⟩
    refine⟨_,vc t 0,_,vc t 1,_,vc t 2,_,vc t 3,_,vc t 4,_,vc t 5,?_⟩;refine fin B q z A C sv F ((i.tr k).own w (ai _)) hc (U.re (W':=W) w (fun y o=>.inl (.inr o)) fun y o=>.inl (.inl o)) ((os.upd w fun y o e=>by have e:y=z.size:=e;omega).more fun y o=>by omega)
end
end Go.Proofs
namespace Go.Proofs
open Go Go.Lift
section
variable {h:ad} {n m:ByteArray} {id p:Int} {s:SliceV} {t:Tr}
end
theorem Lq{n:ByteArray}(q:n.size≤1000000){h:ad}{K:Bool→ad→Prop}(d:K (oq n) h):fI 124 [.string n] K h:=by
 refine cW (Dj n) Mz Tryz.func124 Tryz.call124 ?_;dsimp only[Dj,Ga];have f:n.data.toList.length=n.size:=Array.length_toList;refine LoopP.ghost (fun(i:Nat) (t:Int) h'=>t=(i:Int)∧h'=h∧i≤n.size∧∀b∈n.data.toList.take i,uO b=true) (fun i=>n.size-i) 0 ⟨rfl,rfl,aN _,by simp⟩ ?_
 rintro I i t h' ⟨rfl,rfl,hi,g⟩ p;refine ao (fun c=>?_) fun o=>?_
 ·have c:i<n.size:=by omega
  have a:i<n.data.toList.length:=by omega
  have k:n[(i:Int).toNat]? =some n.data.toList[i]:=by
   rw[bf,getElem?_pos n i c];rfl
  refine Join.intro (fun t m=>t=(!uO n.data.toList[i])∧m=h') (fun R j=>⟨_,by omega,k,ao (fun e=>j _ _ ⟨?_,rfl⟩) fun e=>⟨_,by omega,k,j _ _ ⟨?_,rfl⟩⟩⟩) ?_
  ·unfold uO;rw[decide_eq_false (by omega:¬33≤n.data.toList[i].toNat)];rfl
  ·unfold uO;rw[decide_eq_true (by omega:33≤n.data.toList[i].toNat),ko,←decide_not,decide_eq_decide];omega
  ·rintro _ m ⟨rfl,rfl⟩
   refine CondP.intro (fun e=>?_) fun e=>?_
   ·rw[show oq n=false from ?_]at d
    ·exact d
    ·unfold oq
     rw[show n.data.toList.all uO=false from List.all_eq_false.2 ⟨_,aH a,by simpa using e⟩,Bool.and_false]
   ·rw[cp (n:=n.size) c (by omega)]
    refine p (i+1) _ _ ⟨rfl,rfl,by omega,?_⟩ (by omega)
    rw[av a];intro b hb;rcases aF.1 hb with hb|hb
    ·exact g b hb
    ·rw[al.1 hb];simpa using e
 ·have:i=n.size:=by omega
  subst this;rw[←f,bP]at g;refine ao (fun e=>?_) fun e=>?_
  ·rw[show oq n=decide ((n.size:Int)<33)from by unfold oq;rw[List.all_eq_true.2 g,decide_eq_true (by omega:1≤n.size),ko,Bool.and_true,decide_eq_decide];omega]at d
   exact d
  ·rw[show oq n=false from by unfold oq;rw[decide_eq_false (by omega:¬1≤n.size)];rfl]at d
   exact d
end Go.Proofs
namespace Go.Proofs
open Go Go.Lift
abbrev vZ(p:ByteArray×Int):List Value:= [.string p.1,.int .u32 p.2]
theorem rI(p:ByteArray×Int):(vZ p).length=2∧0<2:=⟨rfl,by omega⟩
theorem Fe:∀xs:zH,cx (xs.flatMap vZ)=true
 | []=>rfl
 |_::xs=>Fe xs
theorem Hd{h:ad}{ty:TypeId}{M W:Nat→Prop}{base a:Option Addr}{sl d b c:Nat}{out xs:zH}(i:OwnS vZ 2 ty M h ⟨base,sl,d⟩ out)(e:Sl vZ 2 W h ⟨a,b,c⟩ xs)(g:M h.size)(j:out.length+xs.length≤1000000){K:SliceV→ad→Prop}
  (f:∀s' h',OwnS vZ 2 ty M h' s' (out++xs)→Upd M h h'→K s' h'):∃v,SRow h a (b*2) v∧AppP (some [.string (⟨#[]⟩:ByteArray),.int .u32 0]) 2 24 ty base sl d b v h K:=
 ⟨_,e.srow,AppP.own i e.len rfl (Fe xs) rfl (by decide) (by omega) g f⟩
section
variable {W:Nat→Prop} {h:ad} {s:SliceV} {l:zH} {n:ByteArray} {id:Int}
theorem jZ(w:Sl vZ 2 W h s l)(J:l.length≤1000000){K:Int→ad→Prop}(g:∀i (hi:i<l.length),l[i].1=n→∀h',Upd No h h'→K (i:Int) h')(k:(∀p∈l,p.1≠n)→∀h',Upd No h h'→K (-1) h'):
  fH 75 [.slice s.a s.len s.cap,.string n] K h:=by
 refine cW (Gs s n) Oz Tryz.func75 Tryz.call75 ?_;dsimp only[Gs,nv,Ez,Rl,Mo,dR,cZ,jA,fQ,fY,bi];have G:=w.len;refine LoopP.ghost (fun(i:Nat) (t:Int) h'=>t=(i:Int)∧i≤l.length∧(∀j (f:j<l.length),j<i→l[j].1≠n)∧Upd No h h') (fun i=>l.length-i) 0 ⟨rfl,aN _,(fun j _ h=>by omega),Upd.refl _ _⟩ ?_
 rintro I i t q ⟨rfl,hi,u,d⟩ D;refine ao (fun b=>?_) fun y=>?_
 ·have b:i<l.length:=by omega
  obtain⟨a,C,_,hv⟩:=(w.upd d fun _ h=>h.elim).at (af b)
  refine⟨⟨by omega,by omega⟩,a,C,_,hv 0 _ rfl,_,hv 1 _ rfl,ba fun H x z=>cn (c:= [.string ⟨#[]⟩,.int .u32 0]) (vs:=vZ l[i]) x rfl fun v F B=>⟨_,vc F 0,?_⟩⟩
  have o:Upd No q v:=z.own B (ai _);rw[dI];refine ao (fun e=>g i b e v (d.tr o)) fun e=>?_
  rw[cp (n:=l.length) b (by omega)];refine D (i+1) _ _ ⟨rfl,b,fun j f E=>?_,d.tr o⟩ (by omega)
  by_cases A:j=i
  ·subst A;exact e
  ·exact u j f (by omega)
 ·exact k (fun p m=>by obtain⟨j,f,e⟩:=bD m;rw[←e];exact u j f (by omega)) q d
theorem Pn(x:Sl vZ 2 W h s l)(hc:s.len≤s.cap)(Q:l.length≤1000)(G:∀y,W y→y<h.size){K:SliceV×Int→ad→Prop}(t:∀i (_:i<l.length),l[i].1=n→∀h' s',Sl vZ 2 W h' s' (l.take i++l.drop (i+1))→s'.len≤s'.cap→Upd No h h'→K (s',0) h')(A:(∀p∈l,p.1≠n)→∀h',Upd No h h'→K (s,4) h'):
  G7 73 [.slice s.a s.len s.cap,.string n] K h:=by
 refine cW (Be s n) .nil Tryz.func73 Tryz.call73 ?_;dsimp only[Be,Ez,kR,l8,mN,D2];have H:=x.len;refine jZ x (by omega) (fun i hi e B v=>?_) fun u B v=>ao (fun _=>A u B v) fun h=>absurd (by omega) h
 have E:ac .i64 ((i:Int)+1)=((i+1:Nat):Int):=cp (n:=l.length) hi (by omega);rw[E];simp only[bf];refine ao (fun h=>absurd h (by omega)) fun _=>⟨⟨by omega,by omega⟩,⟨by omega,by omega⟩,?_⟩
 unfold Bd;refine ba fun C O D=>?_
 have a:=v.tr D;have WT:=a.size;have g:=x.upd a fun _ h=>h.elim
 refine Hd (M:=fun y=>C.size≤y) (out:= []) (OwnS.nil rI) (g.sub (l:=0) (hi:=i) (m:=s.cap) (c:=0) (aN _) (by omega) (by omega)) (ai _) (by simp;omega) fun P N L q=>?_
 have j:=g.upd (W:=W) (M:=fun y=>C.size≤y) q fun y z=>.inr z
 have hd:=j.sub (l:=i+1) (hi:=l.length) (m:=s.cap) (c:=0) hi (ai _) (by omega);rw[H];refine Hd L hd (by have:=q.size;omega) (by simp;omega) fun w d f o=>?_
 have k:Upd No h d:=(a.fresh q fun y z=>by omega).fresh o fun y z=>by omega
 refine t i hi e d w ?_ f.cap k;have:=f.sl (W:=W) fun b hb I F=>by have:=G b F;omega
 have J:(l.drop (i+1)).take (l.length-(i+1))=l.drop (i+1):=aS (by simp);rw[J]at this;simpa using this
theorem Po{xp xg:Nat}{L:cT}{nx:Int}(g:RefAt W h xg L nx){ob:Array Value}{ot:TypeId}(hx:h[xp]? =some (.cells ob ot (0,0))) (h5:ob[5]? =some (.pointer (some ⟨xg,0,none⟩))) (hL:L.length≤100000) (E:Sl vZ 2 W h s l) (hc:s.len≤s.cap) (hn:l.length≤1000) (hz:∀p∈l,p.1.size≤40) (hz2:n.size≤40) {B:zH} (r:NmR B l) (no:Bool) {K:SliceV×Int→ad→Prop}
  (hk:∀h' s',Sl vZ 2 W h' s' (if kS B L n id no=0 then Az l n id else l)→s'.len≤s'.cap→Upd No h h'→K (s',kS B L n id no) h'):
  G7 71 [gS xp,.slice s.a s.len s.cap,.string n,.int .u32 id,.bool no] K h:=by
 refine Q9 (some ⟨xp,0,none⟩) s n id no ?_;dsimp only[IA,cZ,Ez,Rl,sL,kJ,kR,jA,fQ,l8,mN,wJ,dg,cH];have hl:=E.len;have lB:=r.pm.length_eq;have hW:∀y,W y→y<h.size:=g.lt;have q:∀e h',kS B L n id no=e→e≠0→Upd No h h'→K (s,e) h':=fun e h' he h0 k=>by
  have:=hk h' s (by rw[he,if_neg h0];exact E.upd k fun _ h=>h.elim) hc k
  rw[he]at this;exact this
 refine Lq (by omega) (CondP.intro (fun e=>q 1 h ?_ (by decide) (Upd.refl _ _)) fun e=>?_)
 ·unfold kS;rw[if_pos (by simpa using e)]
 have e:¬oq n=false:=by simpa using e
 refine jZ E (by omega) (fun i hi ei h4 T=>ao (fun _=>q 7 h4 ?_ (by decide) T) fun h=>absurd (by omega) h) fun hno h4 T=>ao (fun h=>absurd h (by omega)) fun _=>?_
 ·have:=r.at hi
  unfold kS;rw[if_neg e,←ei,this];exact if_pos rfl
 have Q:¬(bC B n).isSome=true:=by rw[r.no hno];decide
 have g4:=g.upd0 T;refine Join.intro (fun t h'=>t=(no|| !decide (id=0∨id∈dF L))∧Upd No h4 h') (fun R F=>?_) ?_
 ·refine CondP.intro (fun en=>F _ _ ⟨by rw[en];rfl,Upd.refl _ _⟩) fun en=>CondP.intro (fun A=>⟨_,rfl,_,(vc (T.get0 hx) 5).trans h5,zX g4 (by omega) id fun m h9 k9 hm=>F _ _ ⟨?_,k9⟩⟩) fun A=>F _ _ ⟨?_,Upd.refl _ _⟩
  ·have A:id≠0:=by simpa using A
   rw[en,Bool.false_or,←decide_not,decide_eq_decide];constructor
   ·intro d hh
    have:=hm.2 (hh.resolve_left A);omega
   ·intro hh
    have:¬m≥0:=fun u=>hh (.inr (hm.1 u))
    omega
  ·have A:id=0:=by simpa using A
   rw[en,A];simp
 rintro t N ⟨rfl,k11⟩;have o:=T.tr k11;refine CondP.intro (fun Z=>q 4 N ?_ (by decide) o) fun Z=>ao (fun e4=>q 6 N ?_ (by decide) o) fun e4=>?_
 ·unfold kS;rw[if_neg e,if_neg Q,if_pos Z]
 ·unfold kS;rw[if_neg e,if_neg Q,if_neg (by rw[Z];decide),if_pos (by omega)]
 have e5:kS B L n id no=0:=by unfold kS;rw[if_neg e,if_neg Q,if_neg (by rw[Z];decide),if_neg (by omega)]
 rw[e5,if_pos rfl]at hk;refine LoopP.ghost (fun(i:Nat) (t:Int) h'=>t=(i:Int)∧i≤l.length∧(∀v∈l.take i,bI v.1.toList n.toList=true)∧Upd No h h') (fun i=>l.length-i) 0 ⟨rfl,aN _,by simp,o⟩ ?_
 rintro I i t h14 ⟨rfl,hi,hp,J⟩ hI;refine Join.intro (fun t h'=>(t=true↔∃hi:i<l.length,bI l[i].1.toList n.toList=true)∧Upd No h14 h') (fun R F=>?_) ?_
 ·refine ao (fun d=>?_) fun u=>F _ _ ⟨⟨fun h=>(by cases h),fun⟨hi,_⟩=>absurd (by omega) u⟩,Upd.refl _ _⟩
  have d:i<l.length:=by omega
  obtain⟨a,ha,_,hv⟩:=(E.upd J fun _ h=>h.elim).at (af d)
  refine⟨⟨by omega,by omega⟩,a,ha,_,hv 0 _ rfl,E8 (by have:=hz _ (aH d);omega) (F _ _ ⟨?_,Upd.refl _ _⟩)⟩
  rw[decide_eq_true_iff];exact⟨fun h=>⟨d,h⟩,fun⟨_,h⟩=>h⟩
 rintro t S ⟨ht,k21⟩;have j:=J.tr k21;refine CondP.intro (fun e6=>?_) fun e6=>?_
 ·obtain⟨d,hb⟩:=ht.1 e6
  rw[cp (n:=l.length) d (by omega)];refine hI (i+1) _ _ ⟨rfl,d,fun v hv=>?_,j⟩ (by omega)
  rw[av d]at hv;rcases aF.1 hv with hv|hv
  ·exact hp v hv
  ·rw[al.1 hv];exact hb
 ·obtain⟨et,ed⟩:=vt (p:=fun v:ByteArray×Int=>bI v.1.toList n.toList) l i hi hp fun d=>by
   cases hb:bI l[i].1.toList n.toList with
   |false=>rfl
   |true=>rw[ht.2 ⟨d,hb⟩]at e6;cases e6
  refine Join.plain ?_;refine ba fun h23 b23 z=>⟨⟨by omega,by omega⟩,?_⟩
  rw[bf,hl];have w:=j.tr z;have P:=E.upd w fun _ h=>h.elim
  refine Hd (M:=fun y=>S.size≤y) (out:= [(n,id)]) ((OwnS.one rI b23).more fun y x=>by obtain⟨_,a,ha,x⟩:=x;cases ha;exact cC x.symm) (P.sub (l:=i) (hi:=l.length) (m:=s.cap) (c:=0) hi (ai _) (by omega)) z.size (by simp;omega) fun s25 h26 V H=>?_
  have Q:(l.drop i).take (l.length-i)=l.drop i:=aS (by simp);rw[Q]at V;have s021:=j.size;have X:Upd No h h26:=w.fresh H fun y x=>by omega
  refine ba fun C b29 D=>⟨⟨by omega,by omega⟩,?_⟩
  have f:=X.tr D;have s029:=f.size;have O:=E.upd f fun _ h=>h.elim
  have k2129:Upd (fun y=>S.size≤y) h23 C:=H.tr D.wide
  have z23:=z.size;have o29:=V.upd D fun _ _ h=>h
  refine Hd (M:=fun y=>C.size≤y) (out:= []) (OwnS.nil rI) (O.sub (l:=0) (hi:=i) (m:=s.cap) (c:=0) (aN _) hi (by omega)) (ai _) (by simp;omega) fun s31 h32 o32 u32=>?_
  have hr:=(o29.sl (W:=fun y=>C.size≤y) fun b _ d u=>by omega).upd u32 fun y x=>.inl x
  refine Hd o32 (c:=s25.cap) hr (by have:=u32.size;omega) (by simp;omega) fun s34 G U u35=>?_
  have Y:Upd No h G:=(f.fresh u32 fun y x=>by omega).fresh u35 fun y x=>by omega
  refine hk G s34 ?_ U.cap Y;have:=U.sl (W:=W) fun b hb d hw=>by have:=hW b hw;omega
  unfold Az;rw[et,ed];simpa using this
end
end Go.Proofs
namespace Go.Proofs
open Go Go.Lift
theorem lX{W:Nat→Prop}{x:Hs}{h:ad}{kind:Int}{r:Rt}{l:List Pr}(i:RefIs W h kind x r l)(g:bM l)(q:Fit l)(p:l.length≤1000000)(k:ByteArray){K:Sd→ad→Prop}(j:∀h',Upd No h h'→K (xN (look l k)) h'):B8 130 [Ro r,.string k] K h:=by
 refine cW (II r k) .nil Tryz.func130 Tryz.call130 ?_;dsimp only[II,dt,dM,mL,kR,DD,wH,sS,bi,gI];refine ba fun u b1 k1=>ba fun w b2 m=>?_
 have a:=k1.tr m;obtain⟨s,rfl,o,_⟩:=i;refine⟨s,vc (m.get0 b1) 4,?_⟩;refine Pe (o.upd a fun _ h=>h.elim) g q p k fun v b d=>?_
 have e:xN (look l k)=(v,cy l k):=Pv g b d;rw[e]at j;refine cn (c:= [.string (⟨#[]⟩:ByteArray),.bool false]) (vs:=V9 (v,cy l k)) b2 rfl fun t n f=>?_
 exact⟨_,vc n 0,_,vc n 1,j t (a.own f k1.size)⟩
def DL(a l:List Pr):List Pr:=l.foldl (fun a p=>fG p a) a
theorem xS{a l:List Pr}{i:Nat}(hi:i<l.length):DL a (l.take (i+1))=fG l[i] (DL a (l.take i)):=by
 unfold DL;rw[av hi,List.foldl_append];rfl
theorem vA:∀{l a:List Pr},bM a→bM (DL a l)
 | [],_,h=>h
 |p::l,_,h=>vA (l:=l) (nI p h)
theorem xW{k:ByteArray}:∀{l a:List Pr},(look (DL a l) k).isSome=((look a k).isSome||(look l k).isSome)
 | [],a=>by rw[LN];simp[DL]
 |p::l,a=>by
  show(look (DL (fG p a) l) k).isSome=_
  rw[xW,Fs,eA];split
  ·simp
  ·rfl
def wO(B O T:List Pr):List Pr:=DL (DL (DL [] B) O) T
theorem wU{B O T:List Pr}:bM (wO B O T):=vA (vA (vA cf))
theorem Fp{B O T:List Pr}{k:ByteArray}(h:(look (wO B O T) k).isSome=false):look B k=none∧look O k=none∧look T k=none:=by
 unfold wO at h;rw[xW,xW,xW,LN]at h;simpa[and_assoc]using h
def FU(B O T:List Pr)(p:Int)(l:List Pr):List ByteArray:=(l.map (·.1)).filter fun k=> !(tk B O T p k).2
def zi(B O T:List Pr)(p:Int)(l:List Pr):List Pr:=l.filterMap fun q=>(tk B O T p q.1).1.map fun v=>(q.1,v)
theorem QP{B O T:List Pr}{p:Int}{l:List Pr}{i:Nat}(hi:i<l.length):FU B O T p (l.take (i+1))=FU B O T p (l.take i)++if(tk B O T p l[i].1).2 then[]else[l[i].1]:=by
 unfold FU;rw[av hi,cD,ci];congr 1
 rw[List.map_singleton,aR,gL];cases(tk B O T p l[i].1).2<;>rfl
def VJ(k:ByteArray)(o:Option ByteArray):List Pr:=(o.map fun v=>(k,v)).toList
theorem Qq{B O T:List Pr}{p:Int}{l:List Pr}{i:Nat}(hi:i<l.length):zi B O T p (l.take (i+1))=zi B O T p (l.take i)++VJ l[i].1 (tk B O T p l[i].1).1:=by
 unfold zi VJ;rw[av hi,List.filterMap_append];congr 1
theorem To{B O T:List Pr}{p:Int}{l:List Pr}:(FU B O T p l).length≤l.length:=aW (bF ..) (cC (bS ..))
theorem Sr{B O T:List Pr}{p:Int}{l:List Pr}:(zi B O T p l).length≤l.length:=List.length_filterMap_le ..
theorem Sq{B O T:List Pr}{p:Int}:∀{l:List Pr} {q:Pr},q∈zi B O T p l→∃r∈l,r.1=q.1:=by
 intro l q h;obtain⟨r,a,e⟩:=List.mem_filterMap.1 h;refine⟨r,a,?_⟩;cases ho:(tk B O T p r.1).1 with
 |none=>rw[ho]at e;cases e
 |some v=>rw[ho]at e;cases e;rfl
theorem E6{B O T:List Pr}{p:Int}:∀{l:List Pr},bM l→bM (zi B O T p l)
 | [],_=>cf
 |q::l,h=>by
  have h:=ay.1 h;have c:=E6 (B:=B) (O:=O) (T:=T) (p:=p) h.2;unfold zi at c⊢;rw[jm];split
  ·exact c
  ·rename_i b e
   cases ho:(tk B O T p q.1).1 with
   |none=>rw[ho]at e;cases e
   |some v=>
    rw[ho]at e;cases e;refine ay.2 ⟨fun r f=>?_,c⟩
    obtain⟨d,a,g⟩:=Sq f;show kl q.1 r.1
    rw[←g];exact h.1 d a
theorem HU{B O T:List Pr}{p:Int}{k:ByteArray}:∀{l:List Pr},bM l→look (zi B O T p l) k=if(look l k).isSome then(tk B O T p k).1 else none
 | [],_=>rfl
 |q::l,h=>by
  have h':=ay.1 h;have a:=HU (B:=B) (O:=O) (T:=T) (p:=p) (k:=k) h'.2;rw[eA];by_cases e:q.1=k
  ·subst e
   rw[if_pos rfl];have b:look l q.1=none:=w7 h'.1;rw[b]at a;show look (zi B O T p (q::l)) q.1=(tk B O T p q.1).1
   unfold zi at a⊢;rw[jm];cases ho:(tk B O T p q.1).1 with
   |none=>exact a
   |some v=>show look ((q.1,v)::_) q.1=_;rw[eA,if_pos rfl]
  ·rw[if_neg e,←a]
   unfold zi;rw[jm];cases ho:(tk B O T p q.1).1 with
   |none=>rfl
   |some v=>show look ((q.1,v)::_) k=_;rw[eA,if_neg e]
theorem NF{B O T:List Pr}{p:Int}(d:bM B)(c:bM O)(a:bM T):zi B O T p (wO B O T)=is B O T p:=by
 refine SF (E6 wU) (vB c) fun k=>?_
 rw[HU wU,Fq d a];cases hk:(look (wO B O T) k).isSome with
 |true=>rfl
 |false=>
  obtain⟨b,e,f⟩:=Fp hk;unfold tk rC;rw[b,e,f];rfl
theorem Oe{B O T:List Pr}{p:Int}(b:bM B)(a:bM T):FU B O T p (wO B O T)=ns B O T p:=by
 have c:=wU (B:=B) (O:=O) (T:=T);refine LP ?_ (Ur b a) fun k=>?_
 ·unfold FU
  exact List.Pairwise.sublist cX (fi.2 c)
 ·rw[SB b a]
  unfold FU;rw[bE];refine⟨fun h=>by simpa using h.2,fun h=>⟨?_,by rw[h];rfl⟩⟩
  cases hk:look (wO B O T) k with
  |some v=>exact aP.2 ⟨_,ly hk,rfl⟩
  |none=>
   obtain⟨f,d,e⟩:=Fp (B:=B) (O:=O) (T:=T) (k:=k) (by rw[hk];rfl);unfold tk at h;exact absurd (d.trans e.symm) (KV.1 h).1
theorem zm{W W':Nat→Prop}{h h':ad}{kind:Int}{x:Hs}{r q:Rt}{l l':List Pr}(j:RefIs W h kind x r l)(a:RefIs W' h' kind x q l'):CU r q=true:=by
 obtain⟨s,rfl,_⟩:=j;obtain⟨s',rfl,_⟩:=a;simp[CU]
end Go.Proofs
