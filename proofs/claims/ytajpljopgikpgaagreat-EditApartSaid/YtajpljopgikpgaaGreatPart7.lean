/- A part of the proof that the named laws of this program answer true, whatever the input. -/
import Derived.Test.YtajpljopgikpgaaGreatPart6
import Derived.Test.YtajpljopgikpgaaGreatPart2
import Derived.Test.YtajpljopgikpgaaGreatPart0
import Derived.Test.YtajpljopgikpgaaGreatPart4
import Derived.Test.YtajpljopgikpgaaGreatPart3
open ByteArray renaming size_extract→li
open List renaming cons_append→dd,take_append_drop→bB,length→gl,length_nil→cL,pairwise_append→cE,mem_append_left→fe,mem_append_right→fV,pairwise_singleton→dY,mem_append→bA,mem_singleton→ai,mem_cons→ar,length_append→af,size_toArray→co,append_nil→bO,length_cons→aL,flatMap_append→be,flatMap_cons→aJ,map_cons→fa,sum_cons→pm,length_map→j4,map_append→dP,sum_append→hH,take_succ_eq_append_getElem→cD,getElem_mem→bm,take_length→cP,flatten_append→dD,flatten_cons→dH,mem_of_getElem?→au,getElem?_of_mem→ff,getElem?_eq_some_iff→aP,getElem?_set_ne→iP
open List.Pairwise renaming nil→fq
open Nat renaming le_refl→aw,zero_add→aC,add_zero→dN,zero_le→bD,le_trans→bp
namespace Go.Proofs
open Go Go.Lift
theorem Jg{a b:ByteArray}:kl a b↔Op.bytesLess a.data.toList b.data.toList=true:=by unfold kl;rw[ByteArray.toList_eq,ByteArray.toList_eq]
theorem FB{a b:UInt8}{x y:List UInt8}:Op.bytesLess (a::x) (b::y)=true↔a.toNat<b.toNat∨(a=b∧Op.bytesLess x y=true):=by
 simp only[Op.bytesLess,Bool.or_eq_true,decide_eq_true_iff,Bool.and_eq_true,beq_iff_eq,UInt8.lt_iff_toNat_lt]
theorem Ik{x y:List UInt8}:∀pre:List UInt8,Op.bytesLess (pre++x) (pre++y)=true↔Op.bytesLess x y=true
 | []=>Iff.rfl
 |a::pre=>by rw[dd,dd,FB,Ik pre];simp
theorem Lr{x y:List UInt8}(h:Op.bytesLess x y=true)(hx:x≠[])(c:y≠[]):hd x≤hd y:=by
 match x,y,hx,c with
 |a::x,b::y,_,_=>
  show a.toNat≤b.toNat
  rcases FB.1 h with h|⟨rfl,_⟩<;>omega
abbrev ky(p:Pr):List UInt8:=p.1.data.toList
def L4(l:List Pr)(a k:List UInt8)(v:ByteArray):Prop:=∃p∈l,ky p=a++k∧p.2=v
structure Beg(l:List Pr)(pre:List UInt8):Prop where
 up:cq l
 at_:∀p∈l,(ky p).take pre.length=pre∧pre.length<(ky p).length
theorem Beg.sub{l l':List Pr}{a:List UInt8}(b:Beg l a)(h:l'.Sublist l):Beg l' a:=⟨b.up.sublist h,fun p c=>b.at_ p (h.subset c)⟩
theorem Beg.split{l:List Pr}{a:List UInt8}(b:Beg l a){p:Pr}(d:p∈l):ky p=a++(ky p).drop a.length∧(ky p).drop a.length≠[]:=by
 obtain⟨c,f⟩:=b.at_ p d;refine⟨?_,fun e=>?_⟩
 ·conv=>lhs;rw[←bB a.length (ky p),c]
 ·have:=congrArg gl e
  rw[List.length_drop,cL]at this;omega
def bt(n:Nat)(p:Pr):Nat:=hd ((ky p).drop n)
theorem Beg.mono{A B:List Pr}{a:List UInt8}(b:Beg (A++B) a){x y:Pr}(hx:x∈A)(c:y∈B):bt a.length x≤bt a.length y:=by
 have h:=(cE.1 b.up).2.2 x hx y c;rw[Jg]at h;obtain⟨g,e⟩:=b.split (fe B hx);obtain⟨f,d⟩:=b.split (fV A c);change Op.bytesLess (ky x) (ky y)=true at h;rw[g,f,Ik]at h;exact Lr h e d
structure Row(L:List Bn)(D T:List Pr)(pre:List UInt8):Prop where
 can:∀n∈L,GG n
 up:L.Pairwise fun m n=>hd m.1<hd n.1
 lo:∀n∈L,∀p∈T,hd n.1<bt pre.length p
 got:∀k v,(∃n∈L,pj n k v)↔L4 D pre k v
theorem Row.nil(T:List Pr)(a:List UInt8):Row [] [] T a:=⟨fun n h=>(by cases h),fq,fun n h=>(by cases h),fun k v=>⟨fun⟨n,h,_⟩=>(by cases h),fun⟨p,h,_⟩=>(by cases h)⟩⟩
theorem Row.more{L:List Bn}{D A B:List Pr}{c:List UInt8}{n:Bn}{p:Pr}(r:Row L D (A++B) c)(t:Beg (A++B) c)(s:p∈A)(C:∀a∈A,bt c.length a=bt c.length p)(u:∀b f,B=b::f→bt c.length b≠bt c.length p)(hc:GG n)(o:hd n.1=bt c.length p)(j:∀k v,pj n k v↔L4 A c k v):Row (L++ [n]) (D++A) B c:=by
 refine⟨fun m hm=>?_,cE.2 ⟨r.up,dY ..,fun a w b x=>?_⟩,fun m hm q d=>?_,fun k v=>?_⟩
 ·rcases bA.1 hm with hm|hm
  ·exact r.can m hm
  ·rw[ai.1 hm];exact hc
 ·rw[ai.1 x,o]
  exact r.lo a w p (fe _ s)
 ·rcases bA.1 hm with hm|hm
  ·exact r.lo m hm q (fV _ d)
  ·rw[ai.1 hm,o]
   rcases B with _|⟨i,f⟩
   ·cases d
   have y:=u i f rfl;have z:=t.mono s (List.mem_cons_self (a:=i) (l:=f));rcases ar.1 d with rfl|d
   ·omega
   ·have g:Beg ([i]++f) c:=t.sub (List.sublist_append_right A _)
    have:=g.mono (ai.2 rfl) d;omega
 ·constructor
  ·rintro⟨m,hm,hi⟩
   rcases bA.1 hm with hm|hm
   ·obtain⟨q,d,e⟩:=(r.got k v).1 ⟨m,hm,hi⟩
    exact⟨q,fe _ d,e⟩
   ·rw[ai.1 hm]at hi
    obtain⟨q,d,e⟩:=(j k v).1 hi;exact⟨q,fV _ d,e⟩
  ·rintro⟨q,d,e⟩
   rcases bA.1 d with d|d
   ·obtain⟨m,hm,hi⟩:=(r.got k v).2 ⟨q,d,e⟩
    exact⟨m,fe _ hm,hi⟩
   ·exact⟨n,fV _ (ai.2 rfl),(j k v).2 ⟨q,d,e⟩⟩
theorem Row.done{L:List Bn}{D:List Pr}{a:List UInt8}(r:Row L D [] a):dS (.ofL L)∧∀k v,l6 (.ofL L) k v↔L4 D a k v:=by
 refine⟨dt.2 ?_,fun k v=>?_⟩
 ·rw[Fo.to_of];exact⟨r.up,r.can⟩
 ·rw[dL,Fo.to_of];exact r.got k v
end Go.Proofs
namespace Go.Proofs
open Go Go.Lift
theorem Kid.less{W W':Nat→Prop}{h:ae}(hm:∀b,W' b→W b∨h.size≤b){a:Option Addr}{n:Bn}:Kid W h a n→Kid W' h a n
 |⟨b,sl,e1,e2,e3⟩=>⟨b,sl,e1,e2,e3.less hm⟩
theorem Kid.updM{W M:Nat→Prop}{h c:ae}(k:Upd M h c)(hm:∀b,M b→W b∨h.size≤b){a:Option Addr}{n:Bn}:Kid W h a n→Kid W c a n
 |⟨b,sl,e1,e2,e3⟩=>⟨b,sl,e1,e2,e3.updM k hm⟩
theorem RxL.less{W W':Nat→Prop}{h:ae}(hm:∀b,W' b→W b∨h.size≤b){ks:List (Option Addr)}{L:List Bn}(r:RxL W h ks L):RxL W' h ks L:=⟨r.1,fun p a=>(r.2 p a).less hm⟩
theorem RxL.updM{W M:Nat→Prop}{h a:ae}(k:Upd M h a)(hm:∀b,M b→W b∨h.size≤b){ks:List (Option Addr)}{L:List Bn}(r:RxL W h ks L):RxL W a ks L:=⟨r.1,fun p c=>(r.2 p c).updM k hm⟩
end Go.Proofs
namespace Go.Proofs
open Go Go.Lift
theorem vp{h:ae}{t:Tr}{k:ae→Prop}(d:∀h',h'[h.size]? =some (.cells (fA t).toArray az (0,0))→Upd No h h'→k h'):
  At (hnew h (fA xj) az) (fun a=>ph a (some (aU h)) 0 (fA t)∧At (fi a (aU h) 0 (fA t)) k):=
 bi fun a b1 k1=>dy (c:=fA xj) (vs:=fA t) b1 rfl fun e b2 b=>d e b2 (k1.own b (aw _))
end Go.Proofs
namespace Go.Proofs
open Go Go.Lift
theorem IW{h:ae}{b n:Nat}{t:TypeId}{c d vs:List Value}(a:h[b]? =some (.cells (c++d).toArray t (0,0))) (f:c.length=n) (m:vs.length=d.length) {k:ae→Prop}
  (g:∀h',h'[b]? =some (.cells (c++vs).toArray t (0,0))→Upd (· =b) h h'→k h'):ph h (some (adr ⟨b,0,none⟩ n)) 0 vs∧At (fi h (adr ⟨b,0,none⟩ n) 0 vs) k:=by
 rw[bC,aC];have e:=f7 vs h 0 n (c++d) a (by rw[af];omega);refine⟨.inr ⟨_,rfl,fun j i=>by rw[bC];exact gL a (by rw[co,af];omega)⟩,bG ?_⟩
 rw[e];refine g _ ?_ (Upd.set h _ rfl);rw[iY a];congr 3
 subst f;rw[dN,List.take_left,List.drop_eq_nil_of_le (by rw[af];omega),bO]
abbrev edL(pb tb:Nat)(t:Tr):List Value:= [.pointer (some ⟨pb,0,none⟩),.pointer (some ⟨tb,0,none⟩)]++fA t
def EdAt(h:ae)(eb pb tb:Nat)(t:Tr):Prop:=h[eb]? =some (.cells (edL pb tb t).toArray wm (0,0))
theorem Hz{h:ae}{tb pb:Nat}{ti:Int}{a:Bool}(k:TokAt h tb pb ti a){K:Bool→ae→Prop}(b:K a h):HC PG dk [.pointer (some ⟨tb,0,none⟩)] [.c .bool] K h:=by
 refine ue k.by_ ?_;cases a<;>exact b
theorem CO{h:ae}{eb pb tb:Nat}{t:Tr}{ti:Int}{a:Bool}(e:EdAt h eb pb tb t)(k:TokAt h tb pb ti a){K:Bool→ae→Prop}(b:K (!a) h):HC PG kh [.pointer (some ⟨eb,0,none⟩)] [.c .bool] K h:=by
 refine tE _ ?_;unfold nJ gd;exact aA.2 ⟨_,rfl,_,vc e 1,Hz k b⟩
theorem rI{h:ae}{eb pb tb:Nat}{t:Tr}{ti:Int}{a:Bool}(e:EdAt h eb pb tb t)(k:TokAt h tb pb ti a){K:Int→ae→Prop}(b:K (if a then 0 else 5) h):HC PG gw [.pointer (some ⟨eb,0,none⟩)] [.c (.int .i64)] K h:=by
 refine vV _ ?_;unfold pQ;refine ak.2 (CO e k ?_);cases a
 ·exact aA.2 b
 ·exact ak.2 b
theorem EdAt.upd{M:Nat→Prop}{h a:ae}{eb pb tb:Nat}{t:Tr}(e:EdAt h eb pb tb t)(k:Upd M h a)(hm:¬M eb):EdAt a eb pb tb t:=k.get e hm
theorem TokAt.upd{M:Nat→Prop}{h b:ae}{tb pb:Nat}{ti:Int}{a:Bool}(e:TokAt h tb pb ti a)(k:Upd M h b)(hm:¬M tb):TokAt b tb pb ti a:=k.get e hm
theorem HV.mono{P:Program}{V:Value}{args:List Value}{ks:List Kind}{K a:qn ks→ae→Prop}{h:ae}{f:FuncId}{cap:Array Value}(e:V=.func (.func f) #[] cap)(hc:HC P f (args++cap.toList) ks K h)(b:∀t h',K t h'→a t h'):HV P V args ks a h:=by
 subst e;exact HV.mk' (by simpa using hc.mono b)
abbrev JT:List Kind:= [.agg [.int .i64,.int .u64,.int .u64,.int .u64,.ptr,.ptr],.c (.int .i64)]
theorem wH{h:ae}{eb pb tb:Nat}{tu:Tr}{f:FuncId}{cap:Array Value}(e:EdAt h eb pb tb tu){K:Int→ae→Prop}
  (hc:HC PG f ([.pointer (some ⟨tb,0,none⟩)]++cap.toList) JT (fun(z:Tr×Int) j=>EdAt j eb pb tb tu∧∀i,Upd No j i→((z.2=0→∀h',EdAt h' eb pb tb z.1→Upd (· =eb) i h'→K 0 h')∧(z.2≠0→K z.2 i))) h):HC PG gP [.pointer (some ⟨eb,0,none⟩),.func (.func f) #[] cap] [.c (.int .i64)] K h:=by
 refine tD _ _ ?_;unfold nI aZ ag gd ay BO nv rB wd pU Ki;refine⟨_,rfl,_,vc e 1,HV.mono rfl hc fun(z:Tr×Int) j hz=>?_⟩
 obtain⟨p,hz⟩:=hz;refine bi fun i q v=>dy (c:=fA xj) (vs:=fA z.1) q rfl fun s b k=>?_
 have g:=v.own k (aw _);obtain⟨n,m⟩:=hz s g;refine CondP.intro (fun a=>?_) fun a=>?_
 ·have a:z.2=0:=by simpa using a
  refine⟨_,vc b 0,_,vc b 1,_,vc b 2,_,vc b 3,_,vc b 4,_,vc b 5,_,rfl,?_⟩;refine IW (c:= [.pointer (some ⟨pb,0,none⟩),.pointer (some ⟨tb,0,none⟩)]) (d:=fA tu) (vs:=fA z.1) (p.upd g id) rfl rfl fun t u o=>?_
  rw[a];exact n a t u o
 ·exact m (by simpa using a)
structure EdO(W S:Nat→Prop)(h:ae)(eb pb tb:Nat)(ti:Int)(kind:Int)(x:Hs)(tu:Tr)(lu:List Pr):Prop where
 ed:EdAt h eb pb tb tu
 tk:TokAt h tb pb ti true
 iu:TreeO (some ⟨tb,0,none⟩) (fun y=>W y∨S y) h kind x tu lu S
 lt:∀y,(W y∨S y)→y<h.size
 we:W eb
 wt:W tb
 ap:∀y,S y→¬W y
 up:cq lu
 fit:Fit lu
theorem EdO.can{W S:Nat→Prop}{h:ae}{eb pb tb:Nat}{ti:Int}{b:Int}{x:Hs}{tu:Tr}{lu:List Pr}(e:EdO W S h eb pb tb ti b x tu lu):Can (some ⟨tb,0,none⟩) (some ⟨tb,0,none⟩) (fun y=>W y∨S y) S h:=
 ⟨e.tk.by_,e.lt,fun y c=>.inr c,fun a h=>by cases h;exact .inl e.wt,fun a h d=>by cases h;exact e.ap _ d e.wt⟩
theorem EdO.fin{W S k:Nat→Prop}{h m o v C i:ae}{eb pb tb b:Nat}{ti:Int}{d:Int}{x:Hs}{tu g:Tr}{lu f:List Pr}(e:EdO W S h eb pb tb ti d x tu lu)(B:Upd No h m)(A:Upd S m o)(J:TreeO (some ⟨tb,0,none⟩) (fun y=>Pro (fun y=>W y∨S y) h m y∨k y) o d x g f k)(j:∀y,k y→(S y∨m.size≤y)∧y<o.size)
  (p:Upd (· =b) o v)(H:h.size≤b)(K:b<m.size)(t:Upd No v C)(F:EdAt i eb pb tb g)(q:Upd (· =eb) C i)(up:cq f)(fit:Fit f):EdO W k i eb pb tb ti d x g f∧Upd (fun y=>S y∨y=eb) h i∧∀y,k y→(S y∨h.size≤y)∧y<i.size:=by
 have L:=B.size;have N:=A.size;have M:=p.size;have P:=t.size;have O:=q.size;have s:∀y,S y→y<h.size:=fun y c=>e.lt y (.inr c)
 have I:=e.lt _ (.inl e.we);have G:=e.lt _ (.inl e.wt);have u:∀{z},W z→¬k z:=fun n h=>by
  rcases(j _ h).1 with h|h
  ·exact e.ap _ h n
  ·have:=e.lt _ (.inl n);omega
 have w:Upd (fun y=>S y∨y=eb) h i:=(((B.wide.tr (A.mono fun y c=>.inl (.inl c))).trans p fun y c=>.inr (by have c:y=b:=c;omega)).tr t.wide).trans q fun y c=>.inl (.inr c)
 have D:=J.loc p H K s j;have E:=(D.upd0 t).upd q (fun y c=>by have:=(j y c).2;omega) fun y c=>by
  have c:y=eb:=c;subst c;exact .inl ⟨.inl (.inl (.inl e.we)),u e.we⟩
 refine⟨⟨F,e.tk.upd w fun h=>?_,E.less fun y c=>.inl (c.imp (fun h=>.inl (.inl h)) id),fun y c=>c.elim (fun h=>?_) fun h=>?_,e.we,e.wt,fun y c n=>u n c,up,fit⟩,w,fun y c=>⟨(j y c).1.imp id fun h=>by omega,by have:=(j y c).2;omega⟩⟩
 ·rcases h with h|h
  ·exact e.ap _ h e.wt
  ·have a:=e.tk
   rw[h]at a;have a:=a.symm.trans e.ed;simp at a
 ·have:=e.lt y (.inl h);omega
 ·have:=(j y h).2;omega
set_option maxHeartbeats 1000000 in
theorem CN{W S:Nat→Prop}{h:ae}{eb pb tb:Nat}{ti:Int}{f:Int}{x:Hs}{tu:Tr}{lu:List Pr}(e:EdO W S h eb pb tb ti f x tu lu)(P:lu.length≤1000000)(p:Pr){K:Int→ae→Prop}
  (v:∀n a q,EdO W q n eb pb tb ti f x a (lw lu p)→Upd (fun y=>S y∨y=eb) h n→(∀y,q y→(S y∨h.size≤y)∧y<n.size)→K (AO p) n)(g:Fit (lw lu p)):HC PG ez [.pointer (some ⟨eb,0,none⟩),.agg #[.string p.1,.string p.2]] [.c (.int .i64)] K h:=by
 refine qD _ p ?_;unfold mI tW;refine bi fun Z b1 k1=>bi fun h2 b2 A=>?_
 have X:=aG b1;have z2:=aG b2;have T:=k1.size;have Y:=A.size;have c1:=A.get0 b1;have d:=k1.tr A;refine⟨_,vc c1 0,rI (e.ed.upd d id) (e.tk.upd d id) (ak.2 ⟨_,vc c1 0,?_⟩)⟩;refine wH (e.ed.upd d id) (uI _ _ _ ?_);unfold oT wy aZ ag dQ gd ay bQ fH rB wg pq pU;refine bi fun V b3 D=>?_
 have F:=aG b3;have b:=d.tr D;have j:=e.ed.upd b id;have G:=D.get0 b2;have J:=D.get0 c1;refine⟨_,vc J 0,_,rfl,_,qv j 2 0,_,qv j 2 1,_,qv j 2 2,_,qv j 2 3,_,qv j 2 4,_,qv j 2 5,p.1,vc G 0,p.2,vc G 1,?_⟩;have t:∀y,S y→y<h.size:=fun y Q=>e.lt y (.inr Q)
 refine zH (e.iu.pro b) (e.can.pro b) e.up P p fun h4 a q m H u L=>?_
 have U:=m.size;refine⟨vc (m.get J fun s=>by have:=t _ s;omega) 0,?_⟩
 refine dy (c:=fA xj) (vs:=fA a) (m.get b3 fun s=>by have:=t _ s;omega) rfl fun N k i=>?_
 refine⟨_,vc k 0,_,vc k 1,_,vc k 2,_,vc k 3,_,vc k 4,_,vc k 5,?_⟩;have I:EdAt N eb pb tb tu:=(j.upd m fun s=>e.ap _ s e.we).upd i (by have:=e.lt _ (.inl e.we);omega)
 have o:cq (lw lu p):=by
  unfold lw;split
  ·exact vj p e.up
  ·exact e.up
 refine⟨I,fun R B=>⟨fun hz n O w=>?_,fun hz=>?_⟩⟩
 ·obtain⟨E,z,C⟩:=e.fin b m H u i (by omega) F B O w o g
  have hz:AO p=0:=hz;rw[hz]at v;exact v n a q E z C
 ·have hz:AO p≠0:=hz
  have M:=L hz;subst M;obtain⟨E,z,C⟩:=e.fin b m H u i (by omega) F B (I.upd B id) (Upd.refl _ _) o g;exact v R a q E z C
end Go.Proofs
namespace Go.Proofs
open Go Go.Lift
theorem Dq{W:Nat→Prop}{h:ae}{b:Nat}{sl:ByteArray}{w:Option ByteArray}{F:Fo}(r:RxN W h b sl w F){K:ByteArray×Bool→ae→Prop}(c:∀v,(∀u,w=some u→v=u)→K (v,w.isSome) h):HC PG kf [.pointer (some ⟨b,0,none⟩)] [.c .str,.c .bool] K h:=by
 refine tA _ ?_;unfold nF bQ ii;obtain⟨val,s,ow,ks,a,hv,_⟩:=r;exact ak.2 ⟨_,rfl,val,c5 (i:=2) a,_,rfl,w.isSome,c5 (i:=1) a,c val (vw hv)⟩
theorem FU{W:Nat→Prop}{h:ae}{b:Nat}{sl:ByteArray}{w:Option ByteArray}{F:Fo}(r:RxN W h b sl w F)(m:F.toL.length≤256){K:SliceV→ae→Prop}(k:∀s' a ks,OwnS jW 1 aE (fun y=>h.size≤y) a s' ks→RxL W a ks F.toL→Upd No h a→K s' a):HC PG kR [.pointer (some ⟨b,0,none⟩)] [.c .slice] K h:=by
 refine uB _ ?_;unfold oJ bL;obtain⟨val,s,ow,ks,g,hv,f,_,j⟩:=r;have d:=p6.1 j;refine ak.2 ⟨_,rfl,s,c5 (i:=3) g,?_⟩;refine Ar f (by rw[d.1];omega) fun s' a e c=>k s' a ks e (d.upd0 c) c
theorem F7(lab:List UInt8)(w:Option ByteArray)(a b:Fo):sP (.cons lab w a b)=((w.map fun v=>(([]:List UInt8),v)).toList++sP a).map (fun p=>(lab++p.1,p.2))++sP b:=rfl
end Go.Proofs
namespace Go.Proofs
open Go Go.Lift
end Go.Proofs
namespace Go.Proofs
open Go Go.Lift
end Go.Proofs
namespace Go.Proofs
open Go Go.Lift
end Go.Proofs
namespace Go.Proofs
end Go.Proofs
namespace Go.Proofs
open Go Go.Lift
def wl(x:Hs):Nat→List Pr→List Pr
 |0,l=>l
 |m+1,l=>gc x (12-m) l++(kA x (12-m) l).flatMap (wl x m)
def cw(x:Hs):Nat→List Pr→Nat
 |0,_=>2
 |m+1,l=>2+((kA x (12-m) l).map (cw x m)).sum
structure Fr where
 sp:SliceV
 sk:SliceV
 n:Nat
 ps:List Pr
 ks:List (Nat×List Pr)
def Fr.raw(f:Fr):SliceV×SliceV:=(f.sp,f.sk)
def Fr.rem(x:Hs)(f:Fr):List Pr:=f.ps++f.ks.flatMap fun k=>wl x (f.n-1) k.2
theorem setCell{α:Type}{f:α→List Value}{c:Nat}{t:TypeId}{M:Nat→Prop}{h:ae}{s:SliceV}{P Q:List α}{x y:α}{j:Nat}{v:Value}(n:OwnS f c t M h s (P++x::Q))(H:j<c)(D:f y=(f x).set j v){a:Addr}(A:s.a=some a){i:Nat}(hi:i=P.length){G:ae→Prop}(B:∀m,OwnS f c t M m s (P++y::Q)→Upd M h m→G m):
  Wr h (adr (adr a (i*c)) j)∧At (hset h (adr (adr a (i*c)) j) v) G:=by
 subst hi;have u:=n.ne;have e:=n.len;have g:=n.cap;rcases n.blk with F|⟨b,d,k,w,hc,C⟩
 ·rw[af,aL]at e;omega
 rw[A]at k;cases k;have I:(P.flatMap f).length=P.length*c:=gQ u P;rw[be,aJ]at hc;have J:=(u x).1;have E:adr (adr ⟨b,0,none⟩ (P.length*c)) j=⟨b,P.length*c+j,none⟩:=by rw[bC,bC,aC]
 rw[E];have p:P.length*c+j<(P.flatMap f++(f x++Q.flatMap f)++d).toArray.size:=by
  simp only[co,af];omega
 refine⟨gL hc p,vI hc fun m q o=>B m ⟨by rw[e];simp,u,g,.inr ⟨b,d,A,w,?_,C⟩⟩ (o.mono fun z hz=>.inl (by have hz:z=b:=hz;rw[hz];exact w))⟩
 rw[q];congr 3
 rw[be,aJ,D];apply Array.toList_inj.1;rw[Array.toList_setIfInBounds];simp only[List.append_assoc];rw[List.set_append_right _ _ (by omega),show P.length*c+j-(P.flatMap f).length=j by omega,List.set_append_left _ _ (by omega)]
end Go.Proofs
namespace Go.Proofs
open Go Go.Lift
end Go.Proofs
namespace Go.Proofs
open Go Go.Lift
def Below(W:Nat→Prop)(x:Hs)(h:ae)(m:Nat)(r:Option Addr)(l:List Pr):Prop:=(r=none∧l= [])∨∃b,r=some ⟨b,0,none⟩∧TrieAt W x h m b l
theorem Below.upd0{W:Nat→Prop}{x:Hs}{h a:ae}{m:Nat}{r:Option Addr}{l:List Pr}(k:Upd No h a)(t:Below W x h m r l):Below W x a m r l:=t.imp id fun⟨b,e,t⟩=>⟨b,e,TrieAt.upd0 k t⟩
theorem Below.less{W W':Nat→Prop}{x:Hs}{h:ae}{m:Nat}{r:Option Addr}{l:List Pr}(hm:∀b,W' b→W b∨h.size≤b)(t:Below W x h m r l):Below W' x h m r l:=t.imp id fun⟨b,e,t⟩=>⟨b,e,TrieAt.less hm t⟩
theorem Below.updM{W M:Nat→Prop}{x:Hs}{h a:ae}{m:Nat}{r:Option Addr}{l:List Pr}(k:Upd M h a)(hm:∀b,M b→W b∨h.size≤b)(t:Below W x h m r l):Below W x a m r l:=t.imp id fun⟨b,e,t⟩=>⟨b,e,TrieAt.updM k hm t⟩
end Go.Proofs
namespace Go.Proofs
open Go Go.Lift
end Go.Proofs
namespace Go.Proofs
open Go Go.Lift
end Go.Proofs
namespace Go.Proofs
open Go Go.Lift
end Go.Proofs
namespace Go.Proofs
open Go Go.Lift
end Go.Proofs
namespace Go.Proofs
open Go Go.Lift
end Go.Proofs
namespace Go.Proofs
open Go Go.Lift
theorem Cl:∀F:Fo,(sP F).length=(F.toL.map fun n=>(ll n.2.1 n.2.2).length).sum
 | .nil=>rfl
 | .cons lab w kids rest=>by
  rw[F7,Fo.toL_cons,fa,pm,←Cl rest,af,j4];rfl
def KO(n:Bn):Prop:=∀{W:Nat→Prop} {h:ae} {b:Nat} {sl:ByteArray},RxN W h b sl n.2.1 n.2.2→(ll n.2.1 n.2.2).length≤1000000000→∀{K:Int→ae→Prop},(∀h',Upd No h h'→K (((ll n.2.1 n.2.2).length:Nat):Int) h')→HC PG oo [.pointer (some ⟨b,0,none⟩)] [.c (.int .i64)] K h
theorem Ff{lab:List UInt8}{w:Option ByteArray}{F:Fo}(O:F.toL.length≤256)(M:∀n∈F.toL,KO n):KO (lab,w,F):=by
 intro W h b sl r L K D;simp only at r L D;refine C0 (some ⟨b,0,none⟩) ?_;unfold wS cG f6;have j:(ll w F).length=(w.map fun v=>(([]:List UInt8),v)).toList.length+(F.toL.map fun n=>(ll n.2.1 n.2.2).length).sum:=by
  rw[←Cl,←af];rfl
 refine Join.intro (fun t H=>t=(((w.map fun v=>(([]:List UInt8),v)).toList.length:Nat):Int)∧H=h) (fun R E=>?_) ?_
 ·refine Dq r fun v _=>?_
  cases w with
  |none=>exact ak.2 (E _ _ ⟨rfl,rfl⟩)
  |some u=>exact aA.2 (E _ _ ⟨rfl,rfl⟩)
 ·rintro t H ⟨rfl,rfl⟩
  generalize (w.map fun v=>(([]:List UInt8),v)).toList.length=c0 at j
  refine FU r O fun o s ks p g k1=>?_
  have d:Sl jW 1 No s o ks:=p.sl fun _ _ _ h=>h
  have f:=d.len;rw[g.1]at f;refine LoopP.ghost (fun(i:Nat) (t:Int×Int) y=>t.1=((c0+((F.toL.take i).map fun n=>(ll n.2.1 n.2.2).length).sum:Nat):Int)∧t.2=(i:Int)∧i≤F.toL.length∧Upd No s y) (fun i=>F.toL.length-i) 0 ⟨by simp,rfl,bD _,Upd.refl _ _⟩ ?_
  rintro I i ⟨U,ti⟩ y ⟨C,G,hi,k⟩ P;simp only at C G;subst C G;have z:∀i,((F.toL.take i).map fun n=>(ll n.2.1 n.2.2).length).sum≤(F.toL.map fun n=>(ll n.2.1 n.2.2).length).sum:=fun i=>by
   conv=>rhs;rw[←bB i F.toL,dP,hH]
   omega
  refine bf (fun c=>?_) fun m=>?_
  ·have c:i<F.toL.length:=by have:(i:Int)<(o.len:Int):=c;omega
   obtain⟨N,J,B,_,q⟩:=(g.upd0 k).at c;obtain⟨a,Q,_,hv⟩:=(d.upd k fun _ h=>h.elim).at0 B
   refine⟨⟨by simp only;omega,by simp only;omega⟩,a,Q,some ⟨N,0,none⟩,hv,?_⟩
   have S:((F.toL.take (i+1)).map fun n=>(ll n.2.1 n.2.2).length).sum=((F.toL.take i).map fun n=>(ll n.2.1 n.2.2).length).sum+(ll F.toL[i].2.1 F.toL[i].2.2).length:=by
    rw[cD c,dP,hH];simp
   have s:=z (i+1);refine M _ (bm c) q (by omega) fun T A=>?_
   rw[fY c (by omega)];have e:IntKind.wrap .i64 (((c0+((F.toL.take i).map fun n=>(ll n.2.1 n.2.2).length).sum:Nat):Int)+((ll F.toL[i].2.1 F.toL[i].2.2).length:Int))=((c0+((F.toL.take (i+1)).map fun n=>(ll n.2.1 n.2.2).length).sum:Nat):Int):=by
    rw[nT (by omega)];omega
   rw[e];exact P (i+1) _ _ ⟨rfl,rfl,c,k.tr A⟩ (by omega)
  ·have x:i=F.toL.length:=by have:¬(i:Int)<(o.len:Int):=m;omega
   subst x;rw[cP,←j];exact D y (k1.tr k)
theorem yj:∀{F:Fo},dS F→∀n∈F.toL,KO n
 | .nil,_,n,a=>by simp[Fo.toL]at a
 | .cons lab w kids rest,h,n,a=>by
  rcases ar.1 a with rfl|a
  ·exact Ff (j2 h.2.2.1) (yj h.2.2.1)
  ·exact yj h.2.2.2.2 n a
theorem G6{W:Nat→Prop}{x:Hs}{h:ae}{t:Tr}{l:List Pr}(i:TreeIs W h 1 x t l)(j:cq l)(p:l.length≤60000){K:Int→ae→Prop}(n:∀h',Upd No h h'→K (l.length:Int) h'):HC PG gY [EX t] [.c (.int .i64)] K h:=by
 refine qA t ?_;unfold mF aZ ay pU;rcases i with⟨e,_⟩|⟨_,b,rfl,t⟩
 ·cases e
 refine bi fun o b1 k1=>⟨_,vc b1 0,aA.2 ⟨_,vc b1 5,?_⟩⟩
 obtain⟨w,F,f,c,d⟩:=(t.upd0 k1).ex;have m:=E3 c j d;have a:=congrArg gl m;unfold FL at a;rw[j4]at a;refine Ff (lab:= []) (j2 c) (yj c) f (by simp only;omega) fun k g=>?_
 simp only;rw[a];exact n k (k1.tr g)
end Go.Proofs
namespace Go.Proofs
open Go Go.Lift
end Go.Proofs
namespace Go.Proofs
open Go Go.Lift
abbrev Rt:=Int×Int×Int×Int×SliceV
abbrev GN(r:Rt):List Value:= [.int .i64 r.1,.int .u64 r.2.1,.int .u64 r.2.2.1,.int .u64 r.2.2.2.1,.slice r.2.2.2.2.a r.2.2.2.2.len r.2.2.2.2.cap]
abbrev Ly:Rt:=(0,0,0,0,⟨none,0,0⟩)
def hx(a v:Int):Int:=if a=0 then v else 0
def RefIs(W:Nat→Prop)(h:ae)(a:Int)(x:Hs)(r:Rt)(l:List Pr):Prop:=∃s,r=(a,hx a x.k0,hx a x.k1,hx a x.mask,s)∧Sl gz 2 W h s l∧s.len≤s.cap
theorem RefIs.upd0{W:Nat→Prop}{h b:ae}{a:Int}{x:Hs}{r:Rt}{l:List Pr}(k:Upd No h b)(i:RefIs W h a x r l):RefIs W b a x r l:=
 let⟨s,e,c⟩:=i;⟨s,e,c.1.upd k fun _ h=>h.elim,c.2⟩
theorem RefIs.less{W W':Nat→Prop}{h:ae}(hm:∀b,W' b→W b∨h.size≤b){a:Int}{x:Hs}{r:Rt}{l:List Pr}(i:RefIs W h a x r l):RefIs W' h a x r l:=
 let⟨s,e,c⟩:=i;⟨s,e,c.1.less hm,c.2⟩
theorem RefIs.updM{W M:Nat→Prop}{h c:ae}(k:Upd M h c)(hm:∀b,M b→W b∨h.size≤b){a:Int}{x:Hs}{r:Rt}{l:List Pr}(i:RefIs W h a x r l):RefIs W c a x r l:=
 let⟨s,e,d⟩:=i;⟨s,e,d.1.upd k hm,d.2⟩
theorem I0{W:Nat→Prop}{x:Hs}{h:ae}{a:Int}(g:a=0∨a=1){K:Rt×Int→ae→Prop}(k:∀h' r,RefIs W h' a x r []→Upd No h h'→K (r,0) h'):HC PG vy [.int .i64 a,.agg #[.int .u64 x.k0,.int .u64 x.k1,.int .u64 x.mask]] [.agg [.int .i64,.int .u64,.int .u64,.int .u64,.slice],.c (.int .i64)] K h:=by
 refine GD a (x.k0,x.k1,x.mask) ?_;unfold Aw aZ ag fH BL qS KV;refine bi fun m b1 k1=>bi fun n b2 j=>?_
 have c1:=j.get0 b1;have i:=k1.size;have e:=k1.tr j;rcases g with rfl|rfl
 ·refine aA.2 ⟨_,vc c1 0,_,vc c1 1,_,vc c1 2,?_⟩
  refine dy (c:=GN Ly) (vs:=GN (0,x.k0,x.k1,x.mask,⟨none,0,0⟩)) b2 rfl fun f b d=>?_
  exact⟨_,vc b 0,_,vc b 1,_,vc b 2,_,vc b 3,⟨none,0,0⟩,vc b 4,k f (0,x.k0,x.k1,x.mask,⟨none,0,0⟩) ⟨_,rfl,Sl.nil iI,aw _⟩ (e.own d i)⟩
 ·refine ak.2 (aA.2 ?_)
  refine dy (c:=GN Ly) (vs:=GN (1,0,0,0,⟨none,0,0⟩)) b2 rfl fun f b d=>?_
  exact⟨_,vc b 0,_,vc b 1,_,vc b 2,_,vc b 3,⟨none,0,0⟩,vc b 4,k f (1,0,0,0,⟨none,0,0⟩) ⟨_,rfl,Sl.nil iI,aw _⟩ (e.own d i)⟩
def wI(s:ByteArray):ByteArray:=s.extract 0 (min s.size 30)
theorem lP(s:ByteArray):(wI s).size≤30:=by unfold wI;rw[li];omega
end Go.Proofs
namespace Go.Proofs
open Go Go.Lift
end Go.Proofs
namespace Go.Proofs
open Go Go.Lift
end Go.Proofs
namespace Go.Proofs
open Go.Lift
abbrev Ch:=ByteArray×ByteArray×ByteArray×Bool×Bool
end Go.Proofs
namespace Go.Proofs
open Go Go.Lift
end Go.Proofs
namespace Go.Proofs
open Go Go.Lift
theorem DJ{h:ae}{b:Nat}{c:Array Value}{t:TypeId}(a:h[b]? =some (.cells c t (0,0))) (hc:0<c.size):de h ⟨b,0,none⟩:=⟨c,t,a,hc⟩
theorem TrieAt.plain{W:Nat→Prop}{x:Hs}{h:ae}:∀{m b:Nat} {l:List Pr},TrieAt W x h m b l→de h ⟨b,0,none⟩
 |0,_,_,t=>by obtain⟨_,_,_,a,_⟩:=BuckAt.ex t;exact DJ a (by simp[dR])
 |m+1,_,_,⟨s,nd,_⟩=>by obtain⟨_,_,_,_,_,a,_⟩:=nd.ex;exact DJ a (by simp[dR])
end Go.Proofs
namespace Go.Proofs
open Go Go.Lift
end Go.Proofs
namespace Go.Proofs
open Go Go.Lift
theorem RxN.plain{W:Nat→Prop}{h:ae}{b:Nat}{sl:ByteArray}{w:Option ByteArray}{F:Fo}(r:RxN W h b sl w F):de h ⟨b,0,none⟩:=by
 obtain⟨val,s,ow,ks,a,_⟩:=r;exact DJ a (by simp[rP])
end Go.Proofs
namespace Go.Proofs
open Go Go.Lift
end Go.Proofs
namespace Go.Proofs
open Go Go.Lift
end Go.Proofs
namespace Go.Proofs
open Go Go.Lift
end Go.Proofs
namespace Go.Proofs
open Go Go.Lift
end Go.Proofs
namespace Go.Proofs
open Go Go.Lift
theorem Ld{h:ae}{r:Rt}{k:ae→Prop}(d:∀h',h'[h.size]? =some (.cells (GN r).toArray gM (0,0))→Upd No h h'→k h'):
  At (hnew h (GN Ly) gM) (fun a=>ph a (some (aU h)) 0 (GN r)∧At (fi a (aU h) 0 (GN r)) k):=
 bi fun a b1 k1=>dy (c:=GN Ly) (vs:=GN r) b1 rfl fun e b2 b=>d e b2 (k1.own b (aw _))
end Go.Proofs
namespace Go.Proofs
open Go Go.Lift
end Go.Proofs
namespace Go.Proofs
open Go Go.Lift
abbrev b1:ByteArray:=⟨#[49]⟩
abbrev b2:ByteArray:=⟨#[50]⟩
abbrev b3:ByteArray:=⟨#[51]⟩
end Go.Proofs
namespace Go.Proofs
open Go Go.Lift
def look(l:List Pr)(k:ByteArray):Option ByteArray:=(l.find? fun p=>decide (p.1=k)).map (·.2)
end Go.Proofs
namespace Go.Proofs
open Go Go.Lift
end Go.Proofs
namespace Go.Proofs
open Go Go.Lift
def J9(c:Ch):Bool:=(!((!c.2.2.2.1&& !c.2.2.2.2)||(c.2.2.2.1&&(c.2.2.2.2&&decide (c.2.1=c.2.2.1)))))&&((c.2.2.2.1||decide (c.2.1=⟨#[]⟩))&&(c.2.2.2.2||decide (c.2.2.1=⟨#[]⟩)))
def one(c:Ch):Option Ch:=if J9 c then some c else none
end Go.Proofs
namespace Go.Proofs
open Go Go.Lift
end Go.Proofs
namespace Go.Proofs
open Go Go.Lift
end Go.Proofs
namespace Go.Proofs
open Go Go.Lift
end Go.Proofs
namespace Go.Proofs
open Go Go.Lift
end Go.Proofs
namespace Go.Proofs
open Go Go.Lift
theorem G7(x:Hs)(lev:Nat)(l:List Pr):(gc x lev l).length+(kA x lev l).flatten.length=l.length:=by
 have h:=pu x lev l 32;have d:(l.filter fun p=>decide (ck x lev p.1<32))=l:=List.filter_eq_self.2 fun p _=>decide_eq_true (wJ ..)
 rw[d]at h;have:∀n,(fm (fun c=>nR (part x lev c l)) n).length+(fm (fun c=>lm (part x lev c l)) n).flatten.length=((List.range n).map fun c=>(part x lev c l).length).sum:=by
  intro n;induction n with
  |zero=>simp[fm]
  |succ n ih=>
   rw[kN,kN,List.range_succ,dP,hH];simp only[af,dD,fa,List.map_nil,pm,List.sum_nil,dN];generalize part x lev n l=q;have:(nR q).toList.length+(lm q).toList.flatten.length=q.length:=by
    match q with
    | []=>simp[nR,lm]
    | [a]=>simp[nR,lm]
    |a::b::q=>simp[nR,lm]
   omega
 have:=this 32;unfold gc kA;omega
theorem DY{W:Nat→Prop}{x:Hs}{h:ae}{m:Nat}{ks:List (Option Addr)}:∀{ls:List (List Pr)},KidsAt W x h m ks ls→ks.length=ls.length∧∀i (hi:i<ls.length),∃b,ks[i]? =some (some ⟨b,0,none⟩)∧TrieAt W x h m b ls[i]:=by
 induction ks with
 |nil=>intro ls;cases ls with
  |nil=>intro _;exact⟨rfl,fun i hi=>absurd hi (Nat.not_lt_zero _)⟩
  |cons a ls=>intro h;exact h.elim
 |cons k ks ihk=>intro ls;cases ls with
  |nil=>intro h;exact h.elim
  |cons a ls=>
   rintro⟨⟨b,rfl,tk⟩,h⟩;obtain⟨e,c⟩:=ihk h;refine⟨by simp[e],fun i hi=>?_⟩
   cases i with
   |zero=>exact⟨b,rfl,tk⟩
   |succ i=>simp only[List.getElem?_cons_succ,List.getElem_cons_succ];exact c i (by simpa using hi)
theorem Jd{x:Hs}{W:Nat→Prop}:∀(m:Nat),m≤13→∀{b:Nat} {l:List Pr} {h:ae},TrieAt W x h m b l→l.length≤60000→∀{K:Int→ae→Prop},(∀j,Upd No h j→K (l.length:Int) j)→HC PG ot [.pointer (some ⟨b,0,none⟩)] [.c (.int .i64)] K h:=by
 intro m;induction m with
 |zero=>
  intro _ b l h t Y K M;refine wO _ ?_;unfold rz cG f6;have bk:∀{j},Upd No h j→BuckAt W j b l:=fun k=>BuckAt.upd t k fun _ h=>h.elim
  obtain⟨sp,sk,ow,v,p,hsk,_⟩:=(bk (Upd.refl No h)).ex;refine px v p (by omega) fun S h1 s k1=>?_
  obtain⟨Q,G,N,q,X,o,_⟩:=(bk k1).ex;refine Ba q o (by simp) fun V y u D=>?_
  have C:=u.len;rw[cL]at C;refine LoopP.ghost (fun(_:Unit) (t:Int×Int) j=>t=((S.len:Int),0)∧j=y) (fun _=>0) () ⟨rfl,rfl⟩ ?_
  rintro I _ t A ⟨rfl,e⟩ hI;rw[e];refine bf (fun f=>absurd f (by simp only;omega)) fun _=>?_
  simp only;rw[s.len];exact M y (k1.tr D)
 |succ m ih=>
  intro hm b l h t Y K M;refine wO _ ?_;unfold rz cG f6;obtain⟨sl,nd,J⟩:=t;have U:∀c,c<32→SlotIs W x h m sl c (part x (12-m) c l):=J;have hd:∀{j},Upd No h j→∃d n sp sk ow,j[b]? =some (.cells (dR d n sp sk false ow) ba (0,0))∧Sl gz 2 W j sp (gc x (12-m) l)∧Sl my 1 W j sk (fm sl.k 32):=fun{j} k=>by
   obtain⟨d,n,sp,sk,ow,v,bits,A,h4,_⟩:=(nd.upd k fun _ h=>h.elim).ex
   refine⟨d,n,sp,sk,ow,v,?_,h4⟩;rw[←AH U];exact A
  have P:KidsAt W x h m (fm sl.k 32) (kA x (12-m) l):=DZ 32 U;have z:∀L∈kA x (12-m) l,L.length≤60000:=fun L hL=>by
   obtain⟨_,c,rfl⟩:=m6 hL;exact bp mc Y
  have F:=G7 x (12-m) l;obtain⟨R,w⟩:=DY P;generalize gc x (12-m) l=So at hd F;generalize kA x (12-m) l=Ma at z F R w;obtain⟨d,n,sp,sk,ow,v,p,_⟩:=hd (Upd.refl No h);refine px v p (by omega) fun S h1 s k1=>?_
  obtain⟨d1,n1,Q,G,N,q,_,o⟩:=hd k1;have Z:=sf (g:=sl.k);refine Ba q o (by omega) fun V y u D=>?_
  have S2:Sl my 1 No y V (fm sl.k 32):=u.sl fun _ _ _ h=>h
  have hlk:=S2.len;refine LoopP.ghost (fun(i:Nat) (t:Int×Int) j=>t.1=((So.length+(Ma.take i).flatten.length:Nat):Int)∧t.2=(i:Int)∧i≤Ma.length∧Upd No y j) (fun i=>Ma.length-i) 0 ⟨by rw[s.len];simp,rfl,bD _,Upd.refl _ _⟩ ?_
  rintro I i ⟨tn,ti⟩ A ⟨T,C,hi,B⟩ hI;simp only at T C;subst T C;refine bf (fun f=>?_) fun E=>?_
  ·have f:i<Ma.length:=by simp only at f;omega
   obtain⟨kb,H,tk⟩:=w i f;obtain⟨a,ha,_,hv⟩:=(S2.upd B fun _ h=>h.elim).at0 H
   refine⟨⟨by simp only;omega,by simp only;omega⟩,a,ha,some ⟨kb,0,none⟩,hv,?_⟩
   have p:(Ma.take i).flatten.length+Ma[i].length≤Ma.flatten.length:=by
    have e:Ma=Ma.take i++Ma[i]::Ma.drop (i+1):=by rw[List.getElem_cons_drop,bB]
    have:=congrArg (fun L=>(List.flatten L).length) e
    simp only[dD,dH,af]at this;omega
   refine ih (by omega) (TrieAt.upd0 ((k1.tr D).tr B) tk) (z _ (bm f)) fun h4 k4=>?_
   simp only;rw[fY f (by omega),nT (by omega)];refine hI (i+1) _ _ ⟨?_,rfl,f,B.tr k4⟩ (by omega);rw[cD f,dD];simp only[dH,List.flatten_nil,bO,af];omega
  ·have O:i=Ma.length:=by simp only at E;omega
   subst O;simp only;rw[cP,F];exact M A ((k1.tr D).tr B)
theorem E1{W:Nat→Prop}{x:Hs}{h:ae}{a:Int}{t:Tr}{l:List Pr}(i:TreeIs W h a x t l)(g:cq l)(d:l.length≤60000){K:Int→ae→Prop}(e:∀h',Upd No h h'→K (l.length:Int) h'):HC PG gY [EX t] [.c (.int .i64)] K h:=by
 rcases i with⟨rfl,b,rfl,c⟩|⟨rfl,b,rfl,c⟩
 ·refine qA _ ?_
  unfold mF aZ ay pU;refine bi fun k b1 k1=>⟨_,vc b1 0,ak.2 ⟨_,vc b1 4,?_⟩⟩
  exact Jd 13 (aw _) (TrieAt.upd0 k1 c) d fun j f=>e j (k1.tr f)
 ·exact G6 (x:=x) (.inr ⟨rfl,b,rfl,c⟩) g d e
end Go.Proofs
namespace Go.Proofs
open Go Go.Lift
end Go.Proofs
namespace Go.Proofs
open Go Go.Lift
def byN(s:ByteArray)(i:Nat):Nat:=if h:i<s.size then(s[i]'h).toNat else 0
def hv(s:ByteArray):Nat→Nat→Nat
 |_,0=>0
 |p,c+1=>hv s (p+1) c*256+byN s p
end Go.Proofs
namespace Go.Proofs
open Go Go.Lift
end Go.Proofs
namespace Go.Proofs
open Go Go.Lift
section
variable {bu:Bool} {s:SliceV} {q q':Nat→List Pr} {kk kk':Nat→Option Addr} {i:Nat}
end
end Go.Proofs
namespace Go.Proofs
open Go Go.Lift
end Go.Proofs
namespace Go.Proofs
open Go Go.Lift
end Go.Proofs
namespace Go.Proofs
open Go Go.Lift
end Go.Proofs
namespace Go.Proofs
open Go Go.Lift
end Go.Proofs
namespace Go.Proofs
open Go Go.Lift
end Go.Proofs
namespace Go.Proofs
open Go Go.Lift
end Go.Proofs
namespace Go.Proofs
open Go Go.Lift
theorem BQ{l:List Pr}{p:Pr}{n:Nat}(c:cq l)(b:Fit l)(d:l.length≤n)(e:p.1.size≤5030∧p.2.size≤5030):cq (lw l p)∧Fit (lw l p)∧(lw l p).length≤n+1:=by
 unfold lw;split
 ·refine⟨vj p c,fun q a=>?_,bp (Ae p) (by omega)⟩
  rcases ua a with rfl|a
  ·exact⟨by omega,by omega⟩
  ·exact b q a
 ·exact⟨c,b,by omega⟩
theorem HH{l:List Pr}{k:ByteArray}{n:Nat}(b:cq l)(a:Fit l)(d:l.length≤n):cq (nn l k)∧Fit (nn l k)∧(nn l k).length≤n+1:=by
 unfold nn;split
 ·exact⟨b,a,by omega⟩
 ·exact⟨zQ b,fun q c=>a q (xr.1 c).1,bp H9 (by omega)⟩
end Go.Proofs
namespace Go.Proofs
open Go Go.Lift
set_option maxHeartbeats 1000000 in
theorem Gm{W S:Nat→Prop}{h:ae}{eb pb tb:Nat}{ti:Int}{f:Int}{x:Hs}{tu:Tr}{lu:List Pr}(e:EdO W S h eb pb tb ti f x tu lu)(P:lu.length≤1000000)(k:ByteArray){K:Int→ae→Prop}
  (w:∀o a s,EdO W s o eb pb tb ti f x a (nn lu k)→Upd (fun y=>S y∨y=eb) h o→(∀y,s y→(S y∨h.size≤y)∧y<o.size)→K (Bi lu k) o):HC PG jk [.pointer (some ⟨eb,0,none⟩),.string k] [.c (.int .i64)] K h:=by
 refine vW _ k ?_;unfold pR;refine bi fun h1 b1 k1=>bi fun h2 b2 B=>?_
 have Z:=aG b1;have z2:=aG b2;have V:=k1.size;have s2:=B.size;have c1:=B.get0 b1;have d:=k1.tr B;refine⟨_,vc c1 0,rI (e.ed.upd d id) (e.tk.upd d id) (ak.2 ⟨_,vc c1 0,?_⟩)⟩;refine wH (e.ed.upd d id) (tF _ _ _ ?_);unfold nK wy aZ ag dQ gd ay fH rB wg pU;refine bi fun Y b3 E=>?_
 have G:=aG b3;have b:=d.tr E;have j:=e.ed.upd b id;have Q:=E.get0 b2;have J:=E.get0 c1;refine⟨_,vc J 0,_,rfl,_,qv j 2 0,_,qv j 2 1,_,qv j 2 2,_,qv j 2 3,_,qv j 2 4,_,qv j 2 5,k,vc Q 0,?_⟩;have u:∀y,S y→y<h.size:=fun y T=>e.lt y (.inr T)
 refine tQ (e.iu.pro b) (e.can.pro b) e.up e.fit P k fun h4 a s n H v L=>?_
 have X:=n.size;refine⟨vc (n.get J fun t=>by have:=u _ t;omega) 0,?_⟩
 refine dy (c:=fA xj) (vs:=fA a) (n.get b3 fun t=>by have:=u _ t;omega) rfl fun N m i=>?_
 refine⟨_,vc m 0,_,vc m 1,_,vc m 2,_,vc m 3,_,vc m 4,_,vc m 5,?_⟩;have I:EdAt N eb pb tb tu:=(j.upd n fun t=>e.ap _ t e.we).upd i (by have:=e.lt _ (.inl e.we);omega)
 have g:Fit (nn lu k):=by
  unfold nn;split
  ·exact e.fit
  ·exact fun q R=>e.fit q (xr.1 R).1
 have p:cq (nn lu k):=by
  unfold nn;split
  ·exact e.up
  ·exact zQ e.up
 refine⟨I,fun U C=>⟨fun hz o O z=>?_,fun hz=>?_⟩⟩
 ·obtain⟨F,A,D⟩:=e.fin b n H v i (by omega) G C O z p g
  have hz:Bi lu k=0:=hz;rw[hz]at w;exact w o a s F A D
 ·have hz:Bi lu k≠0:=hz
  have M:=L hz;subst M;obtain⟨F,A,D⟩:=e.fin b n H v i (by omega) G C (I.upd C id) (Upd.refl _ _) p g;exact w U a s F A D
theorem H7{h:ae}{eb pb tb cb cap:Nat}{b:List Int}{tu:Tr}{ti:Int}{a:Bool}(e:EdAt h eb pb tb tu)(k:TokAt h tb pb ti a)(p:PoolAt h pb cb cap b):eb≠cb∧eb≠tb∧tb≠cb:=by
 obtain⟨n,c,s,r,hc⟩:=p;refine⟨fun h=>?_,fun h=>?_,fun h=>?_⟩
 ·subst h;have:=e.symm.trans hc;simp at this
 ·subst h;have:=e.symm.trans k;simp at this
 ·subst h;have:=k.symm.trans hc;simp at this
theorem yD{h:ae}{pb cb cap:Nat}{i:Int}{b:List Int}(p:PoolAt h pb cb cap (i::b))(t:Tr){K:Option Addr×Int→ae→Prop}(n:∀h' eb tb,Upd (· =cb) h h'→PoolAt h' pb cb cap b→TokAt h' tb pb i true→EdAt h' eb pb tb t→h.size≤eb→h.size≤tb→K (some ⟨eb,0,none⟩,0) h'):HC PG jl [.pointer (some ⟨pb,0,none⟩),EX t] [.c .ptr,.c (.int .i64)] K h:=by
 refine BF _ t ?_;unfold uS aZ ag ay pU vl7;refine bi fun e b1 k1=>?_
 have u:=aG b1;have s:cb<h.size:=by obtain⟨_,_,_,_,hc⟩:=p;exact aG hc
 have g:=k1.size;refine Cm (p.upd0 k1) fun m c o j=>ak.2 ?_
 have a:=c.get b1 (show ¬h.size=cb by omega)
 have q:=c.size;refine⟨_,vc a 0,_,vc a 1,_,vc a 2,_,vc a 3,_,vc a 4,_,vc a 5,bi fun f k d=>?_⟩
 exact n f m.size e.size ((k1.wide.tr c).tr d.wide) (o.upd0 d) (j.upd d fun h=>h) k (by omega) g
theorem yC{h:ae}{eb pb tb cb cap:Nat}{b:List Int}{tu:Tr}{ti:Int}(e:EdAt h eb pb tb tu)(k:TokAt h tb pb ti true)(p:PoolAt h pb cb cap b)(o:b.length<cap){K:Tr×Int→ae→Prop}(n:∀h',Upd (fun y=>y=cb∨y=tb) h h'→PoolAt h' pb cb cap (b++ [ti])→TokAt h' tb pb ti false→EdAt h' eb pb tb tu→K (tu,0) h'):gS (some ⟨eb,0,none⟩) K h:=by
 obtain⟨u,D,E⟩:=H7 e k p;unfold gS wy aZ ag dQ gd ay fH rB wd qu;refine bi fun z b1 k1=>?_
 have A:cb<h.size:=by obtain⟨_,_,_,_,hc⟩:=p;exact aG hc
 have x:=aG k;have t:=k1.size;have f:=e.upd k1 fun h=>h
 refine rI f (k.upd k1 fun h=>h) (ak.2 ⟨_,rfl,_,vc f 0,_,rfl,_,vc f 1,?_⟩)
 refine DI (p.upd0 k1) (k.upd k1 fun h=>h) o fun C g s q=>?_
 have d:=f.upd g (by omega);refine⟨_,rfl,_,qv d 2 0,_,qv d 2 1,_,qv d 2 2,_,qv d 2 3,_,qv d 2 4,_,qv d 2 5,?_⟩;refine dy (c:=fA xj) (vs:=fA tu) (g.get b1 (by omega)) rfl fun m b3 a=>?_
 refine⟨_,vc b3 0,_,vc b3 1,_,vc b3 2,_,vc b3 3,_,vc b3 4,_,vc b3 5,?_⟩;have v:=g.size;have B:=aG e;obtain⟨_,i,_⟩:=id p;have w:=aG i;exact n m ((k1.wide.tr g).trans a fun y j=>.inr (by have j:y=h.size:=j;omega)) (s.upd a (by omega) (by omega)) (q.upd a (by omega)) (d.upd a (by omega))
theorem CP{h:ae}{eb pb tb cb cap:Nat}{a:List Int}{tu:Tr}{ti:Int}(e:EdAt h eb pb tb tu)(k:TokAt h tb pb ti true)(p:PoolAt h pb cb cap a)(b:a.length<cap){K:Tr×Int→ae→Prop}(c:∀h',Upd (fun y=>y=cb∨y=tb) h h'→PoolAt h' pb cb cap (a++ [ti])→TokAt h' tb pb ti false→EdAt h' eb pb tb tu→K (tu,0) h'):HC PG eR [.pointer (some ⟨eb,0,none⟩)] JT K h:=
 nz _ (yC e k p b c)
theorem H8{h:ae}{eb pb tb:Nat}{tu:Tr}{ti:Int}(e:EdAt h eb pb tb tu)(k:TokAt h tb pb ti false)(p:Pr){K:Int→ae→Prop}(d:∀h',Upd No h h'→K 5 h'):HC PG ez [.pointer (some ⟨eb,0,none⟩),.agg #[.string p.1,.string p.2]] [.c (.int .i64)] K h:=by
 refine qD _ p ?_;unfold mI tW;refine bi fun f b1 k1=>bi fun c b2 b=>?_
 have a:=k1.tr b;exact⟨_,vc (b.get0 b1) 0,rI (e.upd a fun h=>h) (k.upd a fun h=>h) (aA.2 (d c a))⟩
end Go.Proofs
namespace Go.Proofs
open Go Go.Lift
theorem Hp{x:Hs}{h:ae}{K:Int×Int×Int→ae→Prop}(f:∀h',Upd No h h'→K (x.k0,x.k1,x.mask) h'):HC PG vA [.agg #[.int .u64 x.k0,.int .u64 x.k1,.int .u64 x.mask]] [.agg [.int .u64,.int .u64,.int .u64]] K h:=by
 refine GF (x.k0,x.k1,x.mask) ?_;unfold Ay ag dQ fH BL zl0 vl0;refine bi fun g b1 k1=>bi fun i b2 d=>?_
 have c1:=d.get0 b1;refine⟨_,qv c1 0 0,_,qv c1 0 1,_,vc c1 2,?_⟩;refine dy (c:= [.int .u64 0,.int .u64 0,.int .u64 0]) (vs:= [.int .u64 x.k0,.int .u64 x.k1,.int .u64 x.mask]) b2 rfl fun e a b=>?_
 exact⟨_,vc a 0,_,vc a 1,_,vc a 2,f e ((k1.tr d).own b k1.size)⟩
theorem EdO.end_{W S:Nat→Prop}{h f:ae}{eb pb tb cb:Nat}{ti:Int}{b:Int}{x:Hs}{tu:Tr}{lu:List Pr}(e:EdO W S h eb pb tb ti b x tu lu)(c:W cb)(k:Upd (fun y=>y=cb∨y=tb) h f)(t:TokAt f tb pb ti false):TreeIs No f b x tu lu:=
 (e.iu.upd k (fun y d=>e.lt y (.inr d)) fun y d=>by
  rcases d with rfl|rfl
  ·exact .inl ⟨.inl c,fun h=>e.ap _ h c⟩
  ·exact .inl ⟨.inl e.wt,fun h=>e.ap _ h e.wt⟩).freeze (W':=No) (fun _ h=>h.elim) (fun a h=>by cases h;exact⟨id,_,_,t,by simp⟩) fun _ _ h=>h
theorem EdO.upd0{W S:Nat→Prop}{h b:ae}{eb pb tb:Nat}{ti:Int}{a:Int}{x:Hs}{tu:Tr}{lu:List Pr}(e:EdO W S h eb pb tb ti a x tu lu)(k:Upd No h b):EdO W S b eb pb tb ti a x tu lu:=
 ⟨e.ed.upd k fun h=>h,e.tk.upd k fun h=>h,e.iu.upd0 k,fun y c=>Nat.lt_of_lt_of_le (e.lt y c) k.size,e.we,e.wt,e.ap,e.up,e.fit⟩
theorem Gl{W:Nat→Prop}{h:ae}{eb pb tb:Nat}{ti:Int}{a:Int}{x:Hs}{t:Tr}{l:List Pr}(e:EdAt h eb pb tb t)(k:TokAt h tb pb ti true)(i:TreeIs W h a x t l)(lt:∀y,W y→y<h.size)(we:W eb)(wt:W tb)(up:cq l)(fit:Fit l):EdO W No h eb pb tb ti a x t l:=
 ⟨e,k,qM (i.less fun y b=>.inl (b.elim id fun h=>h.elim)),fun y b=>b.elim (lt y) fun h=>h.elim,we,wt,fun _ h=>h.elim,up,fit⟩
set_option maxRecDepth 100000 in
theorem Er{h:ae}{K:Bool→ae→Prop}(hk:∀s,Upd No h s→K true s):HC PG rj [] [.c .bool] K h:=by
 refine C3 ?_;unfold wV aZ ag ay nv rB wg pq pU zg0;refine yh (n:=1) (aw _) (by omega) fun C k2 H=>?_
 have H:PoolAt C (h.size+1) h.size 1 [1]:=H;have z2:=aG H.2.1;refine E0 (W:=fun y=>y<C.size) (x:=⟨0,0,0⟩) (fun _ h=>h) (.inl rfl) fun F t i4 X=>vp (t:=t) fun h6 o G=>?_
 have z6:=aG o;have s4:=X.size;refine⟨_,vc o 0,_,vc o 1,_,vc o 2,_,vc o 3,_,vc o 4,_,vc o 5,?_⟩;refine yD (H.upd0 (X.tr G)) t fun k eb tb m p14 A u he ht=>?_
 have s14:=m.size;have ze:=aG u;have zt:=aG A;let W:Nat→Prop:=fun y=>y<C.size∨h6.size≤y∧y<k.size
 have w:TreeIs W k 0 ⟨0,0,0⟩ t []:=((((i4.less (W':=fun y=>y<C.size∨F.size≤y) fun _ h=>h).upd0 G).updM m fun y a=>.inl (.inl (by have a:y=h.size:=a;omega))).less fun y a=>.inl (a.imp id fun h=>by omega))
 have i6:TreeIs (fun y=>y=h.size) h6 0 ⟨0,0,0⟩ t []:=(i4.less (W':=fun y=>y=h.size) fun y a=>.inl (by have a:y=h.size:=a;show y<C.size;omega)).upd0 G
 have e:=Gl (W:=W) u A w (fun y a=>by rcases a with h|h<;>omega) (.inr ⟨he,ze⟩) (.inr ⟨ht,zt⟩) fq (fun p I=>by cases I)
 refine Join.intro (fun b s=>b=false∧∃tu S,EdO W S s eb (h.size+1) tb 1 0 ⟨0,0,0⟩ tu [(⟨#[97]⟩,⟨#[]⟩)]∧Upd (fun y=>S y∨y=eb) k s∧∀y,S y→k.size≤y∧y<s.size) (fun R hR=>?_) ?_
 ·refine ak.2 (ak.2 ?_)
  refine CN e (by simp) (⟨#[97]⟩,⟨#[]⟩) (fun s O S' e' k' v=>?_) (fun p I=>?_)
  ·have er:AO (⟨#[97]⟩,⟨#[]⟩)=0:=rfl
   rw[er];refine hR _ _ ⟨rfl,O,S',e',k'.mono fun y a=>a.elim (fun h=>h.elim) fun h=>.inl (.inr h),fun y a=>⟨(v y a).1.elim (fun h=>h.elim) id,(v y a).2⟩⟩
  ·have:p=(⟨#[97]⟩,⟨#[]⟩):=by
    have hw:lw [] ((⟨#[97]⟩,⟨#[]⟩):Pr)= [(⟨#[97]⟩,⟨#[]⟩)]:=rfl;rw[hw]at I;exact ai.1 I
   rw[this];exact⟨by decide,by decide⟩
 ·rintro _ h17 ⟨rfl,tu,S,q,j,T⟩
  refine ak.2 ?_;have M:∀{z},z<k.size→¬S z:=fun hz h=>by have:=(T _ h).1;omega
  have hne:h.size+1≠eb∧h.size≠eb:=by omega
  have Y:=p14.upd j (fun h=>h.elim (M (by omega)) fun h=>by omega) (fun h=>h.elim (M (by omega)) fun h=>by omega)
  refine CP q.ed q.tk Y (by simp) fun h21 i p21 D Q=>?_
  have Z:=q.end_ (cb:=h.size) (.inl (by omega)) i D;have z17:=j.size;have z21:=i.size;have b14:=m.get o (show ¬F.size=h.size by omega)
  have U:=i.get (j.get b14 (fun h=>h.elim (M (by omega)) fun h=>by omega)) (show ¬(F.size=h.size∨F.size=tb) by omega)
  have E:Upd No h h21:=(((k2.tr (X.tr G)).trans m fun y a=>.inr (by have a:y=h.size:=a;omega)).trans j fun y a=>.inr (a.elim (fun h=>by have:=(T _ h).1;omega) fun h=>by omega)).trans i fun y a=>.inr (by rcases a with h|h<;>omega)
  refine vp (t:=tu) fun h23 f B=>aA.2 ⟨_,vc f 0,_,vc f 1,_,vc f 2,_,vc f 3,_,vc f 4,_,vc f 5,?_⟩
  refine E1 (Z.upd0 B) (dY _ _) (by simp) fun h31 N=>aA.2 ?_
  have c:=B.tr N;refine H8 (Q.upd c fun h=>h) (D.upd c fun h=>h) (⟨#[98]⟩,⟨#[]⟩) fun h33 P=>aA.2 ?_
  have d:=c.tr P;have g:=d.get0 U;refine⟨_,vc g 0,_,vc g 1,_,vc g 2,_,vc g 3,_,vc g 4,_,vc g 5,?_⟩;have V:TreeIs No h33 0 ⟨0,0,0⟩ t []:=((((w.updM j fun y a=>a.elim (fun h=>.inr (T y h).1) fun h=>.inl (.inr ⟨by omega,by omega⟩)).less (W':=W) fun y a=>.inl a).updM i fun y a=>.inl (a.elim (fun h=>.inl (by omega)) fun h=>.inr ⟨by omega,by omega⟩)).less fun _ h=>h.elim).upd0 d
  refine E1 V fq (by simp) fun L J=>hk L (E.tr (d.tr J))
end Go.Proofs
namespace Go.Proofs
open Go Go.Lift
def Mv(U:Nat→Prop)(h:ae)(b:Nat→Prop)(a:ae):Prop:=Upd U h a∧∀y,b y→U y∨h.size≤y
section
variable {U U' U1 U2 M:Nat→Prop} {h h' h1 h2:ae}
theorem Mv.refl(U:Nat→Prop)(h:ae):Mv U h U h:=⟨Upd.refl _ _,fun _ h=>.inl h⟩
theorem Mv.tr(a:Mv U h U1 h1)(b:Mv U1 h1 U2 h2):Mv U h U2 h2:=⟨a.1.trans b.1 a.2,fun y c=>(b.2 y c).elim (a.2 y) fun h=>.inr (bp a.1.size h)⟩
theorem Mv.of0(k:Upd No h h'):Mv U h U h':=⟨k.wide,fun _ h=>.inl h⟩
theorem Mv.up0(a:Mv U h U1 h1)(k:Upd No h1 h2):Mv U h U1 h2:=a.tr (.of0 k)
theorem Mv.new(a:∀y,U' y→U y∨h.size≤y):Mv U h U' h:=⟨Upd.refl _ _,a⟩
theorem Mv.upM(k:Upd M h h')(hm:∀y,M y→U y∨h.size≤y):Mv U h U h':=⟨k.mono hm,fun _ h=>.inl h⟩
theorem Mv.get(a:Mv U h U' h'){b:Nat}{o:Obj}(c:h[b]? =some o) (d:¬U b):h'[b]? =some o:=a.1.get c d
theorem Mv.not(a:Mv U h U' h'){b:Nat}{o:Obj}(c:h[b]? =some o) (d:¬U b):¬U' b:=fun e=>(a.2 b e).elim d fun h=>by have:=aG c;omega
theorem TreeIs.mv{a:Int}{x:Hs}{t:Tr}{l:List Pr}(i:TreeIs U h a x t l)(m:Mv U h U' h'):TreeIs U' h' a x t l:=
 ((i.less (W':=fun y=>U y∨h.size≤y) fun _ h=>h).updM m.1 fun _ b=>.inl (.inl b)).less fun y b=>.inl (m.2 y b)
theorem RefIs.mv{a:Int}{x:Hs}{t:Rt}{l:List Pr}(i:RefIs U h a x t l)(m:Mv U h U' h'):RefIs U' h' a x t l:=
 ((i.less (W':=fun y=>U y∨h.size≤y) fun _ h=>h).updM m.1 fun _ b=>.inl (.inl b)).less fun y b=>.inl (m.2 y b)
end
structure Ed where
 eb:Nat
 tb:Nat
 ti:Int
 lv:Bool
 tu:Tr
 lu:List Pr
 S:Nat→Prop
def Un(A:Nat→Prop)(cb:Nat)(es:List Ed)(y:Nat):Prop:=A y∨y=cb∨∃e∈es,y=e.eb∨(e.lv=true∧y=e.tb)∨e.S y
def tok(e:Ed):Option Addr:=if e.lv then some ⟨e.tb,0,none⟩else none
structure EdW(U:Nat→Prop)(h:ae)(pb:Nat)(kind:Int)(x:Hs)(n:Nat)(e:Ed):Prop where
 ed:EdAt h e.eb pb e.tb e.tu
 tk:TokAt h e.tb pb e.ti e.lv
 iu:TreeO (tok e) U h kind x e.tu e.lu e.S
 up:cq e.lu
 fit:Fit e.lu
 len:e.lu.length≤n
def oc:List Ed→Nat
 | []=>0
 |e::es=>(if e.lv then 1 else 0)+oc es
structure Wo(A:Nat→Prop)(h:ae)(pb cb cap:Nat)(ids:List Int)(kind:Int)(x:Hs)(n:Nat)(es:List Ed):Prop where
 pl:PoolAt h pb cb cap ids
 rm:ids.length+oc es=cap
 lt:∀y,A y→y<h.size
 ac:¬A cb
 pv:¬Un A cb es pb
 ew:∀e∈es,EdW (Un A cb es) h pb kind x n e
 av:∀e∈es,¬A e.eb∧¬A e.tb∧(∀y,e.S y→¬A y∧y≠cb∧(∀f∈es,y≠f.eb∧y≠f.tb)∧y<h.size)∧(e.lv=false→¬Un A cb es e.tb)
 pw:∀(i j:Nat) (a b:Ed),es[i]? =some a→es[j]? =some b→i≠j→a.eb≠b.eb∧a.tb≠b.tb∧∀y,a.S y→¬b.S y
def Me(A:Nat→Prop)(cb:Nat)(es:List Ed)(h:ae)(a:List Ed)(b:ae):Prop:=Mv (Un A cb es) h (Un A cb a) b∧Upd (fun y=>¬A y) h b
section
variable {A A' M:Nat→Prop} {h h':ae} {pb cb cap n m:Nat} {ids ids':List Int} {kind:Int} {x:Hs} {es:List Ed}
theorem Wo.ult(w:Wo A h pb cb cap ids kind x n es):∀y,Un A cb es y→y<h.size:=by
 rintro y (a|rfl|⟨e,b,rfl|⟨_,rfl⟩|a⟩)
 ·exact w.lt y a
 ·obtain⟨_,_,_,_,hc⟩:=w.pl;exact aG hc
 ·exact aG (w.ew e b).ed
 ·exact aG (w.ew e b).tk
 ·exact((w.av e b).2.2.1 y a).2.2.2
theorem EdW.mono{U:Nat→Prop}{e:Ed}(w:EdW U h pb kind x n e)(hm:n≤m):EdW U h pb kind x m e:=⟨w.ed,w.tk,w.iu,w.up,w.fit,bp w.len hm⟩
theorem Wo.mono(w:Wo A h pb cb cap ids kind x n es)(hm:n≤m):Wo A h pb cb cap ids kind x m es:=⟨w.pl,w.rm,w.lt,w.ac,w.pv,fun e a=>(w.ew e a).mono hm,w.av,w.pw⟩
theorem Wo.cb_ne(w:Wo A h pb cb cap ids kind x n es):cb<h.size∧pb<h.size∧∀e∈es,cb≠e.eb∧cb≠e.tb∧∀f∈es,e.eb≠f.tb:=by
 refine⟨w.ult _ (.inr (.inl rfl)),aG w.pl.2.1,fun e c=>?_⟩
 obtain⟨g,k,d⟩:=H7 (w.ew e c).ed (w.ew e c).tk w.pl;refine⟨Ne.symm g,Ne.symm d,fun f i j=>?_⟩
 have a:=(w.ew e c).ed;have b:=(w.ew f i).tk;rw[←j]at b;have:=a.symm.trans b;simp at this
theorem Wo.own(w:Wo A h pb cb cap ids kind x n es)(k:Upd M h h')(hm:∀y,M y→A y∨h.size≤y)(d:∀y,A' y→(A y∨h.size≤y)∧y<h'.size):Wo A' h' pb cb cap ids kind x n es∧Mv (Un A cb es) h (Un A' cb es) h':=by
 have mv:Mv (Un A cb es) h (Un A' cb es) h':=⟨k.mono fun y a=>(hm y a).imp .inl id,fun y a=>a.elim (fun h=>(d y h).1.imp .inl id) fun h=>.inl (.inr h)⟩
 have un:∀{y},y<h.size→¬A y→¬A' y:=fun j f h=>(d _ h).1.elim f fun h=>by omega
 have c:∀{y},y<h.size→¬A y→¬M y:=fun j f h=>(hm _ h).elim f fun h=>by omega
 obtain⟨hc,m,_⟩:=w.cb_ne;have p:=k.size;refine⟨⟨w.pl.upd k (c m fun h=>w.pv (.inl h)) (c hc w.ac),w.rm,fun y a=>(d y a).2,un hc w.ac,fun g=>(mv.2 _ g).elim w.pv fun h=>by omega,fun e b=>?_,fun e b=>?_,w.pw⟩,mv⟩
 ·have v:=w.av e b
  have q:=w.ew e b;exact⟨q.ed.upd k (c (aG q.ed) v.1),q.tk.upd k (c (aG q.tk) v.2.1),((q.iu.less (W':=fun y=>Un A cb es y∨h.size≤y) fun _ h=>h).upd k (fun y a=>(v.2.2.1 y a).2.2.2) fun y a=>(hm y a).imp (fun h=>⟨.inl (.inl h),fun o=>(v.2.2.1 y o).1 h⟩) id).less fun y a=>.inl (mv.2 y a),q.up,q.fit,q.len⟩
 ·have v:=w.av e b
  have q:=w.ew e b;exact⟨un (aG q.ed) v.1,un (aG q.tk) v.2.1,fun y a=>⟨un (v.2.2.1 y a).2.2.2 (v.2.2.1 y a).1,(v.2.2.1 y a).2.1,(v.2.2.1 y a).2.2.1,by have:=(v.2.2.1 y a).2.2.2;omega⟩,fun i g=>(mv.2 _ g).elim (v.2.2.2 i) fun h=>by have:=aG q.tk;omega⟩
theorem Wo.up0(w:Wo A h pb cb cap ids kind x n es)(k:Upd No h h'):Wo A h' pb cb cap ids kind x n es:=(w.own k (fun _ h=>h.elim) fun y a=>⟨.inl a,by have:=w.lt y a;have:=k.size;omega⟩).1
def Ot(A:Nat→Prop)(cb:Nat)(es:List Ed)(i:Nat)(y:Nat):Prop:=A y∨y=cb∨(∃e∈es,y=e.eb∨(e.lv=true∧y=e.tb))∨∃j b,es[j]? =some b∧j≠i∧b.S y
theorem Ot.un{i:Nat}{e:Ed}(d:es[i]? =some e) (y:Nat):(Ot A cb es i y∨e.S y)↔Un A cb es y:=by
 constructor
 ·rintro((h|h|⟨f,a,h⟩|⟨j,b,g,_,h⟩)|h)
  ·exact .inl h
  ·exact .inr (.inl h)
  ·exact .inr (.inr ⟨f,a,h.imp id .inl⟩)
  ·exact .inr (.inr ⟨b,au g,.inr (.inr h)⟩)
  ·exact .inr (.inr ⟨e,au d,.inr (.inr h)⟩)
 ·rintro(h|h|⟨f,a,h|h|h⟩)
  ·exact .inl (.inl h)
  ·exact .inl (.inr (.inl h))
  ·exact .inl (.inr (.inr (.inl ⟨f,a,.inl h⟩)))
  ·exact .inl (.inr (.inr (.inl ⟨f,a,.inr h⟩)))
  ·obtain⟨j,c⟩:=ff a
   by_cases e:j=i
   ·subst e;rw[d]at c;cases c;exact .inr h
   ·exact .inl (.inr (.inr (.inr ⟨j,f,c,e,h⟩)))
theorem Wo.edO(w:Wo A h pb cb cap ids kind x n es){i:Nat}{e:Ed}(c:es[i]? =some e) (d:e.lv=true):EdO (Ot A cb es i) e.S h e.eb pb e.tb e.ti kind x e.tu e.lu:=by
 have hm:=au c;have q:=w.ew e hm;have v:=w.av e hm;have o:tok e=some ⟨e.tb,0,none⟩:=by unfold tok;rw[d];rfl
 refine⟨q.ed,d▸q.tk,(o▸q.iu).less fun y a=>.inl ((Ot.un c y).1 a),fun y a=>w.ult y ((Ot.un c y).1 a),.inr (.inr (.inl ⟨e,hm,.inl rfl⟩)),.inr (.inr (.inl ⟨e,hm,.inr ⟨d,rfl⟩⟩)),fun y a=>?_,q.up,q.fit⟩
 rintro(h|h|⟨f,g,h⟩|⟨j,b,m,k,h⟩)
 ·exact(v.2.2.1 y a).1 h
 ·exact(v.2.2.1 y a).2.1 h
 ·exact h.elim ((v.2.2.1 y a).2.2.1 f g).1 fun h=>((v.2.2.1 y a).2.2.1 f g).2 h.2
 ·exact(w.pw i j e b c m (Ne.symm k)).2.2 y a h
theorem zZ{e e':Ed}:∀{es:List Ed} {i:Nat},es[i]? =some e→oc (es.set i e')+(if e.lv then 1 else 0)=oc es+(if e'.lv then 1 else 0)
 |a::es,0,h=>by cases h;simp only[List.set_cons_zero,oc];omega
 |a::es,i+1,h=>by
  simp only[List.set_cons_succ,oc];have:=zZ (e':=e') (es:=es) (i:=i) (by simpa using h);omega
 | [],i,h=>by simp at h
theorem Ab{e:Ed}:∀{es:List Ed},oc (es++ [e])=oc es+if e.lv then 1 else 0
 | []=>by simp only[List.nil_append,oc];omega
 |a::es=>by simp only[dd,oc,Ab (es:=es)];omega
theorem A9{α:Type}{l:List α}{i:Nat}{a b:α}(h:b∈l.set i a):b=a∨∃j,j≠i∧l[j]? =some b:=by
 obtain⟨j,c⟩:=ff h;rw[List.getElem?_set]at c;split at c
 ·split at c
  ·cases c;exact .inl rfl
  ·cases c
 ·exact .inr ⟨j,by omega,c⟩
theorem Wo.repl{P0:Prop}(w:Wo A h pb cb cap ids kind x n es){i:Nat}{e e':Ed}(Q:es[i]? =some e) (W:e.lv=true) (u:e'.eb=e.eb) (k:Upd M h h') (hM:∀y,M y→y=cb∨y=e.tb∨y=e.eb∨e.S y) (p:PoolAt h' pb cb cap ids') (hcap:ids'.length+(if e'.lv then 1 else 0)=ids.length+1)
  (B:e'.tb=e.tb∨h.size≤e'.tb) (S:∀y,e'.S y→(e.S y∨(h.size≤y∧y≠e'.tb))∧y<h'.size) (ed:EdAt h' e'.eb pb e'.tb e'.tu) (tk:TokAt h' e'.tb pb e'.ti e'.lv) (hn:n≤m) (up:cq e'.lu) (fit:Fit e'.lu) (len:e'.lu.length≤m)
  (O:Mv (Un A cb es) h (Un A cb (es.set i e')) h'→(∀y,Un A cb (es.set i e') y↔(Ot A cb (es.set i e') i y∨e'.S y))→(∀y,e.S y→¬Ot A cb (es.set i e') i y)→((e'.lv=false∨e'.tb≠e.tb)→¬Un A cb (es.set i e') e.tb)→TreeO (tok e') (Un A cb (es.set i e')) h' kind x e'.tu e'.lu e'.S∧P0):
  Wo A h' pb cb cap ids' kind x m (es.set i e')∧Me A cb es h (es.set i e') h'∧P0:=by
 have c:=au Q;have hi:i<es.length:=(aP.1 Q).1;have v:=w.av e c;have q:=w.ew e c;have hz:=k.size;obtain⟨hc,hp,G⟩:=w.cb_ne;have lb:=aG q.tk;have L:(es.set i e')[i]? =some e':=List.getElem?_set_self hi;have oth:∀{f},f∈es.set i e'→f=e'∨∃j,j≠i∧es[j]? =some f∧f∈es∧f.eb≠e.eb∧f.tb≠e.tb∧(∀y,f.S y→¬e.S y)∧f.eb<h.size∧f.tb<h.size:=fun t=>(A9 t).imp id fun⟨j,D,t⟩=>by
  have pw:=w.pw j i _ e t Q D;have hm:=au t;exact⟨j,D,t,hm,pw.1,pw.2.1,pw.2.2,aG (w.ew _ hm).ed,aG (w.ew _ hm).tk⟩
 have mv:Mv (Un A cb es) h (Un A cb (es.set i e')) h':=by
  refine⟨k.mono fun y d=>.inl ?_,?_⟩
  ·rcases hM y d with rfl|rfl|rfl|d
   ·exact .inr (.inl rfl)
   ·exact .inr (.inr ⟨e,c,.inr (.inl ⟨W,rfl⟩)⟩)
   ·exact .inr (.inr ⟨e,c,.inl rfl⟩)
   ·exact .inr (.inr ⟨e,c,.inr (.inr d)⟩)
  ·rintro y (d|d|⟨f,t,d⟩)
   ·exact .inl (.inl d)
   ·exact .inl (.inr (.inl d))
   ·rcases oth t with rfl|⟨j,D,J,o,_⟩
    ·rcases d with rfl|⟨_,rfl⟩|d
     ·rw[u];exact .inl (.inr (.inr ⟨e,c,.inl rfl⟩))
     ·rcases B with h|h
      ·rw[h];exact .inl (.inr (.inr ⟨e,c,.inr (.inl ⟨W,rfl⟩)⟩))
      ·exact .inr h
     ·exact(S y d).1.imp (fun h=>.inr (.inr ⟨e,c,.inr (.inr h)⟩)) And.left
    ·exact .inl (.inr (.inr ⟨f,o,d⟩))
 have nM:∀{y},y≠cb→y≠e.tb→y≠e.eb→¬e.S y→¬M y:=fun s C h3 h4 h=>by rcases hM _ h with h|h|h|h<;>contradiction
 have K:∀{f},f∈es→∀{y},y=f.eb∨y=f.tb→¬e.S y:=fun t y d z=>by
  have:=(v.2.2.1 y z).2.2.1 _ t;exact d.elim this.1 this.2
 have sep:∀y,e.S y→¬Ot A cb (es.set i e') i y:=by
  rintro y z (h|h|⟨f,t,h⟩|⟨j,b,H,D,h⟩)
  ·exact(v.2.2.1 y z).1 h
  ·exact(v.2.2.1 y z).2.1 h
  ·have d:=(v.2.2.1 y z).2.2.2
   rcases oth t with rfl|⟨j,D,J,o,_⟩
   ·rcases h with h|⟨_,h⟩
    ·exact K c (.inl (h.trans u)) z
    ·rcases B with R|R
     ·exact K c (.inr (h.trans R)) z
     ·omega
   ·exact K o (h.imp id And.right) z
  ·rw[iP (Ne.symm D)]at H
   exact(w.pw i j e b Q H (Ne.symm D)).2.2 y z h
 have T:(e'.lv=false∨e'.tb≠e.tb)→¬Un A cb (es.set i e') e.tb:=by
  rintro I (h|h|⟨f,t,h⟩)
  ·exact v.2.1 h
  ·exact(G e c).2.1 h.symm
  ·rcases oth t with rfl|⟨j,D,J,o,R,X,e3,_⟩
   ·rcases h with h|⟨s,h⟩|h
    ·exact(G e c).2.2 e c (u.symm.trans h.symm)
    ·rcases I with I|I
     ·rw[I]at s;cases s
     ·exact I h.symm
    ·exact(S _ h).1.elim (fun h=>K c (.inr rfl) h) fun h=>by omega
   ·rcases h with h|⟨_,h⟩|h
    ·exact(G f o).2.2 e c h.symm
    ·exact X h.symm
    ·exact((w.av f o).2.2.1 _ h).2.2.1 e c|>.2 rfl
 obtain⟨O,hP0⟩:=O mv (fun y=>(Ot.un L y).symm) sep T
 refine⟨⟨p,?_,fun y d=>by have:=w.lt y d;omega,w.ac,fun P=>(mv.2 _ P).elim w.pv fun h=>by omega,fun f t=>?_,fun f t=>?_,fun i' j' a b F H hij=>?_⟩,⟨mv,k.mono fun y d=>.inl ?_⟩,hP0⟩
 ·have:=zZ (e':=e') Q
  have:=w.rm;rw[W]at*;simp only[if_true]at*;omega
 ·rcases oth t with rfl|⟨j,D,J,o,R,X,e3,e4,e5⟩
  ·exact⟨ed,tk,O,up,fit,len⟩
  ·have g:=w.ew f o
   have E:=w.av f o;have Y:=G f o;refine⟨g.ed.upd k (nM (Ne.symm Y.1) (Y.2.2 e c) R (K o (.inl rfl))),g.tk.upd k (nM (Ne.symm Y.2.1) X (Ne.symm ((G e c).2.2 f o)) (K o (.inr rfl))),((g.iu.less (W':=fun y=>Un A cb es y∨h.size≤y) fun _ h=>h).upd k (fun y d=>(E.2.2.1 y d).2.2.2) fun y d=>.inl ⟨?_,fun z=>?_⟩).less fun y d=>.inl (mv.2 y d),g.up,g.fit,bp g.len hn⟩
   ·rcases hM y d with rfl|rfl|rfl|d
    ·exact .inl (.inr (.inl rfl))
    ·exact .inl (.inr (.inr ⟨e,c,.inr (.inl ⟨W,rfl⟩)⟩))
    ·exact .inl (.inr (.inr ⟨e,c,.inl rfl⟩))
    ·exact .inl (.inr (.inr ⟨e,c,.inr (.inr d)⟩))
   ·have a:=E.2.2.1 y z
    rcases hM y d with h|h|h|h
    ·exact a.2.1 h
    ·exact(a.2.2.1 e c).2 h
    ·exact(a.2.2.1 e c).1 h
    ·exact e3 y z h
 ·rcases oth t with rfl|⟨j,D,J,o,R,X,e3,e4,e5⟩
  ·refine⟨u▸v.1,?_,fun y d=>?_,fun I P=>?_⟩
   ·rcases B with h|h
    ·rw[h];exact v.2.1
    ·exact fun F=>by have:=w.lt _ F;omega
   ·have U:=(S y d).1
    refine⟨fun F=>?_,fun hc'=>?_,fun g hg=>?_,(S y d).2⟩
    ·exact U.elim (fun h=>(v.2.2.1 y h).1 F) fun h=>by have:=w.lt y F;omega
    ·exact U.elim (fun h=>(v.2.2.1 y h).2.1 hc') fun h=>by omega
    ·rcases oth hg with rfl|⟨_,_,_,N,_,_,_,e4,e5⟩
     ·refine⟨fun h=>?_,fun h=>?_⟩
      ·exact U.elim (K c (.inl (h.trans u))) fun s=>by have:=aG q.ed;omega
      ·refine U.elim (fun z=>?_) fun s=>s.2 h
       rcases B with C|C
       ·exact K c (.inr (h.trans C)) z
       ·have:=(v.2.2.1 y z).2.2.2;omega
     ·exact U.elim (fun h=>(v.2.2.1 y h).2.2.1 g N) fun h=>⟨by omega,by omega⟩
   ·rcases B with h|h
    ·rw[h]at P;exact T (.inl I) P
    ·rcases P with s|s|⟨f,t,s⟩
     ·have:=w.lt _ s;omega
     ·omega
     ·rcases oth t with rfl|⟨_,_,_,o,_,_,_,e4,e5⟩
      ·rcases s with s|⟨s,_⟩|s
       ·rw[u]at s;have:=aG q.ed;omega
       ·rw[I]at s;cases s
       ·exact(S _ s).1.elim (fun C=>by have:=(v.2.2.1 _ C).2.2.2;omega) fun C=>C.2 rfl
      ·rcases s with s|⟨_,s⟩|s
       ·omega
       ·omega
       ·have:=((w.av f o).2.2.1 _ s).2.2.2;omega
  ·have E:=w.av f o
   refine⟨E.1,E.2.1,fun y d=>⟨(E.2.2.1 y d).1,(E.2.2.1 y d).2.1,fun g hg=>?_,by have:=(E.2.2.1 y d).2.2.2;omega⟩,fun I P=>(mv.2 _ P).elim (E.2.2.2 I) fun h=>by omega⟩
   have hy2:=(E.2.2.1 y d).2.2.2;rcases oth hg with rfl|⟨_,_,_,N,_⟩
   ·have a:=(E.2.2.1 y d).2.2.1 e c
    refine⟨fun h=>a.1 (h.trans u),fun h=>?_⟩
    rcases B with C|C
    ·exact a.2 (h.trans C)
    ·omega
   ·exact(E.2.2.1 y d).2.2.1 g N
 ·have val:∀{j a},(es.set i e')[j]? =some a→(j≠i∧es[j]? =some a)∨(j=i∧a=e'):=fun{j a} F=>by
   by_cases Z:j=i
   ·subst Z
    rw[L]at F;cases F;exact .inr ⟨rfl,rfl⟩
   ·rw[iP (Ne.symm Z)]at F
    exact .inl ⟨Z,F⟩
  have one:∀{j b},es[j]? =some b→j≠i→e'.eb≠b.eb∧e'.tb≠b.tb∧∀y,e'.S y→¬b.S y:=fun{j b} H D=>by
   have pw:=w.pw i j e b Q H (Ne.symm D);have V:=au H;have lt:=aG (w.ew b V).tk;refine⟨u▸pw.1,?_,fun y d H=>?_⟩
   ·rcases B with h|h
    ·rw[h];exact pw.2.1
    ·omega
   ·have:=((w.av b V).2.2.1 y H).2.2.2
    exact(S y d).1.elim (fun h=>pw.2.2 y h H) fun h=>by omega
  rcases val F with⟨s,qa⟩|⟨s,rfl⟩<;>rcases val H with⟨C,qb⟩|⟨C,rfl⟩
  ·exact w.pw i' j' a b qa qb hij
  ·obtain⟨p1,p2,p3⟩:=one qa s
   exact⟨Ne.symm p1,Ne.symm p2,fun y d h=>p3 y h d⟩
  ·exact one qb C
  ·omega
 ·rcases hM y d with rfl|rfl|rfl|d
  ·exact w.ac
  ·exact v.2.1
  ·exact v.1
  ·exact(v.2.2.1 y d).1
theorem Wo.goes(w:Wo A h pb cb cap ids kind x n es){i:Nat}{e:Ed}(z:es[i]? =some e) (p:e.lv=true) {o:Nat→Prop} {d:Tr} {a:List Pr} (e':EdO (Ot A cb es i) o h' e.eb pb e.tb e.ti kind x d a) (k:Upd (fun y=>e.S y∨y=e.eb) h h') (B:∀y,o y→(e.S y∨h.size≤y)∧y<h'.size) (E:n≤m) (hm:a.length≤m):
  Wo A h' pb cb cap ids kind x m (es.set i {e with tu:=d,lu:=a,S:=o})∧Me A cb es h (es.set i {e with tu:=d,lu:=a,S:=o}) h':=by
 have c:=au z;have v:=w.av e c;have q:=w.ew e c;obtain⟨hc,H,t⟩:=w.cb_ne;refine(fun r=>⟨r.1,r.2.1⟩) (w.repl (P0:=True) (e':={e with tu:=d,lu:=a,S:=o}) z p rfl k (fun y g=>g.elim (fun h=>.inr (.inr (.inr h))) fun h=>.inr (.inr (.inl h))) (w.pl.upd k (fun h=>w.pv ?_) (fun h=>?_)) (by simp[p]) (.inl rfl) (fun y g=>⟨(B y g).1.imp id fun h=>⟨h,by have:=aG q.tk;show y≠e.tb;omega⟩,(B y g).2⟩) e'.ed (p▸e'.tk) E e'.up e'.fit hm fun mv un D F=>⟨?_,trivial⟩)
 ·rcases h with h|h
  ·exact .inr (.inr ⟨e,c,.inr (.inr h)⟩)
  ·exact .inr (.inr ⟨e,c,.inl h⟩)
 ·rcases h with h|h
  ·exact(v.2.2.1 _ h).2.1 rfl
  ·exact(t e c).1 h
 ·have G:tok {e with tu:=d,lu:=a,S:=o}=some ⟨e.tb,0,none⟩:=by unfold tok;rw[p];rfl
  rw[G];refine e'.iu.less fun y g=>.inl (((un y).1 g).imp (fun h=>?_) id)
  rcases h with h|h|⟨f,u,h⟩|⟨j,b,C,s,h⟩
  ·exact .inl h
  ·exact .inr (.inl h)
  ·rcases A9 u with rfl|⟨j,s,u⟩
   ·exact .inr (.inr (.inl ⟨e,c,h⟩))
   ·exact .inr (.inr (.inl ⟨f,au u,h⟩))
  ·rw[iP (Ne.symm s)]at C
   exact .inr (.inr (.inr ⟨j,b,C,s,h⟩))
theorem Wo.turn(w:Wo A h pb cb cap ids kind x n es){i:Nat}{e:Ed}(z:es[i]? =some e) (s:e.lv=true) {tb':Nat} {ti':Int} {lv' g:Bool} (k:Upd (fun y=>y=cb∨y=e.tb∨y=e.eb) h h') (p:PoolAt h' pb cb cap ids') (f:ids'.length+(if lv' then 1 else 0)=ids.length+1)
  (ed:EdAt h' e.eb pb tb' e.tu) (tk:TokAt h' tb' pb ti' lv') (o:TokAt h' e.tb pb e.ti g) (d:(tb'=e.tb∧lv'=false)∨h.size≤tb'):
  Wo A h' pb cb cap ids' kind x n (es.set i {e with tb:=tb',ti:=ti',lv:=lv',S:=No})∧Me A cb es h (es.set i {e with tb:=tb',ti:=ti',lv:=lv',S:=No}) h'∧TreeIs (Un A cb (es.set i {e with tb:=tb',ti:=ti',lv:=lv',S:=No})) h' kind x e.tu e.lu:=by
 have c:=au z;have v:=w.av e c;have q:=w.ew e c;have D:=aG q.tk;have r:=w.repl (e':={e with tb:=tb',ti:=ti',lv:=lv',S:=No}) (m:=n) (P0:=TreeIs (Un A cb (es.set i {e with tb:=tb',ti:=ti',lv:=lv',S:=No})) h' kind x e.tu e.lu) z s rfl k (fun y b=>b.imp id fun h=>h.imp id .inl) p f (d.imp And.left id) (fun y b=>b.elim) ed tk (aw _) q.up q.fit q.len fun mv un j u=>?_
 ·exact⟨r.1,r.2.1,r.2.2⟩
 ·have F:tok e=some ⟨e.tb,0,none⟩:=by unfold tok;rw[s];rfl
  have t:∀y,(y=cb∨y=e.tb∨y=e.eb)→(Un A cb es y∨h.size≤y)∧¬e.S y:=fun y b=>by
   refine⟨?_,fun E=>?_⟩
   ·rcases b with rfl|rfl|rfl
    ·exact .inl (.inr (.inl rfl))
    ·exact .inl (.inr (.inr ⟨e,c,.inr (.inl ⟨s,rfl⟩)⟩))
    ·exact .inl (.inr (.inr ⟨e,c,.inl rfl⟩))
   ·have a:=v.2.2.1 y E
    rcases b with h|h|h
    ·exact a.2.1 h
    ·exact(a.2.2.1 e c).2 h
    ·exact(a.2.2.1 e c).1 h
  have i1:=((F▸q.iu).less (W':=fun y=>Un A cb es y∨h.size≤y) fun _ h=>h).upd k (fun y b=>(v.2.2.1 y b).2.2.2) fun y b=>.inl (t y b)
  have B:TreeIs (Un A cb (es.set i {e with tb:=tb',ti:=ti',lv:=lv',S:=No})) h' kind x e.tu e.lu:=i1.freeze (fun y b=>mv.2 y b) (fun a h=>by
   cases h
   exact⟨u (d.symm.imp (fun h=>by show tb'≠e.tb;omega) And.right).symm,_,_,o,by simp⟩) fun y b C=>((un y).1 C).elim (j y b) fun h=>h
  exact⟨qM B,B⟩
theorem Wo.begin(w:Wo A h pb cb cap ids kind x n es){i:Int}{eb tb:Nat}{tu:Tr}{lu:List Pr}(o:ids=i::ids')(k:Upd (· =cb) h h')(p:PoolAt h' pb cb cap ids')(t:TokAt h' tb pb i true)(ed:EdAt h' eb pb tb tu)(I:h.size≤eb)(J:h.size≤tb)(L:TreeIs (Un A cb es) h kind x tu lu)(up:cq lu)(fit:Fit lu)(len:lu.length≤n):
  Wo A h' pb cb cap ids' kind x n (es++ [⟨eb,tb,i,true,tu,lu,No⟩])∧Me A cb es h (es++ [⟨eb,tb,i,true,tu,lu,No⟩]) h':=by
 obtain⟨hc,P,q⟩:=w.cb_ne;have hz:=k.size;have G:eb≠tb:=(H7 ed t p).2.1;have mem:∀{f},f∈es++ [⟨eb,tb,i,true,tu,lu,No⟩]→f∈es∨f=⟨eb,tb,i,true,tu,lu,No⟩:=fun d=>(bA.1 d).imp id ai.1
 have mv:Mv (Un A cb es) h (Un A cb (es++ [⟨eb,tb,i,true,tu,lu,No⟩])) h':=by
  refine⟨k.mono fun y c=>.inl (.inr (.inl c)),?_⟩
  rintro y (c|c|⟨f,d,c⟩)
  ·exact .inl (.inl c)
  ·exact .inl (.inr (.inl c))
  ·rcases mem d with d|rfl
   ·exact .inl (.inr (.inr ⟨f,d,c⟩))
   ·rcases c with rfl|⟨_,rfl⟩|c
    ·exact .inr I
    ·exact .inr J
    ·exact c.elim
 have s:∀{f},f∈es→f.eb<h.size∧f.tb<h.size:=fun d=>⟨aG (w.ew _ d).ed,aG (w.ew _ d).tk⟩
 refine⟨⟨p,?_,fun y c=>by have:=w.lt y c;omega,w.ac,fun v=>(mv.2 _ v).elim w.pv fun h=>by omega,fun f d=>?_,fun f d=>?_,fun M K a b e z D=>?_⟩,mv,k.mono fun y c=>.inl (c▸w.ac)⟩
 ·have:=w.rm
  rw[o]at this;rw[Ab];simp only[aL,if_true]at*;omega
 ·rcases mem d with d|rfl
  ·have g:=w.ew f d
   have m:=w.av f d;exact⟨g.ed.upd k (Ne.symm (q f d).1),g.tk.upd k (Ne.symm (q f d).2.1),((g.iu.less (W':=fun y=>Un A cb es y∨h.size≤y) fun _ h=>h).upd k (fun y c=>(m.2.2.1 y c).2.2.2) fun y c=>.inl ⟨.inl (.inr (.inl c)),fun H=>(m.2.2.1 y H).2.1 c⟩).less fun y c=>.inl (mv.2 y c),g.up,g.fit,g.len⟩
  ·exact⟨ed,t,qM (L.mv mv),up,fit,len⟩
 ·rcases mem d with d|rfl
  ·have m:=w.av f d
   refine⟨m.1,m.2.1,fun y c=>⟨(m.2.2.1 y c).1,(m.2.2.1 y c).2.1,fun g E=>?_,by have:=(m.2.2.1 y c).2.2.2;omega⟩,fun B v=>(mv.2 _ v).elim (m.2.2.2 B) fun h=>by have:=(s d).2;omega⟩
   have F:=(m.2.2.1 y c).2.2.2;rcases mem E with E|rfl
   ·exact(m.2.2.1 y c).2.2.1 g E
   ·exact⟨by show y≠eb;omega,by show y≠tb;omega⟩
  ·exact⟨fun e=>by have:=w.lt _ e;simp only at this;omega,fun e=>by have:=w.lt _ e;simp only at this;omega,fun y c=>c.elim,fun B=>by cases B⟩
 ·have val:∀{j a},(es++ [⟨eb,tb,i,true,tu,lu,No⟩])[j]? =some a→es[j]? =some a∨(j=es.length∧a=⟨eb,tb,i,true,tu,lu,No⟩):=fun{j a} e=>by
   rw[List.getElem?_append]at e;split at e
   ·exact .inl e
   ·have:j-es.length=0:=by
     have:=(aP.1 e).1;simp only[List.length_singleton]at this;omega
    rw[this]at e;cases e;exact .inr ⟨by omega,rfl⟩
  have one:∀{j:Nat} {b:Ed},es[j]? =some b→eb≠b.eb∧tb≠b.tb:=fun{j b} z=>by
   have:=s (au z);exact⟨by omega,by omega⟩
  rcases val e with C|⟨N,rfl⟩<;>rcases val z with u|⟨O,rfl⟩
  ·exact w.pw M K a b C u D
  ·exact⟨Ne.symm (one C).1,Ne.symm (one C).2,fun y _ h=>h.elim⟩
  ·exact⟨(one u).1,(one u).2,fun y h=>h.elim⟩
  ·omega
end
end Go.Proofs
namespace Go.Proofs
open Go Go.Lift
end Go.Proofs
namespace Go.Proofs
open Go Go.Lift
end Go.Proofs
namespace Go.Proofs
open Go Go.Lift
end Go.Proofs
namespace Go.Proofs
open Go Go.Lift
end Go.Proofs
namespace Go.Proofs
open Go Go.Lift
end Go.Proofs
namespace Go.Proofs
open Go Go.Lift
end Go.Proofs
namespace Go.Proofs
open Go Go.Lift
end Go.Proofs
