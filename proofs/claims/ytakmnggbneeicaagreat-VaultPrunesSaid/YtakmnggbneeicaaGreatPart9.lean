/- A part of the proof that the named laws of this program answer true, whatever the input. -/
import Derived.Test.YtakmnggbneeicaaGreatPart8
import Derived.Test.YtakmnggbneeicaaGreatPart7
import Derived.Test.YtakmnggbneeicaaGreatPart4
import Derived.Test.YtakmnggbneeicaaGreatPart2
open ByteArray renaming mk→vX
open Classical renaming byContradiction→mw
open Go.IntKind renaming wrap→ac
open Int renaming toNat_natCast→bf
open List renaming pairwise_singleton→cj,mem_singleton→al,filter_eq_self→di,any_eq_true→bT,pairwise_cons→ay,any_cons→pL,mem_cons→aq,filter_filter→iB,length_append→ae,mem_range→fj,length_drop→aX,length_take→aQ,append_cancel_left→gG,getElem_mem→aH,mem_append→aF,getElem_of_mem→bD,getElem_take→oN,mem_of_getElem→mD,drop_left→gv,pairwise_iff_getElem→bR,getElem?_eq_getElem→af,find?_cons→kj,mem_cons_self→ar,mem_cons_of_mem→ax,singleton_append→oZ
open List.Pairwise renaming nil→cf
open Nat renaming le_refl→ai,zero_le→aN,zero_testBit→mh,lt_of_lt_of_le→az,le_trans→aW,lt_trichotomy→oI,lt_or_ge→cr,lt_irrefl→km
namespace Go.Proofs
open Go Go.Lift
theorem So{x:Hs}{h:ad}{K:Int×Int×Int→ad→Prop}(e:∀h',Upd No h h'→K (x.k0,x.k1,x.mask) h'):Ya 17 [.agg #[.int .u64 x.k0,.int .u64 x.k1,.int .u64 x.mask]] K h:=by
 refine cW (IM (x.k0,x.k1,x.mask)) .nil Tryz.func17 Tryz.call17 ?_;dsimp only[IM,aj,dt,Ei,ge,X3,X4,mc];refine ba fun g b1 k1=>ba fun i b2 d=>?_
 have c1:=d.get0 b1;refine⟨_,gw c1 0 0,_,gw c1 0 1,_,vc c1 2,?_⟩;refine cn (c:= [.int .u64 0,.int .u64 0,.int .u64 0]) (vs:= [.int .u64 x.k0,.int .u64 x.k1,.int .u64 x.mask]) b2 rfl fun f b a=>?_
 exact⟨_,vc b 0,_,vc b 1,_,vc b 2,e f ((k1.tr d).own a k1.size)⟩
theorem Tm(s:ByteArray):s.extract 0 ((if 30<(s.size:Int)then 30 else(s.size:Int)).toNat)=Il s:=by
 unfold Il;rw[show((if 30<(s.size:Int)then(30:Int)else(s.size:Int)).toNat)=min s.size 30 from by split<;>omega]
theorem Tc{p:Pr}{h:ad}{K:ByteArray×ByteArray→ad→Prop}(e:∀h',Upd No h h'→K (XS p) h'):XK 83 [.agg #[.string p.1,.string p.2]] K h:=by
 refine cW (IP p) .nil Tryz.func83 Tryz.call83 ?_;dsimp only[IP,bi,dt,kJ,mY,mF,fY,WM,p8,yg];refine ba fun g b1 k1=>ba fun i b2 d=>?_
 have c1:=d.get0 b1;refine⟨_,vc c1 0,_,vc c1 0,⟨by split<;>omega,by split<;>omega⟩,_,vc c1 1,_,vc c1 1,⟨by split<;>omega,by split<;>omega⟩,?_⟩
 refine cn (c:= [.string ⟨#[]⟩,.string ⟨#[]⟩]) (vs:= [.string (p.1.extract 0 ((if 30<(p.1.size:Int)then 30 else(p.1.size:Int)).toNat)),.string (p.2.extract 0 ((if 30<(p.2.size:Int)then 30 else(p.2.size:Int)).toNat))]) b2 rfl fun f b a=>?_
 rw[Tm,Tm]at b;exact⟨_,vc b 0,_,vc b 1,e f ((k1.tr d).own a k1.size)⟩
theorem _root_.Go.Lift.Upd.fresh{M:Nat→Prop}{h b a:ad}(k:Upd No h b)(u:Upd M b a)(c:∀y,M y→h.size≤y):Upd No h a:=k.trans u fun y d=>.inr (c y d)
abbrev Fi:ByteArray:=⟨#[109,97,105,110]⟩
abbrev LI:ByteArray:=⟨#[115,105,100,101]⟩
end Go.Proofs
namespace Go.Proofs
open Go Go.Lift
theorem Oh{h:ad}{K:Bool→ad→Prop}(hk:∀h',Upd No h h'→K true h'):fI 5 [] K h:=by
 refine cW Dv MF Tryz.func5 Tryz.call5 ?_;dsimp only[Dv,nv,ux,tf,WX,Lw,oW,sM,VV,Ri,nh,aD,wL,aY,aj];refine OU (W:=No) (x:=⟨0,0,0⟩) (fun _ h=>h.elim) (.inr rfl) fun h1 vp gp gm tm bm nm t v zv F k1=>?_
 refine Join.plain (ag.2 (ag.2 (yU v Fi 0 fun h2 u2 X=>?_)))
 have e1:kS [] [] Fi 0 false=0:=by decide
 simp only[e1,if_true]at X⊢;have k2:=k1.fresh u2 fun y g=>F y (.inr (.inr (.inr (.inl g))))
 refine ag.2 (P4 X fun h3 Y=>?_)
 have G:=X.upd0 Y;refine Af G.em G.g.lt cf (by simp) (⟨#[97]⟩,⟨#[]⟩) (by decide) (by decide) fun h4 B i4 _ Q=>?_
 refine ba fun h5 b5 Z=>cn (c:=iH sY) (vs:=iH B) b5 rfl fun h6 s A=>⟨_,vc s 0,_,vc s 1,_,vc s 2,_,vc s 3,_,vc s 4,_,vc s 5,?_⟩
 have D:Upd No h3 h6:=(Q.tr Z).own A Q.size;have v6:=G.upd0 D;have i6:=i4.upd0 (Z.own A (ai _));refine yV v6 Fi (hd:=0) rfl (d:=(B,[(⟨#[97]⟩,⟨#[]⟩)])) i6 (cj _ _) (fun q E=>by rw[al.1 E];decide) fun S u7 w=>?_
 have w:VaultAt _ S vp ⟨gp,gm,tm,bm,nm,1,⟨0,0,0⟩,t,[(1,[])],2,[(1,(B,[(⟨#[97]⟩,⟨#[]⟩)]))],[(Fi,1)],[]⟩:=w;have i7:=w.ts (1,(B,[(⟨#[97]⟩,⟨#[]⟩)])) (al.2 rfl);have u:=u7.get s fun hm=>by have:=G.size hm;have:=Q.size;omega
 have k7:Upd No h S:=((k2.tr Y).tr D).fresh u7 fun y g=>F y g
 refine⟨_,vc u 0,_,vc u 1,_,vc u 2,_,vc u 3,_,vc u 4,_,vc u 5,?_⟩;refine Af i7.1 w.g.lt i7.2.1 (by simp) (⟨#[98]⟩,⟨#[]⟩) (by decide) (by decide) fun h8 P i8 _ N=>?_
 refine ba fun h9 b9 k9=>cn (c:=iH sY) (vs:=iH P) b9 rfl fun L V k=>?_
 have j:Upd No S L:=(N.tr k9).own k N.size;have C:=w.upd0 j;have U:=i8.upd0 (k9.own k (ai _));refine Join.plain (ag.2 (ag.2 (yU C LI 1 fun h11 o z=>?_)))
 have e2:kS [(Fi,1)] [(1,[])] LI 1 false=0:=by decide
 simp only[e2,if_true]at z⊢;have f:=o.get V fun e=>by have:=w.size (y:=bm) (.inr (.inr (.inr (.inl rfl))));have:=N.size;have e:h8.size=bm:=e;omega
 have H:=U.updM o fun y g=>.inl (C.w y (.inr (.inr (.inr (.inl g)))))
 refine ag.2 ⟨_,vc f 0,_,vc f 1,_,vc f 2,_,vc f 3,_,vc f 4,_,vc f 5,?_⟩;refine yV z LI (hd:=1) rfl (d:=(P,fG (⟨#[98]⟩,⟨#[]⟩) [(⟨#[97]⟩,⟨#[]⟩)])) H (nI _ (cj _ _)) (fun q E=>(rJ E).elim (fun e=>by rw[e];decide) fun E=>by rw[al.1 E];decide) fun I O i=>?_
 have i:VaultAt _ I vp ⟨gp,gm,tm,bm,nm,1,⟨0,0,0⟩,t,[(1,[]),(2,[1])],3,[(1,(B,[(⟨#[97]⟩,⟨#[]⟩)])),(2,(P,fG (⟨#[98]⟩,⟨#[]⟩) [(⟨#[97]⟩,⟨#[]⟩)]))],[(Fi,1),(LI,2)],[]⟩:=i;have T:UpG [(1,[]),(2,[1])] 2 1:=.step (p:=1) (by decide) (by decide) (.refl (by decide));have hn:¬((2:Int)=0∨UpG [(1,[]),(2,[1])] 1 2):=fun hh=>hh.elim (fun e=>by cases e) fun e=>absurd (UpG.le i.inv.good e) (by decide)
 refine yT i (n:=Fi) (m:=LI) (a:=1) (b:=2) rfl rfl (p:=0) (by rw[dI];decide) (.inr (.inr T)) (fun e=>absurd e hn) fun _ J R v13=>?_
 refine aw.2 (aw.2 (aw.2 (hk J ?_)));exact(((k7.tr j).fresh o fun y g=>F y (.inr (.inr (.inr (.inl g))))).fresh O fun y g=>F y g).fresh R fun y g=>F y g
end Go.Proofs
namespace Go.Proofs
open Go Go.Lift
def sb(s:SliceV)(y:Nat):Prop:=s.cap≠0∧∃a,s.a=some a∧y=a.block
section
variable {α:Type} {f:α→List Value} {sz:Nat} {ty:TypeId} {M:Nat→Prop} {h:ad} {s so:SliceV} {xs out:List α}
theorem _root_.Go.Lift.OwnS.sub(o:OwnS f sz ty M h s xs):∀y,sb s y→M y∧y<h.size:=fun y ⟨hc,a,g,c⟩=>by
 rcases o.blk with e|⟨b,d,hb,hm,i,_⟩
 ·exact absurd e hc
 ·rw[g]at hb
  cases hb;exact⟨c▸hm,c▸bw i⟩
theorem _root_.Go.Lift.OwnS.its(o:OwnS f sz ty M h s xs):OwnS f sz ty (sb s) h s xs:=by
 refine⟨o.len,o.ne,o.cap,?_⟩;by_cases hc:s.cap=0
 ·exact .inl hc
 ·rcases o.blk with c|⟨b,a,hb,hm,d,e⟩
  ·exact absurd c hc
  ·exact .inr ⟨b,a,hb,⟨hc,_,hb,rfl⟩,d,e⟩
theorem RY{a:Option Addr}{n:Nat}:∀y,¬sb ⟨a,n,0⟩ y:=fun _ h=>h.1 rfl
theorem _root_.Go.Lift.OwnS.one{x:α}{b:Nat}(a:∀x,(f x).length=sz∧0<sz)(hb:h[b]? =some (.cells (f x).toArray ty (0,0))):OwnS f sz ty (sb ⟨some ⟨b,0,none⟩,1,1⟩) h ⟨some ⟨b,0,none⟩,1,1⟩ [x]:=
 ⟨rfl,a,ai _,.inr ⟨b,[],rfl,⟨by simp,_,rfl,rfl⟩,by simpa using hb,by simp⟩⟩
theorem WJ{a:Nat}{z:List Value}{t:α}{b:Nat}{K:SliceV→ad→Prop}(i:OwnS f sz ty (sb so) h so out)(hb:h[b]? =some (.cells (f t).toArray ty (0,0))) (e:cx (f t)=true) (n:z.length=sz) (c:0<a∧a≤64) (j:out.length+1≤1000000)
  (k:∀s' h',OwnS f sz ty (sb s') h' s' (out++ [t])→Upd (sb so) h h'→(∀y,sb s' y→(sb so y∨h.size≤y)∧y<h'.size)→K s' h'):
  ∃xs,SRow h (some ⟨b,0,none⟩) (1*sz) xs∧AppP (some z) sz a ty so.a so.len so.cap 1 xs h K:=by
 refine⟨_,((OwnS.one i.ne hb).sl (W:=No) fun _ _ _ h=>h).srow,?_⟩
 refine AppP.own (M:=fun y=>sb so y∨h.size≤y) (ys:= [t]) (i.more fun y g=>.inl g) rfl rfl (by simpa using e) n c.1 ?_ (.inr (ai _)) fun s' h' d m=>k s' h' d.its (m.mono fun y g=>g) d.sub
 simp only[List.length_singleton];calc (out.length+1)*a≤1000000*64:=Nat.mul_le_mul j c.2
  _≤140737488355328:=by omega
end
structure Sp where
 T:Nat→Prop
 Q:ad→Prop
 loc:∀{M:Nat→Prop} {h h':ad},Q h→Upd M h h'→(∀y,T y→¬M y)→Q h'
section
variable {Ss:List Sp} {h h':ad} {M:Nat→Prop} {s s':Sp} {i:Nat}
end
theorem GraphAt.re{W W' M:Nat→Prop}{h h':ad}{gp gm:Nat}{L:cT}{nx:Int}(g:GraphAt W h gp gm L nx)(k:Upd M h h')(hm:∀b,M b→(W b∧b≠gp∧b≠gm)∨h.size≤b)(f:∀b,W' b→(W b∨h.size≤b)∧b<h'.size)(a:W' gp)(d:W' gm):GraphAt W' h' gp gm L nx:=by
 have o:=g.upd k hm;obtain⟨m,c,i⟩:=g.map;refine⟨o.blk,⟨m,c.upd k fun e=>(hm _ e).elim (fun e=>e.2.2 rfl) fun e=>absurd (g.lt _ g.wm) (Nat.not_lt.2 e),fun j=>?_⟩,a,d,fun b hb=>(f b hb).2,g.nd⟩
 rcases i j with⟨s,ps,a,d,p⟩|n
 ·exact .inl ⟨s,ps,a,d,((p.less (W':=fun b=>W b∨h.size≤b) fun b hb=>hb).upd k fun b hb=>.inl ((hm b hb).imp (·.1) id)).less fun b hb=>.inl (f b hb).1⟩
 ·exact .inr n
theorem TreeIs.re{W W' M:Nat→Prop}{h h':ad}{kind:Int}{x:Hs}{t:Tr}{l:List Pr}(i:TreeIs W h kind x t l)(k:Upd M h h')(hm:∀b,M b→W b∨h.size≤b)(a:∀b,W' b→W b∨h.size≤b):TreeIs W' h' kind x t l:=
 ((i.less (W':=fun b=>W b∨h.size≤b) fun _ hb=>hb).updM k fun b hb=>.inl (hm b hb)).less fun b hb=>.inl (a b hb)
theorem VaultAt.re{W W' M:Nat→Prop}{h h':ad}{m:Nat}{s:VS}(v:VaultAt W h m s)(k:Upd M h h')(hm:∀b,M b→(W b∧¬s.M b)∨h.size≤b)(j:∀b,W' b→(W b∨h.size≤b)∧b<h'.size)(g:∀y,s.M y→W' y):VaultAt W' h' m s:=by
 have f:=v.upd k hm;have c:∀b,M b→W b∨h.size≤b:=fun b hb=>(hm b hb).imp (·.1) id
 have a:∀b,W' b→W b∨h.size≤b:=fun b hb=>(j b hb).1
 exact⟨f.blk,v.g.re k (fun b hb=>(hm b hb).imp (fun e=>⟨e.1,fun i=>e.2 (.inl i),fun i=>e.2 (.inr (.inl i))⟩) id) j (g _ (.inl rfl)) (g _ (.inr (.inl rfl))),f.t,f.b,f.n,g,fun hv=>(a _ hv).elim v.wv fun e=>absurd (bw v.blk) (by omega),v.ne,v.em.re k c a,fun d hd=>⟨(v.ts d hd).1.re k c a,(v.ts d hd).2⟩,v.sub,v.inv,v.kd⟩
section
variable {Ss:List Sp} {h h':ad} {vp:Nat} {s:VS} {p p':Sp} {i:Nat} {M:Nat→Prop}
end
end Go.Proofs
namespace Go.Proofs
open Go Go.Lift
def lA(k:ByteArray)(l:List Pr):List Pr:=l.filter fun q=>decide (q.1≠k)
theorem uI(k:ByteArray)(q:Pr)(l:List Pr):lA k (q::l)=if q.1=k then lA k l else q::lA k l:=by
 unfold lA;rw[List.filter_cons];by_cases h:q.1=k
 ·rw[if_pos h,if_neg (by simpa using h)]
 ·rw[if_neg h,if_pos (by simpa using h)]
theorem xq{k:ByteArray}{l:List Pr}(h:∀q∈l,q.1≠k):lA k l=l:=di.2 fun q a=>decide_eq_true (h q a)
theorem Ad{k:ByteArray}{l:List Pr}(h:cy l k=false):∀q∈l,q.1≠k:=fun q a e=>by
 have:cy l k=true:=bT.2 ⟨q,a,decide_eq_true e⟩;rw[h]at this;cases this
theorem wY{k:ByteArray}{l:List Pr}(h:∀q∈l,q.1≠k):cy l k=false:=by
 rcases ht:cy l k with _|_
 ·rfl
 ·obtain⟨q,a,e⟩:=bT.1 ht
  exact absurd (of_decide_eq_true e) (h q a)
theorem BR{k:ByteArray}{l:List Pr}(a:bM l):bM (lA k l):=a.sublist List.filter_sublist
theorem Em{k:ByteArray}{l:List Pr}{p:Pr}:p∈lA k l↔p∈l∧p.1≠k:=by unfold lA;rw[List.mem_filter,decide_eq_true_iff]
theorem Tj{k:ByteArray}{l:List Pr}:(lA k l).length≤l.length:=List.length_filter_le ..
theorem PI{k:ByteArray}:∀{l:List Pr},bM l→l.length≤(lA k l).length+1
 | [],_=>aN _
 |q::l,a=>by
  have a:=ay.1 a;rw[uI];by_cases h:q.1=k
  ·rw[if_pos h,xq fun r hm e=>by have:=a.1 r hm;rw[h,e]at this;exact bN _ this];exact ai _
  ·rw[if_neg h]
   have:=PI (k:=k) a.2;simp only[List.length_cons];omega
theorem PJ(k:ByteArray):∀{l:List Pr},bM l→QO l k=lA k l
 | [],_=>by simp[QO,lA,cy]
 |q::l,c=>by
  have j:=c;have c:=ay.1 c;have b:pos (q::l) k=if kl q.1 k then pos l k+1 else 0:=by
   unfold pos;rw[List.takeWhile_cons];by_cases h:kl q.1 k
   ·rw[if_pos (by simpa using h),if_pos h];rfl
   ·rw[if_neg (by simpa using h),if_neg h];rfl
  have f:cy (q::l) k=(decide (q.1=k)||cy l k):=by unfold cy;rw[pL]
  by_cases h:kl q.1 k
  ·have d:q.1≠k:=fun e=>by rw[e]at h;exact bN _ h
   rw[uI,if_neg d,←PJ k c.2];unfold QO;rw[f,b,if_pos h,decide_eq_false d,Bool.false_or];by_cases ht:cy l k=true
   ·rw[if_pos ht,if_pos ht];rfl
   ·rw[if_neg ht,if_neg ht]
  ·by_cases e:q.1=k
   ·have a:∀r∈l,r.1≠k:=fun r hm g=>by have:=c.1 r hm;rw[e,g]at this;exact bN _ this
    rw[uI,if_pos e,xq a];unfold QO;rw[f,b,if_neg h,decide_eq_true e,Bool.true_or,if_pos rfl];rfl
   ·have i:=kz h e
    have a:∀r∈q::l,r.1≠k:=fun r hm g=>by
     rcases aq.1 hm with rfl|hm
     ·exact e g
     ·have:=c.1 r hm
      rw[g]at this;exact bN _ (dw i this)
    rw[xq a];unfold QO;rw[wY a];rfl
theorem Ly{x:Hs}{lev c:Nat}{k:ByteArray}{l:List Pr}:part x lev c (lA k l)=lA k (part x lev c l):=by
 unfold part lA;rw[iB,iB];exact List.filter_congr fun p _=>Bool.and_comm ..
theorem Qp{x:Hs}{lev c:Nat}{k:ByteArray}{l:List Pr}(h:c≠ck x lev k):part x lev c (lA k l)=part x lev c l:=by
 rw[Ly];exact xq fun q a e=>h (by rw[←e];exact(lw.1 a).2.symm)
theorem M1{W:Nat→Prop}{x:Hs}{h h':ad}{m b':Nat}{s s':Slots}{l:List Pr}{k:ByteArray}(d:Upd No h h')(nd:NodeAt W h' b' s')(a:∀c,c<32→SlotIs W x h m s c (part x (12-m) c l))
  (g:∀c,c≠ck x (12-m) k→s'.p c=s.p c∧s'.k c=s.k c)(hi:SlotIs W x h' m s' (ck x (12-m) k) (lA k (part x (12-m) (ck x (12-m) k) l))):TrieAt W x h' (m+1) b' (lA k l):=by
 refine⟨s',nd,fun c hc=>?_⟩
 by_cases e:ck x (12-m) k=c
 ·rw[Ly];subst e;exact hi
 ·rw[Qp fun h=>e h.symm]
  have t:=SlotIs.upd0 d (a c hc);obtain⟨b,f⟩:=g c fun h=>e h.symm
  unfold SlotIs at t;rw[←b,←f]at t;exact t
theorem PF{β:Type}(g:Nat→Option β):∀n,(fm g n).length=((List.range n).map fun c=>(g c).toList.length).sum
 |0=>rfl
 |n+1=>by
  rw[rg,ae,PF g n,List.range_succ,List.map_append,List.sum_append];simp
theorem K7{x:Hs}{lev:Nat}{l:List Pr}(h:∀c,c<32→(part x lev c l).length≤1):(uE x lev l).length=l.length:=by
 unfold uE;rw[PF];have e:=xU x lev l 32;have d:(l.filter fun p=>decide (ck x lev p.1<32))=l:=di.2 fun p _=>decide_eq_true (yA x lev p.1)
 rw[d]at e;rw[←e];refine congrArg List.sum (List.map_congr_left fun c hc=>?_)
 have:=h c (fj.1 hc);match hp:part x lev c l with
 | []=>rfl
 | [p]=>rfl
 |a::b::r=>rw[hp]at this;simp at this
theorem M2{W:Nat→Prop}{x:Hs}{h:ad}{m b:Nat}{l:List Pr}(t:TrieAt W x h m b l)(C:l.length≤1000000):
  ∃d n sp sk bu ow lp lk,h[b]? =some (.cells (dY d n sp sk bu ow) 324 (0,0))∧Sl dQ 2 W h sp lp∧Sl qp 1 W h sk lk∧lp.length≤1000000∧lk.length≤32∧(lp.length+lk.length=1∧n=0↔l.length=1)∧∀p,l= [p]→lp= [p]:=by
 cases m with
 |zero=>
  obtain⟨sp,sk,ow,hb,j,f,_⟩:=BuckAt.ex t;exact⟨0,0,sp,sk,true,ow,l,[],hb,j,f,C,by simp,by simp,fun p e=>e⟩
 |succ m=>
  obtain⟨s,nd,k⟩:=t;have k:∀c,c<32→SlotIs W x h m s c (part x (12-m) c l):=k;obtain⟨d,n,sp,sk,ow,hb,bits,j,f,_⟩:=nd.ex;have o:=O3 k;have B:=AG (g:=s.p);refine⟨d,n,sp,sk,false,ow,_,_,hb,j,f,by omega,AG,?_,?_⟩
  ·by_cases u:∀c,c<32→s.k c=none
   ·have w:n=0:=Nat.eq_of_testBit_eq fun c=>by
     rw[mh];by_cases hc:c<32
     ·rw[bits.nk c hc,u c hc];rfl
     ·exact Nat.testBit_lt_two_pow (az bits.n32 (Nat.pow_le_pow_right (n:=2) (by omega) (by omega:32≤c)))
    have ek:fm s.k 32= []:=by
     unfold fm;rw[List.filterMap_eq_nil_iff];exact fun c hc=>u c (fj.1 hc)
    have A:(fm s.p 32).length=l.length:=by
     rw[o];refine K7 fun c hc=>?_
     rcases k c hc with⟨a,_⟩|⟨p,a,_⟩|⟨_,_,D,z,_⟩
     ·rw[a];simp
     ·rw[a];simp
     ·rw[u c hc]at z;cases z
    rw[ek,A,w];simp
   ·obtain⟨c,hc⟩:=Classical.not_forall.1 u
    obtain⟨hc,i⟩:=Classical.not_imp.1 hc;have v:n≠0:=fun w=>by
     have:=bits.nk c hc;rw[w,mh]at this;cases hkk:s.k c with
     |none=>exact i hkk
     |some y=>rw[hkk]at this;cases this
    rcases k c hc with⟨_,_,a⟩|⟨p,_,_,a⟩|⟨z,_⟩
    ·exact absurd a i
    ·exact absurd a i
    ·have:=pR (x:=x) (lev:=12-m) (c:=c) (l:=l)
     constructor
     ·rintro⟨_,e⟩;exact absurd e v
     ·intro e;omega
  ·rintro p rfl
   rw[o];have hc:=yA x (12-m) p.1;have A:(uE x (12-m) [p]).length=1:=K7 fun c _=>aW pR (by simp)
   match hq:uE x (12-m) [p],A with
   | [q],_=>
    have:q∈uE x (12-m) [p]:=by rw[hq];exact al.2 rfl
    rw[al.1 (HR this)]
theorem UQ{h:ad}{b d n:Nat}{sp sk:SliceV}{c:Bool}{ow:Option Addr}(hb:h[b]? =some (.cells (dY d n sp sk c ow) 324 (0,0))) (f:sp.len+sk.len≤1000000000) {K:Int→ad→Prop} (a:K ((sp.len+sk.len:Nat):Int) h):fH 217 [gS b] K h:=by
 refine Eb _ ?_;dsimp only[wA,cg,cH,xx];refine ag.2 ⟨_,rfl,sp,dS (i:=2) hb,_,rfl,sk,dS (i:=3) hb,?_⟩;have e:ac .i64 ((sp.len:Int)+(sk.len:Int))=((sp.len+sk.len:Nat):Int):=by rw[df (by omega)];omega
 rw[e];exact a
theorem TO{W:Nat→Prop}{x:Hs}{h:ad}{m b:Nat}{l:List Pr}(t:TrieAt W x h m b l)(E:l.length≤1000000){K:Pr×Bool→ad→Prop}
  (u:∀h' p,Upd No h h'→(l.length=1→l= [p])→K (p,decide (l.length=1)) h'):FC 265 [gS b] K h:=by
 refine Hh _ ?_;dsimp only[yP,fQ,dt,kJ,mY,Hf,cZ,mF,bi];refine ba fun G b1 k1=>?_
 have C:=TrieAt.upd0 k1 t;obtain⟨d,n,sp,sk,N,ow,P,lk,hb,k,y,H,D,c,f⟩:=M2 C E;have L:=k.len;have O:=y.len;refine Join.intro (fun t h'=>t= !decide (l.length=1)∧h'=G) (fun R B=>?_) ?_
 ·refine UQ hb (by omega) ?_
  by_cases e:sp.len+sk.len=1
  ·have z:((sp.len+sk.len:Nat):Int)=1:=by omega
   rw[z];refine ag.2 (LF hb (B _ _ ⟨?_,rfl⟩));by_cases A:n=0
   ·rw[decide_eq_true (c.1 ⟨by omega,A⟩),A];rfl
   ·rw[decide_eq_false fun h=>A (c.2 h).2]
    exact bne_iff_ne.2 (by omega)
  ·have z:(((sp.len+sk.len:Nat):Int) !=(1:Int))=true:=bne_iff_ne.2 (by omega)
   rw[z];refine aw.2 (B _ _ ⟨?_,rfl⟩);rw[decide_eq_false fun h=>e (by have:=(c.2 h).1;omega)];rfl
 ·rintro _ h' ⟨rfl,rfl⟩
  have s:h'[h.size]? =some (.cells #[.string OM.1,.string OM.2] 33 (0,0)):=b1;by_cases e:l.length=1
  ·rw[decide_eq_true e]
   refine ag.2 ?_;refine wW hb k (by omega) fun J I o q=>?_
   match l,e,f with
   | [p],e,f=>
    have v:=f p rfl;subst v;have j:=o.len;obtain⟨a,F,_,hv⟩:=(o.sl (W:=No) fun _ _ _ h=>h).at (i:=0) (x:=p) rfl
    refine⟨⟨by omega,by simp at j;omega⟩,a,F,p.1,hv 0 _ rfl,p.2,hv 1 _ rfl,?_⟩
    refine E9 (p:=p) (q.get0 s) fun w b3 g=>⟨_,vc b3 0,_,vc b3 1,?_⟩
    have:=u w p ((k1.tr q).own g (ai _)) fun _=>rfl
    exact this
  ·have:=u
   rw[decide_eq_false e];rw[decide_eq_false e]at u;refine aw.2 (E9 (p:=OM) s fun w b3 g=>⟨_,vc b3 0,_,vc b3 1,?_⟩)
   exact u w _ (k1.own g (ai _)) fun h=>absurd h e
end Go.Proofs
namespace Go.Proofs
open Go Go.Lift
theorem LB{h:ad}{s:SliceV}{l:List Pr}(f:Sl dQ 2 No h s l)(hc:s.len≤s.cap)(p:bM l)(D:l.length≤1000000000)(k:ByteArray)
  {K:SliceV→ad→Prop}(t:∀s' h',OwnS dQ 2 33 (fun b=>h.size≤b) h' s' (lA k l)→Upd No h h'→K s' h'):eP 302 [.slice s.a s.len s.cap,.string k] K h:=by
 refine cW (Dr s k) .nil Tryz.func302 Tryz.call302 ?_;dsimp only[Dr,kR,l8,mN,D2];have c:=f.len;refine JS f p D k fun n a=>?_
 have C:=Sk l k;cases ht:cy l k with
 |false=>
  refine aw.2 (uL (f.upd a fun _ h=>h.elim) (by omega) fun I H o u=>?_)
  rw[xq (Ad ht)]at t;exact t _ _ (o.more fun b hb=>aW a.size hb) (a.tr u)
 |true=>
  obtain⟨B,_⟩:=Jz p ht;have A:ac .i64 ((pos l k:Int)+1)=((pos l k+1:Nat):Int):=by rw[df (by omega)];omega
  refine ag.2 ?_;(try simp only)
  rw[A];refine⟨by omega,by omega,?_⟩
  simp only[Bd,bf];refine bL ?_;have d:=f.upd a fun _ h=>h.elim
  have w:=Upd.hnew No n [.slice (aV s.a 0 s.cap 2) (pos l k-0) (s.cap-0),.slice (aV s.a (pos l k+1) s.cap 2) (s.len-(pos l k+1)) (s.cap-(pos l k+1))] 256;have F:=bU n [.slice (aV s.a 0 s.cap 2) (pos l k-0) (s.cap-0),.slice (aV s.a (pos l k+1) s.cap 2) (s.len-(pos l k+1)) (s.cap-(pos l k+1))] 256;have y:=Jm d (i:=0) (j:=pos l k) (m:=s.cap) (aN _) C (by omega) (s.cap-0)
  have q:=Jm d (i:=pos l k+1) (j:=l.length) (m:=s.cap) (by omega) (ai _) (by omega) (s.cap-(pos l k+1));rw[←c]at q;rw[List.drop_zero]at y;rw[List.take_of_length_le (by rw[aX];omega)]at q;have E:lA k l= [l.take (pos l k-0),l.drop (pos l k+1)].flatten:=by rw[←PJ k p];unfold QO;rw[if_pos ht];simp
  refine Im (s:=⟨some (aL n),2,2⟩) (vs:= [⟨aV s.a 0 s.cap 2,pos l k-0,s.cap-0⟩,⟨aV s.a (pos l k+1) s.cap 2,s.len-(pos l k+1),s.cap-(pos l k+1)⟩]) (ls:= [l.take (pos l k-0),l.drop (pos l k+1)])
   ⟨rfl,fun x=>⟨rfl,Nat.one_pos⟩,fun _=>⟨_,rfl,fun h=>h.elim,qU F fun i v hv=>by simpa[Yk]using hv⟩⟩ ⟨y.upd w fun _ h=>h.elim,q.upd w fun _ h=>h.elim,trivial⟩ ?_ (by simp) fun G J e g=>?_
  ·simp only[List.flatten_cons,List.flatten_nil,ae,aQ,aX,List.length_nil];omega
  ·rw[←E]at e
   have z:=a.tr w;exact t _ _ (e.more fun b hb=>aW z.size hb) (z.tr g)
theorem TF{W:Nat→Prop}{h:ad}{b:Nat}{l:List Pr}(s:BuckAt W h b l)(j:∀x,W x→x<h.size)(A:bM l)(t:l.length≤1000000000)(k:ByteArray){K:Option Addr→ad→Prop}
  (C:∀h' b',BuckAt W h' b' (lA k l)→Upd No h h'→K (some ⟨b',0,none⟩) h'):
  eT 264 [gS b,.pointer none,.string k] K h:=by
 refine Cp _ none k ?_;dsimp only[vi,kq,kR,cH,gU,cV,xx,cg];obtain⟨sp,sk,ow,hb,y,B,E,v⟩:=s.ex;refine ie hb (ag.2 ?_);refine Pl s t fun H z q b2 p o g=>?_
 refine⟨_,rfl,z,dS (i:=2) b2,?_⟩;refine LB (p.sl fun _ _ _ h=>h) p.cap A t k fun u G f c=>?_
 have b3:=c.get0 b2;refine⟨_,rfl,Ua (i:=2) b3 (show 2<6 by decide),GZ (i:=2) (c':=dY 0 0 u q true none) b3 rfl fun w D a=>?_⟩
 have F:=bw b2;have m:=f.upd a fun x hx e=>by have e:x=h.size:=e;omega
 have n:=(o.upd c fun _ _ h=>h).upd a fun x hx e=>by have e:x=h.size:=e;omega
 refine C w h.size ⟨⟨u,q,none,D,m.sl fun x hx _ d=>?_,n.sl fun x hx _ d=>?_,f.cap,o.cap⟩,fun d=>?_⟩ ((g.tr c).trans a fun x hx=>.inr ?_)
 ·have:=j x d;have:=g.size;omega
 ·have:=j x d;omega
 ·have:=j _ d;omega
 ·have hx:x=h.size:=hx
  omega
theorem Mj{W:Nat→Prop}{x:Hs}:∀(m:Nat),m≤13→∀{b:Nat} {l:List Pr} (k:ByteArray) {h:ad},TrieAt W x h m b l→(∀y,W y→y<h.size)→bM l→l.length≤1000000→∀{K:(Option Addr)×Bool→ad→Prop},
  (∀h' b',Upd No h h'→TrieAt W x h' m b' (lA k l)→(cy l k=false→b'=b)→K (some ⟨b',0,none⟩,cy l k) h')→
  rP 193 [Rx x k,gS b,.int .i64 ((13-m:Nat):Int)] K h:=by
 intro m;induction m with
 |zero=>
  intro _ b l k h t hW hr hn K C;have Q:∀{h'},Upd No h h'→∀y,W y→y<h'.size:=fun k y P=>az (hW y P) k.size
  refine tD (x.k0,x.k1,x.mask,none,k,iS x k) (some ⟨b,0,none⟩) ((13-0:Nat):Int) ?_;dsimp only[oA,aj,bi,nv,aD,oW,fP,yg,mY,yS,GS,Ja,JA,vr,jK,EK,D0,mc,fY,AU,mF];refine ba fun u b1 k1=>?_
  have bk:BuckAt W u b l:=BuckAt.upd t k1 fun _ h=>h.elim
  obtain⟨sp,sk,ow,hb,_⟩:=bk.ex;refine ie hb (aw.2 ⟨_,vc b1 4,VN bk hr (by omega) k fun J v j hv=>?_⟩)
  have b3:=j.get0 b1;cases ht:cy l k with
  |false=>
   rw[ht]at C;exact aw.2 (C J b (k1.tr j) (by rw[xq (Ad ht)];exact bk.upd j fun _ h=>h.elim) fun _=>rfl)
  |true=>
   rw[ht]at C;refine ag.2 ⟨none,vc b3 3,_,vc b3 4,?_⟩;refine TF (bk.upd j fun _ h=>h.elim) (Q (k1.tr j)) hr (by omega) k fun h5 b5 bk5 I=>?_
   exact C h5 b5 ((k1.tr j).tr I) bk5 fun h=>by cases h
 |succ m ih=>
  intro hm b l k h t hW hr hn K C;have Q:∀{h'},Upd No h h'→∀y,W y→y<h'.size:=fun k y P=>az (hW y P) k.size
  have hl:13-(m+1)<13:=by omega
  have Z:13-(m+1)=12-m:=by omega
  refine tD (x.k0,x.k1,x.mask,none,k,iS x k) (some ⟨b,0,none⟩) ((13-(m+1):Nat):Int) ?_;dsimp only[oA,aj,bi,nv,aD,oW,fP,yg,mY,yS,GS,Ja,JA,vr,jK,EK,D0,mc,fY,AU,mF];refine ba fun u b1 k1=>?_
  have t1:=TrieAt.upd0 k1 t;obtain⟨s,E,hs⟩:=t1;have hs:∀c,c<32→SlotIs W x u m s c (part x (12-m) c l):=hs;obtain⟨d,n,sp,sk,ow,hb,_⟩:=E.ex;refine ie hb (ag.2 ⟨_,vc b1 5,Tu hl ?_⟩);rw[Z];have hi:=yA x (12-m) k;have L:=hs _ hi;have F:cy (part x (12-m) (ck x (12-m) k) l) k=cy l k:=EP;have U:bM (part x (12-m) (ck x (12-m) k) l):=jM hr;have T:(part x (12-m) (ck x (12-m) k) l).length≤1000000:=aW pR hn
  have w:∀{h':ad} {b':Nat} {s':Slots},Upd No u h'→NodeAt W h' b' s'→(∀c,c≠ck x (12-m) k→s'.p c=s.p c∧s'.k c=s.k c)→SlotIs W x h' m s' (ck x (12-m) k) (lA k (part x (12-m) (ck x (12-m) k) l))→TrieAt W x h' (m+1) b' (lA k l):=fun R nd hp hi=>M1 R nd hs hp hi
  have tt:∀{h':ad},Upd No u h'→TrieAt W x h' (m+1) b l:=fun R=>TrieAt.upd0 (k1.tr R) t
  generalize hc:ck x (12-m) k=c at*;generalize hlc:part x (12-m) c l=lc at*;refine Aq E hi fun J j=>?_
  refine ba fun h4 b4 k4=>?_
  have b4':h4[J.size]? =some (.cells #[.string OM.1,.string OM.2] 33 (0,0)):=b4;refine E9 (p:=SU (s.p c)) b4' fun h5 b5 I=>?_
  have a:Upd No u h5:=(j.tr k4).own I j.size;have c1:=a.get0 b1;have S:=E.upd a fun _ h=>h.elim
  have same:∀{h':ad},Upd No u h'→cy l k=false→K (some ⟨b,0,none⟩,false) h':=fun R ht=>by
   have:=C _ b (k1.tr R) (by rw[xq (Ad ht)];exact tt R) fun _=>rfl
   rw[ht]at this;exact this
  cases hsp:s.p c with
  |some y=>
   rw[hsp]at b5;obtain⟨B,hk0⟩:lc= [y]∧s.k c=none:=by
    rcases L with⟨_,g,_⟩|⟨q,u,g,J⟩|⟨_,g,_⟩
    ·rw[hsp]at g;cases g
    ·rw[hsp]at g;cases g;exact⟨u,J⟩
    ·rw[hsp]at g;cases g
   refine aw.2 ⟨y.1,vc b5 0,k,vc c1 4,?_⟩;rw[dI];by_cases e1:y.1=k
   ·have ht:cy l k=true:=by rw[←F,B];exact bT.2 ⟨y,al.2 rfl,decide_eq_true e1⟩
    rw[decide_eq_true e1];rw[ht]at C;refine ag.2 ⟨none,vc c1 3,Tt S (Q (k1.tr a)) hi fun h6 b6 nd6 D=>?_⟩
    refine C h6 b6 ((k1.tr a).tr D) (w (a.tr D) nd6 (fun c' o=>⟨fX o,fX o⟩) ?_) fun h=>by cases h
    refine .inl ⟨?_,gk,gk⟩;rw[B,uI,if_pos e1];rfl
   ·rw[decide_eq_false e1]
    have ht:cy l k=false:=by
     rw[←F,B];unfold cy;rw[pL,decide_eq_false e1];rfl
    exact aw.2 (same a ht)
  |none=>
   refine ag.2 (vF S hi ?_);cases hsk:s.k c with
   |none=>
    have V:lc= []:=by
     rcases L with⟨u,_⟩|⟨q,_,g,_⟩|⟨_,_,O,g,_⟩
     ·exact u
     ·rw[hsp]at g;cases g
     ·rw[hsk]at g;cases g
    exact aw.2 (same a (by rw[←F,V];rfl))
   |some kp=>
    obtain⟨h2l,O,rfl,tk⟩:2≤lc.length∧∃O,kp=some ⟨O,0,none⟩∧TrieAt W x u m O lc:=by
     rcases L with⟨_,_,g⟩|⟨q,_,g,_⟩|⟨u,_,O,g,J⟩
     ·rw[hsk]at g;cases g
     ·rw[hsp]at g;cases g
     ·rw[hsk]at g;cases g;exact⟨u,O,rfl,J⟩
    refine ag.2 ⟨_,vc c1 0,_,vc c1 1,_,vc c1 2,_,vc c1 3,_,vc c1 4,_,vc c1 5,?_⟩;have ew:ac .i64 (((12-m:Nat):Int)+1)=((13-m:Nat):Int):=by rw[df (by omega)];omega
    rw[ew];refine ih (by omega) k (TrieAt.upd0 a tk) (Q (k1.tr a)) U T fun h6 b6 D t6 hsame=>?_
    have A:=a.tr D;rw[F];cases ht:cy l k with
    |false=>exact aw.2 (same A ht)
    |true=>
     rw[ht]at C;have hdl:=PI (k:=k) U;have hdn:(lA k lc).length≤1000000:=aW Tj T;refine ag.2 (TO t6 hdn fun h7 p G hp=>?_)
     refine ba fun h8 b8 k8=>?_
     have b8':h8[h7.size]? =some (.cells #[.string OM.1,.string OM.2] 33 (0,0)):=b8;refine E9 (p:=p) b8' fun h9 b9 X=>?_
     have f:Upd No u h9:=((A.tr G).tr k8).own X (A.tr G).size;have c9:=f.get0 b1;have Y:=E.upd f fun _ h=>h.elim
     refine ao (fun e=>?_) fun e=>?_
     ·refine⟨none,vc c9 3,p.1,vc b9 0,p.2,vc b9 1,rD Y (Q (k1.tr f)) hi (fun y P=>by rw[hsp]at P;cases P) p fun H N z i=>?_⟩
      refine C H N ((k1.tr f).tr i) (w (f.tr i) z (fun c' o=>⟨fX o,fX o⟩) ?_) fun h=>by cases h
      exact .inr (.inl ⟨p,hp e,gk,gk⟩)
     ·refine⟨none,vc c9 3,xM Y (Q (k1.tr f)) hi (fun _ _=>hsp) ⟨b6,0,none⟩ fun H N z i=>?_⟩
      refine C H N ((k1.tr f).tr i) (w (f.tr i) z (fun c' o=>⟨fX o,fX o⟩) ?_) fun h=>by cases h
      exact .inr (.inr ⟨by omega,gk,b6,gk,TrieAt.upd0 ((G.tr k8).own X G.size|>.tr i) t6⟩)
theorem J0{W:Nat→Prop}{x:Hs}{h:ad}{b:Nat}{l:List Pr}(t:TrieAt W x h 13 b l)(o:∀y,W y→y<h.size)(u:bM l)(v:l.length≤1000000)(k:ByteArray){K:Option Addr×Bool→ad→Prop}
  (w:∀h' b',Upd No h h'→TrieAt W x h' 13 b' (lA k l)→(cy l k=false→b'=b)→K (some ⟨b',0,none⟩,cy l k) h'):
  rP 134 [.agg #[.int .u64 x.k0,.int .u64 x.k1,.int .u64 x.mask],.pointer none,gS b,.string k] K h:=by
 refine cW (Bp (x.k0,x.k1,x.mask) none (some ⟨b,0,none⟩) k) Kw Tryz.func134 Tryz.call134 ?_;dsimp only[Bp,aj,Ei,BG,yS,mc];refine ba fun C b1 k1=>?_
 refine Jk (.inr ⟨b,rfl,TrieAt.upd0 k1 t⟩) (fun y m=>az (o y m) k1.size) fun B b2 s f n=>?_
 have c:=f.get0 b1;refine⟨_,vc c 0,_,vc c 1,_,vc c 2,_,vc c 0,_,vc c 1,_,vc c 2,?_⟩;refine AB fun A d=>?_
 have i:=d.get0 c;refine⟨⟨vc i 0,vc i 1,vc i 2⟩,?_⟩;have a:=(k1.tr f).tr d;refine Mj 13 (ai _) k (TrieAt.upd0 d s) (fun y m=>az (o y m) a.size) u v fun q z j p g=>?_
 refine w q z (a.tr j) p fun ht=>?_
 rw[g ht];rcases n with e|e
 ·cases e;rfl
 ·cases e
end Go.Proofs
namespace Go.Proofs
def ue(P a:List UInt8→ByteArray→Prop)(k:List UInt8):Prop:=∀k' v',a k' v'↔k'≠k∧P k' v'
theorem N8{P:List UInt8→ByteArray→Prop}{k:List UInt8}(h:∀v,¬P k v):ue P P k:=fun _ b=>⟨fun a=>⟨fun e=>h b (e▸a),a⟩,fun h=>h.2⟩
theorem N7{w:Option ByteArray}{F:Fo}(h:gA F):ue (uT w F) (uT none F) []:=by
 intro k' a;unfold uT;constructor
 ·rintro(⟨_,f⟩|hi)
  ·cases f
  ·exact⟨vG h hi,.inr hi⟩
 ·rintro⟨e,⟨f,_⟩|hi⟩
  ·exact absurd f e
  ·exact .inr hi
theorem FP{w:Option ByteArray}{F F':Fo}{k:List UInt8}(b:k≠[])(h:ue (sX F) (sX F') k):ue (uT w F) (uT w F') k:=by
 intro k' c;unfold uT;rw[h k' c];constructor
 ·rintro(⟨e,f⟩|hi)
  ·exact⟨fun a=>b (a.symm.trans e),.inl ⟨e,f⟩⟩
  ·exact⟨hi.1,.inr hi.2⟩
 ·rintro⟨e,hi|hi⟩
  ·exact .inl hi
  ·exact .inr ⟨e,hi⟩
theorem N9{lab r:List UInt8}{w d:Option ByteArray}{F F':Fo}(h:ue (uT w F) (uT d F') r):ue (wK (lab,w,F)) (wK (lab,d,F')) (lab++r):=by
 intro k' f;constructor
 ·rintro⟨s,e,a⟩
  obtain⟨b,g⟩:=(h s f).1 a;exact⟨fun c=>b (gG (e.symm.trans c)),s,e,g⟩
 ·rintro⟨b,s,e,a⟩
  exact⟨s,e,(h s f).2 ⟨fun c=>b (by rw[e,c]),a⟩⟩
theorem QM{F:Fo}{i:Nat}{m:Bn}{k:List UInt8}(h:gA F)(hi:i<F.toL.length)(ek:hd F.toL[i].1=hd k)(g:ue (wK F.toL[i]) (wK m) k):ue (sX F) (sX (.ofL (F.toL.set i m))) k:=by
 intro k' f;have hc:=dA.1 h;rw[gB,gB,Fo.to_of];constructor
 ·rintro⟨n,a,b⟩
  rcases(lq hi (vD h hi)).1 a with rfl|⟨a,c⟩
  ·obtain⟨d,j⟩:=(g k' f).1 b
   exact⟨d,_,aH hi,j⟩
  ·refine⟨fun e=>c ?_,n,a,b⟩
   obtain⟨r,o,_⟩:=b;refine yb h a (aH hi) ?_;rw[ek,←e,o,pi (hc.2 n a).1]
 ·rintro⟨d,n,a,b⟩
  by_cases e:n=F.toL[i]
  ·exact⟨m,(lq hi (vD h hi)).2 (.inl rfl),(g k' f).2 ⟨d,by rw[←e];exact b⟩⟩
  ·exact⟨n,(lq hi (vD h hi)).2 (.inr ⟨a,e⟩),b⟩
theorem CS{α:Type}{l:List α}{i:Nat}(hi:i<l.length){x:α}(nd:∀j (a:j<l.length),j≠i→l[j]≠l[i]):x∈l.take i++l.drop (i+1)↔x∈l∧x≠l[i]:=by
 constructor
 ·intro h
  rcases aF.1 h with h|h
  ·obtain⟨j,a,e⟩:=bD h
   rw[aQ]at a;rw[oN]at e;exact⟨List.mem_of_mem_take h,by rw[←e];exact nd j (by omega) (by omega)⟩
  ·obtain⟨j,a,e⟩:=bD h
   rw[aX]at a;rw[List.getElem_drop]at e;exact⟨List.mem_of_mem_drop h,by rw[←e];exact nd (i+1+j) (by omega) (by omega)⟩
 ·rintro⟨h,b⟩
  obtain⟨j,a,e⟩:=bD h;rcases oI j i with c|c|c
  ·exact aF.2 (.inl (mD (i:=j) (h:=by rw[aQ];omega) (by rw[oN];exact e)))
  ·subst c;exact absurd e.symm b
  ·refine aF.2 (.inr (mD (i:=j-(i+1)) (h:=by rw[aX];omega) ?_))
   rw[List.getElem_drop];have:i+1+(j-(i+1))=j:=by omega
   simp only[this];exact e
theorem Vj{F:Fo}{i:Nat}(h:gA F):gA (.ofL (F.toL.take i++F.toL.drop (i+1))):=by
 have hc:=dA.1 h;rw[dA,Fo.to_of];have a:(F.toL.take i++F.toL.drop (i+1)).Sublist F.toL:=by rw[←List.eraseIdx_eq_take_drop_succ];exact List.eraseIdx_sublist ..
 exact⟨hc.1.sublist a,fun n b=>hc.2 n (a.subset b)⟩
theorem QN{F:Fo}{i:Nat}{k:List UInt8}(h:gA F)(hi:i<F.toL.length)(ek:hd F.toL[i].1=hd k)(j:∀k' d,wK F.toL[i] k' d→k'=k):ue (sX F) (sX (.ofL (F.toL.take i++F.toL.drop (i+1)))) k:=by
 intro k' d;have hc:=dA.1 h;rw[gB,gB,Fo.to_of];constructor
 ·rintro⟨n,a,b⟩
  obtain⟨a,c⟩:=(CS hi (vD h hi)).1 a;refine⟨fun e=>c ?_,n,a,b⟩
  obtain⟨r,g,_⟩:=b;refine yb h a (aH hi) ?_;rw[ek,←e,g,pi (hc.2 n a).1]
 ·rintro⟨f,n,a,b⟩
  by_cases e:n=F.toL[i]
  ·exact absurd (j k' d (by rw[←e];exact b)) f
  ·exact⟨n,(CS hi (vD h hi)).2 ⟨a,e⟩,b⟩
def Vz(n:Bn)(o:Option Bn):Prop:=(o=none∧∀k v,¬wK n k v)∨∃m,o=some m∧Ra m∧hd m.1=hd n.1∧∀k v,wK m k v↔wK n k v
theorem Qt{lab:List UInt8}{w:Option ByteArray}{F:Fo}(a:lab≠[])(hc:gA F)(h:w.isSome∨2≤F.toL.length):Vz (lab,w,F) (some (lab,w,F)):=.inr ⟨_,rfl,⟨a,h,hc⟩,rfl,fun _ _=>Iff.rfl⟩
theorem Qu{lab:List UInt8}{F:Fo}(h:F.toL= []):Vz (lab,none,F) none:=by
 refine .inl ⟨rfl,fun k v hi=>?_⟩
 obtain⟨r,_,⟨_,h'⟩|h'⟩:=hi
 ·cases h'
 ·obtain⟨n,a,_⟩:=gB.1 h'
  simp only at a;rw[h]at a;cases a
theorem Sy{lab lk:List UInt8}{a:Option ByteArray}{F Fk:Fo}(b:lab≠[])(hc:gA F)(h:F.toL= [(lk,a,Fk)]):Vz (lab,none,F) (some (lab++lk,a,Fk)):=by
 have d:F=.cons lk a Fk .nil:=by
  rw[←Fo.of_to F,h];rfl
 have c:=(dA.1 hc).2 (lk,a,Fk) (by rw[h];exact al.2 rfl);refine .inr ⟨_,rfl,⟨fun e=>b (List.append_eq_nil_iff.1 e).1,c.2.1,c.2.2⟩,pi b,fun k v=>?_⟩
 have:=H6 (lab:=lab++lk) (w:=a) (F:=Fk) lab.length k v;rw[List.take_left,gv]at this;rw[d];exact this.symm
end Go.Proofs
namespace Go.Proofs
open Go Go.Lift
theorem jq(s:ByteArray):s.data.toList.length=s.size:=by simp
theorem TJ(a b:ByteArray):(a++b).data.toList=a.data.toList++b.data.toList:=by rw[ByteArray.data_append,Array.toList_append]
theorem Qn{a b:ByteArray}{h:ad}{K:Bool→ad→Prop}(c:K (decide (b.data.toList<+:a.data.toList)) h):fI 301 [.string a,.string b] K h:=by
 refine cW (yH a b) .nil Tryz.func301 Tryz.call301 ?_;unfold yH kJ;refine Cl a b ?_;unfold u0 kJ;refine cW (jJ a b) .nil Tryz.func327 Tryz.call327 ?_;unfold jJ;have j:=jq a;have g:=jq b;refine ao (fun d=>?_) fun f=>?_
 ·refine⟨⟨by omega,by omega⟩,?_⟩
  rw[dI,bf];have e:decide (a.extract 0 b.size=b)=decide (b.data.toList<+:a.data.toList):=by
   rw[decide_eq_decide,←rW,FJ,List.prefix_iff_eq_take,g];exact eq_comm
  rw[e];exact c
 ·have e:decide (b.data.toList<+:a.data.toList)=false:=decide_eq_false fun i=>by
   have:=i.length_le;omega
  rw[e]at c;exact c
theorem Tl{a b:ByteArray}{h:ad}{K:ByteArray×Bool→ad→Prop}(d:∀s:ByteArray,a.data.toList=b.data.toList++s.data.toList→K (s,true) h)(i:(∀r,a.data.toList≠b.data.toList++r)→K (⟨#[]⟩,false) h):q9 261 [.string a,.string b] K h:=by
 refine cW (Gp a b) .nil Tryz.func261 Tryz.call261 ?_;unfold Gp kJ;refine Qn ?_;have j:=jq a;have f:=jq b;by_cases c:b.data.toList<+:a.data.toList
 ·rw[decide_eq_true c]
  have g:=c.length_le;refine ag.2 ⟨⟨by omega,by omega⟩,?_⟩
  rw[bf];refine d _ ?_;rw[FK];obtain⟨r,e⟩:=c;rw[←e,←f,gv]
 ·rw[decide_eq_false c]
  exact aw.2 (i fun r e=>c ⟨r,e.symm⟩)
def Yu(W:Nat→Prop)(h:ad)(r:Option Addr)(o:Option Bn):Prop:=(r=none∧o=none)∨∃b sl m,r=some ⟨b,0,none⟩∧o=some m∧sl.data.toList=m.1∧RxN W h b sl m.2.1 m.2.2
theorem Qb{W:Nat→Prop}{h:ad}{b:Nat}{sl:ByteArray}{w:Option ByteArray}{F:Fo}(r:RxN W h b sl w F)(Z:∀y,W y→y<h.size)(hc:gA F)(A:sl.data.toList≠[])(hs1:sl.size≤1000000)(H:∀k v,sX F k v→k.length≤1000000)
  {K:Option Addr→ad→Prop}(U:∀h' r o,Upd No h h'→Vz (sl.data.toList,w,F) o→Yu W h' r o→K r h'):eT 262 [gS b,.pointer none] K h:=by
 refine AZ _ none ?_;dsimp only[tL,gl,kq,fP,cH,D4,cB,fQ,pn,cg,xw,cZ];have hr:=r;obtain⟨val,s,ow,ks,hb,hv,hs,hcap,hF⟩:=r;have hL:=kK.1 hF;have hn:=pI hc;have c:=hs.len;rw[hL.1]at c;refine Join.intro (fun t h'=>t=decide (w.isSome∨2≤F.toL.length)∧h'=h) (fun R hR=>⟨_,rfl,w.isSome,eK (i:=1) hb,?_⟩) ?_
 ·cases w with
  |some v=>exact aw.2 (hR _ _ ⟨rfl,rfl⟩)
  |none=>
   refine ag.2 ⟨_,rfl,s,eK (i:=3) hb,hR _ _ ⟨?_,rfl⟩⟩;rw[decide_eq_decide];constructor
   ·intro h;exact .inr (by omega)
   ·rintro(h|h)
    ·cases h
    ·omega
 ·rintro t h' ⟨rfl,rfl⟩
  refine ao (fun m=>?_) fun m=>?_
  ·exact U h' _ _ (Upd.refl _ _) (Qt A hc m) (.inr ⟨b,sl,_,rfl,rfl,rfl,hr⟩)
  ·have I:w=none:=by
    cases w with
    |none=>rfl
    |some v=>exact absurd (.inl rfl) m
   subst I;have N:F.toL.length<2:=by
    rcases cr F.toL.length 2 with h|h
    ·exact h
    ·exact absurd (.inr h) m
   refine⟨_,rfl,s,eK (i:=3) hb,?_⟩;match hFL:F.toL,N with
   | [],_=>
    rw[hFL]at c;have e:((s.len:Int)==(0:Int))=true:=by rw[beq_iff_eq,c];rfl
    rw[e];exact aw.2 (U h' _ _ (Upd.refl _ _) (Qu hFL) (.inl ⟨rfl,rfl⟩))
   | [(lk,wk,Fk)],_=>
    rw[hFL]at c;have e:((s.len:Int)==(0:Int))=false:=by rw[beq_eq_false_iff_ne,c];simp
    rw[e];have d:(lk,wk,Fk)∈F.toL:=by rw[hFL];exact al.2 rfl
    have T:=(dA.1 hc).2 _ d;have h0:0<F.toL.length:=by rw[hFL];exact Nat.one_pos
    obtain⟨kb,f,P,g,n⟩:=hL.at h0;have e0:F.toL[0]=(lk,wk,Fk):=by simp only[hFL];rfl
    rw[e0]at g n;(try simp only at g n)
    obtain⟨a,ha,_,V⟩:=hs.at0 P;obtain⟨C,kss,kow,Q,S,J,p,O,u⟩:=n;have E:=kK.1 u;have q:=pI T.2.2;refine ag.2 ⟨_,rfl,s,eK (i:=3) hb,⟨by omega,by rw[c];simp⟩,a,ha,some ⟨kb,0,none⟩,V,?_⟩
    refine oa S p (by rw[E.1];exact q) fun h1 s1 b1 L D=>?_
    obtain⟨rr,vv,G⟩:=rL hc _ d;have X:=H (lk++rr) vv (gB.2 ⟨_,d,rr,rfl,G⟩);rw[ae]at X;have Y:lk.length=f.size:=by rw[←g];exact jq f
    refine⟨_,rfl,sl,eK (i:=0) (D.get0 hb),_,rfl,f,eK (i:=0) b1,by omega,?_⟩
    have hbl:b<h'.size:=bw hb;refine vy b1 fun m b2 B=>?_
    have j:Upd No h' m:=D.own B (ai _);have z:=L.upd B fun x hx e=>by have e:x=h'.size:=e;have:=hx.1;omega
    refine U m _ _ j (Sy A hc hFL) (.inr ⟨h'.size,sl++f,_,rfl,rfl,by rw[←g];exact TJ sl f,⟨C,s1,none,Q,b2,J,z.sl (fun x hx _ I=>by have:=Z _ I;have:=hx.1;omega),⟨z.cap,fun hx=>km _ (Z _ hx)⟩,RxF.upd0 j u⟩⟩)
set_option maxHeartbeats 1000000 in
theorem R0{W:Nat→Prop}:∀(n:Nat) {b:Nat} {sl:ByteArray} {w:Option ByteArray} {F:Fo} {h:ad} (k:ByteArray),k.size<n→RxN W h b sl w F→(∀y,W y→y<h.size)→gA F→(∀j v,sX F j v→j.length≤1000000)→∀{K:(Option Addr)×Bool→ad→Prop},
  (∀h' b' w' F' t,Upd No h h'→RxN W h' b' sl w' F'→gA F'→ue (uT w F) (uT w' F') k.data.toList→(t=false→b'=b∧∀v,¬uT w F k.data.toList v)→(t=true→∃v,uT w F k.data.toList v)→K (some ⟨b',0,none⟩,t) h')→
  rP 192 [gS b,.pointer none,.string k] K h:=by
 intro n;induction n with
 |zero=>intro b sl w F h k hk;omega
 |succ n ih=>
  intro b sl w F h k hkn r hW hc hbd K hk;refine cW (tN (some ⟨b,0,none⟩) none k) .nil Tryz.func192 Tryz.call192 ?_;dsimp only[tN,gl,kq,cV,kJ,GS,GR,z6,jA,fQ,cH,gU,AW,zD,cB,pn,cg,xw,cZ];have hr:=r;obtain⟨val,s,ow,ks,hb,hv,hs,hcap,hF⟩:=r;have hL:=kK.1 hF;have hn:=pI hc;have hcan:=dA.1 hc;have z:∀{h':ad},Upd No h h'→(∀v,¬uT w F k.data.toList v)→K (some ⟨b,0,none⟩,false) h':=fun hu D=>hk _ b w F false hu (hr.upd0 hu) hc (N8 D) (fun _=>⟨rfl,D⟩) fun h=>by cases h
  rw[dI];refine ao (fun hk0=>?_) fun hk0=>?_
  ·have hke:k.data.toList= []:=by rw[hk0]
   rw[hke]at hk z;refine⟨_,rfl,w.isSome,eK (i:=1) hb,?_⟩;cases L:w with
   |none=>
    refine aw.2 (z (Upd.refl _ _) fun v d=>?_)
    rcases d with⟨_,h⟩|h
    ·rw[L]at h;cases h
    ·exact absurd rfl (vG hc h)
   |some u=>
    refine ag.2 (oa hb hs (by rw[hL.1];exact hn) fun h1 s1 b1 ho1 hu1=>?_)
    refine⟨_,rfl,T8 (i:=1) b1 (show 1<5 by decide),GW (i:=1) (c':=CH sl false val s1 none) b1 rfl fun Q b2 o=>?_⟩
    refine⟨_,rfl,T8 (i:=2) b2 (show 2<5 by decide),GW (i:=2) (c':=CH sl false ⟨#[]⟩ s1 none) b2 rfl fun h3 b3 A=>?_⟩
    have G:Upd No h h3:=hu1.own (o.tr A) (ai _);have Y:=ho1.upd (o.tr A) fun x hx e=>by have e:x=h.size:=e;have:=hx.1;omega
    refine hk h3 h.size none F true G ⟨⟨#[]⟩,s1,none,ks,b3,rfl,Y.sl (fun x hx _ L=>by have:=hW _ L;have:=hx.1;omega),⟨Y.cap,fun hx=>km _ (hW _ hx)⟩,RxF.upd0 G hF⟩ hc (N7 hc) (fun h=>by cases h) fun _=>⟨u,.inl ⟨rfl,L⟩⟩
  ·have p:k.data.toList≠[]:=fun e=>hk0 (by cases k;exact congrArg vX (Array.toList_inj.1 e))
   obtain⟨c0,hc0,hc0e⟩:=JP p;refine⟨c0,Int.le_refl _,hc0,?_⟩;have hlk:k.data.toList.length=k.size:=jq k;refine BP hr hc (c:=c0.toNat) (UInt8.toNat_lt _) fun i ok X hlo hhi hok=>?_
   rw[hc0e]at hlo hhi hok;cases ok with
   |false=>
    refine aw.2 (z (Upd.refl _ _) fun v d=>?_)
    rcases d with⟨h,_⟩|d
    ·exact p h
    ·obtain⟨n',hn',e,_⟩:=vH hc d
     obtain⟨j,hj,rfl⟩:=bD hn';rcases cr j i with hl|hl
     ·have:=hlo j hj hl;omega
     ·have h1:=hhi j hj hl
      have Q:=hhi i (by omega) (ai _);rcases cr i j with hl2|hl2
      ·have h3:=bR.1 hcan.1 i j (by omega) hj hl2
       omega
      ·have:i=j:=by omega
       subst this;have:=hok.2 ⟨hj,e⟩;cases this
   |true=>
    obtain⟨hi,U⟩:=hok.1 rfl;refine ag.2 ⟨_,rfl,s,eK (i:=3) hb,?_⟩;obtain⟨kb,ksl,hki,C,I⟩:=hL.at hi;have E:F.toL[i]∈F.toL:=aH hi;have R:=hcan.2 _ E;obtain⟨a,ha,_,hvv⟩:=hs.at0 hki;have hslen:=hs.len;rw[hL.1]at hslen;have hlt1:(i:Int)<((s.len:Nat):Int):=by omega
    refine⟨⟨by(try simp only);omega,hlt1⟩,a,ha,some ⟨kb,0,none⟩,hvv,_,rfl,?_⟩;obtain⟨kval,kss,kow,kks,hkb,_⟩:=id I;have B:∀v,sX F k.data.toList v→wK F.toL[i] k.data.toList v:=fun v d=>by
     obtain⟨n',hn',e,hN⟩:=vH hc d;rw[←yb hc hn' E (by omega)];exact hN
    have q:∀j v,wK F.toL[i] j v→sX F j v:=fun j v d=>gB.2 ⟨_,E,d⟩
    have g:∀{m:Bn},Ra m→hd m.1=hd F.toL[i].1→gA (.ofL (F.toL.set i m)):=fun h1 Q=>PN hc hi h1 Q
    have T:∀{m:Bn},ue (wK F.toL[i]) (wK m) k.data.toList→ue (sX F) (sX (.ofL (F.toL.set i m))) k.data.toList:=fun hp=>QM hc hi U hp
    have S:(∀k' v',wK F.toL[i] k' v'→k'=k.data.toList)→ue (sX F) (sX (.ofL (F.toL.take i++F.toL.drop (i+1)))) k.data.toList:=fun hp=>QN hc hi U hp
    have hrset:∀{h':ad} {k':Option Addr} {m:Bn},Upd No h h'→Kid W h' k' m→RxL W h' (ks.set i k') (F.toL.set i m):=fun hu hkd=>(hL.upd0 hu).set hi hkd
    generalize F.toL[i]=m at C I R B q g T S U;obtain⟨lab,wk,Fk⟩:=m;(try simp only at C I R U g)
    refine⟨ksl,eK (i:=0) hkb,Tl (fun P f=>?_) fun D=>?_⟩
    ·rw[C]at f
     have hlne:lab.length≠0:=fun e=>R.1 (List.length_eq_zero_iff.1 e)
     have hrl:P.size<k.size:=by
      rw[←jq P,←hlk,f,ae];omega
     refine ag.2 ⟨_,rfl,s,eK (i:=3) hb,⟨by(try simp only);omega,hlt1⟩,a,ha,some ⟨kb,0,none⟩,hvv,?_⟩;have hkbd:∀j v,sX Fk j v→j.length≤1000000:=fun j v d=>by
      have:=hbd _ v (q (lab++j) v ⟨j,rfl,.inr d⟩);rw[ae]at this;omega
     refine ih P (by omega) I hW R.2.2 hkbd fun Q b2 w2 F2 t o rn2 hc2 hd2 hg0 hg1=>?_
     cases t with
     |false=>
      refine aw.2 (z o fun v d=>?_)
      rcases d with⟨h,_⟩|d
      ·exact p h
      ·obtain⟨r',e,hr'⟩:=B v d
       (try simp only at e)
       rw[f]at e;exact(hg0 rfl).2 v (by rw[gG e];exact hr')
     |true=>
      obtain⟨v0,hv0⟩:=hg1 rfl;have H:∃v,uT w F k.data.toList v:=⟨v0,.inr (q _ _ ⟨_,f,hv0⟩)⟩;have hdn:ue (wK (lab,wk,Fk)) (wK (lab,w2,F2)) k.data.toList:=by
       rw[f];exact N9 hd2
      refine ag.2 (oa (o.get0 hb) (hs.upd o fun _ h=>h.elim) (by rw[hL.1];exact hn) fun h3 s3 b3 Y A=>?_)
      have G:=o.tr A;obtain⟨rr,vv,d⟩:=rL hc _ E;have hlb:lab.length≤1000000:=by
       have:=hbd _ v0 (q _ _ ⟨_,f,hv0⟩);rw[f,ae]at this;omega
      have hb2:∀j v,sX F2 j v→j.length≤1000000:=fun j v d=>by
       rcases((hd2 j v).1 (.inr d)).2 with⟨e,_⟩|h
       ·rw[e];simp
       ·exact hkbd j v h
      refine Qb (W:=Pro W Q h3) ((rn2.less Pro.hm).upd0 A) (Pro.lt (fun y hy=>az (hW y hy) o.size) A) hc2 (by rw[C];exact R.1) (by rw[←jq ksl,C];exact hlb) hb2 fun h4 r4 o4 Z hm4 hr4=>?_
      rw[C]at hm4;have b4:=Z.get0 b3;have ho4:=Y.upd Z fun _ _ h=>h
      have hu04:=G.tr Z;have hz2:h.size≤Q.size:=o.size;have X:i<ks.length:=by rw[hL.1];exact hi
      have hlen4:=ho4.len;rcases hr4 with⟨rfl,rfl⟩|⟨b4',sl4,m4,rfl,rfl,hsl4,rn4⟩
      ·rcases hm4 with⟨_,D⟩|⟨_,e,_⟩
       ·have ew:ac .i64 ((i:Int)+1)=((i+1:Nat):Int):=by rw[df (by omega)];omega
        refine aw.2 ⟨_,rfl,s3,eK (i:=3) b4,?_⟩;(try simp only)
        rw[ew];refine Ob ho4 X (by rw[hL.1];omega) fun s5 h5 N J=>?_
        have b5:=J.get b4 fun hx=>by have:=hx.1;omega
        refine⟨_,rfl,T8 (i:=3) b5 (show 3<5 by decide),GW (i:=3) (c':=CH sl w.isSome val s5 none) b5 rfl fun h6 b6 hu6=>?_⟩
        have O:Upd No h h6:=(hu04.trans J fun x hx=>.inr (by have:=hx.1;omega)).own hu6 hz2
        have ho6:=N.upd hu6 fun x hx e=>by have e:x=Q.size:=e;have:=hx.1;omega
        refine hk h6 Q.size w _ true O ⟨val,s5,none,_,b6,hv,ho6.sl (fun x hx _ L=>by have:=hW _ L;have:=hx.1;omega),⟨ho6.cap,fun hx=>by have:=hW _ hx;omega⟩,kK.2 (by rw[Fo.to_of];exact((hL.upd0 O).take i).app ((hL.upd0 O).drop (i+1)))⟩ (Vj hc) (FP p (S fun k' v' hN=>?_)) (fun h=>by cases h) fun _=>H
        refine mw fun hne=>D k' v' ((hdn k' v').2 ⟨hne,hN⟩)
       ·cases e
      ·rcases hm4 with⟨e,_⟩|⟨m',e,hcn,hhd,hiff⟩
       ·cases e
       ·cases e
        obtain⟨a3,ha3,V,hw3,N,J⟩:=OwnS.setAt ho4 X (some ⟨b4',0,none⟩);refine ag.2 ⟨_,rfl,s3,eK (i:=3) b4,⟨by(try simp only);omega,by(try simp only);omega⟩,a3,ha3,?_⟩
        have hw1:Wr h4 (adr a3 (i*1)):=by
         rcases hw3 with L|⟨b',hb',L⟩
         ·cases L
         ·cases hb';exact L 0 (by simp)
        refine⟨hw1,bL ?_⟩;have b5:=J.get b4 fun e=>by have e:Q.size=a3.block:=e;have:=V.1;omega
        have hu45:Upd No Q _:=(A.tr Z).trans J fun x hx=>.inr (by have hx:x=a3.block:=hx;have:=V.1;omega)
        have hu05:=o.tr hu45;have eset:ks.set i (some ⟨b4',0,none⟩)=ks.take i++some ⟨b4',0,none⟩::ks.drop (i+1):=by rw[List.set_eq_take_append_cons_drop,if_pos X]
        rw[←eset]at N;have rn5:=(rn4.updM (M:=(· =a3.block)) J fun y hy=>.inl (.inr (by have hy:y=a3.block:=hy;have:=V.1;have:=V.2;omega))).less (W':=W) fun y hy=>.inl (.inl hy)
        exact hk _ Q.size w _ true hu05 ⟨val,s3,none,_,b5,hv,N.sl (fun x hx _ L=>by have:=hW _ L;have:=hx.1;omega),⟨N.cap,fun hx=>by have:=hW _ hx;omega⟩,kK.2 (by rw[Fo.to_of];exact hrset hu05 ⟨b4',sl4,rfl,hsl4,rn5⟩)⟩ (g hcn hhd) (FP p (T fun k' v'=>by rw[hiff k' v'];exact hdn k' v')) (fun h=>by cases h) fun _=>H
    ·rw[C]at D
     refine aw.2 (z (Upd.refl _ _) fun v d=>?_)
     rcases d with⟨h,_⟩|d
     ·exact p h
     ·obtain⟨r',e,_⟩:=B v d
      exact D r' e
end Go.Proofs
namespace Go.Proofs
open Go Go.Lift
theorem Qf{w:Option ByteArray}{F:Fo}{l:List Pr}(h:∀k v,(k,v)∈ze w F↔∃p∈l,p.1.data.toList=k∧p.2=v)(b:Fit l):∀j v,sX F j v→j.length≤1000000:=fun j v hi=>by
 obtain⟨p,a,e,_⟩:=(h j v).1 (lu.2 (.inr hi));have:=(b p a).1;rw[←e,jq];omega
theorem Jr{W:Nat→Prop}{h:ad}{b:Nat}{l:List Pr}(t:RadAt W h b l)(D:∀y,W y→y<h.size)(I:Fit l)(k:ByteArray){K:Option Addr×Bool→ad→Prop}
  (O:∀h' b',Upd No h h'→RadAt W h' b' (lA k l)→(cy l k=false→b'=b)→K (some ⟨b',0,none⟩,cy l k) h'):
  rP 133 [.pointer none,gS b,.string k] K h:=by
 refine cW (Bc none (some ⟨b,0,none⟩) k) .nil Tryz.func133 Tryz.call133 ?_;unfold Bc GS;refine BN (.inr ⟨b,rfl,t⟩) D fun Q b2 H i C=>?_
 have z:b2=b:=by
  rcases C with e|e
  ·cases e;rfl
  ·cases e
 subst z;obtain⟨w,F,J,P,o⟩:=H.ex;refine R0 (k.size+1) k (by omega) J (fun y L=>az (D y L) i.size) P (Qf o I) fun G b3 E F' a A u n m g x=>?_
 have f:∀v,uT w F k.data.toList v↔(k,v)∈l:=fun v=>by
  rw[←lu,o];constructor
  ·rintro⟨p,s,N,rfl⟩
   rw[←rW.1 N];exact s
  ·intro s;exact⟨_,s,rfl,rfl⟩
 have B:a=cy l k:=by
  cases a with
  |false=>
   refine(wY fun q d e=>(g rfl).2 q.2 ((f _).2 ?_)).symm
   rw[←e];exact d
  |true=>
   obtain⟨v,hv⟩:=x rfl;exact(bT.2 ⟨_,(f v).1 hv,decide_eq_true rfl⟩).symm
 subst B;refine O G b3 (i.tr A) ⟨E,F',u,n,fun j v=>?_⟩ fun ht=>(g ht).1
 rw[lu,m j v,←lu,o];constructor
 ·rintro⟨c,q,d,rfl,rfl⟩
  exact⟨q,Em.2 ⟨d,fun e=>c (by rw[e])⟩,rfl,rfl⟩
 ·rintro⟨q,d,rfl,rfl⟩
  obtain⟨d,c⟩:=Em.1 d;exact⟨fun e=>c (rW.1 e),q,d,rfl,rfl⟩
theorem CC{W:Nat→Prop}{x:Hs}{h:ad}{kind:Int}{t:Tr}{l:List Pr}(i:TreeIs W h kind x t l)(hW:∀y,W y→y<h.size)(hr:bM l)(hf:Fit l)(hn:l.length≤1000000)(k:ByteArray)(S:k.size≤256){K:Tr×Int→ad→Prop}
  (J:∀h' j,TreeIs W h' kind x j (lA k l)→(cy l k=false→j=t)→Upd No h h'→K (j,if cy l k then 0 else 4) h'):MJ 84 [Ab t,.pointer none,.string k] K h:=by
 refine cW (qK t none k) yn Tryz.func84 Tryz.call84 ?_;dsimp only[qK,aY,nv,BG,ux,aD,MV,cV,kJ,GS,nh,wL,aj,xA,dt,AY,ge,l7,tf];refine ba fun d b1 k1=>ba fun s b2 T=>?_
 have z1:=bw b1;have z2:=bw b2;have Y:h.size≤d.size:=k1.size;have O:=k1.tr T;refine HL (v:=⟨#[]⟩) S (aN 4096) (ag.2 ?_);have c1:=T.get0 b1;refine⟨_,vc c1 0,_,vc c1 1,_,vc c1 2,_,vc c1 3,_,vc c1 4,_,vc c1 5,?_⟩;refine ba fun h3 b3 V=>?_
 have z3:=bw b3;have s2:d.size≤s.size:=T.size;refine cn (c:=iH sY) (vs:=iH t) b3 rfl fun D b4 B=>?_
 have w:Upd No h D:=(O.tr V).own B (by omega);have C:Upd No s D:=V.own B (ai _);have s4:h3.size≤D.size:=B.size;have u:=C.get0 c1;have Z:=C.get0 b2;have i4:=i.pro w;have E:=Pro.lt hW w;have fin:∀{a:ad} {j:Tr},Upd No h a→a[h.size]? =some (.cells (iH j).toArray 53 (0,0))→a[d.size]? =some (.cells (iH sY).toArray 53 (0,0))→a[s.size]? =some (.cells (iH t).toArray 53 (0,0))→TreeIs (Pro W h D) a kind x j (lA k l)→(cy l k=false→j=t)→
   CondP (!cy l k) (∃v41:Int,aK a (adr (aL s) 0)=some (.int .i64 v41)∧
    ∃v42:Int,aK a (adr (aL s) 1)=some (.int .u64 v42)∧
    ∃v43:Int,aK a (adr (aL s) 2)=some (.int .u64 v43)∧
    ∃v44:Int,aK a (adr (aL s) 3)=some (.int .u64 v44)∧
    ∃v45:Option Addr,aK a (adr (aL s) 4)=some (.pointer v45)∧
    ∃v46:Option Addr,aK a (adr (aL s) 5)=some (.pointer v46)∧
    (pk a (some (aL d)) 0 [.int .i64 v41,.int .u64 v42,.int .u64 v43,.int .u64 v44,.pointer v45,.pointer v46]∧
     At (eN a (aL d) 0 [.int .i64 v41,.int .u64 v42,.int .u64 v43,.int .u64 v44,.pointer v45,.pointer v46]) (fun n=>
      ∃v48:Int,aK n (adr (aL d) 0)=some (.int .i64 v48)∧
      ∃v49:Int,aK n (adr (aL d) 1)=some (.int .u64 v49)∧
      ∃v50:Int,aK n (adr (aL d) 2)=some (.int .u64 v50)∧
      ∃v51:Int,aK n (adr (aL d) 3)=some (.int .u64 v51)∧
      ∃v52:Option Addr,aK n (adr (aL d) 4)=some (.pointer v52)∧
      ∃v53:Option Addr,aK n (adr (aL d) 5)=some (.pointer v53)∧
      K ((v48,v49,v50,v51,v52,v53),4) n))) (
    ∃v54:Int,aK a (adr (aL h) 0)=some (.int .i64 v54)∧
    ∃v55:Int,aK a (adr (aL h) 1)=some (.int .u64 v55)∧
    ∃v56:Int,aK a (adr (aL h) 2)=some (.int .u64 v56)∧
    ∃v57:Int,aK a (adr (aL h) 3)=some (.int .u64 v57)∧
    ∃v58:Option Addr,aK a (adr (aL h) 4)=some (.pointer v58)∧
    ∃v59:Option Addr,aK a (adr (aL h) 5)=some (.pointer v59)∧
    (pk a (some (aL d)) 0 [.int .i64 v54,.int .u64 v55,.int .u64 v56,.int .u64 v57,.pointer v58,.pointer v59]∧
     At (eN a (aL d) 0 [.int .i64 v54,.int .u64 v55,.int .u64 v56,.int .u64 v57,.pointer v58,.pointer v59]) (fun m=>
      ∃v61:Int,aK m (adr (aL d) 0)=some (.int .i64 v61)∧
      ∃v62:Int,aK m (adr (aL d) 1)=some (.int .u64 v62)∧
      ∃v63:Int,aK m (adr (aL d) 2)=some (.int .u64 v63)∧
      ∃v64:Int,aK m (adr (aL d) 3)=some (.int .u64 v64)∧
      ∃v65:Option Addr,aK m (adr (aL d) 4)=some (.pointer v65)∧
      ∃v66:Option Addr,aK m (adr (aL d) 5)=some (.pointer v66)∧
      K ((v61,v62,v63,v64,v65,v66),0) m))):=fun{a j} G A I z H f=>by
  cases ht:cy l k with
  |false=>
   rw[ht]at J f;have U:=f rfl;subst U;refine aw.2 ⟨_,vc z 0,_,vc z 1,_,vc z 2,_,vc z 3,_,vc z 4,_,vc z 5,?_⟩;refine cn (c:=iH sY) (vs:=iH j) I rfl fun Q o p=>?_
   refine⟨_,vc o 0,_,vc o 1,_,vc o 2,_,vc o 3,_,vc o 4,_,vc o 5,?_⟩;exact J Q j ((H.updM p (fun y q=>.inl (.inr (by have q:y=d.size:=q;omega)))).less Pro.sub) (fun _=>rfl) (G.own p Y)
  |true=>
   rw[ht]at J f;refine ag.2 ⟨_,vc A 0,_,vc A 1,_,vc A 2,_,vc A 3,_,vc A 4,_,vc A 5,?_⟩;refine cn (c:=iH sY) (vs:=iH j) I rfl fun Q o p=>?_
   refine⟨_,vc o 0,_,vc o 1,_,vc o 2,_,vc o 3,_,vc o 4,_,vc o 5,?_⟩;exact J Q j ((H.updM p (fun y q=>.inl (.inr (by have q:y=d.size:=q;omega)))).less Pro.sub) (fun h=>by cases h) (G.own p Y)
 refine Join.intro (fun tk a=>tk=cy l k∧Upd No h a∧∃j,a[h.size]? =some (.cells (iH j).toArray 53 (0,0))∧a[d.size]? =some (.cells (iH sY).toArray 53 (0,0))∧a[s.size]? =some (.cells (iH t).toArray 53 (0,0))∧TreeIs (Pro W h D) a kind x j (lA k l)∧(cy l k=false→j=t)) (fun R X=>?_) ?_
 ·rcases i4 with⟨rfl,b,rfl,L⟩|⟨rfl,b,rfl,L⟩
  ·refine⟨_,vc u 0,ag.2 ⟨_,gw u 1 0,_,gw u 1 1,_,gw u 1 2,_,vc u 4,?_⟩⟩
   refine J0 L E hr hn k fun h5 F g P f=>?_
   refine rA (i:=4) (c':=(iH (0,x.k0,x.k1,x.mask,some ⟨F,0,none⟩,none)).toArray) (g.get0 u) (show 4<6 by decide) rfl fun a N e=>?_
   exact X _ _ ⟨rfl,(w.tr g).own e (ai _),_,N,e.oth (g.get0 Z) (by omega),e.oth (g.get0 b4) (by omega),.inl ⟨rfl,F,rfl,TrieAt.updM e (fun y q=>.inl (.inr (by have q:y=h.size:=q;omega))) P⟩,fun ht=>by rw[f ht]⟩
  ·refine⟨_,vc u 0,aw.2 ⟨_,vc u 5,?_⟩⟩
   refine Jr L E hf k fun h5 F g P f=>?_
   refine rA (i:=5) (c':=(iH (1,0,0,0,none,some ⟨F,0,none⟩)).toArray) (g.get0 u) (show 5<6 by decide) rfl fun a N e=>?_
   exact X _ _ ⟨rfl,(w.tr g).own e (ai _),_,N,e.oth (g.get0 Z) (by omega),e.oth (g.get0 b4) (by omega),.inr ⟨rfl,F,rfl,P.updM e (fun y q=>.inl (.inr (by have q:y=h.size:=q;omega)))⟩,fun ht=>by rw[f ht]⟩
 ·rintro _ a ⟨rfl,G,j,A,I,z,H,f⟩
  exact fin G A I z H f
end Go.Proofs
namespace Go.Proofs
open Go Go.Lift
theorem Sf{W:Nat→Prop}{h:ad}{s:SliceV}{l:List Pr}(p:Sl dQ 2 W h s l)(A:bM l)(B:Fit l)(F:l.length≤1000000)(k:ByteArray){K:Int×Bool→ad→Prop}
  (z:∀i:Nat,(cy l k=true→∃hi:i<l.length,l[i].1=k)→K ((i:Int),cy l k) h):xh 194 [.slice s.a s.len s.cap,.string k] K h:=by
 refine cW (GA s k) OE Tryz.func194 Tryz.call194 ?_;dsimp only[GA,cZ,kJ,jA,fQ];have w:=p.len;refine LoopP.ghost (fun(i:Nat) (t:Int) h'=>t=(i:Int)∧i≤l.length∧h'=h∧∀j (c:j<l.length),j<i→kl l[j].1 k) (fun i=>l.length-i) 0 ⟨rfl,aN _,rfl,fun j c h=>by omega⟩ ?_
 rintro I i t h' ⟨rfl,hi,rfl,d⟩ C;refine Join.intro (fun t y=>y=h'∧(t=true↔∃hi:i<l.length,kl l[i].1 k)) (fun R x=>?_) ?_
 ·refine ao (fun b=>?_) fun g=>x _ _ ⟨rfl,⟨fun h=>(by cases h),fun⟨hi,_⟩=>by omega⟩⟩
  have b:i<l.length:=by omega
  obtain⟨a,o,_,hv⟩:=p.at (af b);have D:=(B _ (aH b)).1;refine⟨⟨by omega,by omega⟩,a,o,l[i].1,hv 0 _ rfl,E8 (by omega) (x _ _ ⟨rfl,?_⟩)⟩
  rw[decide_eq_true_iff];exact⟨fun h=>⟨b,h⟩,fun⟨_,h⟩=>h⟩
 ·rintro t y ⟨rfl,ht⟩
  cases t with
  |true=>
   obtain⟨b,n⟩:=ht.1 rfl;refine aw.2 ?_;rw[kX b (by omega)];refine C (i+1) _ _ ⟨rfl,b,rfl,fun j c E=>?_⟩ (by omega)
   rcases cr j i with h|h
   ·exact d j c h
   ·have:j=i:=by omega
    subst this;exact n
  |false=>
   refine ag.2 (ao (fun b=>?_) fun g=>?_)
   ·have b:i<l.length:=by omega
    have m:¬kl l[i].1 k:=fun h=>by have:=ht.2 ⟨b,h⟩;cases this
    obtain⟨a,o,_,hv⟩:=p.at (af b);refine⟨⟨by omega,by omega⟩,a,o,l[i].1,hv 0 _ rfl,?_⟩
    rw[dI];have e:decide (l[i].1=k)=cy l k:=by
     by_cases e:l[i].1=k
     ·rw[decide_eq_true e]
      exact(bT.2 ⟨_,aH b,decide_eq_true e⟩).symm
     ·rw[decide_eq_false e]
      refine(wY fun q u f=>?_).symm
      obtain⟨j,c,rfl⟩:=bD u;have v:=kz m e;rcases oI j i with h|h|h
      ·have:=d j c h;rw[f]at this;exact bN _ this
      ·subst h;exact e f
      ·have:=bR.1 A i j b c h
       rw[f]at this;exact bN _ (dw v this)
    rw[e];exact z i fun ht=>⟨b,of_decide_eq_true (e.trans ht)⟩
   ·have e:cy l k=false:=wY fun q u f=>by
     obtain⟨j,c,rfl⟩:=bD u;have:=d j c (by omega);rw[f]at this;exact bN _ this
    have:=z i fun h=>by rw[e]at h;cases h
    rw[e]at this;exact this
theorem Pe{W:Nat→Prop}{h:ad}{s:SliceV}{l:List Pr}(d:Sl dQ 2 W h s l)(g:bM l)(n:Fit l)(j:l.length≤1000000)(k:ByteArray){K:ByteArray×Bool→ad→Prop}
  (c:∀v,(cy l k=true→(k,v)∈l)→(cy l k=false→v=⟨#[]⟩)→K (v,cy l k) h):q9 135 [.slice s.a s.len s.cap,.string k] K h:=by
 refine cW (IL s k) .nil Tryz.func135 Tryz.call135 ?_;dsimp only[IL,cZ,kR,jA,fQ];have f:=d.len;refine Sf d g n j k fun i hi=>?_
 cases ht:cy l k with
 |false=>rw[ht]at c;exact aw.2 (c _ (fun h=>(by cases h)) fun _=>rfl)
 |true=>
  rw[ht]at c;obtain⟨b,e⟩:=hi ht;obtain⟨a,m,_,hv⟩:=d.at (af b);refine ag.2 ⟨⟨by(try simp only);omega,by(try simp only);omega⟩,a,m,l[i].2,hv 1 _ rfl,c _ (fun _=>by rw[←e];exact aH b) fun h=>(by cases h)⟩
end Go.Proofs
namespace Go.Proofs
open Go Go.Lift
theorem LN(k:ByteArray):look [] k=none:=rfl
theorem eA(p:Pr)(l:List Pr)(k:ByteArray):look (p::l) k=if p.1=k then some p.2 else look l k:=by
 unfold look;rw[kj];by_cases e:p.1=k
 ·rw[decide_eq_true e,if_pos e];rfl
 ·rw[decide_eq_false e,if_neg e]
theorem w7{l:List Pr}{k:ByteArray}(h:∀p∈l,kl k p.1):look l k=none:=HW (wY fun p a e=>by have:=h p a;rw[e]at this;exact bN _ this)
theorem ly{k v:ByteArray}:∀{l:List Pr},look l k=some v→(k,v)∈l
 | [],h=>by cases h
 |p::l,h=>by
  rw[eA]at h;by_cases e:p.1=k
  ·rw[if_pos e]at h;cases h;rw[←e];exact ar ..
  ·rw[if_neg e]at h;exact ax _ (ly h)
theorem SF{l m:List Pr}(b:bM l)(hm:bM m)(h:∀k,look l k=look m k):l=m:=
 uF b hm fun p=>⟨fun a=>ly (by rw[←h];exact ry b a),fun a=>ly (by rw[h];exact ry hm a)⟩
theorem Fs(p:Pr)(k:ByteArray):∀{l:List Pr},look (fG p l) k=if p.1=k then some p.2 else look l k
 | []=>eA p [] k
 |q::l=>by
  rw[ft];by_cases a:kl q.1 p.1
  ·rw[if_pos a,eA,Fs p k,eA]
   by_cases e:q.1=k
   ·rw[if_pos e,if_pos e,if_neg fun c=>by rw[e,c]at a;exact bN _ a]
   ·rw[if_neg e,if_neg e]
  ·rw[if_neg a]
   by_cases b:q.1=p.1
   ·rw[if_pos b,eA,eA,b]
    by_cases e:p.1=k
    ·rw[if_pos e,if_pos e]
    ·rw[if_neg e,if_neg e,if_neg e]
   ·rw[if_neg b,eA]
theorem Ft(k' k:ByteArray):∀{l:List Pr},look (lA k' l) k=if k'=k then none else look l k
 | []=>by
  by_cases e:k'=k; · rw[if_pos e];rfl
  ·rw[if_neg e];rfl
 |q::l=>by
  rw[uI];by_cases h:q.1=k'
  ·rw[if_pos h,Ft k' k,eA,h]
   by_cases e:k'=k
   ·rw[if_pos e,if_pos e]
   ·rw[if_neg e,if_neg e,if_neg e]
  ·rw[if_neg h,eA,Ft k' k,eA]
   by_cases e:q.1=k
   ·rw[if_pos e,if_pos e,if_neg fun a=>h (by rw[e,a])]
   ·rw[if_neg e,if_neg e]
def VR(k:ByteArray)(a b:Option ByteArray):Option Ch:=if a=b then none else some (k,a.getD ⟨#[]⟩,b.getD ⟨#[]⟩,a.isSome,b.isSome)
theorem Ml(k:ByteArray)(a:Option ByteArray):VR k a a=none:=if_pos rfl
theorem Vl{k:ByteArray}{a b:Option ByteArray}{c:Ch}(h:VR k a b=some c):c=(k,a.getD ⟨#[]⟩,b.getD ⟨#[]⟩,a.isSome,b.isSome)∧a≠b:=by
 unfold VR at h;by_cases e:a=b
 ·rw[if_pos e]at h;cases h
 ·rw[if_neg e]at h;cases h;exact⟨rfl,e⟩
def fd(l:List Ch)(k:ByteArray):Option Ch:=l.find? fun c=>decide (c.1=k)
theorem vJ(c:Ch)(l:List Ch)(k:ByteArray):fd (c::l) k=if c.1=k then some c else fd l k:=by
 unfold fd;rw[kj];by_cases e:c.1=k
 ·rw[decide_eq_true e,if_pos e]
 ·rw[decide_eq_false e,if_neg e]
theorem N4{k:ByteArray}{c:Ch}:∀{l:List Ch},fd l k=some c→c∈l∧c.1=k
 | [],h=>by cases h
 |a::l,h=>by
  rw[vJ]at h;by_cases e:a.1=k
  ·rw[if_pos e]at h;cases h;exact⟨ar ..,e⟩
  ·rw[if_neg e]at h;exact⟨ax _ (N4 h).1,(N4 h).2⟩
theorem Td{c:Ch}:∀{l:List Ch},Ks l→c∈l→fd l c.1=some c
 |a::l,b,h=>by
  have b:=ay.1 b;rw[vJ];rcases aq.1 h with rfl|h
  ·exact if_pos rfl
  ·rw[if_neg fun e=>by have:=b.1 c h;rw[e]at this;exact bN _ this]
   exact Td b.2 h
theorem N5{A B:List Pr}(d:bM A)(f:bM B)(k:ByteArray):fd (gM A B) k=VR k (look A k) (look B k):=by
 refine mK (P:=fun A B=>fd (gM A B) k=VR k (look A k) (look B k)) ?_ (fun a A B d _ h i=>?_) (fun b A B _ f h i=>?_) (fun a b A B e d f i=>?_) d f
 ·rw[iu];exact(Ml ..).symm
 ·rw[rV h,vJ,eA,i]
  by_cases e:a.1=k
  ·rw[if_pos (show(Hb a).1=k from e),if_pos e,←e,w7 h];rfl
  ·rw[if_neg (show ¬(Hb a).1=k from e),if_neg e]
 ·rw[rU h,vJ,eA,i]
  by_cases e:b.1=k
  ·rw[if_pos (show(Ub b).1=k from e),if_pos e,←e,w7 h];rfl
  ·rw[if_neg (show ¬(Ub b).1=k from e),if_neg e]
 ·rw[rS e,eA,eA,←e]
  by_cases h:a.1=k
  ·rw[if_pos h,if_pos h]
   unfold xt VR;by_cases c:a.2=b.2
   ·rw[if_pos c,if_pos (by rw[c]),List.nil_append,i,←h,w7 (ay.1 d).1,e,w7 (ay.1 f).1,Ml]
   ·rw[if_neg c,if_neg (fun e=>c (Option.some.inj e)),oZ,vJ,if_pos h,h];rfl
  ·rw[if_neg h,if_neg h,←i]
   unfold xt;by_cases c:a.2=b.2
   ·rw[if_pos c];rfl
   ·rw[if_neg c,oZ,vJ,if_neg h]
end Go.Proofs
namespace Go.Proofs
open Go Go.Lift
end Go.Proofs
namespace Go.Proofs
open Go Go.Lift
end Go.Proofs
namespace Go.Proofs
open Go Go.Lift
theorem Few.del{n:Nat}{L:List Pr}(f:Few n L)(k:ByteArray):Few n (lA k L):=⟨BR f.up,aW Tj f.len,fun p a=>f.fit p (Em.1 a).1⟩
theorem Lm{W:Nat→Prop}{x:Hs}{h:ad}{kind:Int}{r:Rt}{l:List Pr}(i:RefIs W h kind x r l)(F:∀y,W y→y<h.size)(G:bM l)(I:Fit l)(w:l.length≤1000000)(k:ByteArray)(H:k.size≤256){K:Rt×Int→ad→Prop}
  (D:∀h' r' e,RefIs W h' kind x r' (lA k l)→Upd No h h'→K (r',e) h'):DR 85 [Ro r,.string k] K h:=by
 refine cW (yL r k) .nil Tryz.func85 Tryz.call85 ?_;dsimp only[yL,dM,qR,mL,kR,gU,cV,D3,dt,Jb,jg,wL,aY,aj];refine ba fun z b1 k1=>ba fun N b2 A=>?_
 have O:=bw b1;have L:=bw b2;have C:h.size≤z.size:=k1.size;have d:=k1.tr A;have f:=A.get0 b1;obtain⟨s,rfl,t,hc⟩:=i;refine ao (fun h=>absurd h (by omega)) fun _=>?_
 refine⟨s,vc f 4,Pe (t.upd d fun _ h=>h.elim) G I w k fun v _ _=>?_⟩
 refine CondP.intro (fun hb=>?_) fun hb=>?_
 ·have p:cy l k=false:=by simpa using hb
  refine⟨_,vc f 0,_,vc f 1,_,vc f 2,_,vc f 3,s,vc f 4,?_⟩;refine cn (c:=sN O9) (vs:=sN (kind,hx kind x.k0,hx kind x.k1,hx kind x.mask,s)) b2 rfl fun u b a=>?_
  refine⟨_,vc b 0,_,vc b 1,_,vc b 2,_,vc b 3,s,vc b 4,?_⟩;refine D u (kind,hx kind x.k0,hx kind x.k1,hx kind x.mask,s) 4 ⟨s,rfl,?_,hc⟩ (d.own a C);rw[xq (Ad p)];exact t.upd (d.own a C) fun _ h=>h.elim
 ·refine⟨s,vc f 4,Lo (t.upd d fun _ h=>h.elim) w k fun m J q j=>?_⟩
  refine rA (i:=4) (c':=(sN (kind,hx kind x.k0,hx kind x.k1,hx kind x.mask,m)).toArray) (j.get0 f) (show 4<5 by decide) rfl fun P o g=>?_
  refine⟨_,vc o 0,_,vc o 1,_,vc o 2,_,vc o 3,m,vc o 4,?_⟩;refine cn (c:=sN O9) (vs:=sN (kind,hx kind x.k0,hx kind x.k1,hx kind x.mask,m)) (g.oth (j.get0 b2) (by omega)) rfl fun u b a=>?_
  refine⟨_,vc b 0,_,vc b 1,_,vc b 2,_,vc b 3,m,vc b 4,?_⟩;have n:=(q.upd g fun y B e=>by have e:y=h.size:=e;omega).upd a fun y B e=>by have e:y=z.size:=e;omega
  refine D u (kind,hx kind x.k0,hx kind x.k1,hx kind x.mask,m) 0 ⟨m,rfl,n.sl fun y B _ E=>by have:=F y E;omega,n.cap⟩ (((d.tr j).own g (ai _)).own a (by omega))
end Go.Proofs
namespace Go.Proofs
open Go Go.Lift
end Go.Proofs
namespace Go.Proofs
open Go Go.Lift
end Go.Proofs
namespace Go.Proofs
open Go Go.Lift
end Go.Proofs
namespace Go.Proofs
open Go Go.Lift
theorem Tv{A B:List Pr}(a:bM A)(b:bM B){c:Ch}(h:c∈gM A B):c=(c.1,(look A c.1).getD ⟨#[]⟩,(look B c.1).getD ⟨#[]⟩,(look A c.1).isSome,(look B c.1).isSome)∧look A c.1≠look B c.1:=by
 have:=N5 a b c.1;rw[Td (y9 a b) h]at this;exact Vl this.symm
theorem lx{n:Nat}{A:List Pr}(f:Few n A)(k:ByteArray):((look A k).getD ⟨#[]⟩).size≤30:=by
 cases e:look A k with
 |none=>exact aN _
 |some v=>exact(f.fit _ (ly e)).2
theorem CE{n m:Nat}{A B:List Pr}(a:Few n A)(b:Few m B):∀c∈gM A B,c.1.size≤30∧c.2.1.size≤30∧c.2.2.1.size≤30:=fun c hc=>by
 obtain⟨e,ne⟩:=Tv a.up b.up hc;refine⟨?_,?_,?_⟩
 ·cases ea:look A c.1 with
  |some v=>exact(a.fit _ (ly ea)).1
  |none=>
   cases eb:look B c.1 with
   |some v=>exact(b.fit _ (ly eb)).1
   |none=>rw[ea,eb]at ne;exact absurd rfl ne
 ·rw[e];exact lx a _
 ·rw[e];exact lx b _
end Go.Proofs
namespace Go.Proofs
open Go Go.Lift
theorem RP{A B:List Pr}(a:bM A)(b:bM B)(k:ByteArray):(gM A B).any (fun c=>decide (c.1=k))=decide (look A k≠look B k):=by
 have h:=N5 a b k;unfold VR at h;by_cases e:look A k=look B k
 ·rw[if_pos e]at h
  rw[show decide (look A k≠look B k)=false by simpa using e]
  unfold fd at h;rw[List.find?_eq_none]at h;rw[List.any_eq_false];exact fun c hc=>h c hc
 ·rw[if_neg e]at h
  rw[show decide (look A k≠look B k)=true by simpa using e]
  obtain⟨hc,ek⟩:=N4 h;exact bT.2 ⟨_,hc,by simp⟩
end Go.Proofs
