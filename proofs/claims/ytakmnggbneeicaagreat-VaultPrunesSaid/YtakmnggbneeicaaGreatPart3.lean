/- A part of the proof that the named laws of this program answer true, whatever the input. -/
import Derived.Test.YtakmnggbneeicaaGreatPart2
open BitVec renaming ofInt→aA
open Bool renaming eq_iff_iff→eJ
open Go.IntKind renaming bits→ak,wrap→ac
open Int renaming toNat_natCast→bf
open List renaming getElem?_eq_getElem→af,getElem_mem→aH,pairwise_cons→ay,any_cons→pL,mem_cons→aq,mem_cons_self→ar,mem_cons_of_mem→ax,pairwise_singleton→cj,filter_cons→aR,mem_filter→bE,filter_eq_nil_iff→hJ,mem_singleton→al,any_eq_true→bT,length_filter_le→bF,length_cons→au,range_succ→qC,range→gc,map_append→cD,sum_append→qA,map_cons→bX,map_nil→fk,length_append→ae,mem_filterMap→jS,length_take→aQ,zip_eq_zipWith→mB,length_drop→aX,set_eq_take_append_cons_drop→cY
open List.Pairwise renaming nil→cf
open Nat renaming le_of_eq→cC,zero_add→aO,le_refl→ai,lt_irrefl→km,mod_lt→sH,lt_of_lt_of_le→az,zero_le→aN,le_trans→aW,add_zero→gZ,lt_or_ge→cr
open Prod renaming ext→sG
namespace Go.Proofs
open Go.Lift
theorem Ve{h:ad}{b d n:Nat}{sp sk:SliceV}{c:Bool}{ow:Option Addr}(hb:h[b]? =some (.cells (dY d n sp sk c ow) 324 (0,0))) {K:Int→ad→Prop} (a:K (d:Int) h):xf 218 [gS b] K h:=by
 refine Cq _ ?_;dsimp only[vj,Km,dR,cH];exact ag.2 ⟨_,rfl,_,dS (i:=0) hb,a⟩
theorem LF{h:ad}{b d n:Nat}{sp sk:SliceV}{c:Bool}{ow:Option Addr}(hb:h[b]? =some (.cells (dY d n sp sk c ow) 324 (0,0))) {K:Int→ad→Prop} (a:K (n:Int) h):xf 219 [gS b] K h:=by
 refine A8 _ ?_;dsimp only[tS,Kl,dR,cH];exact ag.2 ⟨_,rfl,_,dS (i:=1) hb,a⟩
theorem ie{h:ad}{b d n:Nat}{sp sk:SliceV}{a:Bool}{ow:Option Addr}(hb:h[b]? =some (.cells (dY d n sp sk a ow) 324 (0,0))) {K:Bool→ad→Prop} (c:K a h):fI 169 [gS b] K h:=by
 refine xD _ ?_;dsimp only[qe,gl,cH];exact aw.2 ⟨_,rfl,_,dS (i:=4) hb,c⟩
def SU(o:Option Pr):Pr:=o.getD (⟨#[]⟩,⟨#[]⟩)
theorem E9{h:ad}{b:Nat}{q p:Pr}(hb:h[b]? =some (.cells #[.string q.1,.string q.2] 33 (0,0))) {k:ad→Prop}
  (a:∀h',h'[b]? =some (.cells #[.string p.1,.string p.2] 33 (0,0))→Upd (· =b) h h'→k h'):pk h (some ⟨b,0,none⟩) 0 [.string p.1,.string p.2]∧At (eN h ⟨b,0,none⟩ 0 [.string p.1,.string p.2]) k:=by
 have e:=gC [.string p.1,.string p.2] h 0 0 [.string q.1,.string q.2] hb (by simp);refine⟨.inr ⟨_,rfl,fun j c=>by rw[ce];exact eC hb (by simp at c⊢;omega)⟩,bL ?_⟩
 rw[e];refine a _ ?_ (Upd.set h _ rfl);rw[dE hb];rfl
theorem Aq{W:Nat→Prop}{h:ad}{b:Nat}{s:Slots}(nd:NodeAt W h b s){i:Nat}(hi:i<32){K:Pr×Bool→ad→Prop}(k:∀h',Upd No h h'→K (SU (s.p i),(s.p i).isSome) h'):
  FC 173 [gS b,.int .i64 i] K h:=by
 refine Co _ i ?_;dsimp only[vh,dt,kJ,cg,mY,nZ,mF,bi,rY,jA,fQ,Hf,cZ,xx,cH,Km,dR];obtain⟨d,n,sp,sk,ow,hb,bits,g,q,w,t⟩:=nd.ex;have k1:=Upd.hnew No h [.string (⟨#[]⟩:ByteArray),.string (⟨#[]⟩:ByteArray)] 33;have b1:=bU h [.string (⟨#[]⟩:ByteArray),.string (⟨#[]⟩:ByteArray)] 33;refine bL ?_;simp only[cz h];generalize hnew h [.string (⟨#[]⟩:ByteArray),.string (⟨#[]⟩:ByteArray)] 33=h1 at k1 b1
 have c:=k1.get0 hb;have f:h1[h.size]? =some (.cells #[.string OM.1,.string OM.2] 33 (0,0)):=b1;refine Ve c (B7 bits.d32 hi ?_);rw[bits.dp i hi];cases hp:s.p i with
 |none=>
  rw[hp]at k;refine aw.2 (E9 (p:=OM) f fun v b2 e=>⟨_,by rw[ce,bd b2];rfl,_,by rw[ce,bd b2];rfl,k _ (k1.trans e fun x hx=>.inr (cC hx.symm))⟩)
 |some y=>
  rw[hp]at k;refine ag.2 ⟨_,rfl,sp,dS (i:=2) c,_,rfl,_,dS (i:=0) c,pH bits.d32 hi ⟨dS (i:=2) c,?_⟩⟩;have u:=Ig hi bits.dp hp;have j:=g.upd k1 fun _ h=>h.elim
  obtain⟨a,o,_,hv⟩:=j.at (S8 hi bits.dp hp);have m:=g.len;refine⟨by omega,a,o,y.1,hv 0 _ rfl,y.2,hv 1 _ rfl,?_⟩;refine E9 (p:=y) f fun v b2 e=>⟨_,by rw[ce,bd b2];rfl,_,by rw[ce,bd b2];rfl,k _ (k1.trans e fun x hx=>.inr (cC hx.symm))⟩
theorem vF{W:Nat→Prop}{h:ad}{b:Nat}{s:Slots}(nd:NodeAt W h b s){i:Nat}(hi:i<32){K:Option Addr×Bool→ad→Prop}(e:K ((s.k i).getD none,(s.k i).isSome) h):
  rP 177 [gS b,.int .i64 i] K h:=by
 refine Ec _ i ?_;dsimp only[wB,cg,nZ,cH,zD,cB,jA,fQ,Kl,dR];obtain⟨d,n,sp,sk,ow,hb,bits,m,c,o,j⟩:=nd.ex;refine LF hb (B7 bits.n32 hi ?_);rw[bits.nk i hi];cases hp:s.k i with
 |none=>rw[hp]at e;exact aw.2 e
 |some y=>
  rw[hp]at e;refine ag.2 ⟨_,rfl,sk,dS (i:=3) hb,_,rfl,_,dS (i:=1) hb,pH bits.n32 hi ⟨dS (i:=3) hb,?_⟩⟩;have k:=Ig hi bits.nk hp;obtain⟨a,g,_,hv⟩:=c.at (S8 hi bits.nk hp);have f:=c.len;exact⟨by omega,a,g,y,hv 0 _ rfl,e⟩
theorem wW{W:Nat→Prop}{h:ad}{b d n:Nat}{sp sk:SliceV}{e:Bool}{ow:Option Addr}{l:List Pr}(hb:h[b]? =some (.cells (dY d n sp sk e ow) 324 (0,0))) (a:Sl dQ 2 W h sp l) (f:l.length≤1000000000) {K:SliceV→ad→Prop}
  (c:∀s' h',OwnS dQ 2 33 (fun x=>h.size≤x) h' s' l→Upd No h h'→K s' h'):eP 156 [gS b] K h:=by
 refine tC _ ?_;dsimp only[oz,xx,cg,cH];exact ag.2 ⟨_,rfl,sp,dS (i:=2) hb,uL a (by omega) c⟩
theorem U0{W:Nat→Prop}{h:ad}{b d n:Nat}{sp sk:SliceV}{e:Bool}{ow:Option Addr}{l:List (Option Addr)}(hb:h[b]? =some (.cells (dY d n sp sk e ow) 324 (0,0))) (a:Sl qp 1 W h sk l) (f:l.length≤1000000000) {K:SliceV→ad→Prop}
  (c:∀s' h',OwnS qp 1 50 (fun x=>h.size≤x) h' s' l→Upd No h h'→K s' h'):eP 157 [gS b] K h:=by
 refine uU _ ?_;dsimp only[pq,cg,cH];exact ag.2 ⟨_,rfl,sk,dS (i:=3) hb,Cb a (by omega) c⟩
structure BuckAt(W:Nat→Prop)(h:ad)(b:Nat)(l:List Pr):Prop where
 ex:∃sp sk ow,h[b]? =some (.cells (dY 0 0 sp sk true ow) 324 (0,0))∧Sl dQ 2 W h sp l∧Sl qp 1 W h sk []∧sp.len≤sp.cap∧sk.len≤sk.cap
 nw:¬W b
theorem BuckAt.upd{W M:Nat→Prop}{h h':ad}{b:Nat}{l:List Pr}(n:BuckAt W h b l)(k:Upd M h h')(hm:∀b,M b→W b∨h.size≤b):BuckAt W h' b l:=by
 obtain⟨sp,sk,ow,a,c,e,f,d⟩:=n.ex;exact⟨⟨sp,sk,ow,k.get a (fun hb=>(hm _ hb).elim n.nw fun h=>by have:=bw a;omega),c.upd k hm,e.upd k hm,f,d⟩,n.nw⟩
theorem SP{W:Nat→Prop}{h:ad}{b:Nat}{l:List Pr}(q:BuckAt W h b l)(o:bM l)(p:l.length≤1000000000)(k:ByteArray){K:ByteArray×Bool→ad→Prop}
  (i:∀h' v,Upd No h h'→(cy l k=true→(k,v)∈l)→(cy l k=false→v=⟨#[]⟩)→K (v,cy l k) h'):q9 170 [gS b,.string k] K h:=by
 refine Ow _ k ?_;dsimp only[GI,cZ,kR,jA,fQ];obtain⟨sp,sk,ow,hb,j,x,y,s⟩:=q.ex;refine wW hb j p fun t w m g=>?_
 have c:Sl dQ 2 No w t l:=m.sl fun _ _ _ h=>h
 refine JS c o p k fun z d=>?_
 cases ht:cy l k with
 |false=>rw[ht]at i;exact aw.2 (i _ _ (g.tr d) (fun h=>by cases h) fun _=>rfl)
 |true=>
  rw[ht]at i;obtain⟨f,e⟩:=Jz o ht;obtain⟨a,u,_,hv⟩:=(c.upd d fun _ h=>h.elim).at (af f)
  have n:=c.len;refine ag.2 ⟨by(try simp only);omega,a,u,_,hv 1 _ rfl,i _ _ (g.tr d) (fun _=>?_) fun h=>by cases h⟩
  have:(k,l[pos l k].2)=l[pos l k]:=sG e.symm rfl;rw[this];exact aH f
theorem VN{W:Nat→Prop}{h:ad}{b:Nat}{l:List Pr}(a:BuckAt W h b l)(c:bM l)(d:l.length≤1000000000)(k:ByteArray){K:ByteArray×Bool→ad→Prop}
 (e:∀h' v,Upd No h h'→(cy l k=true→(k,v)∈l)→K (v,cy l k) h'):q9 170 [gS b,.string k] K h:=SP a c d k fun h' v f g _=>e h' v f g
end Go.Proofs
namespace Go.Proofs
open Go.Lift
set_option maxRecDepth 4000 in
theorem Pl{W:Nat→Prop}{h:ad}{b:Nat}{l:List Pr}(nd:BuckAt W h b l)(Z:l.length≤1000000000){K:Option Addr→ad→Prop}
  (E:∀h' sp sk,h'[h.size]? =some (.cells (dY 0 0 sp sk true none) 324 (0,0))→OwnS dQ 2 33 (fun x=>h.size<x∧x<h'.size) h' sp l→OwnS qp 1 50 (fun x=>h.size<x∧x<h'.size) h' sk []→Upd No h h'→K (some ⟨h.size,0,none⟩) h'):
  eT 239 [gS b,.pointer none] K h:=by
 obtain⟨sp,sk,ow,hb,y,A,N,P⟩:=nd.ex;refine ws _ none ?_;dsimp only[qv,dR,dg,gl,nv,kq,cV,cg,Rq,VW,cH,gU,xx];refine HM (ag.2 ?_);have c:∀{h:ad} {b:Nat} {c:Array Value} {i:Nat},h[b]? =some (.cells c 324 (0,0))→aK h ⟨b,0+i,none⟩=c[i]?:=fun hb=>by rw[aO];exact bd hb
 refine⟨_,rfl,_,c (i:=0) hb,_,c (i:=1) hb,sp,c (i:=2) hb,sk,c (i:=3) hb,_,c (i:=4) hb,_,c (i:=5) hb,?_⟩;have k1:=Upd.hnew No h [.int .u32 0,.int .u32 0,.slice none 0 0,.slice none 0 0,.bool false,.pointer none] 324;have b1:=bU h [.int .u32 0,.int .u32 0,.slice none 0 0,.slice none 0 0,.bool false,.pointer none] 324;refine bL ?_;simp only[cz h];generalize hnew h [.int .u32 0,.int .u32 0,.slice none 0 0,.slice none 0 0,.bool false,.pointer none] 324=h1 at k1 b1
 have G:eN h1 ⟨h.size,0,none⟩ 0 [.int .u32 ((0:Nat):Int),.int .u32 ((0:Nat):Int),.slice sp.a sp.len sp.cap,.slice sk.a sk.len sk.cap,.bool true,.pointer ow]=_:=gC _ h1 0 0 _ b1 (by simp);refine⟨.inr ⟨_,rfl,fun j O=>by rw[ce];exact eC b1 (by simp at O⊢;omega)⟩,bL ?_⟩
 rw[G];have b2:=dE (o:=.cells (dY 0 0 sp sk true ow) 324 (0,0)) b1;have p:Upd No h _:=k1.trans (M':=(· =h.size)) (Upd.set h1 (.cells (dY 0 0 sp sk true ow) 324 (0,0)) rfl) fun x hx=>.inr (cC hx.symm)
 have F:h.size<(h1.setIfInBounds h.size (.cells (dY 0 0 sp sk true ow) 324 (0,0))).size:=bw b2;have R:h.size≠b:=fun e=>by have:=bw hb;omega
 have Q:(Obj.cells (List.take (0+0) [Value.int .u32 0,.int .u32 0,.slice none 0 0,.slice none 0 0,.bool false,.pointer none]++ [Value.int .u32 ((0:Nat):Int),.int .u32 ((0:Nat):Int),.slice sp.a sp.len sp.cap,.slice sk.a sk.len sk.cap,.bool true,.pointer ow]++List.drop (0+0+ [Value.int .u32 ((0:Nat):Int),.int .u32 ((0:Nat):Int),.slice sp.a sp.len sp.cap,.slice sk.a sk.len sk.cap,.bool true,.pointer ow].length) [Value.int .u32 0,.int .u32 0,.slice none 0 0,.slice none 0 0,.bool false,.pointer none]).toArray 324 (0,0))=.cells (dY 0 0 sp sk true ow) 324 (0,0):=rfl
 rw[Q];generalize h1.setIfInBounds h.size (.cells (dY 0 0 sp sk true ow) 324 (0,0))=h2 at b2 p F;have g:=p.get0 hb;refine⟨_,rfl,sp,c (i:=2) g,_,rfl,sk,c (i:=3) g,?_⟩;refine uL (y.upd p fun _ h=>h.elim) (by omega) fun q X z d=>?_
 refine⟨c (i:=3) (d.get0 g),?_⟩;refine Cb ((A.upd p fun _ h=>h.elim).upd d fun _ h=>h.elim) (by simp) fun D V B f=>?_
 have J:=f.get0 (d.get0 b2);have m:=z.within.upd f fun _ _ h=>h
 have n:=B.within;have U:=d.size;have z4:=f.size;have w:∀{h:ad} {c:Array Value} {x i:Nat},h[x]? =some (.cells c 324 (0,0))→i<c.size→Wr h ⟨x,0+i,none⟩:=fun hb hi=>by rw[aO];exact eC hb hi
 have st:∀{h:ad} {c c':Array Value} {x i:Nat} {v:Value} {k:ad→Prop},h[x]? =some (.cells c 324 (0,0))→c.setIfInBounds i v=c'→(∀h',h'[x]? =some (.cells c' 324 (0,0))→Upd (· =x) h h'→k h')→At (hset h ⟨x,i,none⟩ v) k:=fun hb e E=>zA hb fun h' u S=>E h' (e▸u) S
 refine⟨w (i:=2) J (show 2<6 by decide),st (i:=2) (c':=dY 0 0 q sk true ow) J rfl fun h5 I t=>?_⟩
 refine⟨w (i:=3) I (show 3<6 by decide),st (i:=3) (c':=dY 0 0 q D true ow) I rfl fun h6 H s=>?_⟩
 refine⟨w (i:=5) H (show 5<6 by decide),st (i:=5) (c':=dY 0 0 q D true none) H rfl fun Y L C=>?_⟩
 refine w9 (ag.2 ?_);have a:=t.tr (s.tr C);have T:=a.size;refine E _ q D L ((m.upd a fun x hx e=>?_).more fun x hx=>?_) ((n.upd a fun x hx e=>?_).more fun x hx=>?_) ?_
 ·have e:x=h.size:=e;omega
 ·omega
 ·have e:x=h.size:=e;omega
 ·omega
 ·exact((p.tr d).tr f).trans a fun x hx=>.inr (cC hx.symm)
theorem Ke{W:Nat→Prop}{h:ad}{b:Nat}{l:List Pr}(B:BuckAt W h b l)(m:∀x,W x→x<h.size)(C:bM l)(u:l.length≤1000000000)(p:Pr){K:Option Addr→ad→Prop}
  (E:∀h' b',BuckAt W h' b' (JK l p)→Upd No h h'→K (some ⟨b',0,none⟩) h'):
  eT 171 [gS b,.pointer none,.agg #[.string p.1,.string p.2]] K h:=by
 refine Ea _ none p ?_;dsimp only[wz,oW,kq,cH,mF,bi,gU,cV,xx,cg,p8,yg];have k1:=Upd.hnew No h [.string p.1,.string p.2] 33;have b1:=bU h [.string p.1,.string p.2] 33;refine bL ?_;simp only[cz h];generalize hnew h [.string p.1,.string p.2] 33=h1 at k1 b1;have L:=bw b1;have j:=B.upd k1 fun _ h=>h.elim
 obtain⟨sp,sk,ow,hb,z,D,G,w⟩:=j.ex;refine ie hb (ag.2 ?_);refine Pl j u fun J A t b2 s q c=>?_
 have f:=c.get0 b1;refine⟨_,rfl,A,dS (i:=2) b2,p.1,by rw[ce,bd f];rfl,p.2,by rw[ce,bd f];rfl,?_⟩
 refine NC (s.sl fun _ _ _ h=>h) s.cap C u p fun v I k d=>?_
 have b3:=d.get0 b2;refine⟨_,rfl,Ua (i:=2) b3 (show 2<6 by decide),GZ (i:=2) (c':=dY 0 0 v t true none) b3 rfl fun y F a=>?_⟩
 have H:=bw b2;have n:=k.upd a fun x hx e=>by have e:x=h1.size:=e;omega
 have o:=(q.upd d fun _ _ h=>h).upd a fun x hx e=>by have e:x=h1.size:=e;omega
 refine E y h1.size ⟨⟨v,t,none,F,n.sl fun x hx _ g=>?_,o.sl fun x hx _ g=>?_,k.cap,q.cap⟩,fun g=>?_⟩ (((k1.tr c).tr d).trans a fun x hx=>.inr ?_)
 ·have:=m x g;have:=c.size;omega
 ·have:=m x g;omega
 ·have:=m _ g;omega
 ·have hx:x=h1.size:=hx
  omega
theorem QV{W:Nat→Prop}{h:ad}(b:∀x,W x→x<h.size){K:Option Addr→ad→Prop}(a:∀h' b',BuckAt W h' b' []→Upd No h h'→K (some ⟨b',0,none⟩) h'):eT 249 [] K h:=by
 refine cW yN .nil Tryz.func249 Tryz.call249 ?_;unfold yN;exact a _ _ ⟨⟨⟨none,0,0⟩,⟨none,0,0⟩,none,bU h _ _,Sl.nil fc,Sl.nil qo,ai _,ai _⟩,fun hx=>km _ (b _ hx)⟩ (Upd.hnew No h _ _)
theorem qX{W:Nat→Prop}{h:ad}(e:∀x,W x→x<h.size){K:Option Addr→ad→Prop}(d:∀h' b',NodeAt W h' b' ⟨fun _=>none,fun _=>none⟩→Upd No h h'→K (some ⟨b',0,none⟩) h'):eT 220 [] K h:=by
 refine cW Bk .nil Tryz.func220 Tryz.call220 ?_;unfold Bk Rq;have a:fm (fun _=>(none:Option Pr)) 32= []:=by simp[fm]
 have b:fm (fun _=>(none:Option (Option Addr))) 32= []:=by simp[fm]
 refine d _ _ ⟨⟨0,0,⟨none,0,0⟩,⟨none,0,0⟩,none,bU h _ _,⟨by decide,by decide,fun c _=>by simp,fun c _=>by simp⟩,?_,?_,ai _,ai _⟩,fun hx=>km _ (e _ hx)⟩ (Upd.hnew No h _ _)
 ·show Sl dQ 2 W _ _ (fm (fun _=>none) 32)
  rw[a];exact Sl.nil fc
 ·show Sl qp 1 W _ _ (fm (fun _=>none) 32)
  rw[b];exact Sl.nil qo
end Go.Proofs
namespace Go.Proofs
open Go.Lift
def fG(p:Pr):List Pr→List Pr
 | []=> [p]
 |q::l=>if kl q.1 p.1 then q::fG p l else if q.1=p.1 then p::l else p::q::l
theorem ft(p q:Pr)(l:List Pr):fG p (q::l)=if kl q.1 p.1 then q::fG p l else if q.1=p.1 then p::l else p::q::l:=rfl
theorem Ep(p:Pr):∀{l:List Pr},bM l→JK l p=fG p l
 | [],_=>by simp[JK,fG,pos,cy]
 |q::l,c=>by
  have c:=ay.1 c;unfold fG;have a:pos (q::l) p.1=if kl q.1 p.1 then pos l p.1+1 else 0:=by
   unfold pos;rw[List.takeWhile_cons];by_cases h:kl q.1 p.1
   ·rw[if_pos (by simpa using h),if_pos h];rfl
   ·rw[if_neg (by simpa using h),if_neg h];rfl
  have b:cy (q::l) p.1=(decide (q.1=p.1)||cy l p.1):=by unfold cy;rw[pL]
  by_cases h:kl q.1 p.1
  ·have f:q.1≠p.1:=fun e=>by rw[e]at h;exact bN _ h
   rw[if_pos h,←Ep p c.2];unfold JK;rw[b,a,if_pos h,decide_eq_false f,Bool.false_or];by_cases ht:cy l p.1=true
   ·rw[if_pos ht,if_pos ht];rfl
   ·rw[if_neg ht,if_neg ht];rfl
  ·rw[if_neg h]
   unfold JK;rw[b,a,if_neg h];by_cases e:q.1=p.1
   ·rw[if_pos e,decide_eq_true e,Bool.true_or,if_pos rfl];rfl
   ·have g:=kz h e
    have ht:cy l p.1=false:=by
     unfold cy;rw[List.any_eq_false];intro r d i;have i:=of_decide_eq_true i;have:=c.1 r d;rw[i]at this;exact bN _ (dw g this)
    rw[if_neg e,decide_eq_false e,ht];rfl
theorem rJ{p q:Pr}:∀{l:List Pr},q∈fG p l→q=p∨q∈l
 | [],h=>by simp[fG]at h;exact .inl h
 |r::l,h=>by
  unfold fG at h;split at h
  ·rcases aq.1 h with h|h
   ·exact .inr (h▸ar ..)
   ·exact(rJ h).imp id fun h=>ax _ h
  ·split at h
   ·rcases aq.1 h with h|h
    ·exact .inl h
    ·exact .inr (ax _ h)
   ·rcases aq.1 h with h|h
    ·exact .inl h
    ·exact .inr h
theorem nI(p:Pr):∀{l:List Pr},bM l→bM (fG p l)
 | [],_=>cj ..
 |q::l,a=>by
  have c:=a;have a:=ay.1 a;unfold fG;split
  ·rename_i h
   refine ay.2 ⟨fun r hm=>?_,nI p a.2⟩
   rcases rJ hm with rfl|hm
   ·exact h
   ·exact a.1 r hm
  ·rename_i h
   split
   ·rename_i e
    exact ay.2 ⟨fun r hm=>e▸a.1 r hm,a.2⟩
   ·rename_i e
    have b:=kz h e;refine ay.2 ⟨fun r hm=>?_,c⟩
    rcases aq.1 hm with rfl|hm
    ·exact b
    ·exact dw b (a.1 r hm)
theorem FI(p:Pr)(g:ByteArray→Bool):∀{l:List Pr},bM l→(fG p l).filter (fun q=>g q.1)=if g p.1 then fG p (l.filter fun q=>g q.1)else l.filter fun q=>g q.1
 | [],_=>by
  unfold fG;rw[aR,List.filter_nil]
 |q::l,c=>by
  have i:=c;have c:=ay.1 c;have j:=FI p g c.2;rw[ft];by_cases h:kl q.1 p.1
  ·rw[if_pos h,aR,aR,j]
   by_cases f:g q.1=true
   ·rw[if_pos f,if_pos f]
    split
    ·rw[ft,if_pos h]
    ·rfl
   ·rw[if_neg f,if_neg f]
  ·rw[if_neg h]
   by_cases e:q.1=p.1
   ·rw[if_pos e,aR,aR,e]
    by_cases a:g p.1=true
    ·rw[if_pos a,if_pos a,if_pos a,ft,if_neg h,if_pos e]
    ·rw[if_neg a,if_neg a,if_neg a]
   ·rw[if_neg e]
    have d:=kz h e;rw[aR];by_cases a:g p.1=true
    ·rw[if_pos a,if_pos a]
     have:∀r∈(q::l).filter (fun q=>g q.1),kl p.1 r.1:=fun r hm=>by
      rcases aq.1 (bE.1 hm).1 with rfl|hm
      ·exact d
      ·exact dw d (c.1 r hm)
     cases hf:(q::l).filter (fun q=>g q.1)with
     |nil=>rfl
     |cons r rs=>
      have b:=this r (by rw[hf];exact ar ..);rw[ft,if_neg fun k=>bN _ (dw b k),if_neg fun e=>by rw[e]at b;exact bN _ b]
    ·rw[if_neg a,if_neg a]
theorem Eo{p:Pr}:∀{l:List Pr},bM l→p∈l→fG p l=l
 |q::l,a,hm=>by
  have a:=ay.1 a;unfold fG;rcases aq.1 hm with rfl|hm
  ·rw[if_neg (bN _),if_pos rfl]
  ·rw[if_pos (a.1 p hm),Eo a.2 hm]
def ck(x:Hs)(lev:Nat)(k:ByteArray):Nat:=((iS x k).toNat>>>(5*lev))%32
theorem yA(x:Hs)(lev:Nat)(k:ByteArray):ck x lev k<32:=sH _ (by omega)
def part(x:Hs)(lev c:Nat)(l:List Pr):List Pr:=l.filter fun p=>decide (ck x lev p.1=c)
def TrieAt(W:Nat→Prop)(x:Hs)(h:ad):Nat→Nat→List Pr→Prop
 |0,b,l=>BuckAt W h b l
 |m+1,b,l=>∃s,NodeAt W h b s∧∀c,c<32→
  ((part x (12-m) c l= []∧s.p c=none∧s.k c=none)∨(∃p,part x (12-m) c l= [p]∧s.p c=some p∧s.k c=none)∨
   (2≤(part x (12-m) c l).length∧s.p c=none∧∃kb,s.k c=some (some ⟨kb,0,none⟩)∧TrieAt W x h m kb (part x (12-m) c l)))
theorem TrieAt.upd0{W:Nat→Prop}{x:Hs}{h h':ad}(k:Upd No h h'):∀{m b:Nat} {l:List Pr},TrieAt W x h m b l→TrieAt W x h' m b l
 |0,_,_,t=>BuckAt.upd t k fun _ h=>h.elim
 |_+1,_,_,⟨s,nd,hc⟩=>⟨s,nd.upd k fun _ h=>h.elim,fun c a=>(hc c a).imp id fun o=>o.imp id fun⟨d,i,f,e,g⟩=>⟨d,i,f,e,TrieAt.upd0 k g⟩⟩
theorem NodeAt.less{W W':Nat→Prop}{h:ad}{b:Nat}{s:Slots}(n:NodeAt W h b s)(hm:∀b,W' b→W b∨h.size≤b):NodeAt W' h b s:=by
 obtain⟨d,m,sp,sk,ow,a,g,c,f,i,e⟩:=n.ex;exact⟨⟨d,m,sp,sk,ow,a,g,c.less hm,f.less hm,i,e⟩,fun hx=>(hm _ hx).elim n.nw fun h=>by have:=bw a;omega⟩
theorem BuckAt.less{W W':Nat→Prop}{h:ad}{b:Nat}{l:List Pr}(n:BuckAt W h b l)(hm:∀b,W' b→W b∨h.size≤b):BuckAt W' h b l:=by
 obtain⟨sp,sk,ow,a,c,e,f,d⟩:=n.ex;exact⟨⟨sp,sk,ow,a,c.less hm,e.less hm,f,d⟩,fun hx=>(hm _ hx).elim n.nw fun h=>by have:=bw a;omega⟩
theorem TrieAt.less{W W':Nat→Prop}{x:Hs}{h:ad}(hm:∀b,W' b→W b∨h.size≤b):∀{m b:Nat} {l:List Pr},TrieAt W x h m b l→TrieAt W' x h m b l
 |0,_,_,t=>BuckAt.less t hm
 |_+1,_,_,⟨s,nd,hc⟩=>⟨s,nd.less hm,fun c a=>(hc c a).imp id fun o=>o.imp id fun⟨d,i,f,e,g⟩=>⟨d,i,f,e,TrieAt.less hm g⟩⟩
theorem TrieAt.updM{W M:Nat→Prop}{x:Hs}{h h':ad}(k:Upd M h h')(hm:∀b,M b→W b∨h.size≤b):∀{m b:Nat} {l:List Pr},TrieAt W x h m b l→TrieAt W x h' m b l
 |0,_,_,t=>BuckAt.upd t k hm
 |_+1,_,_,⟨s,nd,hc⟩=>⟨s,nd.upd k hm,fun c a=>(hc c a).imp id fun o=>o.imp id fun⟨d,i,f,e,g⟩=>⟨d,i,f,e,TrieAt.updM k hm g⟩⟩
end Go.Proofs
namespace Go.Proofs
open Go.Lift
theorem WL(a b:Nat):(aA (ak .u64) (a:Int)&&&aA (ak .u64) (b:Int)).toNat=(a%18446744073709551616)&&&(b%18446744073709551616):=by
 simp[ak];rfl
theorem XZ{hv:Int}(c:0≤hv∧hv<18446744073709551616){lev:Nat}(f:lev<13){h:ad}{K:Int→ad→Prop}(b:K (((hv.toNat>>>(5*lev))%32:Nat):Int) h):fH 172 [.int .u64 hv,.int .i64 lev] K h:=by
 refine cW (GH hv lev) OJ Tryz.func172 Tryz.call172 ?_;unfold GH;refine Join.plain (ao (fun h=>by omega) fun _=>?_)
 rw[decide_eq_false (by omega)];refine ag.2 ?_;have d:ac .i64 (5*(lev:Int))=((5*lev:Nat):Int):=by rw[df (by omega)];omega
 rw[d];have em:min (((5*lev:Nat):Int)).toNat (ak .u64)=5*lev:=by rw[bf];exact Nat.min_eq_left (by show 5*lev≤64;omega)
 rw[em];obtain⟨n,rfl⟩:=Int.eq_ofNat_of_zero_le c.1;rw[bf]at b;simp only[Bd];rw[rQ];have a:n>>>(5*lev)<18446744073709551616:=Nat.lt_of_le_of_lt (Nat.shiftRight_le _ _) (by omega);have e:=WL (n>>>(5*lev)) 31;rw[Nat.mod_eq_of_lt a,show((31:Nat):Int)=(31:Int)from rfl,show 31%18446744073709551616=2^5-1 from rfl,Nat.and_two_pow_sub_one_eq_mod]at e
 rw[e];have hm:n>>>(5*lev)%2^5<32:=sH _ (by omega);rw[Go.IntWalk.u64_in _ (by omega),df (by omega)];exact⟨by omega,b⟩
theorem Tu{x:Hs}{k:ByteArray}{lev:Nat}(b:lev<13){h:ad}{K:Int→ad→Prop}(a:K (ck x lev k:Int) h):fH 172 [.int .u64 (iS x k),.int .i64 lev] K h:=XZ (L2 x k) b a
abbrev Rx(x:Hs)(k:ByteArray):Value:=.agg #[.int .u64 x.k0,.int .u64 x.k1,.int .u64 x.mask,.pointer none,.string k,.int .u64 (iS x k)]
theorem Lz{x:Hs}{lev c:Nat}{l:List Pr}(h:∀p∈l,ck x lev p.1=c):part x lev c l=l:=List.filter_eq_self.2 fun p a=>decide_eq_true (h p a)
theorem Pk{x:Hs}{lev c:Nat}{l:List Pr}(h:∀p∈l,ck x lev p.1≠c):part x lev c l= []:=hJ.2 fun p a=>by simpa using h p a
theorem Lx{x:Hs}{lev c:Nat}{p:Pr}{l:List Pr}(a:bM l):part x lev c (fG p l)=if ck x lev p.1=c then fG p (part x lev c l)else part x lev c l:=by
 have:=FI p (fun k=>decide (ck x lev k=c)) a
 unfold part;rw[this];by_cases h:ck x lev p.1=c
 ·rw[if_pos h,if_pos (decide_eq_true h)]
 ·rw[if_neg h,if_neg (by simpa using h)]
theorem OX{p q:Pr}(h:p.1≠q.1):(fG q [p]).length=2:=by
 rw[ft];by_cases a:kl p.1 q.1
 ·rw[if_pos a];rfl
 ·rw[if_neg a,if_neg h];rfl
theorem Pq{p q r:Pr}(h:r∈fG q [p]):r=p∨r=q:=(rJ h).symm.imp (fun h=>al.1 h) id
theorem fX{β:Type}{g:Nat→Option β}{i c:Nat}{x:Option β}(h:c≠i):upd g i x c=g c:=by unfold upd;rw[if_neg h]
theorem Vo{W:Nat→Prop}{x:Hs}:∀(m:Nat) (p q:Pr),m≤13→p.1≠q.1→∀{h:ad},(∀y,W y→y<h.size)→∀{K:Option Addr→ad→Prop},(∀h' b',TrieAt W x h' m b' (fG q [p])→Upd No h h'→K (some ⟨b',0,none⟩) h')→
  eT 176 [Rx x q.1,.agg #[.string p.1,.string p.2],.agg #[.string q.1,.string q.2],.int .i64 ((13-m:Nat):Int)] K h:=by
 intro m;induction m with
 |zero=>
  intro p q _ G h S K P;have C:∀{h'},Upd No h h'→∀y,W y→y<h'.size:=fun k y V=>az (S y V) k.size
  refine tE (x.k0,x.k1,x.mask,none,q.1,iS x q.1) p q ((13-0:Nat):Int) ?_;dsimp only[oB,aj,bi,BG,aD,oW,ge,yS,JA,vr,EK,mF,D0,mc,fY,p8,yg,AU];have k1:=Upd.hnew No h [.int .u64 x.k0,.int .u64 x.k1,.int .u64 x.mask,.pointer none,.string q.1,.int .u64 (iS x q.1)] 198;have b1:=bU h [.int .u64 x.k0,.int .u64 x.k1,.int .u64 x.mask,.pointer none,.string q.1,.int .u64 (iS x q.1)] 198
  refine bL ?_;simp only[cz h];generalize hnew h [.int .u64 x.k0,.int .u64 x.k1,.int .u64 x.mask,.pointer none,.string q.1,.int .u64 (iS x q.1)] 198=h1 at k1 b1;have B:=Upd.hnew No h1 [.string p.1,.string p.2] 33;have b2:=bU h1 [.string p.1,.string p.2] 33;refine bL ?_;simp only[cz h1];generalize hnew h1 [.string p.1,.string p.2] 33=h2 at B b2;have z:=Upd.hnew No h2 [.string q.1,.string q.2] 33
  have b3:=bU h2 [.string q.1,.string q.2] 33;refine bL ?_;simp only[cz h2];generalize hnew h2 [.string q.1,.string q.2] 33=h3 at z b3;have d:∀{h':ad},Upd No h3 h'→∀i,aK h' (adr ⟨h.size,0,none⟩ i)=(#[.int .u64 x.k0,.int .u64 x.k1,.int .u64 x.mask,.pointer none,.string q.1,.int .u64 (iS x q.1)]:Array Value)[i]?:=fun k i=>by
   rw[ce,bd (k.get0 (z.get0 (B.get0 b1))),aO]
  have u:∀{h':ad},Upd No h3 h'→∀i,aK h' (adr ⟨h1.size,0,none⟩ i)=(#[.string p.1,.string p.2]:Array Value)[i]?:=fun k i=>by rw[ce,bd (k.get0 (z.get0 b2)),aO]
  have o:∀{h':ad},Upd No h3 h'→∀i,aK h' (adr ⟨h2.size,0,none⟩ i)=(#[.string q.1,.string q.2]:Array Value)[i]?:=fun k i=>by rw[ce,bd (k.get0 b3),aO]
  have r:=Upd.refl No h3;refine aw.2 ⟨none,d r 3,p.1,u r 0,p.2,u r 1,none,d r 3,q.1,o r 0,q.2,o r 1,?_⟩;refine QV (C ((k1.tr B).tr z)) fun h4 b4 Q b=>⟨⟨o b 0,o b 1⟩,d b 3,⟨u b 0,u b 1⟩,d b 3,?_⟩
  refine Ke Q (C (((k1.tr B).tr z).tr b)) cf (by simp) p fun Z b5 N A=>?_
  have n:=b.tr A;refine⟨⟨o n 0,o n 1⟩,d n 3,?_⟩;have O:JK [] p= [p]:=Ep p cf;rw[O]at N;refine Ke N (C (((k1.tr B).tr z).tr n)) (cj ..) (by simp) q fun X J L v=>?_
  rw[Ep q (cj ..)]at L;exact P X J L ((((k1.tr B).tr z).tr n).tr v)
 |succ m ih=>
  intro p q hm G h S K P;have C:∀{h'},Upd No h h'→∀y,W y→y<h'.size:=fun k y V=>az (S y V) k.size
  have Y:13-(m+1)<13:=by omega
  have j:13-(m+1)=12-m:=by omega
  refine tE (x.k0,x.k1,x.mask,none,q.1,iS x q.1) p q ((13-(m+1):Nat):Int) ?_;dsimp only[oB,aj,bi,BG,aD,oW,ge,yS,JA,vr,EK,mF,D0,mc,fY,p8,yg,AU];have k1:=Upd.hnew No h [.int .u64 x.k0,.int .u64 x.k1,.int .u64 x.mask,.pointer none,.string q.1,.int .u64 (iS x q.1)] 198;have b1:=bU h [.int .u64 x.k0,.int .u64 x.k1,.int .u64 x.mask,.pointer none,.string q.1,.int .u64 (iS x q.1)] 198
  refine bL ?_;simp only[cz h];generalize hnew h [.int .u64 x.k0,.int .u64 x.k1,.int .u64 x.mask,.pointer none,.string q.1,.int .u64 (iS x q.1)] 198=h1 at k1 b1;have B:=Upd.hnew No h1 [.string p.1,.string p.2] 33;have b2:=bU h1 [.string p.1,.string p.2] 33;refine bL ?_;simp only[cz h1];generalize hnew h1 [.string p.1,.string p.2] 33=h2 at B b2;have z:=Upd.hnew No h2 [.string q.1,.string q.2] 33
  have b3:=bU h2 [.string q.1,.string q.2] 33;refine bL ?_;simp only[cz h2];generalize hnew h2 [.string q.1,.string q.2] 33=h3 at z b3;have d:∀{h':ad},Upd No h3 h'→∀i,aK h' (adr ⟨h.size,0,none⟩ i)=(#[.int .u64 x.k0,.int .u64 x.k1,.int .u64 x.mask,.pointer none,.string q.1,.int .u64 (iS x q.1)]:Array Value)[i]?:=fun k i=>by
   rw[ce,bd (k.get0 (z.get0 (B.get0 b1))),aO]
  have u:∀{h':ad},Upd No h3 h'→∀i,aK h' (adr ⟨h1.size,0,none⟩ i)=(#[.string p.1,.string p.2]:Array Value)[i]?:=fun k i=>by rw[ce,bd (k.get0 (z.get0 b2)),aO]
  have o:∀{h':ad},Upd No h3 h'→∀i,aK h' (adr ⟨h2.size,0,none⟩ i)=(#[.string q.1,.string q.2]:Array Value)[i]?:=fun k i=>by rw[ce,bd (k.get0 b3),aO]
  have r:=Upd.refl No h3;have ne:(((13-(m+1):Nat):Int)==(13:Int))=false:=by rw[beq_eq_false_iff_ne];omega
  rw[ne];refine ag.2 ⟨_,d r 0,_,d r 1,_,d r 2,_,u r 0,_,d r 5,?_⟩;refine AB fun h4 b=>⟨d b 5,Tu Y ⟨d b 5,Tu Y ?_⟩⟩
  have hi:=yA x (13-(m+1)) p.1;have hj:=yA x (13-(m+1)) q.1;have g:=((k1.tr B).tr z);have hcl:=OX G;refine CondP.intro (fun e=>?_) fun e=>?_
  ·have e:ck x (13-(m+1)) p.1=ck x (13-(m+1)) q.1:=by have:=eq_of_beq e;omega
   refine⟨_,d b 3,_,d b 0,_,d b 1,_,d b 2,_,d b 3,_,d b 4,_,d b 5,_,u b 0,_,u b 1,_,o b 0,_,o b 1,?_⟩;refine qX (C (g.tr b)) fun Z b5 F A=>?_
   have a:=b.tr A;refine⟨⟨o a 0,o a 1⟩,⟨u a 0,u a 1⟩,⟨d a 0,d a 1,d a 2,d a 3,d a 4,d a 5⟩,d a 3,?_⟩;have ew:ac .i64 (((13-(m+1):Nat):Int)+1)=((13-m:Nat):Int):=by rw[df (by omega)];omega
   rw[ew];refine ih p q (by omega) G (C (g.tr a)) fun X J t6 v=>?_
   have f:=a.tr v;refine⟨d f 3,?_⟩;refine xM (F.upd v fun _ h=>h.elim) (C (g.tr f)) hi (fun y h=>by cases h) ⟨J,0,none⟩ fun T R I D=>?_
   refine P T R ⟨_,I,fun c hc=>?_⟩ ((g.tr f).tr D)
   rw[j]at e;by_cases s:c=ck x (13-(m+1)) p.1
   ·refine .inr (.inr ?_)
    have ea:part x (12-m) c (fG q [p])=fG q [p]:=Lz fun r H=>by
     rcases Pq H with rfl|rfl
     ·rw[s,j]
     ·rw[s,j,e]
    rw[ea];exact⟨by omega,by simp[upd],J,by rw[s];exact gk,TrieAt.upd0 D t6⟩
   ·refine .inl ⟨Pk fun r H=>?_,by simp[upd],fX s⟩
    rw[j]at s;rcases Pq H with rfl|rfl
    ·exact fun e=>s e.symm
    ·rw[←e];exact fun e=>s e.symm
  ·have e:ck x (13-(m+1)) p.1≠ck x (13-(m+1)) q.1:=fun h=>by rw[h]at e;simp at e
   refine⟨_,d b 3,_,u b 0,_,u b 1,_,d b 3,_,o b 0,_,o b 1,?_⟩;refine qX (C (g.tr b)) fun Z b5 F A=>?_
   have a:=b.tr A;refine⟨⟨o a 0,o a 1⟩,d a 3,⟨u a 0,u a 1⟩,d a 3,?_⟩;refine rD F (C (g.tr a)) hi (fun y h=>by cases h) p fun X J U v=>?_
   have f:=a.tr v;refine⟨⟨o f 0,o f 1⟩,d f 3,?_⟩;refine rD U (C (g.tr f)) hj (fun y h=>by simp[upd]) q fun T R I D=>?_
   refine P T R ⟨_,I,fun c hc=>?_⟩ ((g.tr f).tr D)
   have t:=Lx (x:=x) (lev:=12-m) (c:=c) (p:=q) (l:= [p]) (cj ..);rw[j]at e;by_cases E:c=ck x (12-m) p.1
   ·have w:ck x (12-m) q.1≠c:=fun h=>e (by omega)
    have O:part x (12-m) c [p]= [p]:=Lz fun r H=>by rw[al.1 H,E]
    rw[if_neg w,O]at t;exact .inr (.inl ⟨p,t,by simp[upd,j,E,e],by simp[upd]⟩)
   ·have O:part x (12-m) c [p]= []:=Pk fun r H=>by rw[al.1 H];exact fun h=>E h.symm
    rw[O]at t;by_cases w:c=ck x (12-m) q.1
    ·rw[if_pos w.symm]at t
     exact .inr (.inl ⟨q,t,by simp[upd,j,w],by simp[upd]⟩)
    ·rw[if_neg fun h=>w h.symm]at t
     exact .inl ⟨t,by simp[upd,j,w,E],by simp[upd]⟩
end Go.Proofs
namespace Go.Proofs
open Go.Lift
noncomputable instance memDec (p:Pr) (l:List Pr):Decidable (p∈l):=Classical.propDecidable _
theorem E5{l:List Pr}(a:bM l){k v w:ByteArray}(b:(k,v)∈l)(c:(k,w)∈l):v=w:=by
 induction l with
 |nil=>cases b
 |cons q l ih=>
  have a:=ay.1 a;rcases aq.1 b with d|b<;>rcases aq.1 c with e|c
  ·exact(Prod.mk.inj (d.trans e.symm)).2
  ·have:=a.1 _ c;rw[←d]at this;exact absurd this (bN _)
  ·have:=a.1 _ b;rw[←e]at this;exact absurd this (bN _)
  ·exact ih a.2 b c
theorem lw{x:Hs}{lev c:Nat}{l:List Pr}{p:Pr}:p∈part x lev c l↔p∈l∧ck x lev p.1=c:=by unfold part;rw[bE,decide_eq_true_iff]
theorem EP{x:Hs}{lev:Nat}{l:List Pr}{k:ByteArray}:cy (part x lev (ck x lev k) l) k=cy l k:=by
 unfold cy;rw[eJ,bT,bT];constructor
 ·rintro⟨p,a,e⟩;exact⟨p,(lw.1 a).1,e⟩
 ·rintro⟨p,a,e⟩;exact⟨p,lw.2 ⟨a,by rw[of_decide_eq_true e]⟩,e⟩
theorem jM{x:Hs}{lev c:Nat}{l:List Pr}(a:bM l):bM (part x lev c l):=a.sublist List.filter_sublist
theorem pR{x:Hs}{lev c:Nat}{l:List Pr}:(part x lev c l).length≤l.length:=bF ..
def SlotIs(W:Nat→Prop)(x:Hs)(h:ad)(m:Nat)(s:Slots)(c:Nat)(l:List Pr):Prop:=
 (l= []∧s.p c=none∧s.k c=none)∨(∃p,l= [p]∧s.p c=some p∧s.k c=none)∨(2≤l.length∧s.p c=none∧∃kb,s.k c=some (some ⟨kb,0,none⟩)∧TrieAt W x h m kb l)
theorem SlotIs.upd0{W:Nat→Prop}{x:Hs}{h h':ad}{m:Nat}{s:Slots}{c:Nat}{l:List Pr}(k:Upd No h h')(t:SlotIs W x h m s c l):SlotIs W x h' m s c l:=t.imp id fun o=>o.imp id fun⟨a,f,d,b,e⟩=>⟨a,f,d,b,TrieAt.upd0 k e⟩
theorem LV(p:Pr):∀{l:List Pr},l.length≤(fG p l).length
 | []=>aN _
 |q::l=>by
  rw[ft];split
  ·have:=LV p (l:=l);simp only[au];omega
  ·split<;>simp
theorem P5{W:Nat→Prop}{x:Hs}{h h':ad}{m b':Nat}{s s':Slots}{l:List Pr}{p:Pr}(b:bM l)(f:Upd No h h')(nd:NodeAt W h' b' s')(a:∀c,c<32→SlotIs W x h m s c (part x (12-m) c l))
  (i:∀c,c≠ck x (12-m) p.1→s'.p c=s.p c∧s'.k c=s.k c)(hi:SlotIs W x h' m s' (ck x (12-m) p.1) (fG p (part x (12-m) (ck x (12-m) p.1) l))):TrieAt W x h' (m+1) b' (fG p l):=by
 refine⟨s',nd,fun c hc=>?_⟩
 rw[Lx b];by_cases e:ck x (12-m) p.1=c
 ·rw[if_pos e];subst e;exact hi
 ·rw[if_neg e]
  have t:=SlotIs.upd0 f (a c hc);obtain⟨d,g⟩:=i c fun h=>e h.symm
  unfold SlotIs at t;rw[←d,←g]at t;exact t
theorem dI{a b:ByteArray}:(a.toList==b.toList)=decide (a=b):=by
 rw[eJ,beq_iff_eq,decide_eq_true_iff,yd]
theorem We{W:Nat→Prop}{x:Hs}:∀(m:Nat),m≤13→∀{b:Nat} {l:List Pr} (p:Pr) {h:ad},TrieAt W x h m b l→(∀y,W y→y<h.size)→bM l→l.length≤1000000→∀{K:(Option Addr)×Bool×Bool→ad→Prop},
  (∀h' b' ch,Upd No h h'→TrieAt W x h' m b' (fG p l)→(ch=false→b'=b)→ch= !decide (p∈l)→K (some ⟨b',0,none⟩, !cy l p.1,ch) h')→
  JQ 114 [Rx x p.1,gS b,.agg #[.string p.1,.string p.2],.int .i64 ((13-m:Nat):Int)] K h:=by
 intro m;induction m with
 |zero=>
  intro _ b l p h t hW S hn K G;have V:∀{h'},Upd No h h'→∀y,W y→y<h'.size:=fun k y hy=>az (hW y hy) k.size
  refine uX (x.k0,x.k1,x.mask,none,p.1,iS x p.1) (some ⟨b,0,none⟩) p ((13-0:Nat):Int) ?_;dsimp only[pw,aj,bi,nv,aD,oW,fP,yg,mY,yS,JA,vr,jK,EK,mF,D0,mc,fY,p8,AU];have k1:=Upd.hnew No h [.int .u64 x.k0,.int .u64 x.k1,.int .u64 x.mask,.pointer none,.string p.1,.int .u64 (iS x p.1)] 198;have b1:=bU h [.int .u64 x.k0,.int .u64 x.k1,.int .u64 x.mask,.pointer none,.string p.1,.int .u64 (iS x p.1)] 198
  refine bL ?_;simp only[cz h];generalize hnew h [.int .u64 x.k0,.int .u64 x.k1,.int .u64 x.mask,.pointer none,.string p.1,.int .u64 (iS x p.1)] 198=B at k1 b1;have Y:=Upd.hnew No B [.string p.1,.string p.2] 33;have b2:=bU B [.string p.1,.string p.2] 33;refine bL ?_;simp only[cz B];generalize hnew B [.string p.1,.string p.2] 33=d at Y b2;have u:∀{h':ad},Upd No d h'→∀i,aK h' (adr ⟨h.size,0,none⟩ i)=(#[.int .u64 x.k0,.int .u64 x.k1,.int .u64 x.mask,.pointer none,.string p.1,.int .u64 (iS x p.1)]:Array Value)[i]?:=fun k i=>by
   rw[ce,bd (k.get0 (Y.get0 b1)),aO]
  have A:∀{h':ad},Upd No d h'→∀i,aK h' (adr ⟨B.size,0,none⟩ i)=(#[.string p.1,.string p.2]:Array Value)[i]?:=fun k i=>by rw[ce,bd (k.get0 b2),aO]
  have r:=Upd.refl No d;have f:=k1.tr Y;have bk:BuckAt W d b l:=BuckAt.upd t f fun _ h=>h.elim
  obtain⟨sp,sk,ow,hb,_⟩:=bk.ex;refine ie hb (aw.2 ⟨_,A r 0,VN bk S (by omega) p.1 fun I v H hv=>?_⟩)
  have put:∀(U:p∉l) {h4:ad},Upd No d h4→eT 171 [gS b,.pointer none,.agg #[.string p.1,.string p.2]] (fun(e15:Option Addr) h16=>K (e15, !cy l p.1,true) h16) h4:=fun U h4 o=>
   Ke (bk.upd o fun _ h=>h.elim) (V (f.tr o)) S (by omega) p fun h5 b5 bk5 Z=>by
    rw[Ep p S]at bk5;exact G h5 b5 true ((f.tr o).tr Z) bk5 (fun h=>by cases h) (by rw[decide_eq_false U];rfl)
  refine Join.intro (fun t' h'=>t'=decide (p∈l)∧Upd No d h') (fun R hR=>?_) ?_
  ·cases ht:cy l p.1 with
   |false=>
    refine ag.2 (hR _ _ ⟨?_,H⟩);refine(decide_eq_false fun hm=>?_).symm
    have:cy l p.1=true:=bT.2 ⟨p,hm,decide_eq_true rfl⟩;rw[ht]at this;cases this
   |true=>
    have hv:=hv ht;refine aw.2 ⟨_,A H 1,hR _ _ ⟨?_,H⟩⟩;rw[dI,decide_eq_decide];constructor
    ·intro e
     have e:v=p.2:=e;rw[e]at hv;exact hv
    ·intro hm
     exact E5 S hv (show(p.1,p.2)∈l from hm)
  ·rintro t' h4 ⟨rfl,o⟩
   by_cases hm:p∈l
   ·rw[decide_eq_true hm]
    refine aw.2 ?_;have ht:cy l p.1=true:=bT.2 ⟨p,hm,decide_eq_true rfl⟩;have:=G h4 b false (f.tr o) (by rw[Eo S hm];exact bk.upd o fun _ h=>h.elim) (fun _=>rfl) (by rw[decide_eq_true hm];rfl)
    rw[ht]at this;exact this
   ·rw[decide_eq_false hm]
    refine ag.2 ⟨none,u o 3,_,A o 0,_,A o 1,put hm o⟩
 |succ m ih=>
  intro hm b l p h t hW S hn K G;have V:∀{h'},Upd No h h'→∀y,W y→y<h'.size:=fun k y hy=>az (hW y hy) k.size
  have hl:13-(m+1)<13:=by omega
  have hlev:13-(m+1)=12-m:=by omega
  refine uX (x.k0,x.k1,x.mask,none,p.1,iS x p.1) (some ⟨b,0,none⟩) p ((13-(m+1):Nat):Int) ?_;dsimp only[pw,aj,bi,nv,aD,oW,fP,yg,mY,yS,JA,vr,jK,EK,mF,D0,mc,fY,p8,AU];have k1:=Upd.hnew No h [.int .u64 x.k0,.int .u64 x.k1,.int .u64 x.mask,.pointer none,.string p.1,.int .u64 (iS x p.1)] 198;have b1:=bU h [.int .u64 x.k0,.int .u64 x.k1,.int .u64 x.mask,.pointer none,.string p.1,.int .u64 (iS x p.1)] 198
  refine bL ?_;simp only[cz h];generalize hnew h [.int .u64 x.k0,.int .u64 x.k1,.int .u64 x.mask,.pointer none,.string p.1,.int .u64 (iS x p.1)] 198=B at k1 b1;have Y:=Upd.hnew No B [.string p.1,.string p.2] 33;have b2:=bU B [.string p.1,.string p.2] 33;refine bL ?_;simp only[cz B];generalize hnew B [.string p.1,.string p.2] 33=d at Y b2;have u:∀{h':ad},Upd No d h'→∀i,aK h' (adr ⟨h.size,0,none⟩ i)=(#[.int .u64 x.k0,.int .u64 x.k1,.int .u64 x.mask,.pointer none,.string p.1,.int .u64 (iS x p.1)]:Array Value)[i]?:=fun k i=>by
   rw[ce,bd (k.get0 (Y.get0 b1)),aO]
  have A:∀{h':ad},Upd No d h'→∀i,aK h' (adr ⟨B.size,0,none⟩ i)=(#[.string p.1,.string p.2]:Array Value)[i]?:=fun k i=>by rw[ce,bd (k.get0 b2),aO]
  have r:=Upd.refl No d;have f:=k1.tr Y;obtain⟨s,X,hs0⟩:=TrieAt.upd0 f t;have hs:∀c,c<32→SlotIs W x d m s c (part x (12-m) c l):=hs0;have tt:∀{h':ad},Upd No d h'→TrieAt W x h' (m+1) b l:=fun k=>TrieAt.upd0 (f.tr k) t
  obtain⟨d0,n0,sp0,sk0,ow0,hb0,_⟩:=X.ex;refine ie hb0 (ag.2 ⟨_,u r 5,Tu hl ?_⟩);rw[hlev];have hi:=yA x (12-m) p.1;have L:=hs _ hi;have hrp:=jM (x:=x) (lev:=12-m) (c:=ck x (12-m) p.1) S;have hnp:(part x (12-m) (ck x (12-m) p.1) l).length≤1000000:=aW pR hn;have Q:p∈part x (12-m) (ck x (12-m) p.1) l↔p∈l:=by rw[lw];exact⟨fun h=>h.1,fun h=>⟨h,rfl⟩⟩
  have O:=EP (x:=x) (lev:=12-m) (l:=l) (k:=p.1);have j:=fun{h':ad} {b':Nat} {s':Slots}=>P5 (W:=W) (x:=x) (h:=d) (h':=h') (m:=m) (b':=b') (s:=s) (s':=s') (l:=l) (p:=p) S
  generalize hc:ck x (12-m) p.1=c at hi L hrp hnp Q O j;generalize hlp:part x (12-m) c l=lc at L hrp hnp Q O j;refine Aq X hi fun I H=>?_
  have k4:=Upd.hnew No I [.string (⟨#[]⟩:ByteArray),.string (⟨#[]⟩:ByteArray)] 33;have b4:=bU I [.string (⟨#[]⟩:ByteArray),.string (⟨#[]⟩:ByteArray)] 33;refine bL ?_;simp only[cz I];generalize hnew I [.string (⟨#[]⟩:ByteArray),.string (⟨#[]⟩:ByteArray)] 33=h4 at k4 b4;have b4':h4[I.size]? =some (.cells #[.string OM.1,.string OM.2] 33 (0,0)):=b4;refine E9 (p:=SU (s.p c)) b4' fun h5 b5 Z=>?_
  have a:Upd No d h5:=(H.tr k4).trans Z fun y hy=>.inr (by have hy:y=I.size:=hy;have:=H.size;omega)
  have w5:∀{h':ad},Upd No h5 h'→∀i,aK h' (adr ⟨I.size,0,none⟩ i)=(#[.string (SU (s.p c)).1,.string (SU (s.p c)).2]:Array Value)[i]?:=fun k i=>by rw[ce,bd (k.get0 b5),aO]
  have r5:=Upd.refl No h5;have P:=X.upd a fun _ h=>h.elim
  cases hsp:s.p c with
  |some y=>
   rw[hsp]at w5;obtain⟨C,hk0⟩:lc= [y]∧s.k c=none:=by
    rcases L with⟨_,d,_⟩|⟨q,B,d,I⟩|⟨_,d,_⟩
    ·rw[hsp]at d;cases d
    ·rw[hsp]at d;cases d;exact⟨B,I⟩
    ·rw[hsp]at d;cases d
   refine aw.2 ⟨y.1,w5 r5 0,y.2,w5 r5 1,p.1,A a 0,p.2,A a 1,?_⟩;rw[dI,dI];have hyl:y∈l:=(lw.1 (show y∈part x (12-m) c l by rw[hlp,C];exact al.2 rfl)).1
   by_cases J:y.1=p.1
   ·have ht:cy l p.1=true:=bT.2 ⟨y,hyl,decide_eq_true J⟩
    rw[ht]at G;by_cases e2:y.2=p.2
    ·rw[decide_eq_true J,decide_eq_true e2]
     have hyp:y=p:=sG J e2;have w:p∈l:=hyp▸hyl;refine aw.2 ?_;exact G h5 b false (f.tr a) (by rw[Eo S w];exact tt a) (fun _=>rfl) (by rw[decide_eq_true w];rfl)
    ·rw[decide_eq_true J,decide_eq_false e2]
     refine ag.2 ⟨y.1,w5 r5 0,p.1,A a 0,?_⟩;rw[dI,decide_eq_true J];refine aw.2 ⟨none,u a 3,p.1,A a 0,p.2,A a 1,?_⟩;refine rD P (V (f.tr a)) hi (fun _ _=>hk0) p fun h6 T nd6 g=>?_
     have N:p∉l:=fun hm=>by
      have:=Q.2 hm;rw[C]at this;exact e2 (by rw[al.1 this])
     refine G h6 T true ((f.tr a).tr g) (j (a.tr g) nd6 hs (fun c' n=>⟨fX n,fX n⟩) ?_) (fun h=>by cases h) (by rw[decide_eq_false N];rfl)
     refine .inr (.inl ⟨p,?_,gk,gk⟩);rw[C,ft,if_neg (by rw[J];exact bN _),if_pos J]
   ·rw[decide_eq_false J]
    refine ag.2 ⟨y.1,w5 r5 0,p.1,A a 0,?_⟩;rw[dI,decide_eq_false J];refine ag.2 ⟨none,u a 3,_,u a 0,_,u a 1,_,u a 2,_,u a 3,_,u a 4,_,u a 5,y.1,w5 r5 0,y.2,w5 r5 1,p.1,A a 0,p.2,A a 1,?_⟩;have ew:ac .i64 (((12-m:Nat):Int)+1)=((13-m:Nat):Int):=by rw[df (by omega)];omega
    rw[ew];refine Vo m y p (by omega) J (V (f.tr a)) fun h6 T t6 g=>⟨u (a.tr g) 3,?_⟩
    refine xM (P.upd g fun _ h=>h.elim) (V ((f.tr a).tr g)) hi (fun z hz=>by rw[hk0]at hz;cases hz) ⟨T,0,none⟩ fun h7 b7 nd7 E=>?_
    have ht:cy l p.1=false:=by
     rw[←O,C];unfold cy;rw[pL,decide_eq_false J];rfl
    have N:p∉l:=fun hm=>by
     have:cy l p.1=true:=bT.2 ⟨p,hm,decide_eq_true rfl⟩;rw[ht]at this;cases this
    rw[ht]at G;refine G h7 b7 true (((f.tr a).tr g).tr E) (j ((a.tr g).tr E) nd7 hs (fun c' n=>⟨fX n,fX n⟩) ?_) (fun h=>by cases h) (by rw[decide_eq_false N];rfl)
    rw[C];exact .inr (.inr ⟨by rw[OX J];omega,gk,T,gk,TrieAt.upd0 E t6⟩)
  |none=>
   refine ag.2 (vF P hi ?_);cases hsk:s.k c with
   |none=>
    have hlc:lc= []:=by
     rcases L with⟨B,_⟩|⟨q,_,d,_⟩|⟨_,_,kb,d,_⟩
     ·exact B
     ·rw[hsp]at d;cases d
     ·rw[hsk]at d;cases d
    refine aw.2 ⟨none,u a 3,p.1,A a 0,p.2,A a 1,?_⟩;refine rD P (V (f.tr a)) hi (fun _ _=>hsk) p fun h6 T nd6 g=>?_
    have ht:cy l p.1=false:=by rw[←O,hlc];rfl
    have N:p∉l:=fun hm=>by
     have:cy l p.1=true:=bT.2 ⟨p,hm,decide_eq_true rfl⟩;rw[ht]at this;cases this
    rw[ht]at G;refine G h6 T true ((f.tr a).tr g) (j (a.tr g) nd6 hs (fun c' n=>⟨fX n,fX n⟩) ?_) (fun h=>by cases h) (by rw[decide_eq_false N];rfl)
    rw[hlc];exact .inr (.inl ⟨p,rfl,gk,gk⟩)
   |some kp=>
    obtain⟨h2l,kb,rfl,tk⟩:2≤lc.length∧∃kb,kp=some ⟨kb,0,none⟩∧TrieAt W x d m kb lc:=by
     rcases L with⟨_,_,d⟩|⟨q,_,d,_⟩|⟨B,_,kb,d,I⟩
     ·rw[hsk]at d;cases d
     ·rw[hsp]at d;cases d
     ·rw[hsk]at d;cases d;exact⟨B,kb,rfl,I⟩
    refine ag.2 ⟨_,u a 0,_,u a 1,_,u a 2,_,u a 3,_,u a 4,_,u a 5,p.1,A a 0,p.2,A a 1,?_⟩;have ew:ac .i64 (((12-m:Nat):Int)+1)=((13-m:Nat):Int):=by rw[df (by omega)];omega
    rw[ew];refine ih (by omega) p (TrieAt.upd0 a tk) (V (f.tr a)) hrp hnp fun h6 T ch g t6 hsame F=>?_
    have D:=a.tr g;by_cases w:p∈l
    ·have F:ch=false:=by rw[F,decide_eq_true (Q.2 w)];rfl
     have ht:cy l p.1=true:=bT.2 ⟨p,w,decide_eq_true rfl⟩;rw[ht]at G;rw[F];refine aw.2 ?_;exact G h6 b false (f.tr D) (by rw[Eo S w];exact tt D) (fun _=>rfl) (by rw[decide_eq_true w];rfl)
    ·have F:ch=true:=by rw[F,decide_eq_false fun h=>w (Q.1 h)];rfl
     rw[F];refine ag.2 ⟨none,u D 3,?_⟩;refine xM (P.upd g fun _ h=>h.elim) (V ((f.tr a).tr g)) hi (fun _ _=>hsp) ⟨T,0,none⟩ fun h7 b7 nd7 E=>?_
     rw[O];refine G h7 b7 true ((f.tr D).tr E) (j (D.tr E) nd7 hs (fun c' n=>⟨fX n,fX n⟩) ?_) (fun h=>by cases h) (by rw[decide_eq_false w];rfl)
     exact .inr (.inr ⟨aW h2l (LV p),gk,T,gk,TrieAt.upd0 E t6⟩)
end Go.Proofs
namespace Go.Proofs
open Go.Lift
theorem KU{W:Nat→Prop}{x:Hs}{h:ad}{m b:Nat}(nd:NodeAt W h b ⟨fun _=>none,fun _=>none⟩):TrieAt W x h (m+1) b []:=⟨_,nd,fun _ _=>.inl ⟨rfl,rfl,rfl⟩⟩
def RootAt(W:Nat→Prop)(x:Hs)(h:ad)(r:Option Addr)(l:List Pr):Prop:=(r=none∧l= [])∨∃b,r=some ⟨b,0,none⟩∧TrieAt W x h 13 b l
theorem RootAt.upd0{W:Nat→Prop}{x:Hs}{h h':ad}{r:Option Addr}{l:List Pr}(k:Upd No h h')(t:RootAt W x h r l):RootAt W x h' r l:=t.imp id fun⟨b,e,t⟩=>⟨b,e,TrieAt.upd0 k t⟩
theorem Jk{W:Nat→Prop}{x:Hs}{h:ad}{r:Option Addr}{l:List Pr}(t:RootAt W x h r l)(c:∀y,W y→y<h.size){K:Option Addr→ad→Prop}(a:∀h' b,TrieAt W x h' 13 b l→Upd No h h'→(r=some ⟨b,0,none⟩∨r=none)→K (some ⟨b,0,none⟩) h'):eT 115 [.pointer r] K h:=by
 refine cW (Bo r) .nil Tryz.func115 Tryz.call115 ?_;unfold Bo;rcases t with⟨rfl,rfl⟩|⟨b,rfl,t⟩
 ·refine aw.2 (yD ?_)
  unfold uq;exact qX c fun h' b nd d=>a h' b (KU nd) d (.inr rfl)
 ·exact ag.2 (a h b t (Upd.refl _ _) (.inl rfl))
theorem cn{h:ad}{b:Nat}{t:TypeId}{c vs:List Value}(hb:h[b]? =some (.cells c.toArray t (0,0))) (d:vs.length=c.length) {k:ad→Prop}
  (a:∀h',h'[b]? =some (.cells vs.toArray t (0,0))→Upd (· =b) h h'→k h'):pk h (some ⟨b,0,none⟩) 0 vs∧At (eN h ⟨b,0,none⟩ 0 vs) k:=by
 have e:=gC vs h 0 0 c hb (by omega);refine⟨.inr ⟨_,rfl,fun j f=>by rw[ce];exact eC hb (by rw[List.size_toArray];omega)⟩,bL ?_⟩
 rw[e];refine a _ ?_ (Upd.set h _ rfl);rw[dE hb];congr 3
 simp[d]
set_option maxRecDepth 4000 in
theorem Mh{W:Nat→Prop}{x:Hs}{h:ad}{r:Option Addr}{l:List Pr}(t:RootAt W x h r l)(O:∀y,W y→y<h.size)(S:bM l)(T:l.length≤1000000)(p:Pr){K:Option Addr×Bool→ad→Prop}
  (X:∀h' b',Upd No h h'→TrieAt W x h' 13 b' (fG p l)→(p∈l→r=some ⟨b',0,none⟩∨r=none)→K (some ⟨b',0,none⟩, !cy l p.1) h'):
  rP 64 [.agg #[.int .u64 x.k0,.int .u64 x.k1,.int .u64 x.mask],.pointer none,.pointer r,.agg #[.string p.1,.string p.2]] K h:=by
 refine cW (DB (x.k0,x.k1,x.mask) none r p) MH Tryz.func64 Tryz.call64 ?_;dsimp only[DB,aj,bi,dt,Ei,BG,aD,oW,VT,VY,yS,mF,mc,D0,fY,p8,yg];have k1:=Upd.hnew No h [.int .u64 x.k0,.int .u64 x.k1,.int .u64 x.mask] 26;have b1:=bU h [.int .u64 x.k0,.int .u64 x.k1,.int .u64 x.mask] 26;refine bL ?_;simp only[cz h];generalize hnew h [.int .u64 x.k0,.int .u64 x.k1,.int .u64 x.mask] 26=h1 at k1 b1
 have H:=Upd.hnew No h1 [.string p.1,.string p.2] 33;have b2:=bU h1 [.string p.1,.string p.2] 33;refine bL ?_;simp only[cz h1];generalize hnew h1 [.string p.1,.string p.2] 33=h2 at H b2;have e:∀{h':ad},Upd No h2 h'→∀i,aK h' (adr ⟨h.size,0,none⟩ i)=(#[.int .u64 x.k0,.int .u64 x.k1,.int .u64 x.mask]:Array Value)[i]?:=fun k i=>by
  rw[ce,bd (k.get0 (H.get0 b1)),aO]
 have o:∀{h':ad},Upd No h2 h'→∀i,aK h' (adr ⟨h1.size,0,none⟩ i)=(#[.string p.1,.string p.2]:Array Value)[i]?:=fun k i=>by rw[ce,bd (k.get0 b2),aO]
 have s:=Upd.refl No h2;have q:=k1.tr H;let D:List Value:= [.int .u64 0,.int .u64 0,.int .u64 0,.pointer none,.string (⟨#[]⟩:ByteArray),.int .u64 0]
 let B:List Value:= [.int .u64 x.k0,.int .u64 x.k1,.int .u64 x.mask,.pointer none,.string p.1,.int .u64 (iS x p.1)]
 have fin:∀{g:ad} {b:Nat},Upd No h2 g→g[b]? =some (.cells B.toArray 198 (0,0))→
   ∃v15:Int,aK g (adr ⟨b,0,none⟩ 0)=some (.int .u64 v15)∧
    ∃v16:Int,aK g (adr ⟨b,0,none⟩ 1)=some (.int .u64 v16)∧
    ∃v17:Int,aK g (adr ⟨b,0,none⟩ 2)=some (.int .u64 v17)∧
    ∃v18:Option Addr,aK g (adr ⟨b,0,none⟩ 3)=some (.pointer v18)∧
    ∃v19:ByteArray,aK g (adr ⟨b,0,none⟩ 4)=some (.string v19)∧
    ∃v20:Int,aK g (adr ⟨b,0,none⟩ 5)=some (.int .u64 v20)∧
    ∃v21:ByteArray,aK g (adr ⟨h1.size,0,none⟩ 0)=some (.string v21)∧
    ∃v22:ByteArray,aK g (adr ⟨h1.size,0,none⟩ 1)=some (.string v22)∧
    eT 115 [.pointer r] (fun(E:Option Addr) f=>
     ((aK f (adr ⟨h1.size,0,none⟩ 0)=some (.string v21)∧aK f (adr ⟨h1.size,0,none⟩ 1)=some (.string v22))∧
      ((aK f (adr ⟨b,0,none⟩ 0)=some (.int .u64 v15)∧aK f (adr ⟨b,0,none⟩ 1)=some (.int .u64 v16)∧aK f (adr ⟨b,0,none⟩ 2)=some (.int .u64 v17)∧aK f (adr ⟨b,0,none⟩ 3)=some (.pointer v18)∧aK f (adr ⟨b,0,none⟩ 4)=some (.string v19)∧aK f (adr ⟨b,0,none⟩ 5)=some (.int .u64 v20))∧
       JQ 114 [.agg #[.int .u64 v15,.int .u64 v16,.int .u64 v17,.pointer v18,.string v19,.int .u64 v20],.pointer E,.agg #[.string v21,.string v22],.int .i64 0] (fun(z:(Option Addr)×Bool×Bool) I=>
        K (z.1,z.2.1) I) f))) g:=fun{g b} d L=>by
  have m:∀{h':ad},Upd No g h'→∀i,aK h' (adr ⟨b,0,none⟩ i)=B.toArray[i]?:=fun k i=>by rw[ce,bd (k.get0 L),aO]
  have v:=Upd.refl No g;refine⟨_,m v 0,_,m v 1,_,m v 2,_,m v 3,_,m v 4,_,m v 5,p.1,o d 0,p.2,o d 1,?_⟩;refine Jk (t.upd0 (q.tr d)) (fun y A=>az (O y A) (q.tr d).size) fun Q J R c G=>?_
  have a:=d.tr c;refine⟨⟨o a 0,o a 1⟩,⟨m c 0,m c 1,m c 2,m c 3,m c 4,m c 5⟩,?_⟩;refine We 13 (ai _) p R (fun y A=>az (O y A) ((q.tr d).tr c).size) S T fun P C Z u U V F=>?_
  refine X P C ((q.tr a).tr u) U fun hm=>?_
  have hb:C=J:=V (by rw[F,decide_eq_true hm];rfl);rw[hb];exact G
 have own:∀{w g:ad} {b:Nat},h2.size≤b→Upd (· =b) w g→Upd No h2 w→Upd No h2 g:=fun hb Y k=>k.trans Y fun y A=>.inr (A▸hb)
 refine⟨_,e s 0,_,e s 1,_,e s 2,_,o s 0,_,e s 0,_,e s 1,_,e s 2,_,o s 0,?_,?_⟩
 ·refine AB fun w j=>⟨o j 0,⟨e j 0,e j 1,e j 2⟩,?_⟩
  have n:=Upd.hnew No w D 198;have N:=bU w D 198;have d:=j.tr n;refine bL ?_;simp only[cz w];refine⟨o d 0,⟨e d 0,e d 1,e d 2⟩,?_⟩;refine cn (vs:=B) N rfl fun Q J c=>fin (own j.size c d) J
 ·have n:=Upd.hnew No h2 D 198
  have N:=bU h2 D 198;refine bL ?_;simp only[cz h2];refine⟨o n 0,⟨e n 0,e n 1,e n 2⟩,o n 0,⟨e n 0,e n 1,e n 2⟩,?_⟩;refine AB fun Q c=>?_
  have a:=n.tr c;refine⟨o a 0,⟨e a 0,e a 1,e a 2⟩,?_⟩;exact cn (vs:=B) (c.get0 N) rfl fun P C u=>fin (own (ai _) u a) C
end Go.Proofs
namespace Go.Proofs
open Go.Lift
end Go.Proofs
namespace Go.Proofs
open Go Go.Lift
end Go.Proofs
namespace Go.Proofs
open Go Go.Lift
def Fit(l:List Pr):Prop:=∀p∈l,p.1.size≤10000∧p.2.size≤10000
end Go.Proofs
namespace Go.Proofs
open Go Go.Lift
end Go.Proofs
namespace Go.Proofs
open Go Go.Lift
def Jl(l:List Pr):Option Pr:=match l with| [p]=>some p|_=>none
def B0(l:List Pr):Option (List Pr):=if 2≤l.length then some l else none
def uE(x:Hs)(lev:Nat)(l:List Pr):List Pr:=fm (fun c=>Jl (part x lev c l)) 32
def w6(x:Hs)(lev:Nat)(l:List Pr):List (List Pr):=fm (fun c=>B0 (part x lev c l)) 32
theorem V8{W:Nat→Prop}{x:Hs}{h:ad}{m:Nat}{s:Slots}{c:Nat}{l:List Pr}(t:SlotIs W x h m s c l):s.p c=Jl l∧(s.k c).isSome=(B0 l).isSome:=by
 rcases t with⟨rfl,e,d⟩|⟨p,rfl,e,d⟩|⟨f,e,g,d,_⟩
 ·rw[e,d];exact⟨rfl,rfl⟩
 ·rw[e,d];exact⟨rfl,rfl⟩
 ·rw[e,d]
  refine⟨?_,by simp[B0,f]⟩
  match l,f with
  |a::b::l,_=>rfl
def KidsAt(W:Nat→Prop)(x:Hs)(h:ad)(m:Nat):List (Option Addr)→List (List Pr)→Prop
 | [],[]=>True
 |k::ks,l::ls=>(∃kb,k=some ⟨kb,0,none⟩∧TrieAt W x h m kb l)∧KidsAt W x h m ks ls
 |_,_=>False
theorem KidsAt.app{W:Nat→Prop}{x:Hs}{h:ad}{m:Nat}:∀{ks ks':List (Option Addr)} {ls ls':List (List Pr)},KidsAt W x h m ks ls→KidsAt W x h m ks' ls'→KidsAt W x h m (ks++ks') (ls++ls')
 | [],_,[],_,_,q=>q
 |_::_,_,_::_,_,q,q'=>⟨q.1,KidsAt.app q.2 q'⟩
 | [],_,_::_,_,q,_=>q.elim
 |_::_,_,[],_,q,_=>q.elim
theorem rg{β:Type}(g:Nat→Option β)(n:Nat):fm g (n+1)=fm g n++(g n).toList:=by
 unfold fm;rw[qC,List.filterMap_append];cases h:g n<;>simp[h]
theorem SJ{W:Nat→Prop}{x:Hs}{h:ad}{m lev:Nat}{s:Slots}{l:List Pr}:∀n,(∀c,c<n→SlotIs W x h m s c (part x lev c l))→KidsAt W x h m (fm s.k n) (fm (fun c=>B0 (part x lev c l)) n)
 |0,_=>trivial
 |n+1,hs=>by
  rw[rg,rg];refine KidsAt.app (SJ n fun c hc=>hs c (by omega)) ?_
  rcases hs n (by omega)with⟨a,_,b⟩|⟨p,a,_,b⟩|⟨a,_,e,b,d⟩
  ·rw[b,a];exact trivial
  ·rw[b,a];exact trivial
  ·rw[b]
   have:B0 (part x lev n l)=some (part x lev n l):=by unfold B0;rw[if_pos a]
   simp only[this];exact⟨⟨e,rfl,d⟩,trivial⟩
theorem O3{W:Nat→Prop}{x:Hs}{h:ad}{m lev:Nat}{s:Slots}{l:List Pr}(a:∀c,c<32→SlotIs W x h m s c (part x lev c l)):fm s.p 32=uE x lev l:=
 XM _ fun c hc=>(V8 (a c (List.mem_range.1 hc))).1
end Go.Proofs
namespace Go.Proofs
open Go Go.Lift
theorem xU(x:Hs)(lev:Nat)(l:List Pr):∀n,(((gc n).map fun c=>(part x lev c l).length).sum)=(l.filter fun p=>decide (ck x lev p.1<n)).length
 |0=>by
  have:(l.filter fun p=>decide (ck x lev p.1<0))= []:=hJ.2 fun p _=>by simp
  rw[this];rfl
 |n+1=>by
  rw[qC,cD,qA,xU x lev l n];simp only[bX,fk,List.sum_cons,List.sum_nil,gZ];unfold part;clear xU;induction l with
  |nil=>rfl
  |cons p l ih=>
   simp only[aR,decide_eq_true_iff];split<;>split<;>split<;>first|omega|(simp only[au];omega)
theorem Hz(x:Hs)(lev:Nat)(l:List Pr):(uE x lev l).length+(w6 x lev l).flatten.length≤l.length:=by
 have h:=xU x lev l 32;have d:(l.filter fun p=>decide (ck x lev p.1<32)).length≤l.length:=bF ..
 have:∀n,(fm (fun c=>Jl (part x lev c l)) n).length+(fm (fun c=>B0 (part x lev c l)) n).flatten.length≤((gc n).map fun c=>(part x lev c l).length).sum:=by
  intro n;induction n with
  |zero=>simp[fm]
  |succ n ih=>
   rw[rg,rg,qC,cD,qA];simp only[ae,List.flatten_append,bX,fk,List.sum_cons,List.sum_nil,gZ];generalize part x lev n l=q;have:(Jl q).toList.length+(B0 q).toList.flatten.length≤q.length:=by
    match q with
    | []=>simp[Jl,B0]
    | [a]=>simp[Jl,B0]
    |a::b::q=>simp[Jl,B0]
   omega
 have:=this 32;unfold uE w6;omega
end Go.Proofs
namespace Go.Proofs
open Go Go.Lift
theorem HR{x:Hs}{lev:Nat}{l:List Pr}{p:Pr}(h:p∈uE x lev l):p∈l:=by
 unfold uE fm at h;obtain⟨c,_,hc⟩:=jS.1 h;unfold Jl at hc;split at hc
 ·rename_i q hq
  cases hc;have:p∈part x lev c l:=by rw[hq];exact al.2 rfl
  exact(lw.1 this).1
 ·cases hc
theorem HS{x:Hs}{lev:Nat}{l L:List Pr}(h:L∈w6 x lev l):2≤L.length∧∃c,L=part x lev c l:=by
 unfold w6 fm at h;obtain⟨c,_,hc⟩:=jS.1 h;unfold B0 at hc;split at hc
 ·cases hc;exact⟨by assumption,c,rfl⟩
 ·cases hc
theorem Fit.part{x:Hs}{lev c:Nat}{l:List Pr}(h:Fit l):Fit (part x lev c l):=fun p a=>h p (lw.1 a).1
end Go.Proofs
namespace Go.Proofs
open Go Go.Lift
end Go.Proofs
namespace Go.Proofs
open Go Go.Lift
theorem PE{β γ:Type}{g:Nat→Option β}{a:Nat→Option γ}:∀n,(∀c,c<n→(g c).isSome=(a c).isSome)→(fm g n).length=(fm a n).length
 |0,_=>rfl
 |n+1,h=>by
  rw[rg,rg,ae,ae,PE n fun c hc=>h c (by omega)]
  have:=h n (by omega);cases h1:g n<;>cases h2:a n<;>rw[h1,h2]at this<;>first|rfl|cases this
theorem N2{β:Type}{g a:Nat→Option β}:∀n,(∀c,c<n→(g c).isSome=(a c).isSome)→fm g n=fm a n→∀c,c<n→g c=a c
 |0,_,_,c,hc=>absurd hc (Nat.not_lt_zero _)
 |n+1,h,e,c,hc=>by
  rw[rg,rg]at e;obtain⟨f,b⟩:=List.append_inj e (PE n fun c hc=>h c (by omega))
  rcases cr c n with d|d
  ·exact N2 n (fun c hc=>h c (by omega)) f c d
  ·have:c=n:=by omega
   subst this;cases h1:g c<;>cases h2:a c<;>rw[h1,h2]at b<;>simp at b⊢
   exact b
theorem uF:∀{l l':List Pr},bM l→bM l'→(∀p,p∈l↔p∈l')→l=l'
 | [],[],_,_,_=>rfl
 | [],q::l',_,_,h=>absurd ((h q).2 (ar ..)) (by simp)
 |p::l,[],_,_,h=>absurd ((h p).1 (ar ..)) (by simp)
 |p::l,q::l',c,a,h=>by
  have c:=ay.1 c;have a:=ay.1 a;have e:p=q:=by
   rcases aq.1 ((h p).1 (ar ..))with e|g
   ·exact e
   ·rcases aq.1 ((h q).2 (ar ..))with e|f
    ·exact e.symm
    ·exact absurd (dw (c.1 q f) (a.1 p g)) (bN _)
  subst e;rw[uF c.2 a.2 fun z=>?_]
  constructor
  ·intro d
   rcases aq.1 ((h z).1 (ax _ d))with e|b
   ·exact absurd (c.1 z d) (by rw[e];exact bN _)
   ·exact b
  ·intro d
   rcases aq.1 ((h z).2 (ax _ d))with e|b
   ·exact absurd (a.1 z d) (by rw[e];exact bN _)
   ·exact b
theorem Sn{x:Hs}{lev:Nat}{l l':List Pr}(g:bM l)(a:bM l')(h:∀c,c<32→part x lev c l=part x lev c l'):l=l':=by
 refine uF g a fun p=>?_
 have e:=h (ck x lev p.1) (yA ..);have b:=lw (x:=x) (lev:=lev) (c:=ck x lev p.1) (l:=l) (p:=p);have f:=lw (x:=x) (lev:=lev) (c:=ck x lev p.1) (l:=l') (p:=p);rw[e]at b;constructor
 ·intro d;exact(f.1 (b.2 ⟨d,rfl⟩)).1
 ·intro d;exact(b.1 (f.2 ⟨d,rfl⟩)).1
end Go.Proofs
namespace Go.Proofs
open Go Go.Lift
def CH(lab:ByteArray)(has:Bool)(val:ByteArray)(s:SliceV)(ow:Option Addr):Array Value:= #[.string lab,.bool has,.string val,sv s,.pointer ow]
theorem vw{w:Option ByteArray}{val:ByteArray}(h:val=w.getD ⟨#[]⟩):∀v,w=some v→val=v:=fun v e=>by rw[h,e];rfl
def RxF(W:Nat→Prop)(h:ad):Fo→List (Option Addr)→Prop
 | .nil,ks=>ks= []
 | .cons lab w kids rest,ks=>∃b sl val s ow ks1 ks',ks=some ⟨b,0,none⟩::ks'∧sl.data.toList=lab∧h[b]? =some (.cells (CH sl w.isSome val s ow) 264 (0,0))∧val=w.getD ⟨#[]⟩∧Sl ql 1 W h s ks1∧(s.len≤s.cap∧¬W b)∧RxF W h kids ks1∧RxF W h rest ks'
def RxN(W:Nat→Prop)(h:ad)(b:Nat)(sl:ByteArray)(w:Option ByteArray)(F:Fo):Prop:=∃val s ow ks,h[b]? =some (.cells (CH sl w.isSome val s ow) 264 (0,0))∧val=w.getD ⟨#[]⟩∧Sl ql 1 W h s ks∧(s.len≤s.cap∧¬W b)∧RxF W h F ks
def Kid(W:Nat→Prop)(h:ad)(k:Option Addr)(n:Bn):Prop:=∃b sl,k=some ⟨b,0,none⟩∧sl.data.toList=n.1∧RxN W h b sl n.2.1 n.2.2
def RxL(W:Nat→Prop)(h:ad)(ks:List (Option Addr))(L:List Bn):Prop:=ks.length=L.length∧∀p∈ks.zip L,Kid W h p.1 p.2
theorem kK{W:Nat→Prop}{h:ad}:∀{F:Fo} {ks:List (Option Addr)},RxF W h F ks↔RxL W h ks F.toL
 | .nil,ks=>by
  unfold RxF RxL;simp[Fo.toL]
 | .cons lab w kids rest,ks=>by
  unfold RxF RxL;rw[Fo.toL_cons];constructor
  ·rintro⟨b,sl,val,s,ow,c,d,rfl,g,m,i,f,j,o,t⟩
   obtain⟨q,v⟩:=kK.1 t;refine⟨by simp[q],fun p a=>?_⟩
   rw[List.zip_cons_cons]at a;rcases aq.1 a with rfl|a
   ·exact⟨b,sl,rfl,g,val,s,ow,c,m,i,f,j,o⟩
   ·exact v p a
  ·cases ks with
   |nil=>rintro⟨e,_⟩;simp at e
   |cons k d=>
    rintro⟨e,a⟩;rw[List.zip_cons_cons]at a;obtain⟨b,sl,u,g,val,s,ow,c,m,i,f,j,o⟩:=a _ (ar ..);refine⟨b,sl,val,s,ow,c,d,by rw[←u],g,m,i,f,j,o,kK.2 ⟨by simpa using e,fun p n=>a p (ax _ n)⟩⟩
theorem RxF.upd0{W:Nat→Prop}{h h':ad}(k:Upd No h h'):∀{F:Fo} {ks:List (Option Addr)},RxF W h F ks→RxF W h' F ks
 | .nil,_,r=>r
 | .cons _ _ _ _,_,⟨b,sl,val,s,ow,ks1,ks',e0,e1,e2,e3,e4,e5,e6,e7⟩=>⟨b,sl,val,s,ow,ks1,ks',e0,e1,k.get0 e2,e3,e4.upd k fun _ h=>h.elim,e5,RxF.upd0 k e6,RxF.upd0 k e7⟩
theorem RxN.upd0{W:Nat→Prop}{h h':ad}(k:Upd No h h'){b:Nat}{sl:ByteArray}{w:Option ByteArray}{F:Fo}:RxN W h b sl w F→RxN W h' b sl w F
 |⟨val,s,ow,ks,e2,e3,e4,e5,e6⟩=>⟨val,s,ow,ks,k.get0 e2,e3,e4.upd k fun _ h=>h.elim,e5,RxF.upd0 k e6⟩
theorem Kid.upd0{W:Nat→Prop}{h h':ad}(k:Upd No h h'){a:Option Addr}{n:Bn}:Kid W h a n→Kid W h' a n
 |⟨b,sl,e1,e2,e3⟩=>⟨b,sl,e1,e2,e3.upd0 k⟩
theorem RxF.less{W W':Nat→Prop}{h:ad}(hm:∀b,W' b→W b∨h.size≤b):∀{F:Fo} {ks:List (Option Addr)},RxF W h F ks→RxF W' h F ks
 | .nil,_,r=>r
 | .cons _ _ _ _,_,⟨b,sl,val,s,ow,ks1,ks',e0,e1,e2,e3,e4,e5,e6,e7⟩=>⟨b,sl,val,s,ow,ks1,ks',e0,e1,e2,e3,e4.less hm,⟨e5.1,fun hx=>(hm _ hx).elim e5.2 fun h=>by have:=bw e2;omega⟩,RxF.less hm e6,RxF.less hm e7⟩
theorem RxN.less{W W':Nat→Prop}{h:ad}(hm:∀b,W' b→W b∨h.size≤b){b:Nat}{sl:ByteArray}{w:Option ByteArray}{F:Fo}:RxN W h b sl w F→RxN W' h b sl w F
 |⟨val,s,ow,ks,e2,e3,e4,e5,e6⟩=>⟨val,s,ow,ks,e2,e3,e4.less hm,⟨e5.1,fun hx=>(hm _ hx).elim e5.2 fun h=>by have:=bw e2;omega⟩,RxF.less hm e6⟩
theorem RxF.updM{W M:Nat→Prop}{h h':ad}(k:Upd M h h')(hm:∀b,M b→W b∨h.size≤b):∀{F:Fo} {ks:List (Option Addr)},RxF W h F ks→RxF W h' F ks
 | .nil,_,r=>r
 | .cons _ _ _ _,_,⟨b,sl,val,s,ow,ks1,ks',e0,e1,e2,e3,e4,e5,e6,e7⟩=>⟨b,sl,val,s,ow,ks1,ks',e0,e1,k.get e2 (fun hx=>(hm _ hx).elim e5.2 fun h=>by have:=bw e2;omega),e3,e4.upd k hm,e5,RxF.updM k hm e6,RxF.updM k hm e7⟩
theorem RxN.updM{W M:Nat→Prop}{h h':ad}(k:Upd M h h')(hm:∀b,M b→W b∨h.size≤b){b:Nat}{sl:ByteArray}{w:Option ByteArray}{F:Fo}:RxN W h b sl w F→RxN W h' b sl w F
 |⟨val,s,ow,ks,e2,e3,e4,e5,e6⟩=>⟨val,s,ow,ks,k.get e2 (fun hx=>(hm _ hx).elim e5.2 fun h=>by have:=bw e2;omega),e3,e4.upd k hm,e5,RxF.updM k hm e6⟩
theorem RxL.upd0{W:Nat→Prop}{h h':ad}(k:Upd No h h'){ks:List (Option Addr)}{L:List Bn}(r:RxL W h ks L):RxL W h' ks L:=⟨r.1,fun p a=>(r.2 p a).upd0 k⟩
theorem RxL.app{W:Nat→Prop}{h:ad}{ks b:List (Option Addr)}{L L':List Bn}(r:RxL W h ks L)(c:RxL W h b L'):RxL W h (ks++b) (L++L'):=by
 refine⟨by rw[ae,ae,r.1,c.1],fun p a=>?_⟩
 rw[List.zip_append r.1]at a;rcases List.mem_append.1 a with a|a
 ·exact r.2 p a
 ·exact c.2 p a
theorem RxL.one{W:Nat→Prop}{h:ad}{k:Option Addr}{n:Bn}(c:Kid W h k n):RxL W h [k] [n]:=⟨rfl,fun p a=>by rw[List.zip_cons_cons,List.zip_nil_left]at a;rw[al.1 a];exact c⟩
theorem RxL.take{W:Nat→Prop}{h:ad}{ks:List (Option Addr)}{L:List Bn}(r:RxL W h ks L)(i:Nat):RxL W h (ks.take i) (L.take i):=by
 refine⟨by rw[aQ,aQ,r.1],fun p a=>r.2 p ?_⟩
 have:(ks.take i).zip (L.take i)=(ks.zip L).take i:=by rw[mB,mB,List.take_zipWith]
 rw[this]at a;exact List.mem_of_mem_take a
theorem RxL.drop{W:Nat→Prop}{h:ad}{ks:List (Option Addr)}{L:List Bn}(r:RxL W h ks L)(i:Nat):RxL W h (ks.drop i) (L.drop i):=by
 refine⟨by rw[aX,aX,r.1],fun p a=>r.2 p ?_⟩
 have:(ks.drop i).zip (L.drop i)=(ks.zip L).drop i:=by rw[mB,mB,List.drop_zipWith]
 rw[this]at a;exact List.mem_of_mem_drop a
theorem RxL.ins{W:Nat→Prop}{h:ad}{ks:List (Option Addr)}{L:List Bn}(r:RxL W h ks L)(i:Nat){k:Option Addr}{n:Bn}(c:Kid W h k n):RxL W h (ks.take i++k::ks.drop i) (L.take i++n::L.drop i):=by
 have:=(r.take i).app ((RxL.one c).app (r.drop i));exact this
theorem RxL.set{W:Nat→Prop}{h:ad}{ks:List (Option Addr)}{L:List Bn}(r:RxL W h ks L){i:Nat}(hi:i<L.length){k:Option Addr}{n:Bn}(c:Kid W h k n):RxL W h (ks.set i k) (L.set i n):=by
 have:=(r.take i).app ((RxL.one c).app (r.drop (i+1)));rw[cY,cY,if_pos (by rw[r.1];exact hi),if_pos hi];exact this
theorem RxL.at{W:Nat→Prop}{h:ad}{ks:List (Option Addr)}{L:List Bn}(r:RxL W h ks L){i:Nat}(hi:i<L.length):∃b sl,ks[i]? =some (some ⟨b,0,none⟩)∧sl.data.toList=L[i].1∧RxN W h b sl L[i].2.1 L[i].2.2:=by
 have c:i<ks.length:=by rw[r.1];exact hi
 have e:i<(ks.zip L).length:=by rw[List.length_zip];omega
 have:=r.2 _ (aH e);rw[List.getElem_zip]at this;obtain⟨b,sl,a,d,f⟩:=this;exact⟨b,sl,by rw[af c];exact congrArg some a,d,f⟩
theorem HF:∀{L:List Bn} {c:Nat},L.Pairwise (fun m n=>hd m.1<hd n.1)→(∀n∈L,c≤hd n.1)→L= []∨c+L.length≤256
 | [],_,_,_=>.inl rfl
 |n::L,c,a,hc=>by
  have a:=ay.1 a;have b:=hc n (ar ..);have d:=VO n.1;rcases HF (c:=hd n.1+1) a.2 fun m hm=>a.1 m hm with e|e
  ·rw[e];right;simp only[List.length_singleton];omega
  ·right;rw[au];omega
theorem pI{F:Fo}(h:gA F):F.toL.length≤256:=by
 rcases HF (c:=0) (dA.1 h).1 fun _ _=>aN _ with e|e
 ·rw[e];simp
 ·omega
theorem eK{h:ad}{b i:Nat}{c:Array Value}(hb:h[b]? =some (.cells c 264 (0,0))):aK h (adr ⟨b,0,none⟩ i)=c[i]?:=by rw[ce,aO];exact bd hb
theorem T8{h:ad}{b i:Nat}{c:Array Value}(hb:h[b]? =some (.cells c 264 (0,0))) (hi:i<c.size):Wr h (adr ⟨b,0,none⟩ i):=by rw[ce,aO];exact eC hb hi
theorem GW{h:ad}{b i:Nat}{c c':Array Value}{v:Value}{k:ad→Prop}(hb:h[b]? =some (.cells c 264 (0,0))) (e:c.setIfInBounds i v=c') (d:∀h',h'[b]? =some (.cells c' 264 (0,0))→Upd (· =b) h h'→k h'):At (hset h (adr ⟨b,0,none⟩ i) v) k:=by
 rw[ce,aO];exact zA hb fun h' a f=>d h' (e▸a) f
theorem SX(s:ByteArray)(i:Nat):s[i]? =s.data.toList[i]?:=by
 rw[Array.getElem?_toList];by_cases h:i<s.size
 ·rw[getElem?_pos s i h,getElem?_pos s.data i h];rfl
 ·rw[getElem?_neg s i h,getElem?_neg s.data i h]
theorem JP{s:ByteArray}(a:s.data.toList≠[]):∃c:UInt8,s[0]? =some c∧c.toNat=hd s.data.toList:=by
 rw[SX];match s.data.toList,a with
 |c::l,_=>exact⟨c,rfl,rfl⟩
theorem BP{W:Nat→Prop}{h:ad}{b:Nat}{sl:ByteArray}{w:Option ByteArray}{F:Fo}(r:RxN W h b sl w F)(hc:gA F){c:Nat}(hc8:c<256){K:Int×Bool→ad→Prop}
  (G:∀i ok,i≤F.toL.length→(∀j (y:j<F.toL.length),j<i→hd F.toL[j].1<c)→(∀j (y:j<F.toL.length),i≤j→c≤hd F.toL[j].1)→(ok=true↔∃hi:i<F.toL.length,hd F.toL[i].1=c)→K ((i:Int),ok) h):xh 163 [gS b,.int .u8 c] K h:=by
 refine A0 _ c ?_;dsimp only[tM,pn,cg,cH];obtain⟨val,s,ow,ks,hb,_,hs,V,hF⟩:=r;refine⟨_,rfl,s,eK (i:=3) hb,?_⟩;have Q:=kK.1 hF;have e:=dA.1 hc;have hn:=pI hc;have p:=hs.len;rw[Q.1]at p;generalize hLe:F.toL=L at Q e hn p G;refine fZ s c _ ?_;dsimp only[dx,wI,GR,Kr,zD,cB,jA,fQ]
 have E:∀{i:Nat} (hi:i<L.length) {K:Int→ad→Prop},K ((hd L[i].1:Int)-(c:Int)) h→∃a,s.a=some a∧∃v,aK h (adr a (i*1))=some (.pointer v)∧HV PG (.func (.func 231) #[] #[]) [.pointer v,.int .u8 c] [.c (.int .i64)] K h:=by
  intro i hi K G;obtain⟨kb,D,O,C,T⟩:=Q.at hi;obtain⟨a,ha,_,hv⟩:=hs.at0 O;refine⟨a,ha,_,hv,HV.mk' (cW (qN (some ⟨kb,0,none⟩) c) .nil Tryz.func231 Tryz.call231 ?_)⟩;dsimp only[qN,AW,xw,cZ,cH];obtain⟨Y,kss,kow,kks,P,_⟩:=T;have N:D.data.toList≠[]:=by rw[C];exact(e.2 _ (aH hi)).1
  obtain⟨u,hu,S⟩:=JP N;refine⟨_,rfl,D,eK (i:=0) P,u,Int.le_refl _,hu,?_⟩;simp only[Bd];have f:=VO L[i].1;rw[S,C,df (x:=(hd L[i].1:Int)) (by omega),df (x:=(c:Int)) (by omega),df (by omega)];exact G
 have mono:∀i j (hi:i<L.length) (y:j<L.length),i<j→hd L[i].1<hd L[j].1:=fun i j hi y d=>List.pairwise_iff_getElem.1 e.1 i j hi y d
 refine LoopP.ghost (fun(g:Nat×Nat) (t:Int×Int) h'=>t.1=(g.1:Int)∧t.2=(g.2:Int)∧g.1≤g.2∧g.2≤L.length∧h'=h∧(∀j (y:j<L.length),j<g.1→hd L[j].1<c)∧(∀j (y:j<L.length),g.2≤j→c≤hd L[j].1)) (fun g=>g.2-g.1) (0,L.length)
  ⟨rfl,by(try simp only);omega,by simp,by simp,rfl,fun j y h=>by omega,fun j y h=>by(try simp only at h);omega⟩ ?_
 rintro I ⟨i,j⟩ ⟨ti,tj⟩ h' ⟨e1,Z,d,o,rfl,k,n⟩ X;(try simp only at e1 Z d o k n)
 subst e1 Z;refine ao (fun f=>?_) fun H=>?_
 ·have f:i<j:=by have:(i:Int)<(j:Int):=f;omega
  have em:ac .i64 (Int.fdiv (ac .u64 (ac .i64 ((i:Int)+(j:Int)))) (2^(min (1:Int).toNat (ak .u64))))=(((i+j)/2:Nat):Int):=by
   have e3:(2^(min (1:Int).toNat (ak .u64)):Int)=2:=rfl;rw[e3,df (x:=(i:Int)+(j:Int)) (by omega),Go.IntWalk.u64_in _ (by omega),Int.fdiv_eq_ediv_of_nonneg _ (by omega),df (by omega)];omega
  refine⟨by decide,?_⟩;simp only[Bd];rw[em];generalize hm:(i+j)/2=m;have B:m<L.length:=by omega
  refine⟨by omega,?_⟩;refine E B ?_;refine ao (fun hneg=>?_) fun U=>?_
  ·refine X (m+1,j) _ _ ⟨by(try simp only);rw[df (by omega)];omega,rfl,by(try simp only);omega,o,rfl,fun q R A=>?_,n⟩ (by(try simp only);omega)
   (try simp only at A)
   rcases cr q m with h|h
   ·have:=mono q m R B h;omega
   ·have:q=m:=by omega
    subst this;omega
  ·refine X (i,m) _ _ ⟨rfl,rfl,by(try simp only);omega,by(try simp only);omega,rfl,k,fun q R A=>?_⟩ (by(try simp only);omega)
   (try simp only at A)
   rcases cr m q with h|h
   ·have:=mono m q B R h;omega
   ·have:q=m:=by omega
    subst this;omega
 ·have d:i=j:=by have:¬(i:Int)<(j:Int):=H;omega
  subst d;refine ao (fun f=>?_) fun J=>?_
  ·have z:i<L.length:=by have:(i:Int)<(s.len:Int):=f;omega
   refine⟨by(try simp only);omega,?_⟩;refine E z ?_;refine G i _ o k n ?_;rw[beq_iff_eq];exact⟨fun h=>⟨z,by omega⟩,fun⟨_,h⟩=>by omega⟩
  ·have z:i=L.length:=by have:¬(i:Int)<(s.len:Int):=J;omega
   exact G i false o k n ⟨fun h=>(by cases h),fun h=>(by obtain⟨h,_⟩:=h;omega)⟩
end Go.Proofs
