/- A part of the proof that the named laws of this program answer true, whatever the input. -/
import Derived.Test.YtncppacbfagpgaaGreatDoorPart1
open BitVec renaming ofInt→aq
open Bool renaming eq_iff_iff→jf
open Int renaming toNat_natCast→aR
open List renaming getElem?_eq_getElem→ae,getElem_mem→bw,pairwise_cons→aA,any_cons→uF,mem_cons→aB,mem_cons_self→av,mem_cons_of_mem→aC,pairwise_singleton→cy,filter_cons→bW,mem_filter→eg,filter_eq_nil_iff→tA,mem_singleton→aF,any_eq_true→cA,length_filter_le→fQ,length_cons→al,flatMap_cons→aP,map_cons→eB,length_singleton→aE,range→gg,range_succ→lV,map_append→du,length_append→ac,append_assoc→ar,flatMap_append→bR,take_of_length_le→bo,sum_append→qY,map_nil→kT,sum_cons→yp,mem_filterMap→nI
open List.Pairwise renaming nil→fT
open Nat renaming le_of_eq→fS,zero_add→aQ,le_refl→aj,lt_irrefl→oc,mod_lt→ul,min_eq_left→bN,lt_of_lt_of_le→aD,zero_le→aS,le_trans→bh,mul_le_mul_right→cB,pow_succ→qb,testBit_lt_two_pow→iJ,pow_le_pow_right→gf,add_zero→eN,add_mul→lh,mul_le_mul_left→gJ
open Prod renaming ext→ze
open UInt8 renaming ofNat→ii
namespace Go.Proofs
open Go.Lift
theorem OO{h:ad}{b d n:Nat}{sp sk:SliceV}{a:Bool}{ow:Option Addr}(e:h[b]? =some (.cells (gc d n sp sk a ow) bU (0,0))) {K:Int→ad→Prop} (c:K (d:Int) h):HC PG mO [.pointer (some ⟨b,0,none⟩)] [.c (.int .u32)] K h:=by
 refine GF _ ?_;unfold y7 j4;exact ag.2 ⟨_,rfl,_,fF (i:=0) e,c⟩
theorem En{h:ad}{b d n:Nat}{sp sk:SliceV}{a:Bool}{ow:Option Addr}(e:h[b]? =some (.cells (gc d n sp sk a ow) bU (0,0))) {K:Int→ad→Prop} (c:K (n:Int) h):HC PG iz [.pointer (some ⟨b,0,none⟩)] [.c (.int .u32)] K h:=by
 refine Fa _ ?_;unfold xN j4;exact ag.2 ⟨_,rfl,_,fF (i:=1) e,c⟩
theorem gL{h:ad}{b d n:Nat}{sp sk:SliceV}{a:Bool}{ow:Option Addr}(e:h[b]? =some (.cells (gc d n sp sk a ow) bU (0,0))) {K:Bool→ad→Prop} (c:K a h):HC PG dV [.pointer (some ⟨b,0,none⟩)] [.c .bool] K h:=by
 refine Bj _ ?_;unfold u0 bK;exact au.2 ⟨_,rfl,_,fF (i:=4) e,c⟩
def Gd(o:Option Pr):Pr:=o.getD (⟨#[]⟩,⟨#[]⟩)
theorem G7{h:ad}{b:Nat}{q p:Pr}(a:h[b]? =some (.cells #[.string q.1,.string q.2] ao (0,0))) {k:ad→Prop}
  (d:∀h',h'[b]? =some (.cells #[.string p.1,.string p.2] ao (0,0))→Upd (· =b) h h'→k h'):wn h (some ⟨b,0,none⟩) 0 [.string p.1,.string p.2]∧At (jj h ⟨b,0,none⟩ 0 [.string p.1,.string p.2]) k:=by
 have e:=lS [.string p.1,.string p.2] h 0 0 [.string q.1,.string q.2] a (by simp);refine⟨.inr ⟨_,rfl,fun j c=>by rw[cp];exact iw a (by simp at c⊢;omega)⟩,bM ?_⟩
 rw[e];refine d _ ?_ (Upd.set h _ rfl);rw[jZ a];rfl
theorem AL{W:Nat→Prop}{h:ad}{b:Nat}{s:Slots}(o:NodeAt W h b s){i:Nat}(hi:i<32){K:Pr×Bool→ad→Prop}(k:∀h',Upd No h h'→K (Gd (s.p i),(s.p i).isSome) h'):
  HC PG jD [.pointer (some ⟨b,0,none⟩),.int .i64 i] [.agg [.str,.str],.c .bool] K h:=by
 refine GD _ i ?_;unfold y5 bX eW ay az lN is bV j4 rc;obtain⟨d,n,sp,sk,ow,w,bits,f,u,v,z⟩:=o.ex;have k1:=Upd.hnew No h [.string (⟨#[]⟩:ByteArray),.string (⟨#[]⟩:ByteArray)] ao;have b1:=cq h [.string (⟨#[]⟩:ByteArray),.string (⟨#[]⟩:ByteArray)] ao;refine bM ?_;simp only[cR h];generalize hnew h [.string (⟨#[]⟩:ByteArray),.string (⟨#[]⟩:ByteArray)] ao=h1 at k1 b1
 have c:=k1.get0 w;have g:h1[h.size]? =some (.cells #[.string Sb.1,.string Sb.2] ao (0,0)):=b1;refine OO c (Gc bits.d32 hi ?_);rw[bits.dp i hi];cases hp:s.p i with
 |none=>
  rw[hp]at k;refine au.2 (G7 (p:=Sb) g fun h2 b2 e=>⟨_,by rw[cp,bF b2];rfl,_,by rw[cp,bF b2];rfl,k _ (k1.trans e fun x hx=>.inr (fS hx.symm))⟩)
 |some y=>
  rw[hp]at k;refine ag.2 ⟨_,rfl,sp,fF (i:=2) c,_,rfl,_,fF (i:=0) c,ux bits.d32 hi ⟨fF (i:=2) c,?_⟩⟩;have q:=Nm hi bits.dp hp;have j:=f.upd k1 fun _ h=>h.elim
  obtain⟨a,t,_,hv⟩:=j.at (YW hi bits.dp hp);have m:=f.len;refine⟨by omega,a,t,y.1,hv 0 _ rfl,y.2,hv 1 _ rfl,?_⟩;refine G7 (p:=y) g fun h2 b2 e=>⟨_,by rw[cp,bF b2];rfl,_,by rw[cp,bF b2];rfl,k _ (k1.trans e fun x hx=>.inr (fS hx.symm))⟩
theorem xk{W:Nat→Prop}{h:ad}{b:Nat}{s:Slots}(j:NodeAt W h b s){i:Nat}(hi:i<32){K:Option Addr×Bool→ad→Prop}(e:K ((s.k i).getD none,(s.k i).isSome) h):
  HC PG gp [.pointer (some ⟨b,0,none⟩),.int .i64 i] [.c .ptr,.c .bool] K h:=by
 refine H2 _ i ?_;unfold Ao bE bX bV j4 rc;obtain⟨d,n,sp,sk,ow,f,bits,k,c,p,q⟩:=j.ex;refine En f (Gc bits.n32 hi ?_);rw[bits.nk i hi];cases hp:s.k i with
 |none=>rw[hp]at e;exact au.2 e
 |some y=>
  rw[hp]at e;refine ag.2 ⟨_,rfl,sk,fF (i:=3) f,_,rfl,_,fF (i:=1) f,ux bits.n32 hi ⟨fF (i:=3) f,?_⟩⟩;have m:=Nm hi bits.nk hp;obtain⟨a,o,_,hv⟩:=c.at (YW hi bits.nk hp);have g:=c.len;exact⟨by omega,a,o,y,hv 0 _ rfl,e⟩
theorem r9{W:Nat→Prop}{h:ad}{b d n:Nat}{sp sk:SliceV}{a:Bool}{ow:Option Addr}{l:List Pr}(f:h[b]? =some (.cells (gc d n sp sk a ow) bU (0,0))) (c:Sl eu 2 W h sp l) (g:l.length≤1000000000) {K:SliceV→ad→Prop}
  (e:∀s' h',OwnS eu 2 ao (fun x=>h.size≤x) h' s' l→Upd No h h'→K s' h'):HC PG fp [.pointer (some ⟨b,0,none⟩)] [.c .slice] K h:=by
 refine xy _ ?_;unfold sQ bV;exact ag.2 ⟨_,rfl,sp,fF (i:=2) f,yL c (by omega) e⟩
theorem Vp{W:Nat→Prop}{h:ad}{b d n:Nat}{sp sk:SliceV}{a:Bool}{ow:Option Addr}{l:List (Option Addr)}(f:h[b]? =some (.cells (gc d n sp sk a ow) bU (0,0))) (c:Sl uJ 1 W h sk l) (g:l.length≤1000000000) {K:SliceV→ad→Prop}
  (e:∀s' h',OwnS uJ 1 ci (fun x=>h.size≤x) h' s' l→Upd No h h'→K s' h'):HC PG pO [.pointer (some ⟨b,0,none⟩)] [.c .slice] K h:=by
 refine yQ _ ?_;unfold uh bV;exact ag.2 ⟨_,rfl,sk,fF (i:=3) f,Gn c (by omega) e⟩
structure BuckAt(W:Nat→Prop)(h:ad)(b:Nat)(l:List Pr):Prop where
 ex:∃sp sk ow,h[b]? =some (.cells (gc 0 0 sp sk true ow) bU (0,0))∧Sl eu 2 W h sp l∧Sl uJ 1 W h sk []∧sp.len≤sp.cap∧sk.len≤sk.cap
 nw:¬W b
theorem BuckAt.upd{W M:Nat→Prop}{h h':ad}{b:Nat}{l:List Pr}(n:BuckAt W h b l)(k:Upd M h h')(hm:∀b,M b→W b∨h.size≤b):BuckAt W h' b l:=by
 obtain⟨sp,sk,ow,a,d,c,e,g⟩:=n.ex;exact⟨⟨sp,sk,ow,k.get a (fun f=>(hm _ f).elim n.nw fun h=>by have:=bC a;omega),d.upd k hm,c.upd k hm,e,g⟩,n.nw⟩
theorem YP{W:Nat→Prop}{h:ad}{b:Nat}{l:List Pr}(x:BuckAt W h b l)(o:bS l)(p:l.length≤1000000000)(k:ByteArray){K:ByteArray×Bool→ad→Prop}
  (i:∀h' v,Upd No h h'→(cG l k=true→(k,v)∈l)→(cG l k=false→v=⟨#[]⟩)→K (v,cG l k) h'):HC PG uc [.pointer (some ⟨b,0,none⟩),.string k] [.c .str,.c .bool] K h:=by
 refine Uw _ k ?_;unfold Lf bX ay D2;obtain⟨sp,sk,ow,y,j,u,w,s⟩:=x.ex;refine r9 y j p fun z q m f=>?_
 have d:Sl eu 2 No q z l:=m.sl fun _ _ _ h=>h
 refine OF d o p k fun h2 c=>?_
 cases ht:cG l k with
 |false=>rw[ht]at i;exact au.2 (i _ _ (f.tr c) (fun h=>by cases h) fun _=>rfl)
 |true=>
  rw[ht]at i;obtain⟨g,e⟩:=Oj o ht;obtain⟨a,t,_,hv⟩:=(d.upd c fun _ h=>h.elim).at (ae g)
  have n:=d.len;refine ag.2 ⟨by simp only;omega,a,t,_,hv 1 _ rfl,i _ _ (f.tr c) (fun _=>?_) fun h=>by cases h⟩
  have:(k,l[rl l k].2)=l[rl l k]:=ze e.symm rfl;rw[this];exact bw g
theorem abj{W:Nat→Prop}{h:ad}{b:Nat}{l:List Pr}(d:BuckAt W h b l)(c:bS l)(f:l.length≤1000000000)(k:ByteArray){K:ByteArray×Bool→ad→Prop}
 (e:∀h' v,Upd No h h'→(cG l k=true→(k,v)∈l)→K (v,cG l k) h'):HC PG uc [.pointer (some ⟨b,0,none⟩),.string k] [.c .str,.c .bool] K h:=YP d c f k fun h' v a h2 _=>e h' v a h2
end Go.Proofs
namespace Go.Proofs
open Go.Lift
set_option maxRecDepth 4000 in
theorem Vf{W:Nat→Prop}{h:ad}{b:Nat}{l:List Pr}(R:BuckAt W h b l)(Z:l.length≤1000000000){K:Option Addr→ad→Prop}
  (G:∀h' sp sk,h'[h.size]? =some (.cells (gc 0 0 sp sk true none) bU (0,0))→OwnS eu 2 ao (fun x=>h.size<x∧x<h'.size) h' sp l→OwnS uJ 1 ci (fun x=>h.size<x∧x<h'.size) h' sk []→Upd No h h'→K (some ⟨h.size,0,none⟩) h'):
  HC PG iW [.pointer (some ⟨b,0,none⟩),.pointer none] [.c .ptr] K h:=by
 obtain⟨sp,sk,ow,a,t,E,N,P⟩:=R.ex;refine Ai _ none ?_;unfold vn nv dG bK bV Ab XE o9 j4 abv;refine MS (ag.2 ?_);have c:∀{h:ad} {b:Nat} {c:Array Value} {i:Nat},h[b]? =some (.cells c bU (0,0))→aO h ⟨b,0+i,none⟩=c[i]?:=fun a=>by rw[aQ];exact bF a
 refine⟨_,rfl,_,c (i:=0) a,_,c (i:=1) a,sp,c (i:=2) a,sk,c (i:=3) a,_,c (i:=4) a,_,c (i:=5) a,?_⟩;have k1:=Upd.hnew No h [.int .u32 0,.int .u32 0,.slice none 0 0,.slice none 0 0,.bool false,.pointer none] bU;have b1:=cq h [.int .u32 0,.int .u32 0,.slice none 0 0,.slice none 0 0,.bool false,.pointer none] bU;refine bM ?_;simp only[cR h];generalize hnew h [.int .u32 0,.int .u32 0,.slice none 0 0,.slice none 0 0,.bool false,.pointer none] bU=h1 at k1 b1
 have C:jj h1 ⟨h.size,0,none⟩ 0 [.int .u32 ((0:Nat):Int),.int .u32 ((0:Nat):Int),.slice sp.a sp.len sp.cap,.slice sk.a sk.len sk.cap,.bool true,.pointer ow]=_:=lS _ h1 0 0 _ b1 (by simp);refine⟨.inr ⟨_,rfl,fun j Q=>by rw[cp];exact iw b1 (by simp at Q⊢;omega)⟩,bM ?_⟩
 rw[C];have b2:=jZ (o:=.cells (gc 0 0 sp sk true ow) bU (0,0)) b1;have n:Upd No h _:=k1.trans (M':=(· =h.size)) (Upd.set h1 (.cells (gc 0 0 sp sk true ow) bU (0,0)) rfl) fun x hx=>.inr (fS hx.symm)
 have z:h.size<(h1.setIfInBounds h.size (.cells (gc 0 0 sp sk true ow) bU (0,0))).size:=bC b2;have T:h.size≠b:=fun e=>by have:=bC a;omega
 have S:(Obj.cells (List.take (0+0) [Value.int .u32 0,.int .u32 0,.slice none 0 0,.slice none 0 0,.bool false,.pointer none]++ [Value.int .u32 ((0:Nat):Int),.int .u32 ((0:Nat):Int),.slice sp.a sp.len sp.cap,.slice sk.a sk.len sk.cap,.bool true,.pointer ow]++List.drop (0+0+ [Value.int .u32 ((0:Nat):Int),.int .u32 ((0:Nat):Int),.slice sp.a sp.len sp.cap,.slice sk.a sk.len sk.cap,.bool true,.pointer ow].length) [Value.int .u32 0,.int .u32 0,.slice none 0 0,.slice none 0 0,.bool false,.pointer none]).toArray bU (0,0))=.cells (gc 0 0 sp sk true ow) bU (0,0):=rfl
 rw[S];generalize h1.setIfInBounds h.size (.cells (gc 0 0 sp sk true ow) bU (0,0))=h2 at b2 n z;have m:=n.get0 a;refine⟨_,rfl,sp,c (i:=2) m,_,rfl,sk,c (i:=3) m,?_⟩;refine yL (t.upd n fun _ h=>h.elim) (by omega) fun s h3 A f=>?_
 refine⟨c (i:=3) (f.get0 m),?_⟩;refine Gn ((E.upd n fun _ h=>h.elim).upd f fun _ h=>h.elim) (by simp) fun B h4 H g=>?_
 have I:=g.get0 (f.get0 b2);have p:=A.within.upd g fun _ _ h=>h
 have q:=H.within;have V:=f.size;have X:=g.size;have w:∀{h:ad} {c:Array Value} {x i:Nat},h[x]? =some (.cells c bU (0,0))→i<c.size→Wr h ⟨x,0+i,none⟩:=fun a hi=>by rw[aQ];exact iw a hi
 have st:∀{h:ad} {c c':Array Value} {x i:Nat} {v:Value} {k:ad→Prop},h[x]? =some (.cells c bU (0,0))→c.setIfInBounds i v=c'→(∀h',h'[x]? =some (.cells c' bU (0,0))→Upd (· =x) h h'→k h')→At (hset h ⟨x,i,none⟩ v) k:=fun a e G=>wK a fun h' u M=>G h' (e▸u) M
 refine⟨w (i:=2) I (show 2<6 by decide),st (i:=2) (c':=gc 0 0 s sk true ow) I rfl fun Y J y=>?_⟩
 refine⟨w (i:=3) J (show 3<6 by decide),st (i:=3) (c':=gc 0 0 s B true ow) J rfl fun h6 L D=>?_⟩
 refine⟨w (i:=5) L (show 5<6 by decide),st (i:=5) (c':=gc 0 0 s B true none) L rfl fun U O F=>?_⟩
 refine AO (ag.2 ?_);have d:=y.tr (D.tr F);have z7:=d.size;refine G _ s B O ((p.upd d fun x hx e=>?_).more fun x hx=>?_) ((q.upd d fun x hx e=>?_).more fun x hx=>?_) ?_
 ·have e:x=h.size:=e;omega
 ·omega
 ·have e:x=h.size:=e;omega
 ·omega
 ·exact((n.tr f).tr g).trans d fun x hx=>.inr (fS hx.symm)
theorem Iw{W:Nat→Prop}{h:ad}{b:Nat}{l:List Pr}(z:BuckAt W h b l)(n:∀x,W x→x<h.size)(A:bS l)(v:l.length≤1000000000)(p:Pr){K:Option Addr→ad→Prop}
  (H:∀h' b',BuckAt W h' b' (LB l p)→Upd No h h'→K (some ⟨b',0,none⟩) h'):
  HC PG kF [.pointer (some ⟨b,0,none⟩),.pointer none,.agg #[.string p.1,.string p.2]] [.c .ptr] K h:=by
 refine H1 _ none p ?_;unfold An az dG w9 rV bV o9;have k1:=Upd.hnew No h [.string p.1,.string p.2] ao;have b1:=cq h [.string p.1,.string p.2] ao;refine bM ?_;simp only[cR h];generalize hnew h [.string p.1,.string p.2] ao=h1 at k1 b1;have I:=bC b1;have f:=z.upd k1 fun _ h=>h.elim
 obtain⟨sp,sk,ow,B,w,F,y,E⟩:=f.ex;refine gL B (ag.2 ?_);refine Vf f v fun h2 D u b2 q s a=>?_
 have k:=a.get0 b1;refine⟨_,rfl,D,fF (i:=2) b2,p.1,by rw[cp,bF k];rfl,p.2,by rw[cp,bF k];rfl,?_⟩
 refine S5 (q.sl fun _ _ _ h=>h) q.cap A v p fun t J j d=>?_
 have b3:=d.get0 b2;refine⟨_,rfl,ZR (i:=2) b3 (show 2<6 by decide),Ly (i:=2) (c':=gc 0 0 t u true none) b3 rfl fun G C c=>?_⟩
 have L:=bC b2;have o:=j.upd c fun x hx e=>by have e:x=h1.size:=e;omega
 have m:=(s.upd d fun _ _ h=>h).upd c fun x hx e=>by have e:x=h1.size:=e;omega
 refine H G h1.size ⟨⟨t,u,none,C,o.sl fun x hx _ g=>?_,m.sl fun x hx _ g=>?_,j.cap,s.cap⟩,fun g=>?_⟩ (((k1.tr a).tr d).trans c fun x hx=>.inr ?_)
 ·have:=n x g;have:=a.size;omega
 ·have:=n x g;omega
 ·have:=n _ g;omega
 ·have hx:x=h1.size:=hx
  omega
theorem NB{W:Nat→Prop}{h:ad}(b:∀x,W x→x<h.size){K:Option Addr→ad→Prop}(a:∀h' b',BuckAt W h' b' []→Upd No h h'→K (some ⟨b',0,none⟩) h'):HC PG uB [] [.c .ptr] K h:=by
 refine L2 ?_;unfold CN;exact a _ _ ⟨⟨⟨none,0,0⟩,⟨none,0,0⟩,none,cq h _ _,Sl.nil gu,Sl.nil vh,aj _,aj _⟩,fun hx=>oc _ (b _ hx)⟩ (Upd.hnew No h _ _)
theorem se{W:Nat→Prop}{h:ad}(e:∀x,W x→x<h.size){K:Option Addr→ad→Prop}(b:∀h' b',NodeAt W h' b' ⟨fun _=>none,fun _=>none⟩→Upd No h h'→K (some ⟨b',0,none⟩) h'):HC PG pP [] [.c .ptr] K h:=by
 refine Pi ?_;unfold Fy XE;have d:fm (fun _=>(none:Option Pr)) 32= []:=by simp[fm]
 have a:fm (fun _=>(none:Option (Option Addr))) 32= []:=by simp[fm]
 refine b _ _ ⟨⟨0,0,⟨none,0,0⟩,⟨none,0,0⟩,none,cq h _ _,⟨by decide,by decide,fun c _=>by simp,fun c _=>by simp⟩,?_,?_,aj _,aj _⟩,fun hx=>oc _ (e _ hx)⟩ (Upd.hnew No h _ _)
 ·show Sl eu 2 W _ _ (fm (fun _=>none) 32)
  rw[d];exact Sl.nil gu
 ·show Sl uJ 1 W _ _ (fm (fun _=>none) 32)
  rw[a];exact Sl.nil vh
end Go.Proofs
namespace Go.Proofs
open Go.Lift
def hJ(p:Pr):List Pr→List Pr
 | []=> [p]
 |q::l=>if kl q.1 p.1 then q::hJ p l else if q.1=p.1 then p::l else p::q::l
theorem hH(p q:Pr)(l:List Pr):hJ p (q::l)=if kl q.1 p.1 then q::hJ p l else if q.1=p.1 then p::l else p::q::l:=rfl
theorem Ew(p:Pr):∀{l:List Pr},bS l→LB l p=hJ p l
 | [],_=>by simp[LB,hJ,rl,cG]
 |q::l,d=>by
  have d:=aA.1 d;unfold hJ;have a:rl (q::l) p.1=if kl q.1 p.1 then rl l p.1+1 else 0:=by
   unfold rl;rw[List.takeWhile_cons];by_cases h:kl q.1 p.1
   ·rw[if_pos (by simpa using h),if_pos h];rfl
   ·rw[if_neg (by simpa using h),if_neg h];rfl
  have c:cG (q::l) p.1=(decide (q.1=p.1)||cG l p.1):=by unfold cG;rw[uF]
  by_cases h:kl q.1 p.1
  ·have j:q.1≠p.1:=fun e=>by rw[e]at h;exact co _ h
   rw[if_pos h,←Ew p d.2];unfold LB;rw[c,a,if_pos h,decide_eq_false j,Bool.false_or];by_cases b:cG l p.1=true
   ·rw[if_pos b,if_pos b];rfl
   ·rw[if_neg b,if_neg b];rfl
  ·rw[if_neg h]
   unfold LB;rw[c,a,if_neg h];by_cases e:q.1=p.1
   ·rw[if_pos e,decide_eq_true e,Bool.true_or,if_pos rfl];rfl
   ·have i:=qh h e
    have b:cG l p.1=false:=by
     unfold cG;rw[List.any_eq_false];intro r f g;have g:=of_decide_eq_true g;have:=d.1 r f;rw[g]at this;exact co _ (fR i this)
    rw[if_neg e,decide_eq_false e,b];rfl
theorem AM{p q:Pr}:∀{l:List Pr},q∈hJ p l→q=p∨q∈l
 | [],h=>by simp[hJ]at h;exact .inl h
 |r::l,h=>by
  unfold hJ at h;split at h
  ·rcases aB.1 h with h|h
   ·exact .inr (h▸av ..)
   ·exact(AM h).imp id fun h=>aC _ h
  ·split at h
   ·rcases aB.1 h with h|h
    ·exact .inl h
    ·exact .inr (aC _ h)
   ·rcases aB.1 h with h|h
    ·exact .inl h
    ·exact .inr h
theorem yw(p:Pr):∀{l:List Pr},bS l→bS (hJ p l)
 | [],_=>cy ..
 |q::l,a=>by
  have c:=a;have a:=aA.1 a;unfold hJ;split
  ·rename_i h
   refine aA.2 ⟨fun r hm=>?_,yw p a.2⟩
   rcases AM hm with rfl|hm
   ·exact h
   ·exact a.1 r hm
  ·rename_i h
   split
   ·rename_i e
    exact aA.2 ⟨fun r hm=>e▸a.1 r hm,a.2⟩
   ·rename_i e
    have b:=qh h e;refine aA.2 ⟨fun r hm=>?_,c⟩
    rcases aB.1 hm with rfl|hm
    ·exact b
    ·exact fR b (a.1 r hm)
theorem JV(p:Pr)(g:ByteArray→Bool):∀{l:List Pr},bS l→(hJ p l).filter (fun q=>g q.1)=if g p.1 then hJ p (l.filter fun q=>g q.1)else l.filter fun q=>g q.1
 | [],_=>by
  unfold hJ;rw[bW,List.filter_nil]
 |q::l,c=>by
  have i:=c;have c:=aA.1 c;have j:=JV p g c.2;rw[hH];by_cases h:kl q.1 p.1
  ·rw[if_pos h,bW,bW,j]
   by_cases f:g q.1=true
   ·rw[if_pos f,if_pos f]
    split
    ·rw[hH,if_pos h]
    ·rfl
   ·rw[if_neg f,if_neg f]
  ·rw[if_neg h]
   by_cases e:q.1=p.1
   ·rw[if_pos e,bW,bW,e]
    by_cases a:g p.1=true
    ·rw[if_pos a,if_pos a,if_pos a,hH,if_neg h,if_pos e]
    ·rw[if_neg a,if_neg a,if_neg a]
   ·rw[if_neg e]
    have d:=qh h e;rw[bW];by_cases a:g p.1=true
    ·rw[if_pos a,if_pos a]
     have:∀r∈(q::l).filter (fun q=>g q.1),kl p.1 r.1:=fun r hm=>by
      rcases aB.1 (eg.1 hm).1 with rfl|hm
      ·exact d
      ·exact fR d (c.1 r hm)
     cases hf:(q::l).filter (fun q=>g q.1)with
     |nil=>rfl
     |cons r rs=>
      have b:=this r (by rw[hf];exact av ..);rw[hH,if_neg fun k=>co _ (fR b k),if_neg fun e=>by rw[e]at b;exact co _ b]
    ·rw[if_neg a,if_neg a]
theorem Im{p:Pr}:∀{l:List Pr},bS l→p∈l→hJ p l=l
 |q::l,a,hm=>by
  have a:=aA.1 a;unfold hJ;rcases aB.1 hm with rfl|hm
  ·rw[if_neg (co _),if_pos rfl]
  ·rw[if_pos (a.1 p hm),Im a.2 hm]
def ck(x:Hs)(lev:Nat)(k:ByteArray):Nat:=((eP x k).toNat>>>(5*lev))%32
theorem Af(x:Hs)(lev:Nat)(k:ByteArray):ck x lev k<32:=ul _ (by omega)
def part(x:Hs)(lev c:Nat)(l:List Pr):List Pr:=l.filter fun p=>decide (ck x lev p.1=c)
def TrieAt(W:Nat→Prop)(x:Hs)(h:ad):Nat→Nat→List Pr→Prop
 |0,b,l=>BuckAt W h b l
 |m+1,b,l=>∃s,NodeAt W h b s∧∀c,c<32→
  ((part x (12-m) c l= []∧s.p c=none∧s.k c=none)∨(∃p,part x (12-m) c l= [p]∧s.p c=some p∧s.k c=none)∨
   (2≤(part x (12-m) c l).length∧s.p c=none∧∃kb,s.k c=some (some ⟨kb,0,none⟩)∧TrieAt W x h m kb (part x (12-m) c l)))
theorem TrieAt.upd0{W:Nat→Prop}{x:Hs}{h h':ad}(k:Upd No h h'):∀{m b:Nat} {l:List Pr},TrieAt W x h m b l→TrieAt W x h' m b l
 |0,_,_,t=>BuckAt.upd t k fun _ h=>h.elim
 |m+1,_,_,⟨s,nd,hc⟩=>⟨s,nd.upd k fun _ h=>h.elim,fun c a=>(hc c a).imp id fun o=>o.imp id fun⟨d,h2,g,f,e⟩=>⟨d,h2,g,f,TrieAt.upd0 k e⟩⟩
theorem NodeAt.less{W W':Nat→Prop}{h:ad}{b:Nat}{s:Slots}(n:NodeAt W h b s)(hm:∀b,W' b→W b∨h.size≤b):NodeAt W' h b s:=by
 obtain⟨d,m,sp,sk,ow,a,h2,e,c,f,g⟩:=n.ex;exact⟨⟨d,m,sp,sk,ow,a,h2,e.less hm,c.less hm,f,g⟩,fun hx=>(hm _ hx).elim n.nw fun h=>by have:=bC a;omega⟩
theorem BuckAt.less{W W':Nat→Prop}{h:ad}{b:Nat}{l:List Pr}(n:BuckAt W h b l)(hm:∀b,W' b→W b∨h.size≤b):BuckAt W' h b l:=by
 obtain⟨sp,sk,ow,a,d,c,e,f⟩:=n.ex;exact⟨⟨sp,sk,ow,a,d.less hm,c.less hm,e,f⟩,fun hx=>(hm _ hx).elim n.nw fun h=>by have:=bC a;omega⟩
theorem TrieAt.less{W W':Nat→Prop}{x:Hs}{h:ad}(hm:∀b,W' b→W b∨h.size≤b):∀{m b:Nat} {l:List Pr},TrieAt W x h m b l→TrieAt W' x h m b l
 |0,_,_,t=>BuckAt.less t hm
 |m+1,_,_,⟨s,nd,hc⟩=>⟨s,nd.less hm,fun c a=>(hc c a).imp id fun o=>o.imp id fun⟨d,h2,g,f,e⟩=>⟨d,h2,g,f,TrieAt.less hm e⟩⟩
theorem TrieAt.updM{W M:Nat→Prop}{x:Hs}{h h':ad}(k:Upd M h h')(hm:∀b,M b→W b∨h.size≤b):∀{m b:Nat} {l:List Pr},TrieAt W x h m b l→TrieAt W x h' m b l
 |0,_,_,t=>BuckAt.upd t k hm
 |m+1,_,_,⟨s,nd,hc⟩=>⟨s,nd.upd k hm,fun c a=>(hc c a).imp id fun o=>o.imp id fun⟨d,h2,g,f,e⟩=>⟨d,h2,g,f,TrieAt.updM k hm e⟩⟩
end Go.Proofs
namespace Go.Proofs
open Go.Lift
theorem acf(a b:Nat):(aq (IntKind.bits .u64) (a:Int)&&&aq (IntKind.bits .u64) (b:Int)).toNat=(a%18446744073709551616)&&&(b%18446744073709551616):=by
 simp[IntKind.bits,BitVec.toNat_and,BitVec.toNat_ofInt];rfl
theorem ac1{hv:Int}(f:0≤hv∧hv<18446744073709551616){lev:Nat}(g:lev<13){h:ad}{K:Int→ad→Prop}(b:K (((hv.toNat>>>(5*lev))%32:Nat):Int) h):HC PG mq [.int .u64 hv,.int .i64 lev] [.c (.int .i64)] K h:=by
 refine Uv hv lev ?_;unfold Ld;refine Join.plain (ax (fun h=>by omega) fun _=>?_)
 rw[decide_eq_false (by omega)];refine ag.2 ?_;have d:IntKind.wrap .i64 (5*(lev:Int))=((5*lev:Nat):Int):=by rw[dI (by omega)];omega
 rw[d];have c:min (((5*lev:Nat):Int)).toNat (IntKind.bits .u64)=5*lev:=by rw[aR];exact bN (by show 5*lev≤64;omega)
 rw[c];obtain⟨n,rfl⟩:=Int.eq_ofNat_of_zero_le f.1;rw[aR]at b;simp only[Bd];rw[pq];have a:n>>>(5*lev)<18446744073709551616:=Nat.lt_of_le_of_lt (Nat.shiftRight_le _ _) (by omega);have e:=acf (n>>>(5*lev)) 31;rw[Nat.mod_eq_of_lt a,show((31:Nat):Int)=(31:Int)from rfl,show 31%18446744073709551616=2^5-1 from rfl,Nat.and_two_pow_sub_one_eq_mod]at e
 rw[e];have hm:n>>>(5*lev)%2^5<32:=ul _ (by omega);rw[Go.IntWalk.u64_in _ (by omega),dI (by omega)];exact⟨by omega,b⟩
theorem TM{x:Hs}{k:ByteArray}{lev:Nat}(b:lev<13){h:ad}{K:Int→ad→Prop}(a:K (ck x lev k:Int) h):HC PG mq [.int .u64 (eP x k),.int .i64 lev] [.c (.int .i64)] K h:=ac1 (Hh x k) b a
abbrev XH(x:Hs)(k:ByteArray):Value:=.agg #[.int .u64 x.k0,.int .u64 x.k1,.int .u64 x.mask,.pointer none,.string k,.int .u64 (eP x k)]
theorem Jv{x:Hs}{lev c:Nat}{l:List Pr}(h:∀p∈l,ck x lev p.1=c):part x lev c l=l:=List.filter_eq_self.2 fun p a=>decide_eq_true (h p a)
theorem zo{x:Hs}{lev c:Nat}{l:List Pr}(h:∀p∈l,ck x lev p.1≠c):part x lev c l= []:=tA.2 fun p a=>by simpa using h p a
theorem Qw{x:Hs}{lev c:Nat}{p:Pr}{l:List Pr}(a:bS l):part x lev c (hJ p l)=if ck x lev p.1=c then hJ p (part x lev c l)else part x lev c l:=by
 have:=JV p (fun k=>decide (ck x lev k=c)) a
 unfold part;rw[this];by_cases h:ck x lev p.1=c
 ·rw[if_pos h,if_pos (decide_eq_true h)]
 ·rw[if_neg h,if_neg (by simpa using h)]
theorem UP{p q:Pr}(h:p.1≠q.1):(hJ q [p]).length=2:=by
 rw[hH];by_cases a:kl p.1 q.1
 ·rw[if_pos a];rfl
 ·rw[if_neg a,if_neg h];rfl
theorem Vk{p q r:Pr}(h:r∈hJ q [p]):r=p∨r=q:=(AM h).symm.imp (fun h=>aF.1 h) id
theorem gr{β:Type}{g:Nat→Option β}{i c:Nat}{x:Option β}(h:c≠i):upd g i x c=g c:=by unfold upd;rw[if_neg h]
theorem aa1{W:Nat→Prop}{x:Hs}:∀(m:Nat) (p q:Pr),m≤13→p.1≠q.1→∀{h:ad},(∀y,W y→y<h.size)→∀{K:Option Addr→ad→Prop},(∀h' b',TrieAt W x h' m b' (hJ q [p])→Upd No h h'→K (some ⟨b',0,none⟩) h')→
  HC PG oM [XH x q.1,.agg #[.string p.1,.string p.2],.agg #[.string q.1,.string q.2],.int .i64 ((13-m:Nat):Int)] [.c .ptr] K h:=by
 intro m;induction m with
 |zero=>
  intro p q _ G h R K O;have C:∀{h'},Upd No h h'→∀y,W y→y<h'.size:=fun k y U=>aD (R y U) k.size
  refine xA (x.k0,x.k1,x.mask,none,q.1,eP x q.1) p q ((13-0:Nat):Int) ?_;unfold sS af aH xa az df w9 rV CW od CV Ol;have k1:=Upd.hnew No h [.int .u64 x.k0,.int .u64 x.k1,.int .u64 x.mask,.pointer none,.string q.1,.int .u64 (eP x q.1)] dd;have b1:=cq h [.int .u64 x.k0,.int .u64 x.k1,.int .u64 x.mask,.pointer none,.string q.1,.int .u64 (eP x q.1)] dd
  refine bM ?_;simp only[cR h];generalize hnew h [.int .u64 x.k0,.int .u64 x.k1,.int .u64 x.mask,.pointer none,.string q.1,.int .u64 (eP x q.1)] dd=h1 at k1 b1;have B:=Upd.hnew No h1 [.string p.1,.string p.2] ao;have b2:=cq h1 [.string p.1,.string p.2] ao;refine bM ?_;simp only[cR h1];generalize hnew h1 [.string p.1,.string p.2] ao=h2 at B b2
  have z:=Upd.hnew No h2 [.string q.1,.string q.2] ao;have b3:=cq h2 [.string q.1,.string q.2] ao;refine bM ?_;simp only[cR h2];generalize hnew h2 [.string q.1,.string q.2] ao=h3 at z b3;have d:∀{h':ad},Upd No h3 h'→∀i,aO h' (adr ⟨h.size,0,none⟩ i)=(#[.int .u64 x.k0,.int .u64 x.k1,.int .u64 x.mask,.pointer none,.string q.1,.int .u64 (eP x q.1)]:Array Value)[i]?:=fun k i=>by
   rw[cp,bF (k.get0 (z.get0 (B.get0 b1))),aQ]
  have u:∀{h':ad},Upd No h3 h'→∀i,aO h' (adr ⟨h1.size,0,none⟩ i)=(#[.string p.1,.string p.2]:Array Value)[i]?:=fun k i=>by rw[cp,bF (k.get0 (z.get0 b2)),aQ]
  have o:∀{h':ad},Upd No h3 h'→∀i,aO h' (adr ⟨h2.size,0,none⟩ i)=(#[.string q.1,.string q.2]:Array Value)[i]?:=fun k i=>by rw[cp,bF (k.get0 b3),aQ]
  have r:=Upd.refl No h3;refine au.2 ⟨none,d r 3,p.1,u r 0,p.2,u r 1,none,d r 3,q.1,o r 0,q.2,o r 1,?_⟩;refine NB (C ((k1.tr B).tr z)) fun h4 b4 P b=>⟨⟨o b 0,o b 1⟩,d b 3,⟨u b 0,u b 1⟩,d b 3,?_⟩
  refine Iw P (C (((k1.tr B).tr z).tr b)) fT (by simp) p fun Y Z J A=>?_
  have n:=b.tr A;refine⟨⟨o n 0,o n 1⟩,d n 3,?_⟩;have L:LB [] p= [p]:=Ew p fT;rw[L]at J;refine Iw J (C (((k1.tr B).tr z).tr n)) (cy ..) (by simp) q fun V N M v=>?_
  rw[Ew q (cy ..)]at M;exact O V N M ((((k1.tr B).tr z).tr n).tr v)
 |succ m ih=>
  intro p q hm G h R K O;have C:∀{h'},Upd No h h'→∀y,W y→y<h'.size:=fun k y U=>aD (R y U) k.size
  have X:13-(m+1)<13:=by omega
  have g:13-(m+1)=12-m:=by omega
  refine xA (x.k0,x.k1,x.mask,none,q.1,eP x q.1) p q ((13-(m+1):Nat):Int) ?_;unfold sS af aH xa az df w9 rV CW od CV Ol;have k1:=Upd.hnew No h [.int .u64 x.k0,.int .u64 x.k1,.int .u64 x.mask,.pointer none,.string q.1,.int .u64 (eP x q.1)] dd;have b1:=cq h [.int .u64 x.k0,.int .u64 x.k1,.int .u64 x.mask,.pointer none,.string q.1,.int .u64 (eP x q.1)] dd
  refine bM ?_;simp only[cR h];generalize hnew h [.int .u64 x.k0,.int .u64 x.k1,.int .u64 x.mask,.pointer none,.string q.1,.int .u64 (eP x q.1)] dd=h1 at k1 b1;have B:=Upd.hnew No h1 [.string p.1,.string p.2] ao;have b2:=cq h1 [.string p.1,.string p.2] ao;refine bM ?_;simp only[cR h1];generalize hnew h1 [.string p.1,.string p.2] ao=h2 at B b2
  have z:=Upd.hnew No h2 [.string q.1,.string q.2] ao;have b3:=cq h2 [.string q.1,.string q.2] ao;refine bM ?_;simp only[cR h2];generalize hnew h2 [.string q.1,.string q.2] ao=h3 at z b3;have d:∀{h':ad},Upd No h3 h'→∀i,aO h' (adr ⟨h.size,0,none⟩ i)=(#[.int .u64 x.k0,.int .u64 x.k1,.int .u64 x.mask,.pointer none,.string q.1,.int .u64 (eP x q.1)]:Array Value)[i]?:=fun k i=>by
   rw[cp,bF (k.get0 (z.get0 (B.get0 b1))),aQ]
  have u:∀{h':ad},Upd No h3 h'→∀i,aO h' (adr ⟨h1.size,0,none⟩ i)=(#[.string p.1,.string p.2]:Array Value)[i]?:=fun k i=>by rw[cp,bF (k.get0 (z.get0 b2)),aQ]
  have o:∀{h':ad},Upd No h3 h'→∀i,aO h' (adr ⟨h2.size,0,none⟩ i)=(#[.string q.1,.string q.2]:Array Value)[i]?:=fun k i=>by rw[cp,bF (k.get0 b3),aQ]
  have r:=Upd.refl No h3;have ne:(((13-(m+1):Nat):Int)==(13:Int))=false:=by rw[beq_eq_false_iff_ne];omega
  rw[ne];refine ag.2 ⟨_,d r 0,_,d r 1,_,d r 2,_,u r 0,_,d r 5,?_⟩;refine vN fun h4 b=>⟨d b 5,TM X ⟨d b 5,TM X ?_⟩⟩
  have hi:=Af x (13-(m+1)) p.1;have hj:=Af x (13-(m+1)) q.1;have j:=((k1.tr B).tr z);have hcl:=UP G;refine CondP.intro (fun e=>?_) fun e=>?_
  ·have e:ck x (13-(m+1)) p.1=ck x (13-(m+1)) q.1:=by have:=eq_of_beq e;omega
   refine⟨_,d b 3,_,d b 0,_,d b 1,_,d b 2,_,d b 3,_,d b 4,_,d b 5,_,u b 0,_,u b 1,_,o b 0,_,o b 1,?_⟩;refine se (C (j.tr b)) fun Y Z H A=>?_
   have a:=b.tr A;refine⟨⟨o a 0,o a 1⟩,⟨u a 0,u a 1⟩,⟨d a 0,d a 1,d a 2,d a 3,d a 4,d a 5⟩,d a 3,?_⟩;have ew:IntKind.wrap .i64 (((13-(m+1):Nat):Int)+1)=((13-m:Nat):Int):=by rw[dI (by omega)];omega
   rw[ew];refine ih p q (by omega) G (C (j.tr a)) fun V N t6 v=>?_
   have f:=a.tr v;refine⟨d f 3,?_⟩;refine yu (H.upd v fun _ h=>h.elim) (C (j.tr f)) hi (fun y h=>by cases h) ⟨N,0,none⟩ fun Q T I E=>?_
   refine O Q T ⟨_,I,fun c hc=>?_⟩ ((j.tr f).tr E)
   rw[g]at e;by_cases t:c=ck x (13-(m+1)) p.1
   ·refine .inr (.inr ?_)
    have ea:part x (12-m) c (hJ q [p])=hJ q [p]:=Jv fun r F=>by
     rcases Vk F with rfl|rfl
     ·rw[t,g]
     ·rw[t,g,e]
    rw[ea];exact⟨by omega,by simp[upd],N,by rw[t];exact gS,TrieAt.upd0 E t6⟩
   ·refine .inl ⟨zo fun r F=>?_,by simp[upd],gr t⟩
    rw[g]at t;rcases Vk F with rfl|rfl
    ·exact fun e=>t e.symm
    ·rw[←e];exact fun e=>t e.symm
  ·have e:ck x (13-(m+1)) p.1≠ck x (13-(m+1)) q.1:=fun h=>by rw[h]at e;simp at e
   refine⟨_,d b 3,_,u b 0,_,u b 1,_,d b 3,_,o b 0,_,o b 1,?_⟩;refine se (C (j.tr b)) fun Y Z H A=>?_
   have a:=b.tr A;refine⟨⟨o a 0,o a 1⟩,d a 3,⟨u a 0,u a 1⟩,d a 3,?_⟩;refine tP H (C (j.tr a)) hi (fun y h=>by cases h) p fun V N S v=>?_
   have f:=a.tr v;refine⟨⟨o f 0,o f 1⟩,d f 3,?_⟩;refine tP S (C (j.tr f)) hj (fun y h=>by simp[upd]) q fun Q T I E=>?_
   refine O Q T ⟨_,I,fun c hc=>?_⟩ ((j.tr f).tr E)
   have s:=Qw (x:=x) (lev:=12-m) (c:=c) (p:=q) (l:= [p]) (cy ..);rw[g]at e;by_cases D:c=ck x (12-m) p.1
   ·have w:ck x (12-m) q.1≠c:=fun h=>e (by omega)
    have L:part x (12-m) c [p]= [p]:=Jv fun r F=>by rw[aF.1 F,D]
    rw[if_neg w,L]at s;exact .inr (.inl ⟨p,s,by simp[upd,g,D,e],by simp[upd]⟩)
   ·have L:part x (12-m) c [p]= []:=zo fun r F=>by rw[aF.1 F];exact fun h=>D h.symm
    rw[L]at s;by_cases w:c=ck x (12-m) q.1
    ·rw[if_pos w.symm]at s
     exact .inr (.inl ⟨q,s,by simp[upd,g,w],by simp[upd]⟩)
    ·rw[if_neg fun h=>w h.symm]at s
     exact .inl ⟨s,by simp[upd,g,w,D],by simp[upd]⟩
end Go.Proofs
namespace Go.Proofs
open Go.Lift
noncomputable instance memDec (p:Pr) (l:List Pr):Decidable (p∈l):=Classical.propDecidable _
theorem Jl{l:List Pr}(a:bS l){k v w:ByteArray}(b:(k,v)∈l)(h2:(k,w)∈l):v=w:=by
 induction l with
 |nil=>cases b
 |cons q l ih=>
  have a:=aA.1 a;rcases aB.1 b with d|b<;>rcases aB.1 h2 with c|h2
  ·exact(Prod.mk.inj (d.trans c.symm)).2
  ·have:=a.1 _ h2;rw[←d]at this;exact absurd this (co _)
  ·have:=a.1 _ b;rw[←c]at this;exact absurd this (co _)
  ·exact ih a.2 b h2
theorem nM{x:Hs}{lev c:Nat}{l:List Pr}{p:Pr}:p∈part x lev c l↔p∈l∧ck x lev p.1=c:=by unfold part;rw[eg,decide_eq_true_iff]
theorem IP{x:Hs}{lev:Nat}{l:List Pr}{k:ByteArray}:cG (part x lev (ck x lev k) l) k=cG l k:=by
 unfold cG;rw[jf,cA,cA];constructor
 ·rintro⟨p,a,e⟩;exact⟨p,(nM.1 a).1,e⟩
 ·rintro⟨p,a,e⟩;exact⟨p,nM.2 ⟨a,by rw[of_decide_eq_true e]⟩,e⟩
theorem ju{x:Hs}{lev c:Nat}{l:List Pr}(a:bS l):bS (part x lev c l):=a.sublist List.filter_sublist
theorem lx{x:Hs}{lev c:Nat}{l:List Pr}:(part x lev c l).length≤l.length:=fQ ..
def SlotIs(W:Nat→Prop)(x:Hs)(h:ad)(m:Nat)(s:Slots)(c:Nat)(l:List Pr):Prop:=
 (l= []∧s.p c=none∧s.k c=none)∨(∃p,l= [p]∧s.p c=some p∧s.k c=none)∨(2≤l.length∧s.p c=none∧∃kb,s.k c=some (some ⟨kb,0,none⟩)∧TrieAt W x h m kb l)
theorem SlotIs.upd0{W:Nat→Prop}{x:Hs}{h h':ad}{m:Nat}{s:Slots}{c:Nat}{l:List Pr}(k:Upd No h h')(t:SlotIs W x h m s c l):SlotIs W x h' m s c l:=t.imp id fun o=>o.imp id fun⟨d,h2,a,e,b⟩=>⟨d,h2,a,e,TrieAt.upd0 k b⟩
theorem QQ(p:Pr):∀{l:List Pr},l.length≤(hJ p l).length
 | []=>aS _
 |q::l=>by
  rw[hH];split
  ·have:=QQ p (l:=l);simp only[al];omega
  ·split<;>simp
theorem VW{W:Nat→Prop}{x:Hs}{h h':ad}{m b':Nat}{s s':Slots}{l:List Pr}{p:Pr}(j:bS l)(b:Upd No h h')(a:NodeAt W h' b' s')(i:∀c,c<32→SlotIs W x h m s c (part x (12-m) c l))
  (d:∀c,c≠ck x (12-m) p.1→s'.p c=s.p c∧s'.k c=s.k c)(hi:SlotIs W x h' m s' (ck x (12-m) p.1) (hJ p (part x (12-m) (ck x (12-m) p.1) l))):TrieAt W x h' (m+1) b' (hJ p l):=by
 refine⟨s',a,fun c hc=>?_⟩
 rw[Qw j];by_cases e:ck x (12-m) p.1=c
 ·rw[if_pos e];subst e;exact hi
 ·rw[if_neg e]
  have t:=SlotIs.upd0 b (i c hc);obtain⟨g,f⟩:=d c fun h=>e h.symm
  unfold SlotIs at t;rw[←g,←f]at t;exact t
theorem fg{a b:ByteArray}:(a.toList==b.toList)=decide (a=b):=by
 rw[jf,beq_iff_eq,decide_eq_true_iff,Gq]
theorem abO{W:Nat→Prop}{x:Hs}:∀(m:Nat),m≤13→∀{b:Nat} {l:List Pr} (p:Pr) {h:ad},TrieAt W x h m b l→(∀y,W y→y<h.size)→bS l→l.length≤1000000→∀{K:(Option Addr)×Bool×Bool→ad→Prop},
  (∀h' b' ch,Upd No h h'→TrieAt W x h' m b' (hJ p l)→(ch=false→b'=b)→ch= !decide (p∈l)→K (some ⟨b',0,none⟩, !cG l p.1,ch) h')→
  HC PG ll [XH x p.1,.pointer (some ⟨b,0,none⟩),.agg #[.string p.1,.string p.2],.int .i64 ((13-m:Nat):Int)] [.c .ptr,.c .bool,.c .bool] K h:=by
 intro m;induction m with
 |zero=>
  intro _ b l p h t hW Q hn K G;have T:∀{h'},Upd No h h'→∀y,W y→y<h'.size:=fun k y hy=>aD (hW y hy) k.size
  refine yV (x.k0,x.k1,x.mask,none,p.1,eP x p.1) (some ⟨b,0,none⟩) p ((13-0:Nat):Int) ?_;unfold uk af aH nv az lN vu w9 rV AB CW od CV Ol;have k1:=Upd.hnew No h [.int .u64 x.k0,.int .u64 x.k1,.int .u64 x.mask,.pointer none,.string p.1,.int .u64 (eP x p.1)] dd;have b1:=cq h [.int .u64 x.k0,.int .u64 x.k1,.int .u64 x.mask,.pointer none,.string p.1,.int .u64 (eP x p.1)] dd
  refine bM ?_;simp only[cR h];generalize hnew h [.int .u64 x.k0,.int .u64 x.k1,.int .u64 x.mask,.pointer none,.string p.1,.int .u64 (eP x p.1)] dd=C at k1 b1;have k2:=Upd.hnew No C [.string p.1,.string p.2] ao;have b2:=cq C [.string p.1,.string p.2] ao;refine bM ?_;simp only[cR C];generalize hnew C [.string p.1,.string p.2] ao=h2 at k2 b2
  have o:∀{h':ad},Upd No h2 h'→∀i,aO h' (adr ⟨h.size,0,none⟩ i)=(#[.int .u64 x.k0,.int .u64 x.k1,.int .u64 x.mask,.pointer none,.string p.1,.int .u64 (eP x p.1)]:Array Value)[i]?:=fun k i=>by
   rw[cp,bF (k.get0 (k2.get0 b1)),aQ]
  have B:∀{h':ad},Upd No h2 h'→∀i,aO h' (adr ⟨C.size,0,none⟩ i)=(#[.string p.1,.string p.2]:Array Value)[i]?:=fun k i=>by rw[cp,bF (k.get0 b2),aQ]
  have r:=Upd.refl No h2;have d:=k1.tr k2;have bk:BuckAt W h2 b l:=BuckAt.upd t d fun _ h=>h.elim
  obtain⟨sp,sk,ow,hb,_⟩:=bk.ex;refine gL hb (au.2 ⟨_,B r 0,abj bk Q (by omega) p.1 fun J v H hv=>?_⟩)
  have put:∀(U:p∉l) {h4:ad},Upd No h2 h4→HC PG kF [.pointer (some ⟨b,0,none⟩),.pointer none,.agg #[.string p.1,.string p.2]] [.c .ptr] (fun(e15:Option Addr) h16=>K (e15, !cG l p.1,true) h16) h4:=fun U h4 n=>
   Iw (bk.upd n fun _ h=>h.elim) (T (d.tr n)) Q (by omega) p fun h5 b5 bk5 X=>by
    rw[Ew p Q]at bk5;exact G h5 b5 true ((d.tr n).tr X) bk5 (fun h=>by cases h) (by rw[decide_eq_false U];rfl)
  refine Join.intro (fun t' h'=>t'=decide (p∈l)∧Upd No h2 h') (fun R hR=>?_) ?_
  ·cases E:cG l p.1 with
   |false=>
    refine ag.2 (hR _ _ ⟨?_,H⟩);refine(decide_eq_false fun hm=>?_).symm
    have:cG l p.1=true:=cA.2 ⟨p,hm,decide_eq_true rfl⟩;rw[E]at this;cases this
   |true=>
    have hv:=hv E;refine au.2 ⟨_,B H 1,hR _ _ ⟨?_,H⟩⟩;rw[fg,decide_eq_decide];constructor
    ·intro e
     have e:v=p.2:=e;rw[e]at hv;exact hv
    ·intro hm
     exact Jl Q hv (show(p.1,p.2)∈l from hm)
  ·rintro t' h4 ⟨rfl,n⟩
   by_cases hm:p∈l
   ·rw[decide_eq_true hm]
    refine au.2 ?_;have E:cG l p.1=true:=cA.2 ⟨p,hm,decide_eq_true rfl⟩;have:=G h4 b false (d.tr n) (by rw[Im Q hm];exact bk.upd n fun _ h=>h.elim) (fun _=>rfl) (by rw[decide_eq_true hm];rfl)
    rw[E]at this;exact this
   ·rw[decide_eq_false hm]
    refine ag.2 ⟨none,o n 3,_,B n 0,_,B n 1,put hm n⟩
 |succ m ih=>
  intro hm b l p h t hW Q hn K G;have T:∀{h'},Upd No h h'→∀y,W y→y<h'.size:=fun k y hy=>aD (hW y hy) k.size
  have hl:13-(m+1)<13:=by omega
  have hlev:13-(m+1)=12-m:=by omega
  refine yV (x.k0,x.k1,x.mask,none,p.1,eP x p.1) (some ⟨b,0,none⟩) p ((13-(m+1):Nat):Int) ?_;unfold uk af aH nv az lN vu w9 rV AB CW od CV Ol;have k1:=Upd.hnew No h [.int .u64 x.k0,.int .u64 x.k1,.int .u64 x.mask,.pointer none,.string p.1,.int .u64 (eP x p.1)] dd;have b1:=cq h [.int .u64 x.k0,.int .u64 x.k1,.int .u64 x.mask,.pointer none,.string p.1,.int .u64 (eP x p.1)] dd
  refine bM ?_;simp only[cR h];generalize hnew h [.int .u64 x.k0,.int .u64 x.k1,.int .u64 x.mask,.pointer none,.string p.1,.int .u64 (eP x p.1)] dd=C at k1 b1;have k2:=Upd.hnew No C [.string p.1,.string p.2] ao;have b2:=cq C [.string p.1,.string p.2] ao;refine bM ?_;simp only[cR C];generalize hnew C [.string p.1,.string p.2] ao=h2 at k2 b2
  have o:∀{h':ad},Upd No h2 h'→∀i,aO h' (adr ⟨h.size,0,none⟩ i)=(#[.int .u64 x.k0,.int .u64 x.k1,.int .u64 x.mask,.pointer none,.string p.1,.int .u64 (eP x p.1)]:Array Value)[i]?:=fun k i=>by
   rw[cp,bF (k.get0 (k2.get0 b1)),aQ]
  have B:∀{h':ad},Upd No h2 h'→∀i,aO h' (adr ⟨C.size,0,none⟩ i)=(#[.string p.1,.string p.2]:Array Value)[i]?:=fun k i=>by rw[cp,bF (k.get0 b2),aQ]
  have r:=Upd.refl No h2;have d:=k1.tr k2;obtain⟨s,nd0,hs0⟩:=TrieAt.upd0 d t;have hs:∀c,c<32→SlotIs W x h2 m s c (part x (12-m) c l):=hs0;have tt:∀{h':ad},Upd No h2 h'→TrieAt W x h' (m+1) b l:=fun k=>TrieAt.upd0 (d.tr k) t
  obtain⟨d0,n0,sp0,sk0,ow0,hb0,_⟩:=nd0.ex;refine gL hb0 (ag.2 ⟨_,o r 5,TM hl ?_⟩);rw[hlev];have hi:=Af x (12-m) p.1;have P:=hs _ hi;have V:=ju (x:=x) (lev:=12-m) (c:=ck x (12-m) p.1) Q;have Y:(part x (12-m) (ck x (12-m) p.1) l).length≤1000000:=bh lx hn;have N:p∈part x (12-m) (ck x (12-m) p.1) l↔p∈l:=by rw[nM];exact⟨fun h=>h.1,fun h=>⟨h,rfl⟩⟩
  have M:=IP (x:=x) (lev:=12-m) (l:=l) (k:=p.1);have g:=fun{h':ad} {b':Nat} {s':Slots}=>VW (W:=W) (x:=x) (h:=h2) (h':=h') (m:=m) (b':=b') (s:=s) (s':=s') (l:=l) (p:=p) Q
  generalize hc:ck x (12-m) p.1=c at hi P V Y N M g;generalize hlp:part x (12-m) c l=lc at P V Y N M g;refine AL nd0 hi fun J H=>?_
  have k4:=Upd.hnew No J [.string (⟨#[]⟩:ByteArray),.string (⟨#[]⟩:ByteArray)] ao;have b4:=cq J [.string (⟨#[]⟩:ByteArray),.string (⟨#[]⟩:ByteArray)] ao;refine bM ?_;simp only[cR J];generalize hnew J [.string (⟨#[]⟩:ByteArray),.string (⟨#[]⟩:ByteArray)] ao=h4 at k4 b4;have b4':h4[J.size]? =some (.cells #[.string Sb.1,.string Sb.2] ao (0,0)):=b4
  refine G7 (p:=Gd (s.p c)) b4' fun h5 b5 X=>?_
  have a:Upd No h2 h5:=(H.tr k4).trans X fun y hy=>.inr (by have hy:y=J.size:=hy;have:=H.size;omega)
  have w5:∀{h':ad},Upd No h5 h'→∀i,aO h' (adr ⟨J.size,0,none⟩ i)=(#[.string (Gd (s.p c)).1,.string (Gd (s.p c)).2]:Array Value)[i]?:=fun k i=>by rw[cp,bF (k.get0 b5),aQ]
  have r5:=Upd.refl No h5;have L:=nd0.upd a fun _ h=>h.elim
  cases hsp:s.p c with
  |some y=>
   rw[hsp]at w5;obtain⟨w,hk0⟩:lc= [y]∧s.k c=none:=by
    rcases P with⟨_,h2,_⟩|⟨q,C,h2,J⟩|⟨_,h2,_⟩
    ·rw[hsp]at h2;cases h2
    ·rw[hsp]at h2;cases h2;exact⟨C,J⟩
    ·rw[hsp]at h2;cases h2
   refine au.2 ⟨y.1,w5 r5 0,y.2,w5 r5 1,p.1,B a 0,p.2,B a 1,?_⟩;rw[fg,fg];have hyl:y∈l:=(nM.1 (show y∈part x (12-m) c l by rw[hlp,w];exact aF.2 rfl)).1
   by_cases I:y.1=p.1
   ·have E:cG l p.1=true:=cA.2 ⟨y,hyl,decide_eq_true I⟩
    rw[E]at G;by_cases e2:y.2=p.2
    ·rw[decide_eq_true I,decide_eq_true e2]
     have hyp:y=p:=ze I e2;have u:p∈l:=hyp▸hyl;refine au.2 ?_;exact G h5 b false (d.tr a) (by rw[Im Q u];exact tt a) (fun _=>rfl) (by rw[decide_eq_true u];rfl)
    ·rw[decide_eq_true I,decide_eq_false e2]
     refine ag.2 ⟨y.1,w5 r5 0,p.1,B a 0,?_⟩;rw[fg,decide_eq_true I];refine au.2 ⟨none,o a 3,p.1,B a 0,p.2,B a 1,?_⟩;refine tP L (T (d.tr a)) hi (fun _ _=>hk0) p fun h6 S Z f=>?_
     have O:p∉l:=fun hm=>by
      have:=N.2 hm;rw[w]at this;exact e2 (by rw[aF.1 this])
     refine G h6 S true ((d.tr a).tr f) (g (a.tr f) Z hs (fun c' j=>⟨gr j,gr j⟩) ?_) (fun h=>by cases h) (by rw[decide_eq_false O];rfl)
     refine .inr (.inl ⟨p,?_,gS,gS⟩);rw[w,hH,if_neg (by rw[I];exact co _),if_pos I]
   ·rw[decide_eq_false I]
    refine ag.2 ⟨y.1,w5 r5 0,p.1,B a 0,?_⟩;rw[fg,decide_eq_false I];refine ag.2 ⟨none,o a 3,_,o a 0,_,o a 1,_,o a 2,_,o a 3,_,o a 4,_,o a 5,y.1,w5 r5 0,y.2,w5 r5 1,p.1,B a 0,p.2,B a 1,?_⟩;have ew:IntKind.wrap .i64 (((12-m:Nat):Int)+1)=((13-m:Nat):Int):=by rw[dI (by omega)];omega
    rw[ew];refine aa1 m y p (by omega) I (T (d.tr a)) fun h6 S t6 f=>⟨o (a.tr f) 3,?_⟩
    refine yu (L.upd f fun _ h=>h.elim) (T ((d.tr a).tr f)) hi (fun z hz=>by rw[hk0]at hz;cases hz) ⟨S,0,none⟩ fun h7 b7 nd7 D=>?_
    have E:cG l p.1=false:=by
     rw[←M,w];unfold cG;rw[uF,decide_eq_false I];rfl
    have O:p∉l:=fun hm=>by
     have:cG l p.1=true:=cA.2 ⟨p,hm,decide_eq_true rfl⟩;rw[E]at this;cases this
    rw[E]at G;refine G h7 b7 true (((d.tr a).tr f).tr D) (g ((a.tr f).tr D) nd7 hs (fun c' j=>⟨gr j,gr j⟩) ?_) (fun h=>by cases h) (by rw[decide_eq_false O];rfl)
    rw[w];exact .inr (.inr ⟨by rw[UP I];omega,gS,S,gS,TrieAt.upd0 D t6⟩)
  |none=>
   refine ag.2 (xk L hi ?_);cases hsk:s.k c with
   |none=>
    have hlc:lc= []:=by
     rcases P with⟨C,_⟩|⟨q,_,h2,_⟩|⟨_,_,kb,h2,_⟩
     ·exact C
     ·rw[hsp]at h2;cases h2
     ·rw[hsk]at h2;cases h2
    refine au.2 ⟨none,o a 3,p.1,B a 0,p.2,B a 1,?_⟩;refine tP L (T (d.tr a)) hi (fun _ _=>hsk) p fun h6 S Z f=>?_
    have E:cG l p.1=false:=by rw[←M,hlc];rfl
    have O:p∉l:=fun hm=>by
     have:cG l p.1=true:=cA.2 ⟨p,hm,decide_eq_true rfl⟩;rw[E]at this;cases this
    rw[E]at G;refine G h6 S true ((d.tr a).tr f) (g (a.tr f) Z hs (fun c' j=>⟨gr j,gr j⟩) ?_) (fun h=>by cases h) (by rw[decide_eq_false O];rfl)
    rw[hlc];exact .inr (.inl ⟨p,rfl,gS,gS⟩)
   |some kp=>
    obtain⟨h2l,kb,rfl,tk⟩:2≤lc.length∧∃kb,kp=some ⟨kb,0,none⟩∧TrieAt W x h2 m kb lc:=by
     rcases P with⟨_,_,h2⟩|⟨q,_,h2,_⟩|⟨C,_,kb,h2,J⟩
     ·rw[hsk]at h2;cases h2
     ·rw[hsp]at h2;cases h2
     ·rw[hsk]at h2;cases h2;exact⟨C,kb,rfl,J⟩
    refine ag.2 ⟨_,o a 0,_,o a 1,_,o a 2,_,o a 3,_,o a 4,_,o a 5,p.1,B a 0,p.2,B a 1,?_⟩;have ew:IntKind.wrap .i64 (((12-m:Nat):Int)+1)=((13-m:Nat):Int):=by rw[dI (by omega)];omega
    rw[ew];refine ih (by omega) p (TrieAt.upd0 a tk) (T (d.tr a)) V Y fun h6 S ch f t6 hsame F=>?_
    have A:=a.tr f;by_cases u:p∈l
    ·have F:ch=false:=by rw[F,decide_eq_true (N.2 u)];rfl
     have E:cG l p.1=true:=cA.2 ⟨p,u,decide_eq_true rfl⟩;rw[E]at G;rw[F];refine au.2 ?_;exact G h6 b false (d.tr A) (by rw[Im Q u];exact tt A) (fun _=>rfl) (by rw[decide_eq_true u];rfl)
    ·have F:ch=true:=by rw[F,decide_eq_false fun h=>u (N.1 h)];rfl
     rw[F];refine ag.2 ⟨none,o A 3,?_⟩;refine yu (L.upd f fun _ h=>h.elim) (T ((d.tr a).tr f)) hi (fun _ _=>hsp) ⟨S,0,none⟩ fun h7 b7 nd7 D=>?_
     rw[M];refine G h7 b7 true ((d.tr A).tr D) (g (A.tr D) nd7 hs (fun c' j=>⟨gr j,gr j⟩) ?_) (fun h=>by cases h) (by rw[decide_eq_false u];rfl)
     exact .inr (.inr ⟨bh h2l (QQ p),gS,S,gS,TrieAt.upd0 D t6⟩)
end Go.Proofs
namespace Go.Proofs
open Go.Lift
theorem PV{W:Nat→Prop}{x:Hs}{h:ad}{m b:Nat}(a:NodeAt W h b ⟨fun _=>none,fun _=>none⟩):TrieAt W x h (m+1) b []:=⟨_,a,fun _ _=>.inl ⟨rfl,rfl,rfl⟩⟩
def RootAt(W:Nat→Prop)(x:Hs)(h:ad)(r:Option Addr)(l:List Pr):Prop:=(r=none∧l= [])∨∃b,r=some ⟨b,0,none⟩∧TrieAt W x h 13 b l
theorem RootAt.upd0{W:Nat→Prop}{x:Hs}{h h':ad}{r:Option Addr}{l:List Pr}(k:Upd No h h')(t:RootAt W x h r l):RootAt W x h' r l:=t.imp id fun⟨b,e,t⟩=>⟨b,e,TrieAt.upd0 k t⟩
theorem N4{W:Nat→Prop}{x:Hs}{h:ad}{r:Option Addr}{l:List Pr}(t:RootAt W x h r l)(e:∀y,W y→y<h.size){K:Option Addr→ad→Prop}(a:∀h' b,TrieAt W x h' 13 b l→Upd No h h'→(r=some ⟨b,0,none⟩∨r=none)→K (some ⟨b,0,none⟩) h'):HC PG nq [.pointer r] [.c .ptr] K h:=by
 refine Pl r ?_;unfold FB;rcases t with⟨rfl,rfl⟩|⟨b,rfl,t⟩
 ·refine au.2 (Cz ?_)
  unfold yo;exact se e fun h' b c d=>a h' b (PV c) d (.inr rfl)
 ·exact ag.2 (a h b t (Upd.refl _ _) (.inl rfl))
theorem dH{h:ad}{b:Nat}{t:TypeId}{c vs:List Value}(a:h[b]? =some (.cells c.toArray t (0,0))) (d:vs.length=c.length) {k:ad→Prop}
  (f:∀h',h'[b]? =some (.cells vs.toArray t (0,0))→Upd (· =b) h h'→k h'):wn h (some ⟨b,0,none⟩) 0 vs∧At (jj h ⟨b,0,none⟩ 0 vs) k:=by
 have e:=lS vs h 0 0 c a (by omega);refine⟨.inr ⟨_,rfl,fun j g=>by rw[cp];exact iw a (by rw[List.size_toArray];omega)⟩,bM ?_⟩
 rw[e];refine f _ ?_ (Upd.set h _ rfl);rw[jZ a];congr 3
 simp[d]
set_option maxRecDepth 4000 in
theorem Re{W:Nat→Prop}{x:Hs}{h:ad}{r:Option Addr}{l:List Pr}(t:RootAt W x h r l)(P:∀y,W y→y<h.size)(T:bS l)(Z:l.length≤1000000)(p:Pr){K:Option Addr×Bool→ad→Prop}
  (Y:∀h' b',Upd No h h'→TrieAt W x h' 13 b' (hJ p l)→(p∈l→r=some ⟨b',0,none⟩∨r=none)→K (some ⟨b',0,none⟩, !cG l p.1) h'):
  HC PG Bb [.agg #[.int .u64 x.k0,.int .u64 x.k1,.int .u64 x.mask],.pointer none,.pointer r,.agg #[.string p.1,.string p.2]] [.c .ptr,.c .bool] K h:=by
 refine RM (x.k0,x.k1,x.mask) none r p ?_;unfold HN af aH eW BK xa az w9 rV abp abx CW;have k1:=Upd.hnew No h [.int .u64 x.k0,.int .u64 x.k1,.int .u64 x.mask] cE;have b1:=cq h [.int .u64 x.k0,.int .u64 x.k1,.int .u64 x.mask] cE;refine bM ?_;simp only[cR h];generalize hnew h [.int .u64 x.k0,.int .u64 x.k1,.int .u64 x.mask] cE=h1 at k1 b1
 have F:=Upd.hnew No h1 [.string p.1,.string p.2] ao;have b2:=cq h1 [.string p.1,.string p.2] ao;refine bM ?_;simp only[cR h1];generalize hnew h1 [.string p.1,.string p.2] ao=h2 at F b2;have e:∀{h':ad},Upd No h2 h'→∀i,aO h' (adr ⟨h.size,0,none⟩ i)=(#[.int .u64 x.k0,.int .u64 x.k1,.int .u64 x.mask]:Array Value)[i]?:=fun k i=>by
  rw[cp,bF (k.get0 (F.get0 b1)),aQ]
 have n:∀{h':ad},Upd No h2 h'→∀i,aO h' (adr ⟨h1.size,0,none⟩ i)=(#[.string p.1,.string p.2]:Array Value)[i]?:=fun k i=>by rw[cp,bF (k.get0 b2),aQ]
 have s:=Upd.refl No h2;have q:=k1.tr F;let C:List Value:= [.int .u64 0,.int .u64 0,.int .u64 0,.pointer none,.string (⟨#[]⟩:ByteArray),.int .u64 0]
 let D:List Value:= [.int .u64 x.k0,.int .u64 x.k1,.int .u64 x.mask,.pointer none,.string p.1,.int .u64 (eP x p.1)]
 have z:∀{g:ad} {b:Nat},Upd No h2 g→g[b]? =some (.cells D.toArray dd (0,0))→
   ∃v15:Int,aO g (adr ⟨b,0,none⟩ 0)=some (.int .u64 v15)∧
    ∃v16:Int,aO g (adr ⟨b,0,none⟩ 1)=some (.int .u64 v16)∧
    ∃v17:Int,aO g (adr ⟨b,0,none⟩ 2)=some (.int .u64 v17)∧
    ∃v18:Option Addr,aO g (adr ⟨b,0,none⟩ 3)=some (.pointer v18)∧
    ∃v19:ByteArray,aO g (adr ⟨b,0,none⟩ 4)=some (.string v19)∧
    ∃v20:Int,aO g (adr ⟨b,0,none⟩ 5)=some (.int .u64 v20)∧
    ∃v21:ByteArray,aO g (adr ⟨h1.size,0,none⟩ 0)=some (.string v21)∧
    ∃v22:ByteArray,aO g (adr ⟨h1.size,0,none⟩ 1)=some (.string v22)∧
    HC PG nq [.pointer r] [.c .ptr] (fun(O:Option Addr) f=>
     ((aO f (adr ⟨h1.size,0,none⟩ 0)=some (.string v21)∧aO f (adr ⟨h1.size,0,none⟩ 1)=some (.string v22))∧
      ((aO f (adr ⟨b,0,none⟩ 0)=some (.int .u64 v15)∧aO f (adr ⟨b,0,none⟩ 1)=some (.int .u64 v16)∧aO f (adr ⟨b,0,none⟩ 2)=some (.int .u64 v17)∧aO f (adr ⟨b,0,none⟩ 3)=some (.pointer v18)∧aO f (adr ⟨b,0,none⟩ 4)=some (.string v19)∧aO f (adr ⟨b,0,none⟩ 5)=some (.int .u64 v20))∧
       HC PG ll [.agg #[.int .u64 v15,.int .u64 v16,.int .u64 v17,.pointer v18,.string v19,.int .u64 v20],.pointer O,.agg #[.string v21,.string v22],.int .i64 0] [.c .ptr,.c .bool,.c .bool] (fun(B:(Option Addr)×Bool×Bool) M=>
        K (B.1,B.2.1) M) f))) g:=fun{g b} d N=>by
  have m:∀{h':ad},Upd No g h'→∀i,aO h' (adr ⟨b,0,none⟩ i)=D.toArray[i]?:=fun k i=>by rw[cp,bF (k.get0 N),aQ]
  have v:=Upd.refl No g;refine⟨_,m v 0,_,m v 1,_,m v 2,_,m v 3,_,m v 4,_,m v 5,p.1,n d 0,p.2,n d 1,?_⟩;refine N4 (t.upd0 (q.tr d)) (fun y A=>aD (P y A) (q.tr d).size) fun Q L U c J=>?_
  have a:=d.tr c;refine⟨⟨n a 0,n a 1⟩,⟨m c 0,m c 1,m c 2,m c 3,m c 4,m c 5⟩,?_⟩;refine abO 13 (aj _) p U (fun y A=>aD (P y A) ((q.tr d).tr c).size) T Z fun R E ch u V X H=>?_
  refine Y R E ((q.tr a).tr u) V fun hm=>?_
  have G:E=L:=X (by rw[H,decide_eq_true hm];rfl);rw[G];exact J
 have own:∀{w g:ad} {b:Nat},h2.size≤b→Upd (· =b) w g→Upd No h2 w→Upd No h2 g:=fun G S k=>k.trans S fun y A=>.inr (A▸G)
 refine⟨_,e s 0,_,e s 1,_,e s 2,_,n s 0,_,e s 0,_,e s 1,_,e s 2,_,n s 0,?_,?_⟩
 ·refine vN fun w j=>⟨n j 0,⟨e j 0,e j 1,e j 2⟩,?_⟩
  have o:=Upd.hnew No w C dd;have I:=cq w C dd;have d:=j.tr o;refine bM ?_;simp only[cR w];refine⟨n d 0,⟨e d 0,e d 1,e d 2⟩,?_⟩;refine dH (vs:=D) I rfl fun Q L c=>z (own j.size c d) L
 ·have o:=Upd.hnew No h2 C dd
  have I:=cq h2 C dd;refine bM ?_;simp only[cR h2];refine⟨n o 0,⟨e o 0,e o 1,e o 2⟩,n o 0,⟨e o 0,e o 1,e o 2⟩,?_⟩;refine vN fun Q c=>?_
  have a:=o.tr c;refine⟨n a 0,⟨e a 0,e a 1,e a 2⟩,?_⟩;exact dH (vs:=D) (c.get0 I) rfl fun R E u=>z (own (aj _) u a) E
end Go.Proofs
namespace Go.Proofs
open Go.Lift
abbrev rO(b:UInt8):List Value:= [.int .u8 (b.toNat:Int)]
theorem wJ(b:UInt8):(rO b).length=1∧0<1:=⟨rfl,Nat.one_pos⟩
theorem Ek:∀xs:List UInt8,cH (xs.flatMap rO)=true
 | []=>rfl
 |x::xs=>by rw[aP];exact nh rfl (Ek xs)
theorem uV(s:ByteArray):eM s=s.data.toList.flatMap rO:=by
 unfold eM;generalize s.data.toList=l;induction l with
 |nil=>rfl
 |cons b l ih=>rw[eB,aP,ih];rfl
theorem yO{M:Nat→Prop}{h:ad}{so:SliceV}{out:List UInt8}{v:Int}{b:UInt8}(hv:v=(b.toNat:Int)){K:SliceV→ad→Prop}(e:OwnS rO 1 cP M h so out)(hM:∀b,h.size≤b→M b)(g:out.length+1≤140737488355328)
  (f:∀s' h',OwnS rO 1 cP M h' s' (out++ [b])→Upd M h h'→K s' h'):
  ∃xs,SRow (hnew h [.int .u8 v] cP) (some (aG h)) (1*1) xs∧AppP (some [.int .u8 0]) 1 1 cP so.a so.len so.cap 1 xs (hnew h [.int .u8 v] cP) K:=by
 subst hv;have k:=Upd.hnew No h [.int .u8 (b.toNat:Int)] cP;have c:OwnS rO 1 cP (fun _=>True) (hnew h [.int .u8 (b.toNat:Int)] cP) ⟨some (aG h),1,1⟩ [b]:=⟨rfl,wJ,aj _,.inr ⟨h.size,[],rfl,trivial,cq ..,rfl⟩⟩
 refine⟨_,(c.sl (W:=No) fun _ _ _ h=>h).srow,?_⟩
 refine AppP.own (ys:= [b]) (e.upd k fun _ _ h=>h) rfl rfl rfl rfl (by omega) (by simp only[aE];omega) (hM _ (by rw[jw];omega)) fun s' h' a d=>?_
 exact f s' h' a ((Upd.hnew M h _ _).tr d)
def pm(n k:Nat):List UInt8:=(gg k).map fun i=>ii (n>>>(8*i))
theorem BN(n k:Nat):pm n (k+1)=pm n k++ [ii (n>>>(8*k))]:=by unfold pm;rw[lV,du];rfl
theorem dS(n k:Nat):(pm n k).length=k:=by simp[pm]
theorem Tg{M:Nat→Prop}{h:ad}{s:SliceV}{xs:List UInt8}(o:OwnS rO 1 cP M h s xs)(hM:∀b,h.size≤b→M b){n k:Nat}(B:n<18446744073709551616)(u:k≤8)(y:xs.length+k≤140737488355328){K:SliceV→ad→Prop}
  (x:∀s' h',OwnS rO 1 cP M h' s' (xs++pm n k)→Upd M h h'→K s' h'):HC PG pr [.slice s.a s.len s.cap,.int .u64 n,.int .i64 k] [.c .slice] K h:=by
 refine Hr s n k ?_;unfold Bp;refine LoopP.ghost (fun(i:Nat) (t:SliceV×Int) h'=>t.2=(i:Int)∧i≤k∧OwnS rO 1 cP M h' t.1 (xs++pm n i)∧Upd M h h') (fun i=>k-i) 0 ⟨rfl,aS _,by simpa[pm]using o,Upd.refl _ _⟩ ?_
 rintro I i ⟨so,A⟩ h' ⟨m,hi,c,d⟩ q;simp only at m c;subst m;refine ax (fun a=>?_) fun j=>?_
 ·have a:i<k:=by have:(i:Int)<(k:Int):=a;omega
  have v:IntKind.wrap .i64 (8*(i:Int))=((8*i:Nat):Int):=by rw[dI (by omega)];omega
  have w:min (((8*i:Nat):Int)).toNat (IntKind.bits .u64)=8*i:=by rw[aR];exact bN (by show 8*i≤64;omega)
  refine Join.plain ?_;simp only[Bd];rw[v,w,pq];refine⟨by omega,bM ?_⟩;refine yO (b:=ii (n>>>(8*i))) ?_ c (fun b p=>hM b (bh d.size p)) (by rw[ac,dS];omega) fun z h2 f g=>?_
  ·rw[IntKind.wrap_u8];simp
  ·rw[db a (by omega)]
   refine q (i+1) _ _ ⟨rfl,a,?_,d.tr g⟩ (by omega);rw[BN,←ar];exact f
 ·have e:i=k:=by have:¬(i:Int)<(k:Int):=j;omega
  subst e;exact x _ _ c d
end Go.Proofs
namespace Go.Proofs
open Go Go.Lift
theorem Rn{α:Type}{f:α→List Value}{j a:Nat}{t:TypeId}{W:Nat→Prop}{h:ad}{d:Option Addr}{sl o n:Nat}{xs ys:List α}{g z:List Value}{K:SliceV→ad→Prop}
  (p:Sl f j W h ⟨d,sl,o⟩ xs)(m:n=ys.length)(q:g=ys.flatMap f)(v:z.length=j)(x:0<a)(i:o<sl+n)(e:(xs.length+ys.length)*a≤140737488355328)
  (s:∀s' h',OwnS f j t (fun b=>h.size≤b) h' s' (xs++ys)→Upd No h h'→K s' h'):AppP (some z) j a t d sl o n g h K:=by
 have c:sl=xs.length:=p.len;subst m q;refine⟨fun w=>by omega,fun _=>?_⟩
 refine⟨xs.flatMap f,z,p.srow,rfl,x,Go.growslice_fits i (by rw[c];exact e),fun u k=>?_⟩
 refine s _ _ ⟨by simp[c],p.ne,k,.inr ⟨h.size,eO (u-(sl+ys.length)) z,rfl,aj _,?_,?_⟩⟩ (Upd.hnew No h _ _)
 ·rw[cq,bR]
 ·rw[oZ,v]
theorem aaH{h:ad}{s:SliceV}{xs:List UInt8}(B:Sl rO 1 No h s xs)(hc:s.cap=s.len){n k:Nat}(w:k≤8)(v:0<k)(D:xs.length+k≤140737488355328){K:SliceV→ad→Prop}
  (C:∀s' h',OwnS rO 1 cP (fun b=>h.size≤b) h' s' (xs++pm n k)→Upd No h h'→K s' h'):HC PG pr [.slice s.a s.len s.cap,.int .u64 n,.int .i64 k] [.c .slice] K h:=by
 refine Hr s n k ?_;unfold Bp;refine LoopP.ghost (fun(i:Nat) (t:SliceV×Int) h'=>t.2=(i:Int)∧i≤k∧((i=0∧t.1=s∧h'=h)∨OwnS rO 1 cP (fun b=>h.size≤b) h' t.1 (xs++pm n i))∧Upd No h h') (fun i=>k-i) 0 ⟨rfl,aS _,.inl ⟨rfl,rfl,rfl⟩,Upd.refl _ _⟩ ?_
 rintro I i ⟨so,E⟩ h' ⟨q,hi,a,j⟩ p;simp only at q a;subst q;refine ax (fun c=>?_) fun o=>?_
 ·have c:i<k:=by have:(i:Int)<(k:Int):=c;omega
  have y:IntKind.wrap .i64 (8*(i:Int))=((8*i:Nat):Int):=by rw[dI (by omega)];omega
  have z:min (((8*i:Nat):Int)).toNat (IntKind.bits .u64)=8*i:=by rw[aR];exact bN (by show 8*i≤64;omega)
  refine Join.plain ?_;simp only[Bd];rw[y,z,pq];refine⟨by omega,bM ?_⟩;have u:IntKind.wrap .u8 ((n>>>(8*i):Nat):Int)=((ii (n>>>(8*i))).toNat:Int):=by rw[IntKind.wrap_u8];simp
  rcases a with⟨rfl,rfl,rfl⟩|a
  ·rw[u]
   have k1:=Upd.hnew No h' [.int .u8 ((ii (n>>>(8*0))).toNat:Int)] cP;have A:OwnS rO 1 cP (fun _=>True) (hnew h' [.int .u8 ((ii (n>>>(8*0))).toNat:Int)] cP) ⟨some (aG h'),1,1⟩ [ii (n>>>(8*0))]:=⟨rfl,wJ,aj _,.inr ⟨h'.size,[],rfl,trivial,cq ..,rfl⟩⟩
   refine⟨_,(A.sl (W:=No) fun _ _ _ h=>h).srow,?_⟩
   refine Rn (ys:= [ii (n>>>(8*0))]) (B.upd k1 fun _ h=>h.elim) rfl rfl rfl (by omega) (by omega) (by simp only[aE];omega) fun x h2 d f=>?_
   rw[db c (by omega)];refine p 1 _ _ ⟨rfl,c,.inr ?_,k1.tr f⟩ (by omega);exact d.more fun b g=>bh k1.size g
  ·refine yO u a (fun b g=>bh j.size g) (by rw[ac,dS];omega) fun x h2 d f=>?_
   rw[db c (by omega)];refine p (i+1) _ _ ⟨rfl,c,.inr ?_,j.trans f fun b g=>.inr g⟩ (by omega)
   rw[BN,←ar];exact d
 ·have m:i=k:=by have:¬(i:Int)<(k:Int):=o;omega
  subst m;rcases a with⟨e,_⟩|a
  ·omega
  ·exact C _ _ a j
def qw(s:ByteArray):List UInt8:=pm s.size 2++s.data.toList
theorem Ib{W:Nat→Prop}{h:ad}{s:SliceV}{xs:List UInt8}(j:Sl rO 1 W h s xs)(hc:s.len≤s.cap)(b:ByteArray)(w:b.size≤1000000)(u:xs.length+2+b.size≤140737488355328){K:SliceV→ad→Prop}
  (t:∀s' h',OwnS rO 1 cP (fun x=>h.size≤x) h' s' (xs++qw b)→Upd No h h'→K s' h'):HC PG pM [.slice s.a s.len s.cap,.string b] [.c .slice] K h:=by
 refine O9 s b ?_;unfold Fl;have i:=j.len;refine⟨by omega,by omega,?_⟩
 simp only[aR];have g:Sl rO 1 No h ⟨aY s.a 0 s.len 1,s.len-0,s.len-0⟩ xs:=by
  have:=Sl.sub (j.less (W':=No) fun _ h=>h.elim) (l:=0) (hi:=s.len) (m:=s.len) (c:=s.len-0) (aS _) (by omega) (aj _)
  rw[List.drop_zero,bo (by omega)]at this;exact this
 have o:IntKind.wrap .u64 (b.size:Int)=(b.size:Int):=Go.IntWalk.u64_in _ (by omega);rw[o];refine aaH g rfl (n:=b.size) (k:=2) (by omega) (by omega) (by omega) fun v h2 d a=>?_
 refine AppP.own (ys:=b.data.toList) d (by simp) (uV b) (by rw[uV];exact Ek _) rfl (by omega) ?_ a.size fun q p e f=>?_
 ·simp only[ac,dS]
  have:b.data.toList.length=b.size:=by simp
  omega
 ·refine t q p ?_ (a.trans f fun x hx=>.inr hx)
  rw[qw,←ar];exact e
end Go.Proofs
namespace Go.Proofs
open Go Go.Lift
def Hb(p:Pr):List UInt8:=qw p.1++qw p.2
def mL(l:List Pr):List UInt8:=l.flatMap Hb
theorem li(b:ByteArray):(qw b).length=2+b.size:=by simp[qw,dS]
def Fit(l:List Pr):Prop:=∀p∈l,p.1.size≤10000∧p.2.size≤10000
theorem WE{p:Pr}(h:p.1.size≤10000∧p.2.size≤10000):(Hb p).length≤20004:=by
 unfold Hb;rw[ac,li,li];omega
theorem pj:∀{l:List Pr},Fit l→(mL l).length≤l.length*20004
 | [],_=>by simp[mL]
 |p::l,h=>by
  have b:=WE (h p (av ..));have h2:=pj (l:=l) fun q a=>h q (aC _ a)
  unfold mL at*;rw[aP,ac,al];omega
theorem Ha{l:List Pr}{i:Nat}(hi:i<l.length):mL (l.take (i+1))=mL (l.take i)++Hb l[i]:=by
 unfold mL;rw[List.take_succ_eq_append_getElem hi,bR,aP,List.flatMap_nil,List.append_nil]
theorem Jb{M W:Nat→Prop}{h:ad}{s sp:SliceV}{xs:List UInt8}{l:List Pr}(H:OwnS rO 1 cP M h s xs)(hM:∀b,h.size≤b→M b)(D:Sl eu 2 W h sp l)(J:∀x,M x→x<h.size→W x)(B:Fit l)(Y:l.length≤1000000)(S:xs.length+l.length*20004≤140737488355328){K:SliceV→ad→Prop}
  (R:∀s' h',OwnS rO 1 cP M h' s' (xs++mL l)→Upd M h h'→K s' h'):HC PG uz [.slice s.a s.len s.cap,.slice sp.a sp.len sp.cap] [.c .slice] K h:=by
 refine LQ s sp ?_;unfold CD bX nv ay az lN is D2;have F:=D.len;have y:∀b,M b→W b∨h.size≤b:=fun b o=>by
  rcases Nat.lt_or_ge b h.size with hx|hx
  ·exact .inl (J b o hx)
  ·exact .inr hx
 refine LoopP.ghost (fun(i:Nat) (t:SliceV×Int) h'=>t.2=(i:Int)∧i≤l.length∧OwnS rO 1 cP M h' t.1 (xs++mL (l.take i))∧Upd M h h') (fun i=>l.length-i) 0 ⟨rfl,aS _,by simpa[mL]using H,Upd.refl _ _⟩ ?_
 rintro I i ⟨so,U⟩ h' ⟨C,hi,e,m⟩ L;simp only at C e;subst C;refine ax (fun c=>?_) fun z=>?_
 ·have c:i<l.length:=by have:(i:Int)<(sp.len:Int):=c;omega
  obtain⟨a,O,_,hv⟩:=(D.upd m y).at (ae c);have N:=B l[i] (bw c);have u:=pj (l:=l.take i) fun q G=>B q (List.mem_of_mem_take G)
  rw[List.length_take,bN hi]at u;have k1:=Upd.hnew No h' [.string (⟨#[]⟩:ByteArray),.string (⟨#[]⟩:ByteArray)] ao;have b1:=cq h' [.string (⟨#[]⟩:ByteArray),.string (⟨#[]⟩:ByteArray)] ao;refine⟨by simp only;omega,a,O,l[i].1,hv 0 _ rfl,l[i].2,hv 1 _ rfl,bM ?_⟩;simp only[cR h'];generalize hnew h' [.string (⟨#[]⟩:ByteArray),.string (⟨#[]⟩:ByteArray)] ao=h1 at k1 b1
  have n:h1[h'.size]? =some (.cells #[.string Sb.1,.string Sb.2] ao (0,0)):=b1;refine G7 (p:=l[i]) n fun h2 b2 w=>?_
  have d:Upd No h' h2:=k1.trans w fun x hx=>.inr (fS hx.symm)
  have g:=e.upd d fun _ _ h=>h
  refine⟨l[i].1,by rw[cp,bF b2];rfl,l[i].2,by rw[cp,bF b2];rfl,?_⟩
  have E:i*20004+20004≤l.length*20004:=by rw[←Nat.succ_mul];exact cB _ c
  refine Ib (W:=No) (g.sl fun _ _ _ h=>h) g.cap l[i].1 (by omega) (by rw[ac];omega) fun X V j f=>⟨by rw[cp,bF (f.get0 b2)];rfl,?_⟩
  refine Ib (W:=No) (j.sl fun _ _ _ h=>h) j.cap l[i].2 (by omega) (by rw[ac,ac,li];omega) fun T P v A=>?_
  have k:Upd M h P:=m.tr ((d.tr (f.tr A)).wide);rw[db c (by omega)];refine L (i+1) _ _ ⟨rfl,c,?_,k⟩ (by omega);rw[Ha c,Hb,←ar,←ar];exact v.more fun b o=>hM b (bh (m.tr ((d.tr f).wide)).size o)
 ·have Q:i=l.length:=by have:¬(i:Int)<(sp.len:Int):=z;omega
  rw[bo (by omega)]at e;exact R _ _ e m
end Go.Proofs
namespace Go.Proofs
open Go Go.Lift
def lB(q:Nat→Bool):Nat→Nat
 |0=>0
 |n+1=>lB q n+(if q n then 2^n else 0)
theorem pw(q:Nat→Bool):∀n,lB q n<2^n
 |0=>by simp[lB]
 |n+1=>by
  have:=pw q n;unfold lB;rw[qb];split<;>omega
theorem Gu(q:Nat→Bool)(c:Nat):∀n,(lB q n).testBit c=(decide (c<n)&&q c)
 |0=>by simp[lB]
 |n+1=>by
  have b:=pw q n;have d:=Gu q c n;unfold lB;by_cases a:q n=true
  ·rw[if_pos a,Nat.add_comm]
   rcases Nat.lt_trichotomy c n with h|h|h
   ·rw[Nat.testBit_two_pow_add_gt h,d,decide_eq_true h,decide_eq_true (by omega)]
   ·subst h
    rw[Nat.testBit_two_pow_add_eq,iJ b,decide_eq_true (by omega),a];rfl
   ·have f:2^n+lB q n<2^c:=aD (by rw[qb];omega:2^n+lB q n<2^(n+1)) (gf (by omega) h)
    rw[iJ f,decide_eq_false (by omega)];rfl
  ·rw[if_neg a,eN,d]
   by_cases h:c<n
   ·rw[decide_eq_true h,decide_eq_true (by omega)]
   ·by_cases e:c=n
    ·subst e;have:q c=false:=by simpa using a
     rw[this];simp
    ·rw[decide_eq_false h,decide_eq_false (by omega)]
theorem NC{d:Nat}{q:Nat→Bool}(hd:d<4294967296)(h:∀c,c<32→d.testBit c=q c):d=lB q 32:=by
 refine Nat.eq_of_testBit_eq fun c=>?_
 rw[Gu];by_cases hc:c<32
 ·rw[h c hc,decide_eq_true hc];rfl
 ·rw[decide_eq_false hc,iJ (aD hd (gf (n:=2) (by omega) (show 32≤c by omega)))];rfl
end Go.Proofs
namespace Go.Proofs
open Go Go.Lift
def kz(l:List Pr):Option Pr:=match l with| [p]=>some p|_=>none
def fY(l:List Pr):Option (List Pr):=if 2≤l.length then some l else none
def ix(x:Hs)(lev:Nat)(l:List Pr):List Pr:=fm (fun c=>kz (part x lev c l)) 32
def mA(x:Hs)(lev:Nat)(l:List Pr):List (List Pr):=fm (fun c=>fY (part x lev c l)) 32
def gt(x:Hs):Nat→List Pr→List UInt8
 |0,l=>1::(pm l.length 2++mL l)
 |m+1,l=>0::(pm (lB (fun c=>(kz (part x (12-m) c l)).isSome) 32) 4++(pm (lB (fun c=>(fY (part x (12-m) c l)).isSome) 32) 4++(mL (ix x (12-m) l)++(mA x (12-m) l).flatMap (gt x m))))
theorem IY{W:Nat→Prop}{x:Hs}{h:ad}{m:Nat}{s:Slots}{c:Nat}{l:List Pr}(t:SlotIs W x h m s c l):s.p c=kz l∧(s.k c).isSome=(fY l).isSome:=by
 rcases t with⟨rfl,d,h2⟩|⟨p,rfl,d,h2⟩|⟨e,d,f,h2,_⟩
 ·rw[d,h2];exact⟨rfl,rfl⟩
 ·rw[d,h2];exact⟨rfl,rfl⟩
 ·rw[d,h2]
  refine⟨?_,by simp[fY,e]⟩
  match l,e with
  |a::b::l,_=>rfl
def KidsAt(W:Nat→Prop)(x:Hs)(h:ad)(m:Nat):List (Option Addr)→List (List Pr)→Prop
 | [],[]=>True
 |k::ks,l::ls=>(∃kb,k=some ⟨kb,0,none⟩∧TrieAt W x h m kb l)∧KidsAt W x h m ks ls
 |_,_=>False
theorem KidsAt.app{W:Nat→Prop}{x:Hs}{h:ad}{m:Nat}:∀{ks ks':List (Option Addr)} {ls ls':List (List Pr)},KidsAt W x h m ks ls→KidsAt W x h m ks' ls'→KidsAt W x h m (ks++ks') (ls++ls')
 | [],_,[],_,_,q=>q
 |_::_,_,_::_,_,q,q'=>⟨q.1,KidsAt.app q.2 q'⟩
 | [],_,_::_,_,q,_=>q.elim
 |_::_,_,[],_,q,_=>q.elim
theorem jP{β:Type}(g:Nat→Option β)(n:Nat):fm g (n+1)=fm g n++(g n).toList:=by
 unfold fm;rw[lV,List.filterMap_append];cases h:g n<;>simp[h]
theorem Tm{W:Nat→Prop}{x:Hs}{h:ad}{m lev:Nat}{s:Slots}{l:List Pr}:∀n,(∀c,c<n→SlotIs W x h m s c (part x lev c l))→KidsAt W x h m (fm s.k n) (fm (fun c=>fY (part x lev c l)) n)
 |0,_=>trivial
 |n+1,hs=>by
  rw[jP,jP];refine KidsAt.app (Tm n fun c hc=>hs c (by omega)) ?_
  rcases hs n (by omega)with⟨a,_,h2⟩|⟨p,a,_,h2⟩|⟨a,_,b,h2,d⟩
  ·rw[h2,a];exact trivial
  ·rw[h2,a];exact trivial
  ·rw[h2]
   have:fY (part x lev n l)=some (part x lev n l):=by unfold fY;rw[if_pos a]
   simp only[this];exact⟨⟨b,rfl,d⟩,trivial⟩
theorem Ie{W:Nat→Prop}{x:Hs}{h:ad}{m lev:Nat}{s:Slots}{l:List Pr}(a:∀c,c<32→SlotIs W x h m s c (part x lev c l)):fm s.p 32=ix x lev l:=
 acS _ fun c hc=>(IY (a c (List.mem_range.1 hc))).1
end Go.Proofs
namespace Go.Proofs
open Go Go.Lift
theorem yy(x:Hs)(lev:Nat)(l:List Pr):∀n,(((gg n).map fun c=>(part x lev c l).length).sum)=(l.filter fun p=>decide (ck x lev p.1<n)).length
 |0=>by
  have:(l.filter fun p=>decide (ck x lev p.1<0))= []:=tA.2 fun p _=>by simp
  rw[this];rfl
 |n+1=>by
  rw[lV,du,qY,yy x lev l n];simp only[eB,kT,yp,List.sum_nil,eN];unfold part;clear yy;induction l with
  |nil=>rfl
  |cons p l ih=>
   simp only[bW,decide_eq_true_iff];split<;>split<;>split<;>first|omega|(simp only[al];omega)
theorem yr(x:Hs)(lev:Nat)(l:List Pr):(ix x lev l).length+(mA x lev l).flatten.length≤l.length:=by
 have h:=yy x lev l 32;have d:(l.filter fun p=>decide (ck x lev p.1<32)).length≤l.length:=fQ ..
 have:∀n,(fm (fun c=>kz (part x lev c l)) n).length+(fm (fun c=>fY (part x lev c l)) n).flatten.length≤((gg n).map fun c=>(part x lev c l).length).sum:=by
  intro n;induction n with
  |zero=>simp[fm]
  |succ n ih=>
   rw[jP,jP,lV,du,qY];simp only[ac,List.flatten_append,eB,kT,yp,List.sum_nil,eN];generalize part x lev n l=q;have:(kz q).toList.length+(fY q).toList.flatten.length≤q.length:=by
    match q with
    | []=>simp[kz,fY]
    | [a]=>simp[kz,fY]
    |a::b::q=>simp[kz,fY]
   omega
 have:=this 32;unfold ix mA;omega
end Go.Proofs
namespace Go.Proofs
open Go Go.Lift
theorem tS{x:Hs}{lev:Nat}{l:List Pr}{p:Pr}(h:p∈ix x lev l):p∈l:=by
 unfold ix fm at h;obtain⟨c,_,hc⟩:=nI.1 h;unfold kz at hc;split at hc
 ·rename_i q hq
  cases hc;have:p∈part x lev c l:=by rw[hq];exact aF.2 rfl
  exact(nM.1 this).1
 ·cases hc
theorem rM{x:Hs}{lev:Nat}{l L:List Pr}(h:L∈mA x lev l):2≤L.length∧∃c,L=part x lev c l:=by
 unfold mA fm at h;obtain⟨c,_,hc⟩:=nI.1 h;unfold fY at hc;split at hc
 ·cases hc;exact⟨by assumption,c,rfl⟩
 ·cases hc
theorem Fit.part{x:Hs}{lev c:Nat}{l:List Pr}(h:Fit l):Fit (part x lev c l):=fun p a=>h p (nM.1 a).1
theorem Ic{B:Nat}{f:List Pr→List UInt8}:∀{ls:List (List Pr)},(∀L∈ls,2≤L.length∧(f L).length≤9+L.length*B)→(ls.flatMap f).length≤ls.flatten.length*(B+9)
 | [],_=>by simp
 |L::ls,h=>by
  have a:=h L (av ..);have h2:=Ic (ls:=ls) fun M hM=>h M (aC _ hM)
  rw[aP,ac,List.flatten_cons,ac,lh];have:L.length*(B+9)=L.length*B+L.length*9:=Nat.mul_add ..;omega
theorem rg{x:Hs}:∀(m:Nat) {l:List Pr},Fit l→(gt x m l).length≤9+l.length*(20004+9*(m+1))
 |0,l,h=>by
  have:=pj h;unfold gt;rw[al,ac,dS];have:l.length*20004≤l.length*(20004+9*(0+1)):=gJ _ (by omega);omega
 |m+1,l,h=>by
  have j:=pj (l:=ix x (12-m) l) fun p e=>h p (tS e)
  have h2:=Ic (f:=gt x m) (ls:=mA x (12-m) l) (B:=20004+9*(m+1)) fun L g=>by
   obtain⟨d,c,rfl⟩:=rM g;exact⟨d,rg m h.part⟩
  have a:=yr x (12-m) l;unfold gt;rw[al,ac,ac,ac,dS,dS];have k:(ix x (12-m) l).length*20004≤(ix x (12-m) l).length*(20004+9*(m+1+1)):=gJ _ (by omega);have i:((ix x (12-m) l).length+(mA x (12-m) l).flatten.length)*(20004+9*(m+1+1))≤l.length*(20004+9*(m+1+1)):=cB _ a;rw[lh]at i
  have b:20004+9*(m+1)+9=20004+9*(m+1+1):=by omega
  rw[b]at h2;omega
end Go.Proofs
