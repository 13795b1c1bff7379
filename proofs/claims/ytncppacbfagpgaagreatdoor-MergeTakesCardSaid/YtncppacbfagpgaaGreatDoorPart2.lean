/- A part of the proof that the named laws of this program answer true, whatever the input. -/
import Derived.Test.YtncppacbfagpgaaGreatDoorPart1
open BitVec renaming ofInt→ao
open Bool renaming eq_iff_iff→lU
open Int renaming toNat_natCast→aU
open List renaming getElem?_eq_getElem→af,getElem_mem→bh,pairwise_cons→aF,any_cons→ur,mem_cons→aC,mem_cons_self→au,mem_cons_of_mem→aE,pairwise_singleton→cD,filter_cons→bJ,mem_filter→di,filter_eq_nil_iff→sX,mem_singleton→aD,any_eq_true→cE,length_filter_le→eh,length_cons→ar,flatMap_cons→aN,map_cons→fi,length_singleton→aK,range→gh,range_succ→lR,map_append→cO,length_append→ac,append_assoc→aq,flatMap_append→bI,take_of_length_le→bD,sum_append→qH,map_nil→iK,sum_cons→yd,mem_filterMap→nA
open List.Pairwise renaming nil→eI
open Nat renaming le_of_eq→eY,zero_add→aR,le_refl→aj,lt_irrefl→nV,mod_lt→tY,min_eq_left→bH,lt_of_lt_of_le→aG,zero_le→aS,le_trans→aX,mul_le_mul_right→cz,pow_succ→pV,testBit_lt_two_pow→iH,pow_le_pow_right→gg,add_zero→eg,add_mul→kV,mul_le_mul_left→gJ
open Prod renaming ext→yX
open UInt8 renaming ofNat→ii
namespace Go.Proofs
open Go.Lift
theorem Ob{h:ad}{b d n:Nat}{sp sk:SliceV}{a:Bool}{ow:Option Addr}(e:h[b]? =some (.cells (gc d n sp sk a ow) bP (0,0))) {K:Int→ad→Prop} (c:K (d:Int) h):HC PG mK [.pointer (some ⟨b,0,none⟩)] [.c (.int .u32)] K h:=by
 refine Gv _ ?_;unfold yS jU;exact ag.2 ⟨_,rfl,_,fE (i:=0) e,c⟩
theorem Ea{h:ad}{b d n:Nat}{sp sk:SliceV}{a:Bool}{ow:Option Addr}(e:h[b]? =some (.cells (gc d n sp sk a ow) bP (0,0))) {K:Int→ad→Prop} (c:K (n:Int) h):HC PG iy [.pointer (some ⟨b,0,none⟩)] [.c (.int .u32)] K h:=by
 refine EV _ ?_;unfold xA jU;exact ag.2 ⟨_,rfl,_,fE (i:=1) e,c⟩
theorem gL{h:ad}{b d n:Nat}{sp sk:SliceV}{a:Bool}{ow:Option Addr}(e:h[b]? =some (.cells (gc d n sp sk a ow) bP (0,0))) {K:Bool→ad→Prop} (c:K a h):HC PG dN [.pointer (some ⟨b,0,none⟩)] [.c .bool] K h:=by
 refine Bc _ ?_;unfold uN bF;exact aw.2 ⟨_,rfl,_,fE (i:=4) e,c⟩
def F4(o:Option Pr):Pr:=o.getD (⟨#[]⟩,⟨#[]⟩)
theorem GU{h:ad}{b:Nat}{q p:Pr}(a:h[b]? =some (.cells #[.string q.1,.string q.2] al (0,0))) {k:ad→Prop}
  (d:∀h',h'[b]? =some (.cells #[.string p.1,.string p.2] al (0,0))→Upd (· =b) h h'→k h'):rE h (some ⟨b,0,none⟩) 0 [.string p.1,.string p.2]∧At (fS h ⟨b,0,none⟩ 0 [.string p.1,.string p.2]) k:=by
 have e:=kX [.string p.1,.string p.2] h 0 0 [.string q.1,.string q.2] a (by simp);refine⟨.inr ⟨_,rfl,fun j c=>by rw[cd];exact ip a (by simp at c⊢;omega)⟩,bG ?_⟩
 rw[e];refine d _ ?_ (Upd.set h _ rfl);rw[jE a];rfl
theorem AE{W:Nat→Prop}{h:ad}{b:Nat}{s:Slots}(w:NodeAt W h b s){i:Nat}(hi:i<32){K:Pr×Bool→ad→Prop}(k:∀h',Upd No h h'→K (F4 (s.p i),(s.p i).isSome) h'):
  HC PG js [.pointer (some ⟨b,0,none⟩),.int .i64 i] [.agg [.str,.str],.c .bool] K h:=by
 refine Gt _ i ?_;unfold yQ bT bK df az av lO iU jU qK;obtain⟨d,n,sp,sk,ow,u,bits,j,v,z,q⟩:=w.ex;have k1:=Upd.hnew No h [.string (⟨#[]⟩:ByteArray),.string (⟨#[]⟩:ByteArray)] al;have b1:=co h [.string (⟨#[]⟩:ByteArray),.string (⟨#[]⟩:ByteArray)] al;refine bG ?_;simp only[cT h];generalize hnew h [.string (⟨#[]⟩:ByteArray),.string (⟨#[]⟩:ByteArray)] al=h1 at k1 b1
 have c:=k1.get0 u;have f:h1[h.size]? =some (.cells #[.string Rn.1,.string Rn.2] al (0,0)):=b1;refine Ob c (F1 bits.d32 hi ?_);rw[bits.dp i hi];cases hp:s.p i with
 |none=>
  rw[hp]at k;refine aw.2 (GU (p:=Rn) f fun h2 b2 e=>⟨_,by rw[cd,bm b2];rfl,_,by rw[cd,bm b2];rfl,k _ (k1.trans e fun x hx=>.inr (eY hx.symm))⟩)
 |some y=>
  rw[hp]at k;refine ag.2 ⟨_,rfl,sp,fE (i:=2) c,_,rfl,_,fE (i:=0) c,uj bits.d32 hi ⟨fE (i:=2) c,?_⟩⟩;have o:=MS hi bits.dp hp;have g:=j.upd k1 fun _ h=>h.elim
  obtain⟨a,t,_,hv⟩:=g.at (Yr hi bits.dp hp);have m:=j.len;refine⟨by omega,a,t,y.1,hv 0 _ rfl,y.2,hv 1 _ rfl,?_⟩;refine GU (p:=y) f fun h2 b2 e=>⟨_,by rw[cd,bm b2];rfl,_,by rw[cd,bm b2];rfl,k _ (k1.trans e fun x hx=>.inr (eY hx.symm))⟩
theorem wU{W:Nat→Prop}{h:ad}{b:Nat}{s:Slots}(m:NodeAt W h b s){i:Nat}(hi:i<32){K:Option Addr×Bool→ad→Prop}(e:K ((s.k i).getD none,(s.k i).isSome) h):
  HC PG gp [.pointer (some ⟨b,0,none⟩),.int .i64 i] [.c .ptr,.c .bool] K h:=by
 refine HQ _ i ?_;unfold Ac bE bT bK jU qK;obtain⟨d,n,sp,sk,ow,f,bits,o,c,p,k⟩:=m.ex;refine Ea f (F1 bits.n32 hi ?_);rw[bits.nk i hi];cases hp:s.k i with
 |none=>rw[hp]at e;exact aw.2 e
 |some y=>
  rw[hp]at e;refine ag.2 ⟨_,rfl,sk,fE (i:=3) f,_,rfl,_,fE (i:=1) f,uj bits.n32 hi ⟨fE (i:=3) f,?_⟩⟩;have j:=MS hi bits.nk hp;obtain⟨a,q,_,hv⟩:=c.at (Yr hi bits.nk hp);have g:=c.len;exact⟨by omega,a,q,y,hv 0 _ rfl,e⟩
theorem rO{W:Nat→Prop}{h:ad}{b d n:Nat}{sp sk:SliceV}{c:Bool}{ow:Option Addr}{l:List Pr}(f:h[b]? =some (.cells (gc d n sp sk c ow) bP (0,0))) (a:Sl ey 2 W h sp l) (g:l.length≤1000000000) {K:SliceV→ad→Prop}
  (e:∀s' h',OwnS ey 2 al (fun x=>h.size≤x) h' s' l→Upd No h h'→K s' h'):HC PG fh [.pointer (some ⟨b,0,none⟩)] [.c .slice] K h:=by
 refine xf _ ?_;unfold sE bK;exact ag.2 ⟨_,rfl,sp,fE (i:=2) f,yA a (by omega) e⟩
theorem US{W:Nat→Prop}{h:ad}{b d n:Nat}{sp sk:SliceV}{c:Bool}{ow:Option Addr}{l:List (Option Addr)}(f:h[b]? =some (.cells (gc d n sp sk c ow) bP (0,0))) (a:Sl uy 1 W h sk l) (g:l.length≤1000000000) {K:SliceV→ad→Prop}
  (e:∀s' h',OwnS uy 1 cf (fun x=>h.size≤x) h' s' l→Upd No h h'→K s' h'):HC PG pG [.pointer (some ⟨b,0,none⟩)] [.c .slice] K h:=by
 refine yE _ ?_;unfold tU bK;exact ag.2 ⟨_,rfl,sk,fE (i:=3) f,Gd a (by omega) e⟩
structure BuckAt(W:Nat→Prop)(h:ad)(b:Nat)(l:List Pr):Prop where
 ex:∃sp sk ow,h[b]? =some (.cells (gc 0 0 sp sk true ow) bP (0,0))∧Sl ey 2 W h sp l∧Sl uy 1 W h sk []∧sp.len≤sp.cap∧sk.len≤sk.cap
 nw:¬W b
theorem BuckAt.upd{W M:Nat→Prop}{h h':ad}{b:Nat}{l:List Pr}(n:BuckAt W h b l)(k:Upd M h h')(hm:∀b,M b→W b∨h.size≤b):BuckAt W h' b l:=by
 obtain⟨sp,sk,ow,a,f,c,d,g⟩:=n.ex;exact⟨⟨sp,sk,ow,k.get a (fun e=>(hm _ e).elim n.nw fun h=>by have:=aY a;omega),f.upd k hm,c.upd k hm,d,g⟩,n.nw⟩
theorem Yj{W:Nat→Prop}{h:ad}{b:Nat}{l:List Pr}(q:BuckAt W h b l)(o:bM l)(n:l.length≤1000000000)(k:ByteArray){K:ByteArray×Bool→ad→Prop}
  (i:∀h' v,Upd No h h'→(cG l k=true→(k,v)∈l)→(cG l k=false→v=⟨#[]⟩)→K (v,cG l k) h'):HC PG tP [.pointer (some ⟨b,0,none⟩),.string k] [.c .str,.c .bool] K h:=by
 refine TS _ k ?_;unfold KS bT az DQ;obtain⟨sp,sk,ow,y,m,w,x,s⟩:=q.ex;refine rO y m n fun u t j g=>?_
 have c:Sl ey 2 No t u l:=j.sl fun _ _ _ h=>h
 refine N6 c o n k fun h2 d=>?_
 cases ht:cG l k with
 |false=>rw[ht]at i;exact aw.2 (i _ _ (g.tr d) (fun h=>by cases h) fun _=>rfl)
 |true=>
  rw[ht]at i;obtain⟨f,e⟩:=NO o ht;obtain⟨a,z,_,hv⟩:=(c.upd d fun _ h=>h.elim).at (af f)
  have p:=c.len;refine ag.2 ⟨by simp only;omega,a,z,_,hv 1 _ rfl,i _ _ (g.tr d) (fun _=>?_) fun h=>by cases h⟩
  have:(k,l[qP l k].2)=l[qP l k]:=yX e.symm rfl;rw[this];exact bh f
theorem aa2{W:Nat→Prop}{h:ad}{b:Nat}{l:List Pr}(a:BuckAt W h b l)(f:bM l)(c:l.length≤1000000000)(k:ByteArray){K:ByteArray×Bool→ad→Prop}
 (e:∀h' v,Upd No h h'→(cG l k=true→(k,v)∈l)→K (v,cG l k) h'):HC PG tP [.pointer (some ⟨b,0,none⟩),.string k] [.c .str,.c .bool] K h:=Yj a f c k fun h' v d h2 _=>e h' v d h2
end Go.Proofs
namespace Go.Proofs
open Go.Lift
set_option maxRecDepth 4000 in
theorem UG{W:Nat→Prop}{h:ad}{b:Nat}{l:List Pr}(O:BuckAt W h b l)(Y:l.length≤1000000000){K:Option Addr→ad→Prop}
  (u:∀h' sp sk,h'[h.size]? =some (.cells (gc 0 0 sp sk true none) bP (0,0))→OwnS ey 2 al (fun x=>h.size<x∧x<h'.size) h' sp l→OwnS uy 1 cf (fun x=>h.size<x∧x<h'.size) h' sk []→Upd No h h'→K (some ⟨h.size,0,none⟩) h'):
  HC PG iV [.pointer (some ⟨b,0,none⟩),.pointer none] [.c .ptr] K h:=by
 obtain⟨sp,sk,ow,d,E,C,S,P⟩:=O.ex;refine zW _ none ?_;unfold ve lX bK nv dy bF Xc oU jU abf;refine Mp (ag.2 ?_);have c:∀{h:ad} {b:Nat} {c:Array Value} {i:Nat},h[b]? =some (.cells c bP (0,0))→aJ h ⟨b,0+i,none⟩=c[i]?:=fun d=>by rw[aR];exact bm d
 refine⟨_,rfl,_,c (i:=0) d,_,c (i:=1) d,sp,c (i:=2) d,sk,c (i:=3) d,_,c (i:=4) d,_,c (i:=5) d,?_⟩;have k1:=Upd.hnew No h [.int .u32 0,.int .u32 0,.slice none 0 0,.slice none 0 0,.bool false,.pointer none] bP;have b1:=co h [.int .u32 0,.int .u32 0,.slice none 0 0,.slice none 0 0,.bool false,.pointer none] bP;refine bG ?_;simp only[cT h];generalize hnew h [.int .u32 0,.int .u32 0,.slice none 0 0,.slice none 0 0,.bool false,.pointer none] bP=h1 at k1 b1
 have z:fS h1 ⟨h.size,0,none⟩ 0 [.int .u32 ((0:Nat):Int),.int .u32 ((0:Nat):Int),.slice sp.a sp.len sp.cap,.slice sk.a sk.len sk.cap,.bool true,.pointer ow]=_:=kX _ h1 0 0 _ b1 (by simp);refine⟨.inr ⟨_,rfl,fun j Q=>by rw[cd];exact ip b1 (by simp at Q⊢;omega)⟩,bG ?_⟩
 rw[z];have b2:=jE (o:=.cells (gc 0 0 sp sk true ow) bP (0,0)) b1;have p:Upd No h _:=k1.trans (M':=(· =h.size)) (Upd.set h1 (.cells (gc 0 0 sp sk true ow) bP (0,0)) rfl) fun x hx=>.inr (eY hx.symm)
 have D:h.size<(h1.setIfInBounds h.size (.cells (gc 0 0 sp sk true ow) bP (0,0))).size:=aY b2;have M:h.size≠b:=fun e=>by have:=aY d;omega
 have T:(Obj.cells (List.take (0+0) [Value.int .u32 0,.int .u32 0,.slice none 0 0,.slice none 0 0,.bool false,.pointer none]++ [Value.int .u32 ((0:Nat):Int),.int .u32 ((0:Nat):Int),.slice sp.a sp.len sp.cap,.slice sk.a sk.len sk.cap,.bool true,.pointer ow]++List.drop (0+0+ [Value.int .u32 ((0:Nat):Int),.int .u32 ((0:Nat):Int),.slice sp.a sp.len sp.cap,.slice sk.a sk.len sk.cap,.bool true,.pointer ow].length) [Value.int .u32 0,.int .u32 0,.slice none 0 0,.slice none 0 0,.bool false,.pointer none]).toArray bP (0,0))=.cells (gc 0 0 sp sk true ow) bP (0,0):=rfl
 rw[T];generalize h1.setIfInBounds h.size (.cells (gc 0 0 sp sk true ow) bP (0,0))=h2 at b2 p D;have m:=p.get0 d;refine⟨_,rfl,sp,c (i:=2) m,_,rfl,sk,c (i:=3) m,?_⟩;refine yA (E.upd p fun _ h=>h.elim) (by omega) fun s Z G f=>?_
 refine⟨c (i:=3) (f.get0 m),?_⟩;refine Gd ((C.upd p fun _ h=>h.elim).upd f fun _ h=>h.elim) (by simp) fun B V H g=>?_
 have I:=g.get0 (f.get0 b2);have q:=G.within.upd g fun _ _ h=>h
 have n:=H.within;have z3:=f.size;have U:=g.size;have w:∀{h:ad} {c:Array Value} {x i:Nat},h[x]? =some (.cells c bP (0,0))→i<c.size→Wr h ⟨x,0+i,none⟩:=fun d hi=>by rw[aR];exact ip d hi
 have st:∀{h:ad} {c c':Array Value} {x i:Nat} {v:Value} {k:ad→Prop},h[x]? =some (.cells c bP (0,0))→c.setIfInBounds i v=c'→(∀h',h'[x]? =some (.cells c' bP (0,0))→Upd (· =x) h h'→k h')→At (hset h ⟨x,i,none⟩ v) k:=fun d e u=>wr d fun h' t N=>u h' (e▸t) N
 refine⟨w (i:=2) I (show 2<6 by decide),st (i:=2) (c':=gc 0 0 s sk true ow) I rfl fun h5 L y=>?_⟩
 refine⟨w (i:=3) L (show 3<6 by decide),st (i:=3) (c':=gc 0 0 s B true ow) L rfl fun h6 J F=>?_⟩
 refine⟨w (i:=5) J (show 5<6 by decide),st (i:=5) (c':=gc 0 0 s B true none) J rfl fun X R A=>?_⟩
 refine AI (ag.2 ?_);have a:=y.tr (F.tr A);have z7:=a.size;refine u _ s B R ((q.upd a fun x hx e=>?_).more fun x hx=>?_) ((n.upd a fun x hx e=>?_).more fun x hx=>?_) ?_
 ·have e:x=h.size:=e;omega
 ·omega
 ·have e:x=h.size:=e;omega
 ·omega
 ·exact((p.tr f).tr g).trans a fun x hx=>.inr (eY hx.symm)
theorem Ic{W:Nat→Prop}{h:ad}{b:Nat}{l:List Pr}(F:BuckAt W h b l)(m:∀x,W x→x<h.size)(B:bM l)(s:l.length≤1000000000)(p:Pr){K:Option Addr→ad→Prop}
  (v:∀h' b',BuckAt W h' b' (Lk l p)→Upd No h h'→K (some ⟨b',0,none⟩) h'):
  HC PG kr [.pointer (some ⟨b,0,none⟩),.pointer none,.agg #[.string p.1,.string p.2]] [.c .ptr] K h:=by
 refine HP _ none p ?_;unfold Ab bK av dy wT rC oU;have k1:=Upd.hnew No h [.string p.1,.string p.2] al;have b1:=co h [.string p.1,.string p.2] al;refine bG ?_;simp only[cT h];generalize hnew h [.string p.1,.string p.2] al=h1 at k1 b1;have H:=aY b1;have k:=F.upd k1 fun _ h=>h.elim
 obtain⟨sp,sk,ow,G,D,C,E,A⟩:=k.ex;refine gL G (ag.2 ?_);refine UG k s fun h2 z t2 b2 q u c=>?_
 have f:=c.get0 b1;refine⟨_,rfl,z,fE (i:=2) b2,p.1,by rw[cd,bm f];rfl,p.2,by rw[cd,bm f];rfl,?_⟩
 refine Sm (q.sl fun _ _ _ h=>h) q.cap B s p fun t J j d=>?_
 have b3:=d.get0 b2;refine⟨_,rfl,Zp (i:=2) b3 (show 2<6 by decide),Ld (i:=2) (c':=gc 0 0 t t2 true none) b3 rfl fun y w a=>?_⟩
 have I:=aY b2;have o:=j.upd a fun x hx e=>by have e:x=h1.size:=e;omega
 have n:=(u.upd d fun _ _ h=>h).upd a fun x hx e=>by have e:x=h1.size:=e;omega
 refine v y h1.size ⟨⟨t,t2,none,w,o.sl fun x hx _ g=>?_,n.sl fun x hx _ g=>?_,j.cap,u.cap⟩,fun g=>?_⟩ (((k1.tr c).tr d).trans a fun x hx=>.inr ?_)
 ·have:=m x g;have:=c.size;omega
 ·have:=m x g;omega
 ·have:=m _ g;omega
 ·have hx:x=h1.size:=hx
  omega
theorem M3{W:Nat→Prop}{h:ad}(b:∀x,W x→x<h.size){K:Option Addr→ad→Prop}(a:∀h' b',BuckAt W h' b' []→Upd No h h'→K (some ⟨b',0,none⟩) h'):HC PG un [] [.c .ptr] K h:=by
 refine LN ?_;unfold Cx;exact a _ _ ⟨⟨⟨none,0,0⟩,⟨none,0,0⟩,none,co h _ _,Sl.nil fU,Sl.nil uX,aj _,aj _⟩,fun hx=>nV _ (b _ hx)⟩ (Upd.hnew No h _ _)
theorem rP{W:Nat→Prop}{h:ad}(a:∀x,W x→x<h.size){K:Option Addr→ad→Prop}(d:∀h' b',NodeAt W h' b' ⟨fun _=>none,fun _=>none⟩→Upd No h h'→K (some ⟨b',0,none⟩) h'):HC PG pH [] [.c .ptr] K h:=by
 refine OE ?_;unfold Fc Xc;have e:fm (fun _=>(none:Option Pr)) 32= []:=by simp[fm]
 have b:fm (fun _=>(none:Option (Option Addr))) 32= []:=by simp[fm]
 refine d _ _ ⟨⟨0,0,⟨none,0,0⟩,⟨none,0,0⟩,none,co h _ _,⟨by decide,by decide,fun c _=>by simp,fun c _=>by simp⟩,?_,?_,aj _,aj _⟩,fun hx=>nV _ (a _ hx)⟩ (Upd.hnew No h _ _)
 ·show Sl ey 2 W _ _ (fm (fun _=>none) 32)
  rw[e];exact Sl.nil fU
 ·show Sl uy 1 W _ _ (fm (fun _=>none) 32)
  rw[b];exact Sl.nil uX
end Go.Proofs
namespace Go.Proofs
open Go.Lift
def iq(p:Pr):List Pr→List Pr
 | []=> [p]
 |q::l=>if kl q.1 p.1 then q::iq p l else if q.1=p.1 then p::l else p::q::l
theorem gR(p q:Pr)(l:List Pr):iq p (q::l)=if kl q.1 p.1 then q::iq p l else if q.1=p.1 then p::l else p::q::l:=rfl
theorem Ei(p:Pr):∀{l:List Pr},bM l→Lk l p=iq p l
 | [],_=>by simp[Lk,iq,qP,cG]
 |q::l,d=>by
  have d:=aF.1 d;unfold iq;have a:qP (q::l) p.1=if kl q.1 p.1 then qP l p.1+1 else 0:=by
   unfold qP;rw[List.takeWhile_cons];by_cases h:kl q.1 p.1
   ·rw[if_pos (by simpa using h),if_pos h];rfl
   ·rw[if_neg (by simpa using h),if_neg h];rfl
  have c:cG (q::l) p.1=(decide (q.1=p.1)||cG l p.1):=by unfold cG;rw[ur]
  by_cases h:kl q.1 p.1
  ·have f:q.1≠p.1:=fun e=>by rw[e]at h;exact bZ _ h
   rw[if_pos h,←Ei p d.2];unfold Lk;rw[c,a,if_pos h,decide_eq_false f,Bool.false_or];by_cases b:cG l p.1=true
   ·rw[if_pos b,if_pos b];rfl
   ·rw[if_neg b,if_neg b];rfl
  ·rw[if_neg h]
   unfold Lk;rw[c,a,if_neg h];by_cases e:q.1=p.1
   ·rw[if_pos e,decide_eq_true e,Bool.true_or,if_pos rfl];rfl
   ·have i:=qQ h e
    have b:cG l p.1=false:=by
     unfold cG;rw[List.any_eq_false];intro r g j;have j:=of_decide_eq_true j;have:=d.1 r g;rw[j]at this;exact bZ _ (gD i this)
    rw[if_neg e,decide_eq_false e,b];rfl
theorem AF{p q:Pr}:∀{l:List Pr},q∈iq p l→q=p∨q∈l
 | [],h=>by simp[iq]at h;exact .inl h
 |r::l,h=>by
  unfold iq at h;split at h
  ·rcases aC.1 h with h|h
   ·exact .inr (h▸au ..)
   ·exact(AF h).imp id fun h=>aE _ h
  ·split at h
   ·rcases aC.1 h with h|h
    ·exact .inl h
    ·exact .inr (aE _ h)
   ·rcases aC.1 h with h|h
    ·exact .inl h
    ·exact .inr h
theorem vM(p:Pr):∀{l:List Pr},bM l→bM (iq p l)
 | [],_=>cD ..
 |q::l,a=>by
  have c:=a;have a:=aF.1 a;unfold iq;split
  ·rename_i h
   refine aF.2 ⟨fun r hm=>?_,vM p a.2⟩
   rcases AF hm with rfl|hm
   ·exact h
   ·exact a.1 r hm
  ·rename_i h
   split
   ·rename_i e
    exact aF.2 ⟨fun r hm=>e▸a.1 r hm,a.2⟩
   ·rename_i e
    have b:=qQ h e;refine aF.2 ⟨fun r hm=>?_,c⟩
    rcases aC.1 hm with rfl|hm
    ·exact b
    ·exact gD b (a.1 r hm)
theorem JD(p:Pr)(g:ByteArray→Bool):∀{l:List Pr},bM l→(iq p l).filter (fun q=>g q.1)=if g p.1 then iq p (l.filter fun q=>g q.1)else l.filter fun q=>g q.1
 | [],_=>by
  unfold iq;rw[bJ,List.filter_nil]
 |q::l,c=>by
  have i:=c;have c:=aF.1 c;have k:=JD p g c.2;rw[gR];by_cases h:kl q.1 p.1
  ·rw[if_pos h,bJ,bJ,k]
   by_cases f:g q.1=true
   ·rw[if_pos f,if_pos f]
    split
    ·rw[gR,if_pos h]
    ·rfl
   ·rw[if_neg f,if_neg f]
  ·rw[if_neg h]
   by_cases e:q.1=p.1
   ·rw[if_pos e,bJ,bJ,e]
    by_cases a:g p.1=true
    ·rw[if_pos a,if_pos a,if_pos a,gR,if_neg h,if_pos e]
    ·rw[if_neg a,if_neg a,if_neg a]
   ·rw[if_neg e]
    have d:=qQ h e;rw[bJ];by_cases a:g p.1=true
    ·rw[if_pos a,if_pos a]
     have:∀r∈(q::l).filter (fun q=>g q.1),kl p.1 r.1:=fun r hm=>by
      rcases aC.1 (di.1 hm).1 with rfl|hm
      ·exact d
      ·exact gD d (c.1 r hm)
     cases hf:(q::l).filter (fun q=>g q.1)with
     |nil=>rfl
     |cons r rs=>
      have b:=this r (by rw[hf];exact au ..);rw[gR,if_neg fun j=>bZ _ (gD b j),if_neg fun e=>by rw[e]at b;exact bZ _ b]
    ·rw[if_neg a,if_neg a]
theorem H6{p:Pr}:∀{l:List Pr},bM l→p∈l→iq p l=l
 |q::l,a,hm=>by
  have a:=aF.1 a;unfold iq;rcases aC.1 hm with rfl|hm
  ·rw[if_neg (bZ _),if_pos rfl]
  ·rw[if_pos (a.1 p hm),H6 a.2 hm]
def ck(x:Hs)(lev:Nat)(k:ByteArray):Nat:=((gq x k).toNat>>>(5*lev))%32
theorem zT(x:Hs)(lev:Nat)(k:ByteArray):ck x lev k<32:=tY _ (by omega)
def part(x:Hs)(lev c:Nat)(l:List Pr):List Pr:=l.filter fun p=>decide (ck x lev p.1=c)
def TrieAt(W:Nat→Prop)(x:Hs)(h:ad):Nat→Nat→List Pr→Prop
 |0,b,l=>BuckAt W h b l
 |m+1,b,l=>∃s,NodeAt W h b s∧∀c,c<32→
  ((part x (12-m) c l= []∧s.p c=none∧s.k c=none)∨(∃p,part x (12-m) c l= [p]∧s.p c=some p∧s.k c=none)∨
   (2≤(part x (12-m) c l).length∧s.p c=none∧∃kb,s.k c=some (some ⟨kb,0,none⟩)∧TrieAt W x h m kb (part x (12-m) c l)))
theorem TrieAt.upd0{W:Nat→Prop}{x:Hs}{h h':ad}(k:Upd No h h'):∀{m b:Nat} {l:List Pr},TrieAt W x h m b l→TrieAt W x h' m b l
 |0,_,_,t=>BuckAt.upd t k fun _ h=>h.elim
 |m+1,_,_,⟨s,nd,hc⟩=>⟨s,nd.upd k fun _ h=>h.elim,fun c a=>(hc c a).imp id fun o=>o.imp id fun⟨e,h2,d,g,f⟩=>⟨e,h2,d,g,TrieAt.upd0 k f⟩⟩
theorem NodeAt.less{W W':Nat→Prop}{h:ad}{b:Nat}{s:Slots}(n:NodeAt W h b s)(hm:∀b,W' b→W b∨h.size≤b):NodeAt W' h b s:=by
 obtain⟨d,m,sp,sk,ow,a,h2,f,c,e,g⟩:=n.ex;exact⟨⟨d,m,sp,sk,ow,a,h2,f.less hm,c.less hm,e,g⟩,fun hx=>(hm _ hx).elim n.nw fun h=>by have:=aY a;omega⟩
theorem BuckAt.less{W W':Nat→Prop}{h:ad}{b:Nat}{l:List Pr}(n:BuckAt W h b l)(hm:∀b,W' b→W b∨h.size≤b):BuckAt W' h b l:=by
 obtain⟨sp,sk,ow,a,e,c,d,f⟩:=n.ex;exact⟨⟨sp,sk,ow,a,e.less hm,c.less hm,d,f⟩,fun hx=>(hm _ hx).elim n.nw fun h=>by have:=aY a;omega⟩
theorem TrieAt.less{W W':Nat→Prop}{x:Hs}{h:ad}(hm:∀b,W' b→W b∨h.size≤b):∀{m b:Nat} {l:List Pr},TrieAt W x h m b l→TrieAt W' x h m b l
 |0,_,_,t=>BuckAt.less t hm
 |m+1,_,_,⟨s,nd,hc⟩=>⟨s,nd.less hm,fun c a=>(hc c a).imp id fun o=>o.imp id fun⟨e,h2,d,g,f⟩=>⟨e,h2,d,g,TrieAt.less hm f⟩⟩
theorem TrieAt.updM{W M:Nat→Prop}{x:Hs}{h h':ad}(k:Upd M h h')(hm:∀b,M b→W b∨h.size≤b):∀{m b:Nat} {l:List Pr},TrieAt W x h m b l→TrieAt W x h' m b l
 |0,_,_,t=>BuckAt.upd t k hm
 |m+1,_,_,⟨s,nd,hc⟩=>⟨s,nd.upd k hm,fun c a=>(hc c a).imp id fun o=>o.imp id fun⟨e,h2,d,g,f⟩=>⟨e,h2,d,g,TrieAt.updM k hm f⟩⟩
end Go.Proofs
namespace Go.Proofs
open Go.Lift
theorem ab5(a b:Nat):(ao (IntKind.bits .u64) (a:Int)&&&ao (IntKind.bits .u64) (b:Int)).toNat=(a%18446744073709551616)&&&(b%18446744073709551616):=by
 simp[IntKind.bits,BitVec.toNat_and,BitVec.toNat_ofInt];rfl
theorem ac7{hv:Int}(c:0≤hv∧hv<18446744073709551616){lev:Nat}(g:lev<13){h:ad}{K:Int→ad→Prop}(b:K (((hv.toNat>>>(5*lev))%32:Nat):Int) h):HC PG ml [.int .u64 hv,.int .i64 lev] [.c (.int .i64)] K h:=by
 refine TR hv lev ?_;unfold KQ;refine Join.plain (ax (fun h=>by omega) fun _=>?_)
 rw[decide_eq_false (by omega)];refine ag.2 ?_;have f:IntKind.wrap .i64 (5*(lev:Int))=((5*lev:Nat):Int):=by rw[eJ (by omega)];omega
 rw[f];have d:min (((5*lev:Nat):Int)).toNat (IntKind.bits .u64)=5*lev:=by rw[aU];exact bH (by show 5*lev≤64;omega)
 rw[d];obtain⟨n,rfl⟩:=Int.eq_ofNat_of_zero_le c.1;rw[aU]at b;simp only[Bd];rw[ph];have a:n>>>(5*lev)<18446744073709551616:=Nat.lt_of_le_of_lt (Nat.shiftRight_le _ _) (by omega);have e:=ab5 (n>>>(5*lev)) 31;rw[Nat.mod_eq_of_lt a,show((31:Nat):Int)=(31:Int)from rfl,show 31%18446744073709551616=2^5-1 from rfl,Nat.and_two_pow_sub_one_eq_mod]at e
 rw[e];have hm:n>>>(5*lev)%2^5<32:=tY _ (by omega);rw[Go.IntWalk.u64_in _ (by omega),eJ (by omega)];exact⟨by omega,b⟩
theorem Td{x:Hs}{k:ByteArray}{lev:Nat}(a:lev<13){h:ad}{K:Int→ad→Prop}(b:K (ck x lev k:Int) h):HC PG ml [.int .u64 (gq x k),.int .i64 lev] [.c (.int .i64)] K h:=ac7 (G7 x k) a b
abbrev Xf(x:Hs)(k:ByteArray):Value:=.agg #[.int .u64 x.k0,.int .u64 x.k1,.int .u64 x.mask,.pointer none,.string k,.int .u64 (gq x k)]
theorem Je{x:Hs}{lev c:Nat}{l:List Pr}(h:∀p∈l,ck x lev p.1=c):part x lev c l=l:=List.filter_eq_self.2 fun p a=>decide_eq_true (h p a)
theorem y9{x:Hs}{lev c:Nat}{l:List Pr}(h:∀p∈l,ck x lev p.1≠c):part x lev c l= []:=sX.2 fun p a=>by simpa using h p a
theorem PO{x:Hs}{lev c:Nat}{p:Pr}{l:List Pr}(a:bM l):part x lev c (iq p l)=if ck x lev p.1=c then iq p (part x lev c l)else part x lev c l:=by
 have:=JD p (fun k=>decide (ck x lev k=c)) a
 unfold part;rw[this];by_cases h:ck x lev p.1=c
 ·rw[if_pos h,if_pos (decide_eq_true h)]
 ·rw[if_neg h,if_neg (by simpa using h)]
theorem Ug{p q:Pr}(h:p.1≠q.1):(iq q [p]).length=2:=by
 rw[gR];by_cases a:kl p.1 q.1
 ·rw[if_pos a];rfl
 ·rw[if_neg a,if_neg h];rfl
theorem UL{p q r:Pr}(h:r∈iq q [p]):r=p∨r=q:=(AF h).symm.imp (fun h=>aD.1 h) id
theorem gt{β:Type}{g:Nat→Option β}{i c:Nat}{x:Option β}(h:c≠i):upd g i x c=g c:=by unfold upd;rw[if_neg h]
theorem aaC{W:Nat→Prop}{x:Hs}:∀(m:Nat) (p q:Pr),m≤13→p.1≠q.1→∀{h:ad},(∀y,W y→y<h.size)→∀{K:Option Addr→ad→Prop},(∀h' b',TrieAt W x h' m b' (iq q [p])→Upd No h h'→K (some ⟨b',0,none⟩) h')→
  HC PG oE [Xf x q.1,.agg #[.string p.1,.string p.2],.agg #[.string q.1,.string q.2],.int .i64 ((13-m:Nat):Int)] [.c .ptr] K h:=by
 intro m;induction m with
 |zero=>
  intro p q _ F h Q K N;have A:∀{h'},Upd No h h'→∀y,W y→y<h'.size:=fun k y U=>aG (Q y U) k.size
  refine xh (x.k0,x.k1,x.mask,none,q.1,gq x q.1) p q ((13-0:Nat):Int) ?_;unfold sG ae cg aB wN av wT rC CC nX CB NP;have k1:=Upd.hnew No h [.int .u64 x.k0,.int .u64 x.k1,.int .u64 x.mask,.pointer none,.string q.1,.int .u64 (gq x q.1)] dd;have b1:=co h [.int .u64 x.k0,.int .u64 x.k1,.int .u64 x.mask,.pointer none,.string q.1,.int .u64 (gq x q.1)] dd
  refine bG ?_;simp only[cT h];generalize hnew h [.int .u64 x.k0,.int .u64 x.k1,.int .u64 x.mask,.pointer none,.string q.1,.int .u64 (gq x q.1)] dd=h1 at k1 b1;have B:=Upd.hnew No h1 [.string p.1,.string p.2] al;have b2:=co h1 [.string p.1,.string p.2] al;refine bG ?_;simp only[cT h1];generalize hnew h1 [.string p.1,.string p.2] al=h2 at B b2
  have w:=Upd.hnew No h2 [.string q.1,.string q.2] al;have b3:=co h2 [.string q.1,.string q.2] al;refine bG ?_;simp only[cT h2];generalize hnew h2 [.string q.1,.string q.2] al=h3 at w b3;have d:∀{h':ad},Upd No h3 h'→∀i,aJ h' (adr ⟨h.size,0,none⟩ i)=(#[.int .u64 x.k0,.int .u64 x.k1,.int .u64 x.mask,.pointer none,.string q.1,.int .u64 (gq x q.1)]:Array Value)[i]?:=fun k i=>by
   rw[cd,bm (k.get0 (w.get0 (B.get0 b1))),aR]
  have t:∀{h':ad},Upd No h3 h'→∀i,aJ h' (adr ⟨h1.size,0,none⟩ i)=(#[.string p.1,.string p.2]:Array Value)[i]?:=fun k i=>by rw[cd,bm (k.get0 (w.get0 b2)),aR]
  have w3:∀{h':ad},Upd No h3 h'→∀i,aJ h' (adr ⟨h2.size,0,none⟩ i)=(#[.string q.1,.string q.2]:Array Value)[i]?:=fun k i=>by rw[cd,bm (k.get0 b3),aR]
  have r:=Upd.refl No h3;refine aw.2 ⟨none,d r 3,p.1,t r 0,p.2,t r 1,none,d r 3,q.1,w3 r 0,q.2,w3 r 1,?_⟩;refine M3 (A ((k1.tr B).tr w)) fun Z b4 T b=>⟨⟨w3 b 0,w3 b 1⟩,d b 3,⟨t b 0,t b 1⟩,d b 3,?_⟩
  refine Ic T (A (((k1.tr B).tr w).tr b)) eI (by simp) p fun X V J z=>?_
  have n:=b.tr z;refine⟨⟨w3 n 0,w3 n 1⟩,d n 3,?_⟩;have L:Lk [] p= [p]:=Ei p eI;rw[L]at J;refine Ic J (A (((k1.tr B).tr w).tr n)) (cD ..) (by simp) q fun R I M v=>?_
  rw[Ei q (cD ..)]at M;exact N R I M ((((k1.tr B).tr w).tr n).tr v)
 |succ m ih=>
  intro p q hm F h Q K N;have A:∀{h'},Upd No h h'→∀y,W y→y<h'.size:=fun k y U=>aG (Q y U) k.size
  have Y:13-(m+1)<13:=by omega
  have g:13-(m+1)=12-m:=by omega
  refine xh (x.k0,x.k1,x.mask,none,q.1,gq x q.1) p q ((13-(m+1):Nat):Int) ?_;unfold sG ae cg aB wN av wT rC CC nX CB NP;have k1:=Upd.hnew No h [.int .u64 x.k0,.int .u64 x.k1,.int .u64 x.mask,.pointer none,.string q.1,.int .u64 (gq x q.1)] dd;have b1:=co h [.int .u64 x.k0,.int .u64 x.k1,.int .u64 x.mask,.pointer none,.string q.1,.int .u64 (gq x q.1)] dd
  refine bG ?_;simp only[cT h];generalize hnew h [.int .u64 x.k0,.int .u64 x.k1,.int .u64 x.mask,.pointer none,.string q.1,.int .u64 (gq x q.1)] dd=h1 at k1 b1;have B:=Upd.hnew No h1 [.string p.1,.string p.2] al;have b2:=co h1 [.string p.1,.string p.2] al;refine bG ?_;simp only[cT h1];generalize hnew h1 [.string p.1,.string p.2] al=h2 at B b2
  have w:=Upd.hnew No h2 [.string q.1,.string q.2] al;have b3:=co h2 [.string q.1,.string q.2] al;refine bG ?_;simp only[cT h2];generalize hnew h2 [.string q.1,.string q.2] al=h3 at w b3;have d:∀{h':ad},Upd No h3 h'→∀i,aJ h' (adr ⟨h.size,0,none⟩ i)=(#[.int .u64 x.k0,.int .u64 x.k1,.int .u64 x.mask,.pointer none,.string q.1,.int .u64 (gq x q.1)]:Array Value)[i]?:=fun k i=>by
   rw[cd,bm (k.get0 (w.get0 (B.get0 b1))),aR]
  have t:∀{h':ad},Upd No h3 h'→∀i,aJ h' (adr ⟨h1.size,0,none⟩ i)=(#[.string p.1,.string p.2]:Array Value)[i]?:=fun k i=>by rw[cd,bm (k.get0 (w.get0 b2)),aR]
  have w3:∀{h':ad},Upd No h3 h'→∀i,aJ h' (adr ⟨h2.size,0,none⟩ i)=(#[.string q.1,.string q.2]:Array Value)[i]?:=fun k i=>by rw[cd,bm (k.get0 b3),aR]
  have r:=Upd.refl No h3;have ne:(((13-(m+1):Nat):Int)==(13:Int))=false:=by rw[beq_eq_false_iff_ne];omega
  rw[ne];refine ag.2 ⟨_,d r 0,_,d r 1,_,d r 2,_,t r 0,_,d r 5,?_⟩;refine vE fun Z b=>⟨d b 5,Td Y ⟨d b 5,Td Y ?_⟩⟩
  have hi:=zT x (13-(m+1)) p.1;have hj:=zT x (13-(m+1)) q.1;have j:=((k1.tr B).tr w);have hcl:=Ug F;refine CondP.intro (fun e=>?_) fun e=>?_
  ·have e:ck x (13-(m+1)) p.1=ck x (13-(m+1)) q.1:=by have:=eq_of_beq e;omega
   refine⟨_,d b 3,_,d b 0,_,d b 1,_,d b 2,_,d b 3,_,d b 4,_,d b 5,_,t b 0,_,t b 1,_,w3 b 0,_,w3 b 1,?_⟩;refine rP (A (j.tr b)) fun X V E z=>?_
   have a:=b.tr z;refine⟨⟨w3 a 0,w3 a 1⟩,⟨t a 0,t a 1⟩,⟨d a 0,d a 1,d a 2,d a 3,d a 4,d a 5⟩,d a 3,?_⟩;have ew:IntKind.wrap .i64 (((13-(m+1):Nat):Int)+1)=((13-m:Nat):Int):=by rw[eJ (by omega)];omega
   rw[ew];refine ih p q (by omega) F (A (j.tr a)) fun R I t6 v=>?_
   have f:=a.tr v;refine⟨d f 3,?_⟩;refine yh (E.upd v fun _ h=>h.elim) (A (j.tr f)) hi (fun y h=>by cases h) ⟨I,0,none⟩ fun P S G C=>?_
   refine N P S ⟨_,G,fun c hc=>?_⟩ ((j.tr f).tr C)
   rw[g]at e;by_cases o:c=ck x (13-(m+1)) p.1
   ·refine .inr (.inr ?_)
    have ea:part x (12-m) c (iq q [p])=iq q [p]:=Je fun r H=>by
     rcases UL H with rfl|rfl
     ·rw[o,g]
     ·rw[o,g,e]
    rw[ea];exact⟨by omega,by simp[upd],I,by rw[o];exact gT,TrieAt.upd0 C t6⟩
   ·refine .inl ⟨y9 fun r H=>?_,by simp[upd],gt o⟩
    rw[g]at o;rcases UL H with rfl|rfl
    ·exact fun e=>o e.symm
    ·rw[←e];exact fun e=>o e.symm
  ·have e:ck x (13-(m+1)) p.1≠ck x (13-(m+1)) q.1:=fun h=>by rw[h]at e;simp at e
   refine⟨_,d b 3,_,t b 0,_,t b 1,_,d b 3,_,w3 b 0,_,w3 b 1,?_⟩;refine rP (A (j.tr b)) fun X V E z=>?_
   have a:=b.tr z;refine⟨⟨w3 a 0,w3 a 1⟩,d a 3,⟨t a 0,t a 1⟩,d a 3,?_⟩;refine tE E (A (j.tr a)) hi (fun y h=>by cases h) p fun R I O v=>?_
   have f:=a.tr v;refine⟨⟨w3 f 0,w3 f 1⟩,d f 3,?_⟩;refine tE O (A (j.tr f)) hj (fun y h=>by simp[upd]) q fun P S G C=>?_
   refine N P S ⟨_,G,fun c hc=>?_⟩ ((j.tr f).tr C)
   have s:=PO (x:=x) (lev:=12-m) (c:=c) (p:=q) (l:= [p]) (cD ..);rw[g]at e;by_cases D:c=ck x (12-m) p.1
   ·have u:ck x (12-m) q.1≠c:=fun h=>e (by omega)
    have L:part x (12-m) c [p]= [p]:=Je fun r H=>by rw[aD.1 H,D]
    rw[if_neg u,L]at s;exact .inr (.inl ⟨p,s,by simp[upd,g,D,e],by simp[upd]⟩)
   ·have L:part x (12-m) c [p]= []:=y9 fun r H=>by rw[aD.1 H];exact fun h=>D h.symm
    rw[L]at s;by_cases u:c=ck x (12-m) q.1
    ·rw[if_pos u.symm]at s
     exact .inr (.inl ⟨q,s,by simp[upd,g,u],by simp[upd]⟩)
    ·rw[if_neg fun h=>u h.symm]at s
     exact .inl ⟨s,by simp[upd,g,u,D],by simp[upd]⟩
end Go.Proofs
namespace Go.Proofs
open Go.Lift
noncomputable instance memDec (p:Pr) (l:List Pr):Decidable (p∈l):=Classical.propDecidable _
theorem IX{l:List Pr}(a:bM l){k v w:ByteArray}(b:(k,v)∈l)(h2:(k,w)∈l):v=w:=by
 induction l with
 |nil=>cases b
 |cons q l ih=>
  have a:=aF.1 a;rcases aC.1 b with d|b<;>rcases aC.1 h2 with c|h2
  ·exact(Prod.mk.inj (d.trans c.symm)).2
  ·have:=a.1 _ h2;rw[←d]at this;exact absurd this (bZ _)
  ·have:=a.1 _ b;rw[←c]at this;exact absurd this (bZ _)
  ·exact ih a.2 b h2
theorem nF{x:Hs}{lev c:Nat}{l:List Pr}{p:Pr}:p∈part x lev c l↔p∈l∧ck x lev p.1=c:=by unfold part;rw[di,decide_eq_true_iff]
theorem Iw{x:Hs}{lev:Nat}{l:List Pr}{k:ByteArray}:cG (part x lev (ck x lev k) l) k=cG l k:=by
 unfold cG;rw[lU,cE,cE];constructor
 ·rintro⟨p,a,e⟩;exact⟨p,(nF.1 a).1,e⟩
 ·rintro⟨p,a,e⟩;exact⟨p,nF.2 ⟨a,by rw[of_decide_eq_true e]⟩,e⟩
theorem jl{x:Hs}{lev c:Nat}{l:List Pr}(a:bM l):bM (part x lev c l):=a.sublist List.filter_sublist
theorem li{x:Hs}{lev c:Nat}{l:List Pr}:(part x lev c l).length≤l.length:=eh ..
def SlotIs(W:Nat→Prop)(x:Hs)(h:ad)(m:Nat)(s:Slots)(c:Nat)(l:List Pr):Prop:=
 (l= []∧s.p c=none∧s.k c=none)∨(∃p,l= [p]∧s.p c=some p∧s.k c=none)∨(2≤l.length∧s.p c=none∧∃kb,s.k c=some (some ⟨kb,0,none⟩)∧TrieAt W x h m kb l)
theorem SlotIs.upd0{W:Nat→Prop}{x:Hs}{h h':ad}{m:Nat}{s:Slots}{c:Nat}{l:List Pr}(k:Upd No h h')(t:SlotIs W x h m s c l):SlotIs W x h' m s c l:=t.imp id fun o=>o.imp id fun⟨b,h2,a,e,d⟩=>⟨b,h2,a,e,TrieAt.upd0 k d⟩
theorem Qe(p:Pr):∀{l:List Pr},l.length≤(iq p l).length
 | []=>aS _
 |q::l=>by
  rw[gR];split
  ·have:=Qe p (l:=l);simp only[ar];omega
  ·split<;>simp
theorem Vs{W:Nat→Prop}{x:Hs}{h h':ad}{m b':Nat}{s s':Slots}{l:List Pr}{p:Pr}(f:bM l)(b:Upd No h h')(i:NodeAt W h' b' s')(d:∀c,c<32→SlotIs W x h m s c (part x (12-m) c l))
  (g:∀c,c≠ck x (12-m) p.1→s'.p c=s.p c∧s'.k c=s.k c)(hi:SlotIs W x h' m s' (ck x (12-m) p.1) (iq p (part x (12-m) (ck x (12-m) p.1) l))):TrieAt W x h' (m+1) b' (iq p l):=by
 refine⟨s',i,fun c hc=>?_⟩
 rw[PO f];by_cases e:ck x (12-m) p.1=c
 ·rw[if_pos e];subst e;exact hi
 ·rw[if_neg e]
  have t:=SlotIs.upd0 b (d c hc);obtain⟨a,j⟩:=g c fun h=>e h.symm
  unfold SlotIs at t;rw[←a,←j]at t;exact t
theorem ge{a b:ByteArray}:(a.toList==b.toList)=decide (a=b):=by
 rw[lU,beq_iff_eq,decide_eq_true_iff,Ge]
theorem abC{W:Nat→Prop}{x:Hs}:∀(m:Nat),m≤13→∀{b:Nat} {l:List Pr} (p:Pr) {h:ad},TrieAt W x h m b l→(∀y,W y→y<h.size)→bM l→l.length≤1000000→∀{K:(Option Addr)×Bool×Bool→ad→Prop},
  (∀h' b' ch,Upd No h h'→TrieAt W x h' m b' (iq p l)→(ch=false→b'=b)→ch= !decide (p∈l)→K (some ⟨b',0,none⟩, !cG l p.1,ch) h')→
  HC PG kY [Xf x p.1,.pointer (some ⟨b,0,none⟩),.agg #[.string p.1,.string p.2],.int .i64 ((13-m:Nat):Int)] [.c .ptr,.c .bool,.c .bool] K h:=by
 intro m;induction m with
 |zero=>
  intro _ b l p h t hW Q hn K G;have T:∀{h'},Upd No h h'→∀y,W y→y<h'.size:=fun k y hy=>aG (hW y hy) k.size
  refine yJ (x.k0,x.k1,x.mask,none,p.1,gq x p.1) (some ⟨b,0,none⟩) p ((13-0:Nat):Int) ?_;unfold tX ae aB nv av lO vl wT rC Am CC nX CB NP;have k1:=Upd.hnew No h [.int .u64 x.k0,.int .u64 x.k1,.int .u64 x.mask,.pointer none,.string p.1,.int .u64 (gq x p.1)] dd;have b1:=co h [.int .u64 x.k0,.int .u64 x.k1,.int .u64 x.mask,.pointer none,.string p.1,.int .u64 (gq x p.1)] dd
  refine bG ?_;simp only[cT h];generalize hnew h [.int .u64 x.k0,.int .u64 x.k1,.int .u64 x.mask,.pointer none,.string p.1,.int .u64 (gq x p.1)] dd=C at k1 b1;have Z:=Upd.hnew No C [.string p.1,.string p.2] al;have b2:=co C [.string p.1,.string p.2] al;refine bG ?_;simp only[cT C];generalize hnew C [.string p.1,.string p.2] al=h2 at Z b2
  have o:∀{h':ad},Upd No h2 h'→∀i,aJ h' (adr ⟨h.size,0,none⟩ i)=(#[.int .u64 x.k0,.int .u64 x.k1,.int .u64 x.mask,.pointer none,.string p.1,.int .u64 (gq x p.1)]:Array Value)[i]?:=fun k i=>by
   rw[cd,bm (k.get0 (Z.get0 b1)),aR]
  have B:∀{h':ad},Upd No h2 h'→∀i,aJ h' (adr ⟨C.size,0,none⟩ i)=(#[.string p.1,.string p.2]:Array Value)[i]?:=fun k i=>by rw[cd,bm (k.get0 b2),aR]
  have r:=Upd.refl No h2;have d:=k1.tr Z;have bk:BuckAt W h2 b l:=BuckAt.upd t d fun _ h=>h.elim
  obtain⟨sp,sk,ow,hb,_⟩:=bk.ex;refine gL hb (aw.2 ⟨_,B r 0,aa2 bk Q (by omega) p.1 fun I v H hv=>?_⟩)
  have put:∀(U:p∉l) {h4:ad},Upd No h2 h4→HC PG kr [.pointer (some ⟨b,0,none⟩),.pointer none,.agg #[.string p.1,.string p.2]] [.c .ptr] (fun(e15:Option Addr) h16=>K (e15, !cG l p.1,true) h16) h4:=fun U h4 n=>
   Ic (bk.upd n fun _ h=>h.elim) (T (d.tr n)) Q (by omega) p fun h5 b5 bk5 hu5=>by
    rw[Ei p Q]at bk5;exact G h5 b5 true ((d.tr n).tr hu5) bk5 (fun h=>by cases h) (by rw[decide_eq_false U];rfl)
  refine Join.intro (fun t' h'=>t'=decide (p∈l)∧Upd No h2 h') (fun R hR=>?_) ?_
  ·cases E:cG l p.1 with
   |false=>
    refine ag.2 (hR _ _ ⟨?_,H⟩);refine(decide_eq_false fun hm=>?_).symm
    have:cG l p.1=true:=cE.2 ⟨p,hm,decide_eq_true rfl⟩;rw[E]at this;cases this
   |true=>
    have hv:=hv E;refine aw.2 ⟨_,B H 1,hR _ _ ⟨?_,H⟩⟩;rw[ge,decide_eq_decide];constructor
    ·intro e
     have e:v=p.2:=e;rw[e]at hv;exact hv
    ·intro hm
     exact IX Q hv (show(p.1,p.2)∈l from hm)
  ·rintro t' h4 ⟨rfl,n⟩
   by_cases hm:p∈l
   ·rw[decide_eq_true hm]
    refine aw.2 ?_;have E:cG l p.1=true:=cE.2 ⟨p,hm,decide_eq_true rfl⟩;have:=G h4 b false (d.tr n) (by rw[H6 Q hm];exact bk.upd n fun _ h=>h.elim) (fun _=>rfl) (by rw[decide_eq_true hm];rfl)
    rw[E]at this;exact this
   ·rw[decide_eq_false hm]
    refine ag.2 ⟨none,o n 3,_,B n 0,_,B n 1,put hm n⟩
 |succ m ih=>
  intro hm b l p h t hW Q hn K G;have T:∀{h'},Upd No h h'→∀y,W y→y<h'.size:=fun k y hy=>aG (hW y hy) k.size
  have hl:13-(m+1)<13:=by omega
  have hlev:13-(m+1)=12-m:=by omega
  refine yJ (x.k0,x.k1,x.mask,none,p.1,gq x p.1) (some ⟨b,0,none⟩) p ((13-(m+1):Nat):Int) ?_;unfold tX ae aB nv av lO vl wT rC Am CC nX CB NP;have k1:=Upd.hnew No h [.int .u64 x.k0,.int .u64 x.k1,.int .u64 x.mask,.pointer none,.string p.1,.int .u64 (gq x p.1)] dd;have b1:=co h [.int .u64 x.k0,.int .u64 x.k1,.int .u64 x.mask,.pointer none,.string p.1,.int .u64 (gq x p.1)] dd
  refine bG ?_;simp only[cT h];generalize hnew h [.int .u64 x.k0,.int .u64 x.k1,.int .u64 x.mask,.pointer none,.string p.1,.int .u64 (gq x p.1)] dd=C at k1 b1;have Z:=Upd.hnew No C [.string p.1,.string p.2] al;have b2:=co C [.string p.1,.string p.2] al;refine bG ?_;simp only[cT C];generalize hnew C [.string p.1,.string p.2] al=h2 at Z b2
  have o:∀{h':ad},Upd No h2 h'→∀i,aJ h' (adr ⟨h.size,0,none⟩ i)=(#[.int .u64 x.k0,.int .u64 x.k1,.int .u64 x.mask,.pointer none,.string p.1,.int .u64 (gq x p.1)]:Array Value)[i]?:=fun k i=>by
   rw[cd,bm (k.get0 (Z.get0 b1)),aR]
  have B:∀{h':ad},Upd No h2 h'→∀i,aJ h' (adr ⟨C.size,0,none⟩ i)=(#[.string p.1,.string p.2]:Array Value)[i]?:=fun k i=>by rw[cd,bm (k.get0 b2),aR]
  have r:=Upd.refl No h2;have d:=k1.tr Z;obtain⟨s,X,hs0⟩:=TrieAt.upd0 d t;have hs:∀c,c<32→SlotIs W x h2 m s c (part x (12-m) c l):=hs0;have tt:∀{h':ad},Upd No h2 h'→TrieAt W x h' (m+1) b l:=fun k=>TrieAt.upd0 (d.tr k) t
  obtain⟨d0,n0,sp0,sk0,ow0,hb0,_⟩:=X.ex;refine gL hb0 (ag.2 ⟨_,o r 5,Td hl ?_⟩);rw[hlev];have hi:=zT x (12-m) p.1;have O:=hs _ hi;have Y:=jl (x:=x) (lev:=12-m) (c:=ck x (12-m) p.1) Q;have hnp:(part x (12-m) (ck x (12-m) p.1) l).length≤1000000:=aX li hn;have N:p∈part x (12-m) (ck x (12-m) p.1) l↔p∈l:=by rw[nF];exact⟨fun h=>h.1,fun h=>⟨h,rfl⟩⟩
  have M:=Iw (x:=x) (lev:=12-m) (l:=l) (k:=p.1);have g:=fun{h':ad} {b':Nat} {s':Slots}=>Vs (W:=W) (x:=x) (h:=h2) (h':=h') (m:=m) (b':=b') (s:=s) (s':=s') (l:=l) (p:=p) Q
  generalize hc:ck x (12-m) p.1=c at hi O Y hnp N M g;generalize hlp:part x (12-m) c l=lc at O Y hnp N M g;refine AE X hi fun I H=>?_
  have k4:=Upd.hnew No I [.string (⟨#[]⟩:ByteArray),.string (⟨#[]⟩:ByteArray)] al;have b4:=co I [.string (⟨#[]⟩:ByteArray),.string (⟨#[]⟩:ByteArray)] al;refine bG ?_;simp only[cT I];generalize hnew I [.string (⟨#[]⟩:ByteArray),.string (⟨#[]⟩:ByteArray)] al=h4 at k4 b4;have b4':h4[I.size]? =some (.cells #[.string Rn.1,.string Rn.2] al (0,0)):=b4
  refine GU (p:=F4 (s.p c)) b4' fun h5 b5 hu5=>?_
  have a:Upd No h2 h5:=(H.tr k4).trans hu5 fun y hy=>.inr (by have hy:y=I.size:=hy;have:=H.size;omega)
  have V:∀{h':ad},Upd No h5 h'→∀i,aJ h' (adr ⟨I.size,0,none⟩ i)=(#[.string (F4 (s.p c)).1,.string (F4 (s.p c)).2]:Array Value)[i]?:=fun k i=>by rw[cd,bm (k.get0 b5),aR]
  have r5:=Upd.refl No h5;have L:=X.upd a fun _ h=>h.elim
  cases hsp:s.p c with
  |some y=>
   rw[hsp]at V;obtain⟨A,hk0⟩:lc= [y]∧s.k c=none:=by
    rcases O with⟨_,h2,_⟩|⟨q,C,h2,I⟩|⟨_,h2,_⟩
    ·rw[hsp]at h2;cases h2
    ·rw[hsp]at h2;cases h2;exact⟨C,I⟩
    ·rw[hsp]at h2;cases h2
   refine aw.2 ⟨y.1,V r5 0,y.2,V r5 1,p.1,B a 0,p.2,B a 1,?_⟩;rw[ge,ge];have hyl:y∈l:=(nF.1 (show y∈part x (12-m) c l by rw[hlp,A];exact aD.2 rfl)).1
   by_cases J:y.1=p.1
   ·have E:cG l p.1=true:=cE.2 ⟨y,hyl,decide_eq_true J⟩
    rw[E]at G;by_cases e2:y.2=p.2
    ·rw[decide_eq_true J,decide_eq_true e2]
     have hyp:y=p:=yX J e2;have u:p∈l:=hyp▸hyl;refine aw.2 ?_;exact G h5 b false (d.tr a) (by rw[H6 Q u];exact tt a) (fun _=>rfl) (by rw[decide_eq_true u];rfl)
    ·rw[decide_eq_true J,decide_eq_false e2]
     refine ag.2 ⟨y.1,V r5 0,p.1,B a 0,?_⟩;rw[ge,decide_eq_true J];refine aw.2 ⟨none,o a 3,p.1,B a 0,p.2,B a 1,?_⟩;refine tE L (T (d.tr a)) hi (fun _ _=>hk0) p fun h6 S nd6 f=>?_
     have P:p∉l:=fun hm=>by
      have:=N.2 hm;rw[A]at this;exact e2 (by rw[aD.1 this])
     refine G h6 S true ((d.tr a).tr f) (g (a.tr f) nd6 hs (fun c' j=>⟨gt j,gt j⟩) ?_) (fun h=>by cases h) (by rw[decide_eq_false P];rfl)
     refine .inr (.inl ⟨p,?_,gT,gT⟩);rw[A,gR,if_neg (by rw[J];exact bZ _),if_pos J]
   ·rw[decide_eq_false J]
    refine ag.2 ⟨y.1,V r5 0,p.1,B a 0,?_⟩;rw[ge,decide_eq_false J];refine ag.2 ⟨none,o a 3,_,o a 0,_,o a 1,_,o a 2,_,o a 3,_,o a 4,_,o a 5,y.1,V r5 0,y.2,V r5 1,p.1,B a 0,p.2,B a 1,?_⟩;have ew:IntKind.wrap .i64 (((12-m:Nat):Int)+1)=((13-m:Nat):Int):=by rw[eJ (by omega)];omega
    rw[ew];refine aaC m y p (by omega) J (T (d.tr a)) fun h6 S t6 f=>⟨o (a.tr f) 3,?_⟩
    refine yh (L.upd f fun _ h=>h.elim) (T ((d.tr a).tr f)) hi (fun z hz=>by rw[hk0]at hz;cases hz) ⟨S,0,none⟩ fun h7 b7 nd7 D=>?_
    have E:cG l p.1=false:=by
     rw[←M,A];unfold cG;rw[ur,decide_eq_false J];rfl
    have P:p∉l:=fun hm=>by
     have:cG l p.1=true:=cE.2 ⟨p,hm,decide_eq_true rfl⟩;rw[E]at this;cases this
    rw[E]at G;refine G h7 b7 true (((d.tr a).tr f).tr D) (g ((a.tr f).tr D) nd7 hs (fun c' j=>⟨gt j,gt j⟩) ?_) (fun h=>by cases h) (by rw[decide_eq_false P];rfl)
    rw[A];exact .inr (.inr ⟨by rw[Ug J];omega,gT,S,gT,TrieAt.upd0 D t6⟩)
  |none=>
   refine ag.2 (wU L hi ?_);cases hsk:s.k c with
   |none=>
    have hlc:lc= []:=by
     rcases O with⟨C,_⟩|⟨q,_,h2,_⟩|⟨_,_,kb,h2,_⟩
     ·exact C
     ·rw[hsp]at h2;cases h2
     ·rw[hsk]at h2;cases h2
    refine aw.2 ⟨none,o a 3,p.1,B a 0,p.2,B a 1,?_⟩;refine tE L (T (d.tr a)) hi (fun _ _=>hsk) p fun h6 S nd6 f=>?_
    have E:cG l p.1=false:=by rw[←M,hlc];rfl
    have P:p∉l:=fun hm=>by
     have:cG l p.1=true:=cE.2 ⟨p,hm,decide_eq_true rfl⟩;rw[E]at this;cases this
    rw[E]at G;refine G h6 S true ((d.tr a).tr f) (g (a.tr f) nd6 hs (fun c' j=>⟨gt j,gt j⟩) ?_) (fun h=>by cases h) (by rw[decide_eq_false P];rfl)
    rw[hlc];exact .inr (.inl ⟨p,rfl,gT,gT⟩)
   |some kp=>
    obtain⟨h2l,kb,rfl,tk⟩:2≤lc.length∧∃kb,kp=some ⟨kb,0,none⟩∧TrieAt W x h2 m kb lc:=by
     rcases O with⟨_,_,h2⟩|⟨q,_,h2,_⟩|⟨C,_,kb,h2,I⟩
     ·rw[hsk]at h2;cases h2
     ·rw[hsp]at h2;cases h2
     ·rw[hsk]at h2;cases h2;exact⟨C,kb,rfl,I⟩
    refine ag.2 ⟨_,o a 0,_,o a 1,_,o a 2,_,o a 3,_,o a 4,_,o a 5,p.1,B a 0,p.2,B a 1,?_⟩;have ew:IntKind.wrap .i64 (((12-m:Nat):Int)+1)=((13-m:Nat):Int):=by rw[eJ (by omega)];omega
    rw[ew];refine ih (by omega) p (TrieAt.upd0 a tk) (T (d.tr a)) Y hnp fun h6 S ch f t6 hsame F=>?_
    have w:=a.tr f;by_cases u:p∈l
    ·have F:ch=false:=by rw[F,decide_eq_true (N.2 u)];rfl
     have E:cG l p.1=true:=cE.2 ⟨p,u,decide_eq_true rfl⟩;rw[E]at G;rw[F];refine aw.2 ?_;exact G h6 b false (d.tr w) (by rw[H6 Q u];exact tt w) (fun _=>rfl) (by rw[decide_eq_true u];rfl)
    ·have F:ch=true:=by rw[F,decide_eq_false fun h=>u (N.1 h)];rfl
     rw[F];refine ag.2 ⟨none,o w 3,?_⟩;refine yh (L.upd f fun _ h=>h.elim) (T ((d.tr a).tr f)) hi (fun _ _=>hsp) ⟨S,0,none⟩ fun h7 b7 nd7 D=>?_
     rw[M];refine G h7 b7 true ((d.tr w).tr D) (g (w.tr D) nd7 hs (fun c' j=>⟨gt j,gt j⟩) ?_) (fun h=>by cases h) (by rw[decide_eq_false u];rfl)
     exact .inr (.inr ⟨aX h2l (Qe p),gT,S,gT,TrieAt.upd0 D t6⟩)
end Go.Proofs
namespace Go.Proofs
open Go.Lift
theorem Pa{W:Nat→Prop}{x:Hs}{h:ad}{m b:Nat}(a:NodeAt W h b ⟨fun _=>none,fun _=>none⟩):TrieAt W x h (m+1) b []:=⟨_,a,fun _ _=>.inl ⟨rfl,rfl,rfl⟩⟩
def RootAt(W:Nat→Prop)(x:Hs)(h:ad)(r:Option Addr)(l:List Pr):Prop:=(r=none∧l= [])∨∃b,r=some ⟨b,0,none⟩∧TrieAt W x h 13 b l
theorem RootAt.upd0{W:Nat→Prop}{x:Hs}{h h':ad}{r:Option Addr}{l:List Pr}(k:Upd No h h')(t:RootAt W x h r l):RootAt W x h' r l:=t.imp id fun⟨b,e,t⟩=>⟨b,e,TrieAt.upd0 k t⟩
theorem Nz{W:Nat→Prop}{x:Hs}{h:ad}{r:Option Addr}{l:List Pr}(t:RootAt W x h r l)(d:∀y,W y→y<h.size){K:Option Addr→ad→Prop}(a:∀h' b,TrieAt W x h' 13 b l→Upd No h h'→(r=some ⟨b,0,none⟩∨r=none)→K (some ⟨b,0,none⟩) h'):HC PG nh [.pointer r] [.c .ptr] K h:=by
 refine OH r ?_;unfold Fg;rcases t with⟨rfl,rfl⟩|⟨b,rfl,t⟩
 ·refine aw.2 (Ck ?_)
  unfold yc;exact rP d fun h' b c e=>a h' b (Pa c) e (.inr rfl)
 ·exact ag.2 (a h b t (Upd.refl _ _) (.inl rfl))
theorem cF{h:ad}{b:Nat}{t:TypeId}{c vs:List Value}(a:h[b]? =some (.cells c.toArray t (0,0))) (f:vs.length=c.length) {k:ad→Prop}
  (d:∀h',h'[b]? =some (.cells vs.toArray t (0,0))→Upd (· =b) h h'→k h'):rE h (some ⟨b,0,none⟩) 0 vs∧At (fS h ⟨b,0,none⟩ 0 vs) k:=by
 have e:=kX vs h 0 0 c a (by omega);refine⟨.inr ⟨_,rfl,fun j g=>by rw[cd];exact ip a (by rw[List.size_toArray];omega)⟩,bG ?_⟩
 rw[e];refine d _ ?_ (Upd.set h _ rfl);rw[jE a];congr 3
 simp[f]
set_option maxRecDepth 4000 in
theorem QB{W:Nat→Prop}{x:Hs}{h:ad}{r:Option Addr}{l:List Pr}(t:RootAt W x h r l)(O:∀y,W y→y<h.size)(V:bM l)(U:l.length≤1000000)(p:Pr){K:Option Addr×Bool→ad→Prop}
  (S:∀h' b',Upd No h h'→TrieAt W x h' 13 b' (iq p l)→(p∈l→r=some ⟨b',0,none⟩∨r=none)→K (some ⟨b',0,none⟩, !cG l p.1) h'):
  HC PG A6 [.agg #[.int .u64 x.k0,.int .u64 x.k1,.int .u64 x.mask],.pointer none,.pointer r,.agg #[.string p.1,.string p.2]] [.c .ptr,.c .bool] K h:=by
 refine Q3 (x.k0,x.k1,x.mask) none r p ?_;unfold HB ae aB df AA wN av wT rC aba abh CC;have k1:=Upd.hnew No h [.int .u64 x.k0,.int .u64 x.k1,.int .u64 x.mask] cA;have b1:=co h [.int .u64 x.k0,.int .u64 x.k1,.int .u64 x.mask] cA;refine bG ?_;simp only[cT h];generalize hnew h [.int .u64 x.k0,.int .u64 x.k1,.int .u64 x.mask] cA=h1 at k1 b1
 have I:=Upd.hnew No h1 [.string p.1,.string p.2] al;have b2:=co h1 [.string p.1,.string p.2] al;refine bG ?_;simp only[cT h1];generalize hnew h1 [.string p.1,.string p.2] al=h2 at I b2;have e:∀{h':ad},Upd No h2 h'→∀i,aJ h' (adr ⟨h.size,0,none⟩ i)=(#[.int .u64 x.k0,.int .u64 x.k1,.int .u64 x.mask]:Array Value)[i]?:=fun k i=>by
  rw[cd,bm (k.get0 (I.get0 b1)),aR]
 have n:∀{h':ad},Upd No h2 h'→∀i,aJ h' (adr ⟨h1.size,0,none⟩ i)=(#[.string p.1,.string p.2]:Array Value)[i]?:=fun k i=>by rw[cd,bm (k.get0 b2),aR]
 have r2:=Upd.refl No h2;have q:=k1.tr I;let D:List Value:= [.int .u64 0,.int .u64 0,.int .u64 0,.pointer none,.string (⟨#[]⟩:ByteArray),.int .u64 0]
 let B:List Value:= [.int .u64 x.k0,.int .u64 x.k1,.int .u64 x.mask,.pointer none,.string p.1,.int .u64 (gq x p.1)]
 have w:∀{g:ad} {b:Nat},Upd No h2 g→g[b]? =some (.cells B.toArray dd (0,0))→
   ∃v15:Int,aJ g (adr ⟨b,0,none⟩ 0)=some (.int .u64 v15)∧
    ∃v16:Int,aJ g (adr ⟨b,0,none⟩ 1)=some (.int .u64 v16)∧
    ∃v17:Int,aJ g (adr ⟨b,0,none⟩ 2)=some (.int .u64 v17)∧
    ∃v18:Option Addr,aJ g (adr ⟨b,0,none⟩ 3)=some (.pointer v18)∧
    ∃v19:ByteArray,aJ g (adr ⟨b,0,none⟩ 4)=some (.string v19)∧
    ∃v20:Int,aJ g (adr ⟨b,0,none⟩ 5)=some (.int .u64 v20)∧
    ∃v21:ByteArray,aJ g (adr ⟨h1.size,0,none⟩ 0)=some (.string v21)∧
    ∃v22:ByteArray,aJ g (adr ⟨h1.size,0,none⟩ 1)=some (.string v22)∧
    HC PG nh [.pointer r] [.c .ptr] (fun(N:Option Addr) f=>
     ((aJ f (adr ⟨h1.size,0,none⟩ 0)=some (.string v21)∧aJ f (adr ⟨h1.size,0,none⟩ 1)=some (.string v22))∧
      ((aJ f (adr ⟨b,0,none⟩ 0)=some (.int .u64 v15)∧aJ f (adr ⟨b,0,none⟩ 1)=some (.int .u64 v16)∧aJ f (adr ⟨b,0,none⟩ 2)=some (.int .u64 v17)∧aJ f (adr ⟨b,0,none⟩ 3)=some (.pointer v18)∧aJ f (adr ⟨b,0,none⟩ 4)=some (.string v19)∧aJ f (adr ⟨b,0,none⟩ 5)=some (.int .u64 v20))∧
       HC PG kY [.agg #[.int .u64 v15,.int .u64 v16,.int .u64 v17,.pointer v18,.string v19,.int .u64 v20],.pointer N,.agg #[.string v21,.string v22],.int .i64 0] [.c .ptr,.c .bool,.c .bool] (fun(z:(Option Addr)×Bool×Bool) H=>
        K (z.1,z.2.1) H) f))) g:=fun{g b} d G=>by
  have m:∀{h':ad},Upd No g h'→∀i,aJ h' (adr ⟨b,0,none⟩ i)=B.toArray[i]?:=fun k i=>by rw[cd,bm (k.get0 G),aR]
  have u:=Upd.refl No g;refine⟨_,m u 0,_,m u 1,_,m u 2,_,m u 3,_,m u 4,_,m u 5,p.1,n d 0,p.2,n d 1,?_⟩;refine Nz (t.upd0 (q.tr d)) (fun y A=>aG (O y A) (q.tr d).size) fun Q F X c J=>?_
  have a:=d.tr c;refine⟨⟨n a 0,n a 1⟩,⟨m c 0,m c 1,m c 2,m c 3,m c 4,m c 5⟩,?_⟩;refine abC 13 (aj _) p X (fun y A=>aG (O y A) ((q.tr d).tr c).size) V U fun P C Z s T Y L=>?_
  refine S P C ((q.tr a).tr s) T fun hm=>?_
  have M:C=F:=Y (by rw[L,decide_eq_true hm];rfl);rw[M];exact J
 have own:∀{v g:ad} {b:Nat},h2.size≤b→Upd (· =b) v g→Upd No h2 v→Upd No h2 g:=fun M R k=>k.trans R fun y A=>.inr (A▸M)
 refine⟨_,e r2 0,_,e r2 1,_,e r2 2,_,n r2 0,_,e r2 0,_,e r2 1,_,e r2 2,_,n r2 0,?_,?_⟩
 ·refine vE fun v j=>⟨n j 0,⟨e j 0,e j 1,e j 2⟩,?_⟩
  have o:=Upd.hnew No v D dd;have E:=co v D dd;have d:=j.tr o;refine bG ?_;simp only[cT v];refine⟨n d 0,⟨e d 0,e d 1,e d 2⟩,?_⟩;refine cF (vs:=B) E rfl fun Q F c=>w (own j.size c d) F
 ·have o:=Upd.hnew No h2 D dd
  have E:=co h2 D dd;refine bG ?_;simp only[cT h2];refine⟨n o 0,⟨e o 0,e o 1,e o 2⟩,n o 0,⟨e o 0,e o 1,e o 2⟩,?_⟩;refine vE fun Q c=>?_
  have a:=o.tr c;refine⟨n a 0,⟨e a 0,e a 1,e a 2⟩,?_⟩;exact cF (vs:=B) (c.get0 E) rfl fun P C s=>w (own (aj _) s a) C
end Go.Proofs
namespace Go.Proofs
open Go.Lift
abbrev rD(b:UInt8):List Value:= [.int .u8 (b.toNat:Int)]
theorem wn(b:UInt8):(rD b).length=1∧0<1:=⟨rfl,Nat.one_pos⟩
theorem D7:∀xs:List UInt8,cH (xs.flatMap rD)=true
 | []=>rfl
 |x::xs=>by rw[aN];exact m9 rfl (D7 xs)
theorem Ba(s:ByteArray):fc s=s.data.toList.flatMap rD:=by
 unfold fc;generalize s.data.toList=l;induction l with
 |nil=>rfl
 |cons b l ih=>rw[fi,aN,ih];rfl
theorem yC{M:Nat→Prop}{h:ad}{so:SliceV}{out:List UInt8}{v:Int}{b:UInt8}(hv:v=(b.toNat:Int)){K:SliceV→ad→Prop}(f:OwnS rD 1 cQ M h so out)(hM:∀b,h.size≤b→M b)(g:out.length+1≤140737488355328)
  (e:∀s' h',OwnS rD 1 cQ M h' s' (out++ [b])→Upd M h h'→K s' h'):
  ∃xs,SRow (hnew h [.int .u8 v] cQ) (some (ay h)) (1*1) xs∧AppP (some [.int .u8 0]) 1 1 cQ so.a so.len so.cap 1 xs (hnew h [.int .u8 v] cQ) K:=by
 subst hv;have k:=Upd.hnew No h [.int .u8 (b.toNat:Int)] cQ;have d:OwnS rD 1 cQ (fun _=>True) (hnew h [.int .u8 (b.toNat:Int)] cQ) ⟨some (ay h),1,1⟩ [b]:=⟨rfl,wn,aj _,.inr ⟨h.size,[],rfl,trivial,co ..,rfl⟩⟩
 refine⟨_,(d.sl (W:=No) fun _ _ _ h=>h).srow,?_⟩
 refine AppP.own (ys:= [b]) (f.upd k fun _ _ h=>h) rfl rfl rfl rfl (by omega) (by simp only[aK];omega) (hM _ (by rw[jV];omega)) fun s' h' a c=>?_
 exact e s' h' a ((Upd.hnew M h _ _).tr c)
def pe(n k:Nat):List UInt8:=(gh k).map fun i=>ii (n>>>(8*i))
theorem BC(n k:Nat):pe n (k+1)=pe n k++ [ii (n>>>(8*k))]:=by unfold pe;rw[lR,cO];rfl
theorem dK(n k:Nat):(pe n k).length=k:=by simp[pe]
theorem SB{M:Nat→Prop}{h:ad}{s:SliceV}{xs:List UInt8}(v:OwnS rD 1 cQ M h s xs)(hM:∀b,h.size≤b→M b){n k:Nat}(z:n<18446744073709551616)(q:k≤8)(B:xs.length+k≤140737488355328){K:SliceV→ad→Prop}
  (p:∀s' h',OwnS rD 1 cQ M h' s' (xs++pe n k)→Upd M h h'→K s' h'):HC PG pi [.slice s.a s.len s.cap,.int .u64 n,.int .i64 k] [.c .slice] K h:=by
 refine Hh s n k ?_;unfold Bi;refine LoopP.ghost (fun(i:Nat) (t:SliceV×Int) h'=>t.2=(i:Int)∧i≤k∧OwnS rD 1 cQ M h' t.1 (xs++pe n i)∧Upd M h h') (fun i=>k-i) 0 ⟨rfl,aS _,by simpa[pe]using v,Upd.refl _ _⟩ ?_
 rintro I i ⟨so,A⟩ h' ⟨m,hi,c,d⟩ o;simp only at m c;subst m;refine ax (fun a=>?_) fun e=>?_
 ·have a:i<k:=by have:(i:Int)<(k:Int):=a;omega
  have u:IntKind.wrap .i64 (8*(i:Int))=((8*i:Nat):Int):=by rw[eJ (by omega)];omega
  have w:min (((8*i:Nat):Int)).toNat (IntKind.bits .u64)=8*i:=by rw[aU];exact bH (by show 8*i≤64;omega)
  refine Join.plain ?_;simp only[Bd];rw[u,w,ph];refine⟨by omega,bG ?_⟩;refine yC (b:=ii (n>>>(8*i))) ?_ c (fun b x=>hM b (aX d.size x)) (by rw[ac,dK];omega) fun y h2 f g=>?_
  ·rw[IntKind.wrap_u8];simp
  ·rw[cS a (by omega)]
   refine o (i+1) _ _ ⟨rfl,a,?_,d.tr g⟩ (by omega);rw[BC,←aq];exact f
 ·have j:i=k:=by have:¬(i:Int)<(k:Int):=e;omega
  subst j;exact p _ _ c d
end Go.Proofs
namespace Go.Proofs
open Go Go.Lift
theorem QH{α:Type}{f:α→List Value}{j a:Nat}{t:TypeId}{W:Nat→Prop}{h:ad}{c:Option Addr}{sl n k:Nat}{xs ys:List α}{i z:List Value}{K:SliceV→ad→Prop}
  (m:Sl f j W h ⟨c,sl,n⟩ xs)(o:k=ys.length)(p:i=ys.flatMap f)(s:z.length=j)(v:0<a)(g:n<sl+k)(e:(xs.length+ys.length)*a≤140737488355328)
  (u:∀s' h',OwnS f j t (fun b=>h.size≤b) h' s' (xs++ys)→Upd No h h'→K s' h'):AppP (some z) j a t c sl n k i h K:=by
 have d:sl=xs.length:=m.len;subst o p;refine⟨fun w=>by omega,fun _=>?_⟩
 refine⟨xs.flatMap f,z,m.srow,rfl,v,Go.growslice_fits g (by rw[d];exact e),fun x q=>?_⟩
 refine u _ _ ⟨by simp[d],m.ne,q,.inr ⟨h.size,eK (x-(sl+ys.length)) z,rfl,aj _,?_,?_⟩⟩ (Upd.hnew No h _ _)
 ·rw[co,bI]
 ·rw[oQ,s]
theorem aaj{h:ad}{s:SliceV}{xs:List UInt8}(C:Sl rD 1 No h s xs)(hc:s.cap=s.len){n k:Nat}(x:k≤8)(z:0<k)(E:xs.length+k≤140737488355328){K:SliceV→ad→Prop}
  (v:∀s' h',OwnS rD 1 cQ (fun b=>h.size≤b) h' s' (xs++pe n k)→Upd No h h'→K s' h'):HC PG pi [.slice s.a s.len s.cap,.int .u64 n,.int .i64 k] [.c .slice] K h:=by
 refine Hh s n k ?_;unfold Bi;refine LoopP.ghost (fun(i:Nat) (t:SliceV×Int) h'=>t.2=(i:Int)∧i≤k∧((i=0∧t.1=s∧h'=h)∨OwnS rD 1 cQ (fun b=>h.size≤b) h' t.1 (xs++pe n i))∧Upd No h h') (fun i=>k-i) 0 ⟨rfl,aS _,.inl ⟨rfl,rfl,rfl⟩,Upd.refl _ _⟩ ?_
 rintro I i ⟨so,D⟩ h' ⟨q,hi,a,j⟩ p;simp only at q a;subst q;refine ax (fun c=>?_) fun m=>?_
 ·have c:i<k:=by have:(i:Int)<(k:Int):=c;omega
  have y:IntKind.wrap .i64 (8*(i:Int))=((8*i:Nat):Int):=by rw[eJ (by omega)];omega
  have A:min (((8*i:Nat):Int)).toNat (IntKind.bits .u64)=8*i:=by rw[aU];exact bH (by show 8*i≤64;omega)
  refine Join.plain ?_;simp only[Bd];rw[y,A,ph];refine⟨by omega,bG ?_⟩;have u:IntKind.wrap .u8 ((n>>>(8*i):Nat):Int)=((ii (n>>>(8*i))).toNat:Int):=by rw[IntKind.wrap_u8];simp
  rcases a with⟨rfl,rfl,rfl⟩|a
  ·rw[u]
   have k1:=Upd.hnew No h' [.int .u8 ((ii (n>>>(8*0))).toNat:Int)] cQ;have B:OwnS rD 1 cQ (fun _=>True) (hnew h' [.int .u8 ((ii (n>>>(8*0))).toNat:Int)] cQ) ⟨some (ay h'),1,1⟩ [ii (n>>>(8*0))]:=⟨rfl,wn,aj _,.inr ⟨h'.size,[],rfl,trivial,co ..,rfl⟩⟩
   refine⟨_,(B.sl (W:=No) fun _ _ _ h=>h).srow,?_⟩
   refine QH (ys:= [ii (n>>>(8*0))]) (C.upd k1 fun _ h=>h.elim) rfl rfl rfl (by omega) (by omega) (by simp only[aK];omega) fun w h2 d f=>?_
   rw[cS c (by omega)];refine p 1 _ _ ⟨rfl,c,.inr ?_,k1.tr f⟩ (by omega);exact d.more fun b g=>aX k1.size g
  ·refine yC u a (fun b g=>aX j.size g) (by rw[ac,dK];omega) fun w h2 d f=>?_
   rw[cS c (by omega)];refine p (i+1) _ _ ⟨rfl,c,.inr ?_,j.trans f fun b g=>.inr g⟩ (by omega)
   rw[BC,←aq];exact d
 ·have o:i=k:=by have:¬(i:Int)<(k:Int):=m;omega
  subst o;rcases a with⟨e,_⟩|a
  ·omega
  ·exact v _ _ a j
def qh(s:ByteArray):List UInt8:=pe s.size 2++s.data.toList
theorem HX{W:Nat→Prop}{h:ad}{s:SliceV}{xs:List UInt8}(i:Sl rD 1 W h s xs)(hc:s.len≤s.cap)(b:ByteArray)(w:b.size≤1000000)(v:xs.length+2+b.size≤140737488355328){K:SliceV→ad→Prop}
  (o:∀s' h',OwnS rD 1 cQ (fun x=>h.size≤x) h' s' (xs++qh b)→Upd No h h'→K s' h'):HC PG pE [.slice s.a s.len s.cap,.string b] [.c .slice] K h:=by
 refine Ov s b ?_;unfold E3;have j:=i.len;refine⟨by omega,by omega,?_⟩
 simp only[aU];have d:Sl rD 1 No h ⟨aW s.a 0 s.len 1,s.len-0,s.len-0⟩ xs:=by
  have:=Sl.sub (i.less (W':=No) fun _ h=>h.elim) (l:=0) (hi:=s.len) (m:=s.len) (c:=s.len-0) (aS _) (by omega) (aj _)
  rw[List.drop_zero,bD (by omega)]at this;exact this
 have t:IntKind.wrap .u64 (b.size:Int)=(b.size:Int):=Go.IntWalk.u64_in _ (by omega);rw[t];refine aaj d rfl (n:=b.size) (k:=2) (by omega) (by omega) (by omega) fun u h2 g a=>?_
 refine AppP.own (ys:=b.data.toList) g (by simp) (Ba b) (by rw[Ba];exact D7 _) rfl (by omega) ?_ a.size fun q p e f=>?_
 ·simp only[ac,dK]
  have:b.data.toList.length=b.size:=by simp
  omega
 ·refine o q p ?_ (a.trans f fun x hx=>.inr hx)
  rw[qh,←aq];exact e
end Go.Proofs
namespace Go.Proofs
open Go Go.Lift
def GY(p:Pr):List UInt8:=qh p.1++qh p.2
def mG(l:List Pr):List UInt8:=l.flatMap GY
theorem kW(b:ByteArray):(qh b).length=2+b.size:=by simp[qh,dK]
def Fit(l:List Pr):Prop:=∀p∈l,p.1.size≤10000∧p.2.size≤10000
theorem V3{p:Pr}(h:p.1.size≤10000∧p.2.size≤10000):(GY p).length≤20004:=by
 unfold GY;rw[ac,kW,kW];omega
theorem pa:∀{l:List Pr},Fit l→(mG l).length≤l.length*20004
 | [],_=>by simp[mG]
 |p::l,h=>by
  have b:=V3 (h p (au ..));have h2:=pa (l:=l) fun q a=>h q (aE _ a)
  unfold mG at*;rw[aN,ac,ar];omega
theorem GX{l:List Pr}{i:Nat}(hi:i<l.length):mG (l.take (i+1))=mG (l.take i)++GY l[i]:=by
 unfold mG;rw[List.take_succ_eq_append_getElem hi,bI,aN,List.flatMap_nil,List.append_nil]
theorem IK{M W:Nat→Prop}{h:ad}{s sp:SliceV}{xs:List UInt8}{l:List Pr}(O:OwnS rD 1 cQ M h s xs)(hM:∀b,h.size≤b→M b)(F:Sl ey 2 W h sp l)(L:∀x,M x→x<h.size→W x)(C:Fit l)(T:l.length≤1000000)(X:xs.length+l.length*20004≤140737488355328){K:SliceV→ad→Prop}
  (H:∀s' h',OwnS rD 1 cQ M h' s' (xs++mG l)→Upd M h h'→K s' h'):HC PG ul [.slice s.a s.len s.cap,.slice sp.a sp.len sp.cap] [.c .slice] K h:=by
 refine LD s sp ?_;unfold Co bT nv az av lO iU DQ;have E:=F.len;have n:∀b,M b→W b∨h.size≤b:=fun b z=>by
  rcases Nat.lt_or_ge b h.size with hx|hx
  ·exact .inl (L b z hx)
  ·exact .inr hx
 refine LoopP.ghost (fun(i:Nat) (t:SliceV×Int) h'=>t.2=(i:Int)∧i≤l.length∧OwnS rD 1 cQ M h' t.1 (xs++mG (l.take i))∧Upd M h h') (fun i=>l.length-i) 0 ⟨rfl,aS _,by simpa[mG]using O,Upd.refl _ _⟩ ?_
 rintro I i ⟨so,V⟩ h' ⟨D,hi,e,m⟩ G;simp only at D e;subst D;refine ax (fun c=>?_) fun o=>?_
 ·have c:i<l.length:=by have:(i:Int)<(sp.len:Int):=c;omega
  obtain⟨a,R,_,hv⟩:=(F.upd m n).at (af c);have Q:=C l[i] (bh c);have w:=pa (l:=l.take i) fun q P=>C q (List.mem_of_mem_take P)
  rw[List.length_take,bH hi]at w;have k1:=Upd.hnew No h' [.string (⟨#[]⟩:ByteArray),.string (⟨#[]⟩:ByteArray)] al;have b1:=co h' [.string (⟨#[]⟩:ByteArray),.string (⟨#[]⟩:ByteArray)] al;refine⟨by simp only;omega,a,R,l[i].1,hv 0 _ rfl,l[i].2,hv 1 _ rfl,bG ?_⟩;simp only[cT h'];generalize hnew h' [.string (⟨#[]⟩:ByteArray),.string (⟨#[]⟩:ByteArray)] al=h1 at k1 b1
  have y:h1[h'.size]? =some (.cells #[.string Rn.1,.string Rn.2] al (0,0)):=b1;refine GU (p:=l[i]) y fun h2 b2 v=>?_
  have d:Upd No h' h2:=k1.trans v fun x hx=>.inr (eY hx.symm)
  have g:=e.upd d fun _ _ h=>h
  refine⟨l[i].1,by rw[cd,bm b2];rfl,l[i].2,by rw[cd,bm b2];rfl,?_⟩
  have B:i*20004+20004≤l.length*20004:=by rw[←Nat.succ_mul];exact cz _ c
  refine HX (W:=No) (g.sl fun _ _ _ h=>h) g.cap l[i].1 (by omega) (by rw[ac];omega) fun Y U k f=>⟨by rw[cd,bm (f.get0 b2)];rfl,?_⟩
  refine HX (W:=No) (k.sl fun _ _ _ h=>h) k.cap l[i].2 (by omega) (by rw[ac,ac,kW];omega) fun S J A u=>?_
  have j:Upd M h J:=m.tr ((d.tr (f.tr u)).wide);rw[cS c (by omega)];refine G (i+1) _ _ ⟨rfl,c,?_,j⟩ (by omega);rw[GX c,GY,←aq,←aq];exact A.more fun b z=>hM b (aX (m.tr ((d.tr f).wide)).size z)
 ·have N:i=l.length:=by have:¬(i:Int)<(sp.len:Int):=o;omega
  rw[bD (by omega)]at e;exact H _ _ e m
end Go.Proofs
namespace Go.Proofs
open Go Go.Lift
def lu(q:Nat→Bool):Nat→Nat
 |0=>0
 |n+1=>lu q n+(if q n then 2^n else 0)
theorem pn(q:Nat→Bool):∀n,lu q n<2^n
 |0=>by simp[lu]
 |n+1=>by
  have:=pn q n;unfold lu;rw[pV];split<;>omega
theorem Gh(q:Nat→Bool)(c:Nat):∀n,(lu q n).testBit c=(decide (c<n)&&q c)
 |0=>by simp[lu]
 |n+1=>by
  have b:=pn q n;have d:=Gh q c n;unfold lu;by_cases a:q n=true
  ·rw[if_pos a,Nat.add_comm]
   rcases Nat.lt_trichotomy c n with h|h|h
   ·rw[Nat.testBit_two_pow_add_gt h,d,decide_eq_true h,decide_eq_true (by omega)]
   ·subst h
    rw[Nat.testBit_two_pow_add_eq,iH b,decide_eq_true (by omega),a];rfl
   ·have f:2^n+lu q n<2^c:=aG (by rw[pV];omega:2^n+lu q n<2^(n+1)) (gg (by omega) h)
    rw[iH f,decide_eq_false (by omega)];rfl
  ·rw[if_neg a,eg,d]
   by_cases h:c<n
   ·rw[decide_eq_true h,decide_eq_true (by omega)]
   ·by_cases e:c=n
    ·subst e;have:q c=false:=by simpa using a
     rw[this];simp
    ·rw[decide_eq_false h,decide_eq_false (by omega)]
theorem M5{d:Nat}{q:Nat→Bool}(hd:d<4294967296)(h:∀c,c<32→d.testBit c=q c):d=lu q 32:=by
 refine Nat.eq_of_testBit_eq fun c=>?_
 rw[Gh];by_cases hc:c<32
 ·rw[h c hc,decide_eq_true hc];rfl
 ·rw[decide_eq_false hc,iH (aG hd (gg (n:=2) (by omega) (show 32≤c by omega)))];rfl
end Go.Proofs
namespace Go.Proofs
open Go Go.Lift
def km(l:List Pr):Option Pr:=match l with| [p]=>some p|_=>none
def fZ(l:List Pr):Option (List Pr):=if 2≤l.length then some l else none
def iw(x:Hs)(lev:Nat)(l:List Pr):List Pr:=fm (fun c=>km (part x lev c l)) 32
def mu(x:Hs)(lev:Nat)(l:List Pr):List (List Pr):=fm (fun c=>fZ (part x lev c l)) 32
def gu(x:Hs):Nat→List Pr→List UInt8
 |0,l=>1::(pe l.length 2++mG l)
 |m+1,l=>0::(pe (lu (fun c=>(km (part x (12-m) c l)).isSome) 32) 4++(pe (lu (fun c=>(fZ (part x (12-m) c l)).isSome) 32) 4++(mG (iw x (12-m) l)++(mu x (12-m) l).flatMap (gu x m))))
theorem IH{W:Nat→Prop}{x:Hs}{h:ad}{m:Nat}{s:Slots}{c:Nat}{l:List Pr}(t:SlotIs W x h m s c l):s.p c=km l∧(s.k c).isSome=(fZ l).isSome:=by
 rcases t with⟨rfl,d,h2⟩|⟨p,rfl,d,h2⟩|⟨e,d,f,h2,_⟩
 ·rw[d,h2];exact⟨rfl,rfl⟩
 ·rw[d,h2];exact⟨rfl,rfl⟩
 ·rw[d,h2]
  refine⟨?_,by simp[fZ,e]⟩
  match l,e with
  |a::b::l,_=>rfl
def KidsAt(W:Nat→Prop)(x:Hs)(h:ad)(m:Nat):List (Option Addr)→List (List Pr)→Prop
 | [],[]=>True
 |k::ks,l::ls=>(∃kb,k=some ⟨kb,0,none⟩∧TrieAt W x h m kb l)∧KidsAt W x h m ks ls
 |_,_=>False
theorem KidsAt.app{W:Nat→Prop}{x:Hs}{h:ad}{m:Nat}:∀{ks ks':List (Option Addr)} {ls ls':List (List Pr)},KidsAt W x h m ks ls→KidsAt W x h m ks' ls'→KidsAt W x h m (ks++ks') (ls++ls')
 | [],_,[],_,_,q=>q
 |_::_,_,_::_,_,q,q'=>⟨q.1,KidsAt.app q.2 q'⟩
 | [],_,_::_,_,q,_=>q.elim
 |_::_,_,[],_,q,_=>q.elim
theorem jG{β:Type}(g:Nat→Option β)(n:Nat):fm g (n+1)=fm g n++(g n).toList:=by
 unfold fm;rw[lR,List.filterMap_append];cases h:g n<;>simp[h]
theorem SH{W:Nat→Prop}{x:Hs}{h:ad}{m lev:Nat}{s:Slots}{l:List Pr}:∀n,(∀c,c<n→SlotIs W x h m s c (part x lev c l))→KidsAt W x h m (fm s.k n) (fm (fun c=>fZ (part x lev c l)) n)
 |0,_=>trivial
 |n+1,hs=>by
  rw[jG,jG];refine KidsAt.app (SH n fun c hc=>hs c (by omega)) ?_
  rcases hs n (by omega)with⟨a,_,h2⟩|⟨p,a,_,h2⟩|⟨a,_,b,h2,d⟩
  ·rw[h2,a];exact trivial
  ·rw[h2,a];exact trivial
  ·rw[h2]
   have:fZ (part x lev n l)=some (part x lev n l):=by unfold fZ;rw[if_pos a]
   simp only[this];exact⟨⟨b,rfl,d⟩,trivial⟩
theorem H0{W:Nat→Prop}{x:Hs}{h:ad}{m lev:Nat}{s:Slots}{l:List Pr}(a:∀c,c<32→SlotIs W x h m s c (part x lev c l)):fm s.p 32=iw x lev l:=
 acX _ fun c hc=>(IH (a c (List.mem_range.1 hc))).1
end Go.Proofs
namespace Go.Proofs
open Go Go.Lift
theorem yk(x:Hs)(lev:Nat)(l:List Pr):∀n,(((gh n).map fun c=>(part x lev c l).length).sum)=(l.filter fun p=>decide (ck x lev p.1<n)).length
 |0=>by
  have:(l.filter fun p=>decide (ck x lev p.1<0))= []:=sX.2 fun p _=>by simp
  rw[this];rfl
 |n+1=>by
  rw[lR,cO,qH,yk x lev l n];simp only[fi,iK,yd,List.sum_nil,eg];unfold part;clear yk;induction l with
  |nil=>rfl
  |cons p l ih=>
   simp only[bJ,decide_eq_true_iff];split<;>split<;>split<;>first|omega|(simp only[ar];omega)
theorem yg(x:Hs)(lev:Nat)(l:List Pr):(iw x lev l).length+(mu x lev l).flatten.length≤l.length:=by
 have h:=yk x lev l 32;have d:(l.filter fun p=>decide (ck x lev p.1<32)).length≤l.length:=eh ..
 have:∀n,(fm (fun c=>km (part x lev c l)) n).length+(fm (fun c=>fZ (part x lev c l)) n).flatten.length≤((gh n).map fun c=>(part x lev c l).length).sum:=by
  intro n;induction n with
  |zero=>simp[fm]
  |succ n ih=>
   rw[jG,jG,lR,cO,qH];simp only[ac,List.flatten_append,fi,iK,yd,List.sum_nil,eg];generalize part x lev n l=q;have:(km q).toList.length+(fZ q).toList.flatten.length≤q.length:=by
    match q with
    | []=>simp[km,fZ]
    | [a]=>simp[km,fZ]
    |a::b::q=>simp[km,fZ]
   omega
 have:=this 32;unfold iw mu;omega
end Go.Proofs
namespace Go.Proofs
open Go Go.Lift
theorem tI{x:Hs}{lev:Nat}{l:List Pr}{p:Pr}(h:p∈iw x lev l):p∈l:=by
 unfold iw fm at h;obtain⟨c,_,hc⟩:=nA.1 h;unfold km at hc;split at hc
 ·rename_i q hq
  cases hc;have:p∈part x lev c l:=by rw[hq];exact aD.2 rfl
  exact(nF.1 this).1
 ·cases hc
theorem rp{x:Hs}{lev:Nat}{l L:List Pr}(h:L∈mu x lev l):2≤L.length∧∃c,L=part x lev c l:=by
 unfold mu fm at h;obtain⟨c,_,hc⟩:=nA.1 h;unfold fZ at hc;split at hc
 ·cases hc;exact⟨by assumption,c,rfl⟩
 ·cases hc
theorem Fit.part{x:Hs}{lev c:Nat}{l:List Pr}(h:Fit l):Fit (part x lev c l):=fun p a=>h p (nF.1 a).1
theorem HZ{B:Nat}{f:List Pr→List UInt8}:∀{ls:List (List Pr)},(∀L∈ls,2≤L.length∧(f L).length≤9+L.length*B)→(ls.flatMap f).length≤ls.flatten.length*(B+9)
 | [],_=>by simp
 |L::ls,h=>by
  have a:=h L (au ..);have h2:=HZ (ls:=ls) fun M hM=>h M (aE _ hM)
  rw[aN,ac,List.flatten_cons,ac,kV];have:L.length*(B+9)=L.length*B+L.length*9:=Nat.mul_add ..;omega
theorem qM{x:Hs}:∀(m:Nat) {l:List Pr},Fit l→(gu x m l).length≤9+l.length*(20004+9*(m+1))
 |0,l,h=>by
  have:=pa h;unfold gu;rw[ar,ac,dK];have:l.length*20004≤l.length*(20004+9*(0+1)):=gJ _ (by omega);omega
 |m+1,l,h=>by
  have j:=pa (l:=iw x (12-m) l) fun p d=>h p (tI d)
  have h2:=HZ (f:=gu x m) (ls:=mu x (12-m) l) (B:=20004+9*(m+1)) fun L a=>by
   obtain⟨e,c,rfl⟩:=rp a;exact⟨e,qM m h.part⟩
  have b:=yg x (12-m) l;unfold gu;rw[ar,ac,ac,ac,dK,dK];have k:(iw x (12-m) l).length*20004≤(iw x (12-m) l).length*(20004+9*(m+1+1)):=gJ _ (by omega);have g:((iw x (12-m) l).length+(mu x (12-m) l).flatten.length)*(20004+9*(m+1+1))≤l.length*(20004+9*(m+1+1)):=cz _ b;rw[kV]at g
  have i:20004+9*(m+1)+9=20004+9*(m+1+1):=by omega
  rw[i]at h2;omega
end Go.Proofs
