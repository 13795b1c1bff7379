/- A part of the proof that the named laws of this program answer true, whatever the input. -/
import Derived.Test.YtncppacbfagpgaaGreatDoorPart1
open BitVec renaming ofInt→av
open Bool renaming eq_iff_iff→iI
open Int renaming toNat_natCast→aU
open List renaming getElem?_eq_getElem→af,getElem_mem→aZ,pairwise_cons→aJ,any_cons→tC,mem_cons→aA,mem_cons_self→aw,mem_cons_of_mem→aB,pairwise_singleton→cx,filter_cons→bV,mem_filter→d8,filter_eq_nil_iff→rU,mem_singleton→aD,any_eq_true→cy,length_filter_le→fL,length_cons→ao,flatMap_cons→aO,map_cons→fp,length_singleton→aE,range→gV,range_succ→kV,map_append→d9,length_append→ac,append_assoc→ar,flatMap_append→bO,take_of_length_le→bm,sum_append→qe,map_nil→j2,sum_cons→xo,mem_filterMap→qz
open List.Pairwise renaming nil→gF
open Nat renaming le_of_eq→gS,zero_add→aR,le_refl→al,lt_irrefl→nf,mod_lt→sW,min_eq_left→bJ,lt_of_lt_of_le→aC,zero_le→aS,le_trans→bj,mul_le_mul_right→cz,pow_succ→ph,testBit_lt_two_pow→im,pow_le_pow_right→fX,add_zero→eN,add_mul→km,mul_le_mul_left→ix
open Prod renaming ext→ya
open UInt8 renaming ofNat→g6
namespace Go.Proofs
open Go.Lift
theorem NA{h:ae}{b d n:Nat}{sp sk:SliceV}{a:Bool}{ow:Option Addr}(c:h[b]? =some (.cells (fT d n sp sk a ow) bT (0,0))) {K:Int→ae→Prop} (e:K (d:Int) h):HC PG l4 [.pointer (some ⟨b,0,none⟩)] [.c (.int .u32)] K h:=by
 refine FC _ ?_;unfold xZ jz;exact aj.2 ⟨_,rfl,_,fB (i:=0) c,e⟩
theorem Di{h:ae}{b d n:Nat}{sp sk:SliceV}{a:Bool}{ow:Option Addr}(c:h[b]? =some (.cells (fT d n sp sk a ow) bT (0,0))) {K:Int→ae→Prop} (e:K (n:Int) h):HC PG ig [.pointer (some ⟨b,0,none⟩)] [.c (.int .u32)] K h:=by
 refine D7 _ ?_;unfold wL jz;exact aj.2 ⟨_,rfl,_,fB (i:=1) c,e⟩
theorem gu{h:ae}{b d n:Nat}{sp sk:SliceV}{a:Bool}{ow:Option Addr}(c:h[b]? =some (.cells (fT d n sp sk a ow) bT (0,0))) {K:Bool→ae→Prop} (e:K a h):HC PG dU [.pointer (some ⟨b,0,none⟩)] [.c .bool] K h:=by
 refine Ac _ ?_;unfold tY cD;exact au.2 ⟨_,rfl,_,fB (i:=4) c,e⟩
def E5(o:Option Pr):Pr:=o.getD (⟨#[]⟩,⟨#[]⟩)
theorem F6{h:ae}{b:Nat}{q p:Pr}(a:h[b]? =some (.cells #[.string q.1,.string q.2] aq (0,0))) {k:ae→Prop}
  (d:∀h',h'[b]? =some (.cells #[.string p.1,.string p.2] aq (0,0))→Upd (· =b) h h'→k h'):u6 h (some ⟨b,0,none⟩) 0 [.string p.1,.string p.2]∧At (iP h ⟨b,0,none⟩ 0 [.string p.1,.string p.2]) k:=by
 have e:=kT [.string p.1,.string p.2] h 0 0 [.string q.1,.string q.2] a (by simp);refine⟨.inr ⟨_,rfl,fun j c=>by rw[cj];exact iV a (by simp at c⊢;omega)⟩,bP ?_⟩
 rw[e];refine d _ ?_ (Upd.set h _ rfl);rw[kY a];rfl
theorem zx{W:Nat→Prop}{h:ae}{b:Nat}{s:Slots}(o:NodeAt W h b s){i:Nat}(hi:i<32){K:Pr×Bool→ae→Prop}(k:∀h',Upd No h h'→K (E5 (s.p i),(s.p i).isSome) h'):
  HC PG je [.pointer (some ⟨b,0,none⟩),.int .i64 i] [.agg [.str,.str],.c .bool] K h:=by
 refine FA _ i ?_;unfold xX cl aK eJ ax lM hP bU jz qf;obtain⟨d,n,sp,sk,ow,t,bits,g,z,v,u⟩:=o.ex;have k1:=Upd.hnew No h [.string (⟨#[]⟩:ByteArray),.string (⟨#[]⟩:ByteArray)] aq;have b1:=cp h [.string (⟨#[]⟩:ByteArray),.string (⟨#[]⟩:ByteArray)] aq;refine bP ?_;simp only[cY h];generalize hnew h [.string (⟨#[]⟩:ByteArray),.string (⟨#[]⟩:ByteArray)] aq=h1 at k1 b1
 have c:=k1.get0 t;have j:h1[h.size]? =some (.cells #[.string Qz.1,.string Qz.2] aq (0,0)):=b1;refine NA c (E4 bits.d32 hi ?_);rw[bits.dp i hi];cases hp:s.p i with
 |none=>
  rw[hp]at k;refine au.2 (F6 (p:=Qz) j fun h2 b2 e=>⟨_,by rw[cj,bH b2];rfl,_,by rw[cj,bH b2];rfl,k _ (k1.trans e fun x hx=>.inr (gS hx.symm))⟩)
 |some y=>
  rw[hp]at k;refine aj.2 ⟨_,rfl,sp,fB (i:=2) c,_,rfl,_,fB (i:=0) c,th bits.d32 hi ⟨fB (i:=2) c,?_⟩⟩;have w:=L8 hi bits.dp hp;have f:=g.upd k1 fun _ h=>h.elim
  obtain⟨a,q,_,hv⟩:=f.at (Xb hi bits.dp hp);have m:=g.len;refine⟨by omega,a,q,y.1,hv 0 _ rfl,y.2,hv 1 _ rfl,?_⟩;refine F6 (p:=y) j fun h2 b2 e=>⟨_,by rw[cj,bH b2];rfl,_,by rw[cj,bH b2];rfl,k _ (k1.trans e fun x hx=>.inr (gS hx.symm))⟩
theorem vV{W:Nat→Prop}{h:ae}{b:Nat}{s:Slots}(j:NodeAt W h b s){i:Nat}(hi:i<32){K:Option Addr×Bool→ae→Prop}(f:K ((s.k i).getD none,(s.k i).isSome) h):
  HC PG gc [.pointer (some ⟨b,0,none⟩),.int .i64 i] [.c .ptr,.c .bool] K h:=by
 refine GX _ i ?_;unfold zd bI cl bU jz qf;obtain⟨d,n,sp,sk,ow,e,bits,o,c,q,m⟩:=j.ex;refine Di e (E4 bits.n32 hi ?_);rw[bits.nk i hi];cases hp:s.k i with
 |none=>rw[hp]at f;exact au.2 f
 |some y=>
  rw[hp]at f;refine aj.2 ⟨_,rfl,sk,fB (i:=3) e,_,rfl,_,fB (i:=1) e,th bits.n32 hi ⟨fB (i:=3) e,?_⟩⟩;have p:=L8 hi bits.nk hp;obtain⟨a,k,_,hv⟩:=c.at (Xb hi bits.nk hp);have g:=c.len;exact⟨by omega,a,k,y,hv 0 _ rfl,f⟩
theorem q9{W:Nat→Prop}{h:ae}{b d n:Nat}{sp sk:SliceV}{a:Bool}{ow:Option Addr}{l:List Pr}(e:h[b]? =some (.cells (fT d n sp sk a ow) bT (0,0))) (c:Sl eC 2 W h sp l) (g:l.length≤1000000000) {K:SliceV→ae→Prop}
  (f:∀s' h',OwnS eC 2 aq (fun x=>h.size≤x) h' s' l→Upd No h h'→K s' h'):HC PG fk [.pointer (some ⟨b,0,none⟩)] [.c .slice] K h:=by
 refine wt _ ?_;unfold rE bU;exact aj.2 ⟨_,rfl,sp,fB (i:=2) e,xF c (by omega) f⟩
theorem TI{W:Nat→Prop}{h:ae}{b d n:Nat}{sp sk:SliceV}{a:Bool}{ow:Option Addr}{l:List (Option Addr)}(e:h[b]? =some (.cells (fT d n sp sk a ow) bT (0,0))) (c:Sl tI 1 W h sk l) (g:l.length≤1000000000) {K:SliceV→ae→Prop}
  (f:∀s' h',OwnS tI 1 cg (fun x=>h.size≤x) h' s' l→Upd No h h'→K s' h'):HC PG oQ [.pointer (some ⟨b,0,none⟩)] [.c .slice] K h:=by
 refine xL _ ?_;unfold sP bU;exact aj.2 ⟨_,rfl,sk,fB (i:=3) e,Fh c (by omega) f⟩
structure BuckAt(W:Nat→Prop)(h:ae)(b:Nat)(l:List Pr):Prop where
 ex:∃sp sk ow,h[b]? =some (.cells (fT 0 0 sp sk true ow) bT (0,0))∧Sl eC 2 W h sp l∧Sl tI 1 W h sk []∧sp.len≤sp.cap∧sk.len≤sk.cap
 nw:¬W b
theorem BuckAt.upd{W M:Nat→Prop}{h h':ae}{b:Nat}{l:List Pr}(n:BuckAt W h b l)(k:Upd M h h')(hm:∀b,M b→W b∨h.size≤b):BuckAt W h' b l:=by
 obtain⟨sp,sk,ow,a,e,g,f,d⟩:=n.ex;exact⟨⟨sp,sk,ow,k.get a (fun c=>(hm _ c).elim n.nw fun h=>by have:=bD a;omega),e.upd k hm,g.upd k hm,f,d⟩,n.nw⟩
theorem W2{W:Nat→Prop}{h:ae}{b:Nat}{l:List Pr}(x:BuckAt W h b l)(n:cf l)(p:l.length≤1000000000)(k:ByteArray){K:ByteArray×Bool→ae→Prop}
  (i:∀h' v,Upd No h h'→(cF l k=true→(k,v)∈l)→(cF l k=false→v=⟨#[]⟩)→K (v,cF l k) h'):HC PG sM [.pointer (some ⟨b,0,none⟩),.string k] [.c .str,.c .bool] K h:=by
 refine SQ _ k ?_;unfold JQ cl aK CM;obtain⟨sp,sk,ow,s,m,y,u,z⟩:=x.ex;refine q9 s m p fun t w j g=>?_
 have d:Sl eC 2 No w t l:=j.sl fun _ _ _ h=>h
 refine Nt d n p k fun h2 c=>?_
 cases ht:cF l k with
 |false=>rw[ht]at i;exact au.2 (i _ _ (g.tr c) (fun h=>by cases h) fun _=>rfl)
 |true=>
  rw[ht]at i;obtain⟨f,e⟩:=M9 n ht;obtain⟨a,q,_,hv⟩:=(d.upd c fun _ h=>h.elim).at (af f)
  have o:=d.len;refine aj.2 ⟨by simp only;omega,a,q,_,hv 1 _ rfl,i _ _ (g.tr c) (fun _=>?_) fun h=>by cases h⟩
  have:(k,l[qk l k].2)=l[qk l k]:=ya e.symm rfl;rw[this];exact aZ f
theorem Zy{W:Nat→Prop}{h:ae}{b:Nat}{l:List Pr}(e:BuckAt W h b l)(a:cf l)(f:l.length≤1000000000)(k:ByteArray){K:ByteArray×Bool→ae→Prop}
 (d:∀h' v,Upd No h h'→(cF l k=true→(k,v)∈l)→K (v,cF l k) h'):HC PG sM [.pointer (some ⟨b,0,none⟩),.string k] [.c .str,.c .bool] K h:=W2 e a f k fun h' v c h2 _=>d h' v c h2
end Go.Proofs
namespace Go.Proofs
open Go.Lift
set_option maxRecDepth 4000 in
theorem Tz{W:Nat→Prop}{h:ae}{b:Nat}{l:List Pr}(R:BuckAt W h b l)(hn:l.length≤1000000000){K:Option Addr→ae→Prop}
  (C:∀h' sp sk,h'[h.size]? =some (.cells (fT 0 0 sp sk true none) bT (0,0))→OwnS eC 2 aq (fun x=>h.size<x∧x<h'.size) h' sp l→OwnS tI 1 cg (fun x=>h.size<x∧x<h'.size) h' sk []→Upd No h h'→K (some ⟨h.size,0,none⟩) h'):
  HC PG iz [.pointer (some ⟨b,0,none⟩),.pointer none] [.c .ptr] K h:=by
 obtain⟨sp,sk,ow,a,H,u,N,M⟩:=R.ex;refine y4 _ none ?_;unfold uq db nv cD bU yU VV nV jz ZL;refine LI (aj.2 ?_);have c:∀{h:ae} {b:Nat} {c:Array Value} {i:Nat},h[b]? =some (.cells c bT (0,0))→aP h ⟨b,0+i,none⟩=c[i]?:=fun a=>by rw[aR];exact bH a
 refine⟨_,rfl,_,c (i:=0) a,_,c (i:=1) a,sp,c (i:=2) a,sk,c (i:=3) a,_,c (i:=4) a,_,c (i:=5) a,?_⟩;have k1:=Upd.hnew No h [.int .u32 0,.int .u32 0,.slice none 0 0,.slice none 0 0,.bool false,.pointer none] bT;have b1:=cp h [.int .u32 0,.int .u32 0,.slice none 0 0,.slice none 0 0,.bool false,.pointer none] bT;refine bP ?_;simp only[cY h];generalize hnew h [.int .u32 0,.int .u32 0,.slice none 0 0,.slice none 0 0,.bool false,.pointer none] bT=h1 at k1 b1
 have G:iP h1 ⟨h.size,0,none⟩ 0 [.int .u32 ((0:Nat):Int),.int .u32 ((0:Nat):Int),.slice sp.a sp.len sp.cap,.slice sk.a sk.len sk.cap,.bool true,.pointer ow]=_:=kT _ h1 0 0 _ b1 (by simp);refine⟨.inr ⟨_,rfl,fun j P=>by rw[cj];exact iV b1 (by simp at P⊢;omega)⟩,bP ?_⟩
 rw[G];have b2:=kY (o:=.cells (fT 0 0 sp sk true ow) bT (0,0)) b1;have n:Upd No h _:=k1.trans (M':=(· =h.size)) (Upd.set h1 (.cells (fT 0 0 sp sk true ow) bT (0,0)) rfl) fun x hx=>.inr (gS hx.symm)
 have t:h.size<(h1.setIfInBounds h.size (.cells (fT 0 0 sp sk true ow) bT (0,0))).size:=bD b2;have Q:h.size≠b:=fun e=>by have:=bD a;omega
 have S:(Obj.cells (List.take (0+0) [Value.int .u32 0,.int .u32 0,.slice none 0 0,.slice none 0 0,.bool false,.pointer none]++ [Value.int .u32 ((0:Nat):Int),.int .u32 ((0:Nat):Int),.slice sp.a sp.len sp.cap,.slice sk.a sk.len sk.cap,.bool true,.pointer ow]++List.drop (0+0+ [Value.int .u32 ((0:Nat):Int),.int .u32 ((0:Nat):Int),.slice sp.a sp.len sp.cap,.slice sk.a sk.len sk.cap,.bool true,.pointer ow].length) [Value.int .u32 0,.int .u32 0,.slice none 0 0,.slice none 0 0,.bool false,.pointer none]).toArray bT (0,0))=.cells (fT 0 0 sp sk true ow) bT (0,0):=rfl
 rw[S];generalize h1.setIfInBounds h.size (.cells (fT 0 0 sp sk true ow) bT (0,0))=h2 at b2 n t;have m:=n.get0 a;refine⟨_,rfl,sp,c (i:=2) m,_,rfl,sk,c (i:=3) m,?_⟩;refine xF (H.upd n fun _ h=>h.elim) (by omega) fun s h3 E f=>?_
 refine⟨c (i:=3) (f.get0 m),?_⟩;refine Fh ((u.upd n fun _ h=>h.elim).upd f fun _ h=>h.elim) (by simp) fun A V z g=>?_
 have J:=g.get0 (f.get0 b2);have p:=E.within.upd g fun _ _ h=>h
 have q:=z.within;have Z:=f.size;have z4:=g.size;have w:∀{h:ae} {c:Array Value} {x i:Nat},h[x]? =some (.cells c bT (0,0))→i<c.size→Wr h ⟨x,0+i,none⟩:=fun a hi=>by rw[aR];exact iV a hi
 have st:∀{h:ae} {c c':Array Value} {x i:Nat} {v:Value} {k:ae→Prop},h[x]? =some (.cells c bT (0,0))→c.setIfInBounds i v=c'→(∀h',h'[x]? =some (.cells c' bT (0,0))→Upd (· =x) h h'→k h')→At (hset h ⟨x,i,none⟩ v) k:=fun a e C=>un a fun h' B O=>C h' (e▸B) O
 refine⟨w (i:=2) J (show 2<6 by decide),st (i:=2) (c':=fT 0 0 s sk true ow) J rfl fun U I D=>?_⟩
 refine⟨w (i:=3) I (show 3<6 by decide),st (i:=3) (c':=fT 0 0 s A true ow) I rfl fun X L y=>?_⟩
 refine⟨w (i:=5) L (show 5<6 by decide),st (i:=5) (c':=fT 0 0 s A true none) L rfl fun Y T F=>?_⟩
 refine zC (aj.2 ?_);have d:=D.tr (y.tr F);have z7:=d.size;refine C _ s A T ((p.upd d fun x hx e=>?_).more fun x hx=>?_) ((q.upd d fun x hx e=>?_).more fun x hx=>?_) ?_
 ·have e:x=h.size:=e;omega
 ·omega
 ·have e:x=h.size:=e;omega
 ·omega
 ·exact((n.tr f).tr g).trans d fun x hx=>.inr (gS hx.symm)
theorem Ht{W:Nat→Prop}{h:ae}{b:Nat}{l:List Pr}(F:BuckAt W h b l)(m:∀x,W x→x<h.size)(B:cf l)(v:l.length≤1000000000)(p:Pr){K:Option Addr→ae→Prop}
  (E:∀h' b',BuckAt W h' b' (Ks l p)→Upd No h h'→K (some ⟨b',0,none⟩) h'):
  HC PG jO [.pointer (some ⟨b,0,none⟩),.pointer none,.agg #[.string p.1,.string p.2]] [.c .ptr] K h:=by
 refine GW _ none p ?_;unfold y9 db ax vN qO bU nV;have k1:=Upd.hnew No h [.string p.1,.string p.2] aq;have b1:=cp h [.string p.1,.string p.2] aq;refine bP ?_;simp only[cY h];generalize hnew h [.string p.1,.string p.2] aq=h1 at k1 b1;have J:=bD b1;have g:=F.upd k1 fun _ h=>h.elim
 obtain⟨sp,sk,ow,D,y,z,H,w⟩:=g.ex;refine gu D (aj.2 ?_);refine Tz g v fun h2 G q b2 t s c=>?_
 have f:=c.get0 b1;refine⟨_,rfl,G,fB (i:=2) b2,p.1,by rw[cj,bH f];rfl,p.2,by rw[cj,bH f];rfl,?_⟩
 refine Rm (t.sl fun _ _ _ h=>h) t.cap B v p fun u L k d=>?_
 have b3:=d.get0 b2;refine⟨_,rfl,X3 (i:=2) b3 (show 2<6 by decide),Kp (i:=2) (c':=fT 0 0 u q true none) b3 rfl fun C A a=>?_⟩
 have I:=bD b2;have n:=k.upd a fun x hx e=>by have e:x=h1.size:=e;omega
 have o:=(s.upd d fun _ _ h=>h).upd a fun x hx e=>by have e:x=h1.size:=e;omega
 refine E C h1.size ⟨⟨u,q,none,A,n.sl fun x hx _ j=>?_,o.sl fun x hx _ j=>?_,k.cap,s.cap⟩,fun j=>?_⟩ (((k1.tr c).tr d).trans a fun x hx=>.inr ?_)
 ·have:=m x j;have:=c.size;omega
 ·have:=m x j;omega
 ·have:=m _ j;omega
 ·have hx:x=h1.size:=hx
  omega
theorem Ml{W:Nat→Prop}{h:ae}(a:∀x,W x→x<h.size){K:Option Addr→ae→Prop}(b:∀h' b',BuckAt W h' b' []→Upd No h h'→K (some ⟨b',0,none⟩) h'):HC PG tw [] [.c .ptr] K h:=by
 refine KS ?_;unfold BK;exact b _ _ ⟨⟨⟨none,0,0⟩,⟨none,0,0⟩,none,cp h _ _,Sl.nil gq,Sl.nil ui,al _,al _⟩,fun hx=>nf _ (a _ hx)⟩ (Upd.hnew No h _ _)
theorem rc{W:Nat→Prop}{h:ae}(b:∀x,W x→x<h.size){K:Option Addr→ae→Prop}(e:∀h' b',NodeAt W h' b' ⟨fun _=>none,fun _=>none⟩→Upd No h h'→K (some ⟨b',0,none⟩) h'):HC PG oT [] [.c .ptr] K h:=by
 refine N0 ?_;unfold Es VV;have d:fm (fun _=>(none:Option Pr)) 32= []:=by simp[fm]
 have a:fm (fun _=>(none:Option (Option Addr))) 32= []:=by simp[fm]
 refine e _ _ ⟨⟨0,0,⟨none,0,0⟩,⟨none,0,0⟩,none,cp h _ _,⟨by decide,by decide,fun c _=>by simp,fun c _=>by simp⟩,?_,?_,al _,al _⟩,fun hx=>nf _ (b _ hx)⟩ (Upd.hnew No h _ _)
 ·show Sl eC 2 W _ _ (fm (fun _=>none) 32)
  rw[d];exact Sl.nil gq
 ·show Sl tI 1 W _ _ (fm (fun _=>none) 32)
  rw[a];exact Sl.nil ui
end Go.Proofs
namespace Go.Proofs
open Go.Lift
def iM(p:Pr):List Pr→List Pr
 | []=> [p]
 |q::l=>if kl q.1 p.1 then q::iM p l else if q.1=p.1 then p::l else p::q::l
theorem iw(p q:Pr)(l:List Pr):iM p (q::l)=if kl q.1 p.1 then q::iM p l else if q.1=p.1 then p::l else p::q::l:=rfl
theorem Dr(p:Pr):∀{l:List Pr},cf l→Ks l p=iM p l
 | [],_=>by simp[Ks,iM,qk,cF]
 |q::l,d=>by
  have d:=aJ.1 d;unfold iM;have a:qk (q::l) p.1=if kl q.1 p.1 then qk l p.1+1 else 0:=by
   unfold qk;rw[List.takeWhile_cons];by_cases h:kl q.1 p.1
   ·rw[if_pos (by simpa using h),if_pos h];rfl
   ·rw[if_neg (by simpa using h),if_neg h];rfl
  have c:cF (q::l) p.1=(decide (q.1=p.1)||cF l p.1):=by unfold cF;rw[tC]
  by_cases h:kl q.1 p.1
  ·have j:q.1≠p.1:=fun e=>by rw[e]at h;exact cr _ h
   rw[if_pos h,←Dr p d.2];unfold Ks;rw[c,a,if_pos h,decide_eq_false j,Bool.false_or];by_cases b:cF l p.1=true
   ·rw[if_pos b,if_pos b];rfl
   ·rw[if_neg b,if_neg b];rfl
  ·rw[if_neg h]
   unfold Ks;rw[c,a,if_neg h];by_cases e:q.1=p.1
   ·rw[if_pos e,decide_eq_true e,Bool.true_or,if_pos rfl];rfl
   ·have i:=ql h e
    have b:cF l p.1=false:=by
     unfold cF;rw[List.any_eq_false];intro r g f;have f:=of_decide_eq_true f;have:=d.1 r g;rw[f]at this;exact cr _ (gJ i this)
    rw[if_neg e,decide_eq_false e,b];rfl
theorem zA{p q:Pr}:∀{l:List Pr},q∈iM p l→q=p∨q∈l
 | [],h=>by simp[iM]at h;exact .inl h
 |r::l,h=>by
  unfold iM at h;split at h
  ·rcases aA.1 h with h|h
   ·exact .inr (h▸aw ..)
   ·exact(zA h).imp id fun h=>aB _ h
  ·split at h
   ·rcases aA.1 h with h|h
    ·exact .inl h
    ·exact .inr (aB _ h)
   ·rcases aA.1 h with h|h
    ·exact .inl h
    ·exact .inr h
theorem Az(p:Pr):∀{l:List Pr},cf l→cf (iM p l)
 | [],_=>cx ..
 |q::l,a=>by
  have c:=a;have a:=aJ.1 a;unfold iM;split
  ·rename_i h
   refine aJ.2 ⟨fun r hm=>?_,Az p a.2⟩
   rcases zA hm with rfl|hm
   ·exact h
   ·exact a.1 r hm
  ·rename_i h
   split
   ·rename_i e
    exact aJ.2 ⟨fun r hm=>e▸a.1 r hm,a.2⟩
   ·rename_i e
    have b:=ql h e;refine aJ.2 ⟨fun r hm=>?_,c⟩
    rcases aA.1 hm with rfl|hm
    ·exact b
    ·exact gJ b (a.1 r hm)
theorem IL(p:Pr)(g:ByteArray→Bool):∀{l:List Pr},cf l→(iM p l).filter (fun q=>g q.1)=if g p.1 then iM p (l.filter fun q=>g q.1)else l.filter fun q=>g q.1
 | [],_=>by
  unfold iM;rw[bV,List.filter_nil]
 |q::l,c=>by
  have i:=c;have c:=aJ.1 c;have j:=IL p g c.2;rw[iw];by_cases h:kl q.1 p.1
  ·rw[if_pos h,bV,bV,j]
   by_cases f:g q.1=true
   ·rw[if_pos f,if_pos f]
    split
    ·rw[iw,if_pos h]
    ·rfl
   ·rw[if_neg f,if_neg f]
  ·rw[if_neg h]
   by_cases e:q.1=p.1
   ·rw[if_pos e,bV,bV,e]
    by_cases a:g p.1=true
    ·rw[if_pos a,if_pos a,if_pos a,iw,if_neg h,if_pos e]
    ·rw[if_neg a,if_neg a,if_neg a]
   ·rw[if_neg e]
    have d:=ql h e;rw[bV];by_cases a:g p.1=true
    ·rw[if_pos a,if_pos a]
     have:∀r∈(q::l).filter (fun q=>g q.1),kl p.1 r.1:=fun r hm=>by
      rcases aA.1 (d8.1 hm).1 with rfl|hm
      ·exact d
      ·exact gJ d (c.1 r hm)
     cases hf:(q::l).filter (fun q=>g q.1)with
     |nil=>rfl
     |cons r rs=>
      have b:=this r (by rw[hf];exact aw ..);rw[iw,if_neg fun k=>cr _ (gJ b k),if_neg fun e=>by rw[e]at b;exact cr _ b]
    ·rw[if_neg a,if_neg a]
theorem Hm{p:Pr}:∀{l:List Pr},cf l→p∈l→iM p l=l
 |q::l,a,hm=>by
  have a:=aJ.1 a;unfold iM;rcases aA.1 hm with rfl|hm
  ·rw[if_neg (cr _),if_pos rfl]
  ·rw[if_pos (a.1 p hm),Hm a.2 hm]
def ck(x:Hs)(lev:Nat)(k:ByteArray):Nat:=((eP x k).toNat>>>(5*lev))%32
theorem yX(x:Hs)(lev:Nat)(k:ByteArray):ck x lev k<32:=sW _ (by omega)
def part(x:Hs)(lev c:Nat)(l:List Pr):List Pr:=l.filter fun p=>decide (ck x lev p.1=c)
def TrieAt(W:Nat→Prop)(x:Hs)(h:ae):Nat→Nat→List Pr→Prop
 |0,b,l=>BuckAt W h b l
 |m+1,b,l=>∃s,NodeAt W h b s∧∀c,c<32→
  ((part x (12-m) c l= []∧s.p c=none∧s.k c=none)∨(∃p,part x (12-m) c l= [p]∧s.p c=some p∧s.k c=none)∨
   (2≤(part x (12-m) c l).length∧s.p c=none∧∃kb,s.k c=some (some ⟨kb,0,none⟩)∧TrieAt W x h m kb (part x (12-m) c l)))
theorem TrieAt.upd0{W:Nat→Prop}{x:Hs}{h h':ae}(k:Upd No h h'):∀{m b:Nat} {l:List Pr},TrieAt W x h m b l→TrieAt W x h' m b l
 |0,_,_,t=>BuckAt.upd t k fun _ h=>h.elim
 |m+1,_,_,⟨s,nd,hc⟩=>⟨s,nd.upd k fun _ h=>h.elim,fun c a=>(hc c a).imp id fun o=>o.imp id fun⟨e,h2,f,d,g⟩=>⟨e,h2,f,d,TrieAt.upd0 k g⟩⟩
theorem NodeAt.less{W W':Nat→Prop}{h:ae}{b:Nat}{s:Slots}(n:NodeAt W h b s)(hm:∀b,W' b→W b∨h.size≤b):NodeAt W' h b s:=by
 obtain⟨d,m,sp,sk,ow,a,h2,e,g,f,c⟩:=n.ex;exact⟨⟨d,m,sp,sk,ow,a,h2,e.less hm,g.less hm,f,c⟩,fun hx=>(hm _ hx).elim n.nw fun h=>by have:=bD a;omega⟩
theorem BuckAt.less{W W':Nat→Prop}{h:ae}{b:Nat}{l:List Pr}(n:BuckAt W h b l)(hm:∀b,W' b→W b∨h.size≤b):BuckAt W' h b l:=by
 obtain⟨sp,sk,ow,a,d,f,e,c⟩:=n.ex;exact⟨⟨sp,sk,ow,a,d.less hm,f.less hm,e,c⟩,fun hx=>(hm _ hx).elim n.nw fun h=>by have:=bD a;omega⟩
theorem TrieAt.less{W W':Nat→Prop}{x:Hs}{h:ae}(hm:∀b,W' b→W b∨h.size≤b):∀{m b:Nat} {l:List Pr},TrieAt W x h m b l→TrieAt W' x h m b l
 |0,_,_,t=>BuckAt.less t hm
 |m+1,_,_,⟨s,nd,hc⟩=>⟨s,nd.less hm,fun c a=>(hc c a).imp id fun o=>o.imp id fun⟨e,h2,f,d,g⟩=>⟨e,h2,f,d,TrieAt.less hm g⟩⟩
theorem TrieAt.updM{W M:Nat→Prop}{x:Hs}{h h':ae}(k:Upd M h h')(hm:∀b,M b→W b∨h.size≤b):∀{m b:Nat} {l:List Pr},TrieAt W x h m b l→TrieAt W x h' m b l
 |0,_,_,t=>BuckAt.upd t k hm
 |m+1,_,_,⟨s,nd,hc⟩=>⟨s,nd.upd k hm,fun c a=>(hc c a).imp id fun o=>o.imp id fun⟨e,h2,f,d,g⟩=>⟨e,h2,f,d,TrieAt.updM k hm g⟩⟩
end Go.Proofs
namespace Go.Proofs
open Go.Lift
theorem aau(a b:Nat):(av (IntKind.bits .u64) (a:Int)&&&av (IntKind.bits .u64) (b:Int)).toNat=(a%18446744073709551616)&&&(b%18446744073709551616):=by
 simp[IntKind.bits,BitVec.toNat_and,BitVec.toNat_ofInt];rfl
theorem abk{hv:Int}(f:0≤hv∧hv<18446744073709551616){lev:Nat}(g:lev<13){h:ae}{K:Int→ae→Prop}(b:K (((hv.toNat>>>(5*lev))%32:Nat):Int) h):HC PG lG [.int .u64 hv,.int .i64 lev] [.c (.int .i64)] K h:=by
 refine SP hv lev ?_;unfold JP;refine Join.plain (az (fun h=>by omega) fun _=>?_)
 rw[decide_eq_false (by omega)];refine aj.2 ?_;have c:IntKind.wrap .i64 (5*(lev:Int))=((5*lev:Nat):Int):=by rw[fx (by omega)];omega
 rw[c];have d:min (((5*lev:Nat):Int)).toNat (IntKind.bits .u64)=5*lev:=by rw[aU];exact bJ (by show 5*lev≤64;omega)
 rw[d];obtain⟨n,rfl⟩:=Int.eq_ofNat_of_zero_le f.1;rw[aU]at b;simp only[Bd];rw[oq];have a:n>>>(5*lev)<18446744073709551616:=Nat.lt_of_le_of_lt (Nat.shiftRight_le _ _) (by omega);have e:=aau (n>>>(5*lev)) 31;rw[Nat.mod_eq_of_lt a,show((31:Nat):Int)=(31:Int)from rfl,show 31%18446744073709551616=2^5-1 from rfl,Nat.and_two_pow_sub_one_eq_mod]at e
 rw[e];have hm:n>>>(5*lev)%2^5<32:=sW _ (by omega);rw[Go.IntWalk.u64_in _ (by omega),fx (by omega)];exact⟨by omega,b⟩
theorem Sb{x:Hs}{k:ByteArray}{lev:Nat}(b:lev<13){h:ae}{K:Int→ae→Prop}(a:K (ck x lev k:Int) h):HC PG lG [.int .u64 (eP x k),.int .i64 lev] [.c (.int .i64)] K h:=abk (Gg x k) b a
abbrev VY(x:Hs)(k:ByteArray):Value:=.agg #[.int .u64 x.k0,.int .u64 x.k1,.int .u64 x.mask,.pointer none,.string k,.int .u64 (eP x k)]
theorem Ig{x:Hs}{lev c:Nat}{l:List Pr}(h:∀p∈l,ck x lev p.1=c):part x lev c l=l:=List.filter_eq_self.2 fun p a=>decide_eq_true (h p a)
theorem yi{x:Hs}{lev c:Nat}{l:List Pr}(h:∀p∈l,ck x lev p.1≠c):part x lev c l= []:=rU.2 fun p a=>by simpa using h p a
theorem O9{x:Hs}{lev c:Nat}{p:Pr}{l:List Pr}(a:cf l):part x lev c (iM p l)=if ck x lev p.1=c then iM p (part x lev c l)else part x lev c l:=by
 have:=IL p (fun k=>decide (ck x lev k=c)) a
 unfold part;rw[this];by_cases h:ck x lev p.1=c
 ·rw[if_pos h,if_pos (decide_eq_true h)]
 ·rw[if_neg h,if_neg (by simpa using h)]
theorem Ta{p q:Pr}(h:p.1≠q.1):(iM q [p]).length=2:=by
 rw[iw];by_cases a:kl p.1 q.1
 ·rw[if_pos a];rfl
 ·rw[if_neg a,if_neg h];rfl
theorem TE{p q r:Pr}(h:r∈iM q [p]):r=p∨r=q:=(zA h).symm.imp (fun h=>aD.1 h) id
theorem ge{β:Type}{g:Nat→Option β}{i c:Nat}{x:Option β}(h:c≠i):upd g i x c=g c:=by unfold upd;rw[if_neg h]
theorem Za{W:Nat→Prop}{x:Hs}:∀(m:Nat) (p q:Pr),m≤13→p.1≠q.1→∀{h:ae},(∀y,W y→y<h.size)→∀{K:Option Addr→ae→Prop},(∀h' b',TrieAt W x h' m b' (iM q [p])→Upd No h h'→K (some ⟨b',0,none⟩) h')→
  HC PG nL [VY x q.1,.agg #[.string p.1,.string p.2],.agg #[.string q.1,.string q.2],.int .i64 ((13-m:Nat):Int)] [.c .ptr] K h:=by
 intro m;induction m with
 |zero=>
  intro p q _ I h Q K O;have B:∀{h'},Upd No h h'→∀y,W y→y<h'.size:=fun k y U=>aC (Q y U) k.size
  refine wy (x.k0,x.k1,x.mask,none,q.1,eP x q.1) p q ((13-0:Nat):Int) ?_;unfold rG ag aQ vO ax dK vN qO BR ng BQ Na;have k1:=Upd.hnew No h [.int .u64 x.k0,.int .u64 x.k1,.int .u64 x.mask,.pointer none,.string q.1,.int .u64 (eP x q.1)] de;have b1:=cp h [.int .u64 x.k0,.int .u64 x.k1,.int .u64 x.mask,.pointer none,.string q.1,.int .u64 (eP x q.1)] de
  refine bP ?_;simp only[cY h];generalize hnew h [.int .u64 x.k0,.int .u64 x.k1,.int .u64 x.mask,.pointer none,.string q.1,.int .u64 (eP x q.1)] de=h1 at k1 b1;have C:=Upd.hnew No h1 [.string p.1,.string p.2] aq;have b2:=cp h1 [.string p.1,.string p.2] aq;refine bP ?_;simp only[cY h1];generalize hnew h1 [.string p.1,.string p.2] aq=h2 at C b2
  have z:=Upd.hnew No h2 [.string q.1,.string q.2] aq;have b3:=cp h2 [.string q.1,.string q.2] aq;refine bP ?_;simp only[cY h2];generalize hnew h2 [.string q.1,.string q.2] aq=h3 at z b3;have d:∀{h':ae},Upd No h3 h'→∀i,aP h' (adr ⟨h.size,0,none⟩ i)=(#[.int .u64 x.k0,.int .u64 x.k1,.int .u64 x.mask,.pointer none,.string q.1,.int .u64 (eP x q.1)]:Array Value)[i]?:=fun k i=>by
   rw[cj,bH (k.get0 (z.get0 (C.get0 b1))),aR]
  have u:∀{h':ae},Upd No h3 h'→∀i,aP h' (adr ⟨h1.size,0,none⟩ i)=(#[.string p.1,.string p.2]:Array Value)[i]?:=fun k i=>by rw[cj,bH (k.get0 (z.get0 b2)),aR]
  have n:∀{h':ae},Upd No h3 h'→∀i,aP h' (adr ⟨h2.size,0,none⟩ i)=(#[.string q.1,.string q.2]:Array Value)[i]?:=fun k i=>by rw[cj,bH (k.get0 b3),aR]
  have r:=Upd.refl No h3;refine au.2 ⟨none,d r 3,p.1,u r 0,p.2,u r 1,none,d r 3,q.1,n r 0,q.2,n r 1,?_⟩;refine Ml (B ((k1.tr C).tr z)) fun h4 b4 R b=>⟨⟨n b 0,n b 1⟩,d b 3,⟨u b 0,u b 1⟩,d b 3,?_⟩
  refine Ht R (B (((k1.tr C).tr z).tr b)) gF (by simp) p fun X Y N A=>?_
  have o:=b.tr A;refine⟨⟨n o 0,n o 1⟩,d o 3,?_⟩;have L:Ks [] p= [p]:=Dr p gF;rw[L]at N;refine Ht N (B (((k1.tr C).tr z).tr o)) (cx ..) (by simp) q fun S J M w=>?_
  rw[Dr q (cx ..)]at M;exact O S J M ((((k1.tr C).tr z).tr o).tr w)
 |succ m ih=>
  intro p q hm I h Q K O;have B:∀{h'},Upd No h h'→∀y,W y→y<h'.size:=fun k y U=>aC (Q y U) k.size
  have Z:13-(m+1)<13:=by omega
  have g:13-(m+1)=12-m:=by omega
  refine wy (x.k0,x.k1,x.mask,none,q.1,eP x q.1) p q ((13-(m+1):Nat):Int) ?_;unfold rG ag aQ vO ax dK vN qO BR ng BQ Na;have k1:=Upd.hnew No h [.int .u64 x.k0,.int .u64 x.k1,.int .u64 x.mask,.pointer none,.string q.1,.int .u64 (eP x q.1)] de;have b1:=cp h [.int .u64 x.k0,.int .u64 x.k1,.int .u64 x.mask,.pointer none,.string q.1,.int .u64 (eP x q.1)] de
  refine bP ?_;simp only[cY h];generalize hnew h [.int .u64 x.k0,.int .u64 x.k1,.int .u64 x.mask,.pointer none,.string q.1,.int .u64 (eP x q.1)] de=h1 at k1 b1;have C:=Upd.hnew No h1 [.string p.1,.string p.2] aq;have b2:=cp h1 [.string p.1,.string p.2] aq;refine bP ?_;simp only[cY h1];generalize hnew h1 [.string p.1,.string p.2] aq=h2 at C b2
  have z:=Upd.hnew No h2 [.string q.1,.string q.2] aq;have b3:=cp h2 [.string q.1,.string q.2] aq;refine bP ?_;simp only[cY h2];generalize hnew h2 [.string q.1,.string q.2] aq=h3 at z b3;have d:∀{h':ae},Upd No h3 h'→∀i,aP h' (adr ⟨h.size,0,none⟩ i)=(#[.int .u64 x.k0,.int .u64 x.k1,.int .u64 x.mask,.pointer none,.string q.1,.int .u64 (eP x q.1)]:Array Value)[i]?:=fun k i=>by
   rw[cj,bH (k.get0 (z.get0 (C.get0 b1))),aR]
  have u:∀{h':ae},Upd No h3 h'→∀i,aP h' (adr ⟨h1.size,0,none⟩ i)=(#[.string p.1,.string p.2]:Array Value)[i]?:=fun k i=>by rw[cj,bH (k.get0 (z.get0 b2)),aR]
  have n:∀{h':ae},Upd No h3 h'→∀i,aP h' (adr ⟨h2.size,0,none⟩ i)=(#[.string q.1,.string q.2]:Array Value)[i]?:=fun k i=>by rw[cj,bH (k.get0 b3),aR]
  have r:=Upd.refl No h3;have ne:(((13-(m+1):Nat):Int)==(13:Int))=false:=by rw[beq_eq_false_iff_ne];omega
  rw[ne];refine aj.2 ⟨_,d r 0,_,d r 1,_,d r 2,_,u r 0,_,d r 5,?_⟩;refine uP fun h4 b=>⟨d b 5,Sb Z ⟨d b 5,Sb Z ?_⟩⟩
  have hi:=yX x (13-(m+1)) p.1;have hj:=yX x (13-(m+1)) q.1;have j:=((k1.tr C).tr z);have hcl:=Ta I;refine CondP.intro (fun e=>?_) fun e=>?_
  ·have e:ck x (13-(m+1)) p.1=ck x (13-(m+1)) q.1:=by have:=eq_of_beq e;omega
   refine⟨_,d b 3,_,d b 0,_,d b 1,_,d b 2,_,d b 3,_,d b 4,_,d b 5,_,u b 0,_,u b 1,_,n b 0,_,n b 1,?_⟩;refine rc (B (j.tr b)) fun X Y H A=>?_
   have a:=b.tr A;refine⟨⟨n a 0,n a 1⟩,⟨u a 0,u a 1⟩,⟨d a 0,d a 1,d a 2,d a 3,d a 4,d a 5⟩,d a 3,?_⟩;have ew:IntKind.wrap .i64 (((13-(m+1):Nat):Int)+1)=((13-m:Nat):Int):=by rw[fx (by omega)];omega
   rw[ew];refine ih p q (by omega) I (B (j.tr a)) fun S J t6 w=>?_
   have f:=a.tr w;refine⟨d f 3,?_⟩;refine xt (H.upd w fun _ h=>h.elim) (B (j.tr f)) hi (fun y h=>by cases h) ⟨J,0,none⟩ fun T V G E=>?_
   refine O T V ⟨_,G,fun c hc=>?_⟩ ((j.tr f).tr E)
   rw[g]at e;by_cases s:c=ck x (13-(m+1)) p.1
   ·refine .inr (.inr ?_)
    have ea:part x (12-m) c (iM q [p])=iM q [p]:=Ig fun r F=>by
     rcases TE F with rfl|rfl
     ·rw[s,g]
     ·rw[s,g,e]
    rw[ea];exact⟨by omega,by simp[upd],J,by rw[s];exact gH,TrieAt.upd0 E t6⟩
   ·refine .inl ⟨yi fun r F=>?_,by simp[upd],ge s⟩
    rw[g]at s;rcases TE F with rfl|rfl
    ·exact fun e=>s e.symm
    ·rw[←e];exact fun e=>s e.symm
  ·have e:ck x (13-(m+1)) p.1≠ck x (13-(m+1)) q.1:=fun h=>by rw[h]at e;simp at e
   refine⟨_,d b 3,_,u b 0,_,u b 1,_,d b 3,_,n b 0,_,n b 1,?_⟩;refine rc (B (j.tr b)) fun X Y H A=>?_
   have a:=b.tr A;refine⟨⟨n a 0,n a 1⟩,d a 3,⟨u a 0,u a 1⟩,d a 3,?_⟩;refine sA H (B (j.tr a)) hi (fun y h=>by cases h) p fun S J P w=>?_
   have f:=a.tr w;refine⟨⟨n f 0,n f 1⟩,d f 3,?_⟩;refine sA P (B (j.tr f)) hj (fun y h=>by simp[upd]) q fun T V G E=>?_
   refine O T V ⟨_,G,fun c hc=>?_⟩ ((j.tr f).tr E)
   have t:=O9 (x:=x) (lev:=12-m) (c:=c) (p:=q) (l:= [p]) (cx ..);rw[g]at e;by_cases D:c=ck x (12-m) p.1
   ·have v:ck x (12-m) q.1≠c:=fun h=>e (by omega)
    have L:part x (12-m) c [p]= [p]:=Ig fun r F=>by rw[aD.1 F,D]
    rw[if_neg v,L]at t;exact .inr (.inl ⟨p,t,by simp[upd,g,D,e],by simp[upd]⟩)
   ·have L:part x (12-m) c [p]= []:=yi fun r F=>by rw[aD.1 F];exact fun h=>D h.symm
    rw[L]at t;by_cases v:c=ck x (12-m) q.1
    ·rw[if_pos v.symm]at t
     exact .inr (.inl ⟨q,t,by simp[upd,g,v],by simp[upd]⟩)
    ·rw[if_neg fun h=>v h.symm]at t
     exact .inl ⟨t,by simp[upd,g,v,D],by simp[upd]⟩
end Go.Proofs
namespace Go.Proofs
open Go.Lift
noncomputable instance memDec (p:Pr) (l:List Pr):Decidable (p∈l):=Classical.propDecidable _
theorem H5{l:List Pr}(a:cf l){k v w:ByteArray}(b:(k,v)∈l)(h2:(k,w)∈l):v=w:=by
 induction l with
 |nil=>cases b
 |cons q l ih=>
  have a:=aJ.1 a;rcases aA.1 b with d|b<;>rcases aA.1 h2 with c|h2
  ·exact(Prod.mk.inj (d.trans c.symm)).2
  ·have:=a.1 _ h2;rw[←d]at this;exact absurd this (cr _)
  ·have:=a.1 _ b;rw[←c]at this;exact absurd this (cr _)
  ·exact ih a.2 b h2
theorem mS{x:Hs}{lev c:Nat}{l:List Pr}{p:Pr}:p∈part x lev c l↔p∈l∧ck x lev p.1=c:=by unfold part;rw[d8,decide_eq_true_iff]
theorem HK{x:Hs}{lev:Nat}{l:List Pr}{k:ByteArray}:cF (part x lev (ck x lev k) l) k=cF l k:=by
 unfold cF;rw[iI,cy,cy];constructor
 ·rintro⟨p,a,e⟩;exact⟨p,(mS.1 a).1,e⟩
 ·rintro⟨p,a,e⟩;exact⟨p,mS.2 ⟨a,by rw[of_decide_eq_true e]⟩,e⟩
theorem iX{x:Hs}{lev c:Nat}{l:List Pr}(a:cf l):cf (part x lev c l):=a.sublist List.filter_sublist
theorem kB{x:Hs}{lev c:Nat}{l:List Pr}:(part x lev c l).length≤l.length:=fL ..
def SlotIs(W:Nat→Prop)(x:Hs)(h:ae)(m:Nat)(s:Slots)(c:Nat)(l:List Pr):Prop:=
 (l= []∧s.p c=none∧s.k c=none)∨(∃p,l= [p]∧s.p c=some p∧s.k c=none)∨(2≤l.length∧s.p c=none∧∃kb,s.k c=some (some ⟨kb,0,none⟩)∧TrieAt W x h m kb l)
theorem SlotIs.upd0{W:Nat→Prop}{x:Hs}{h h':ae}{m:Nat}{s:Slots}{c:Nat}{l:List Pr}(k:Upd No h h')(t:SlotIs W x h m s c l):SlotIs W x h' m s c l:=t.imp id fun o=>o.imp id fun⟨a,h2,e,b,d⟩=>⟨a,h2,e,b,TrieAt.upd0 k d⟩
theorem Pt(p:Pr):∀{l:List Pr},l.length≤(iM p l).length
 | []=>aS _
 |q::l=>by
  rw[iw];split
  ·have:=Pt p (l:=l);simp only[ao];omega
  ·split<;>simp
theorem Uj{W:Nat→Prop}{x:Hs}{h h':ae}{m b':Nat}{s s':Slots}{l:List Pr}{p:Pr}(d:cf l)(i:Upd No h h')(a:NodeAt W h' b' s')(b:∀c,c<32→SlotIs W x h m s c (part x (12-m) c l))
  (j:∀c,c≠ck x (12-m) p.1→s'.p c=s.p c∧s'.k c=s.k c)(hi:SlotIs W x h' m s' (ck x (12-m) p.1) (iM p (part x (12-m) (ck x (12-m) p.1) l))):TrieAt W x h' (m+1) b' (iM p l):=by
 refine⟨s',a,fun c hc=>?_⟩
 rw[O9 d];by_cases e:ck x (12-m) p.1=c
 ·rw[if_pos e];subst e;exact hi
 ·rw[if_neg e]
  have t:=SlotIs.upd0 i (b c hc);obtain⟨g,f⟩:=j c fun h=>e h.symm
  unfold SlotIs at t;rw[←g,←f]at t;exact t
theorem ey{a b:ByteArray}:(a.toList==b.toList)=decide (a=b):=by
 rw[iI,beq_iff_eq,decide_eq_true_iff,Fi]
theorem Z6{W:Nat→Prop}{x:Hs}:∀(m:Nat),m≤13→∀{b:Nat} {l:List Pr} (p:Pr) {h:ae},TrieAt W x h m b l→(∀y,W y→y<h.size)→cf l→l.length≤1000000→∀{K:(Option Addr)×Bool×Bool→ae→Prop},
  (∀h' b' ch,Upd No h h'→TrieAt W x h' m b' (iM p l)→(ch=false→b'=b)→ch= !decide (p∈l)→K (some ⟨b',0,none⟩, !cF l p.1,ch) h')→
  HC PG kq [VY x p.1,.pointer (some ⟨b,0,none⟩),.agg #[.string p.1,.string p.2],.int .i64 ((13-m:Nat):Int)] [.c .ptr,.c .bool,.c .bool] K h:=by
 intro m;induction m with
 |zero=>
  intro _ b l p h t hW Q hn K F;have T:∀{h'},Upd No h h'→∀y,W y→y<h'.size:=fun k y hy=>aC (hW y hy) k.size
  refine xQ (x.k0,x.k1,x.mask,none,p.1,eP x p.1) (some ⟨b,0,none⟩) p ((13-0:Nat):Int) ?_;unfold sS ag aQ nv ax lM uy vN qO nW BR ng BQ Na;have k1:=Upd.hnew No h [.int .u64 x.k0,.int .u64 x.k1,.int .u64 x.mask,.pointer none,.string p.1,.int .u64 (eP x p.1)] de;have b1:=cp h [.int .u64 x.k0,.int .u64 x.k1,.int .u64 x.mask,.pointer none,.string p.1,.int .u64 (eP x p.1)] de
  refine bP ?_;simp only[cY h];generalize hnew h [.int .u64 x.k0,.int .u64 x.k1,.int .u64 x.mask,.pointer none,.string p.1,.int .u64 (eP x p.1)] de=w at k1 b1;have k2:=Upd.hnew No w [.string p.1,.string p.2] aq;have b2:=cp w [.string p.1,.string p.2] aq;refine bP ?_;simp only[cY w];generalize hnew w [.string p.1,.string p.2] aq=h2 at k2 b2
  have o:∀{h':ae},Upd No h2 h'→∀i,aP h' (adr ⟨h.size,0,none⟩ i)=(#[.int .u64 x.k0,.int .u64 x.k1,.int .u64 x.mask,.pointer none,.string p.1,.int .u64 (eP x p.1)]:Array Value)[i]?:=fun k i=>by
   rw[cj,bH (k.get0 (k2.get0 b1)),aR]
  have B:∀{h':ae},Upd No h2 h'→∀i,aP h' (adr ⟨w.size,0,none⟩ i)=(#[.string p.1,.string p.2]:Array Value)[i]?:=fun k i=>by rw[cj,bH (k.get0 b2),aR]
  have r:=Upd.refl No h2;have d:=k1.tr k2;have bk:BuckAt W h2 b l:=BuckAt.upd t d fun _ h=>h.elim
  obtain⟨sp,sk,ow,hb,_⟩:=bk.ex;refine gu hb (au.2 ⟨_,B r 0,Zy bk Q (by omega) p.1 fun J v H hv=>?_⟩)
  have put:∀(U:p∉l) {h4:ae},Upd No h2 h4→HC PG jO [.pointer (some ⟨b,0,none⟩),.pointer none,.agg #[.string p.1,.string p.2]] [.c .ptr] (fun(e15:Option Addr) h16=>K (e15, !cF l p.1,true) h16) h4:=fun U h4 n=>
   Ht (bk.upd n fun _ h=>h.elim) (T (d.tr n)) Q (by omega) p fun h5 b5 bk5 hu5=>by
    rw[Dr p Q]at bk5;exact F h5 b5 true ((d.tr n).tr hu5) bk5 (fun h=>by cases h) (by rw[decide_eq_false U];rfl)
  refine Join.intro (fun t' h'=>t'=decide (p∈l)∧Upd No h2 h') (fun R hR=>?_) ?_
  ·cases E:cF l p.1 with
   |false=>
    refine aj.2 (hR _ _ ⟨?_,H⟩);refine(decide_eq_false fun hm=>?_).symm
    have:cF l p.1=true:=cy.2 ⟨p,hm,decide_eq_true rfl⟩;rw[E]at this;cases this
   |true=>
    have hv:=hv E;refine au.2 ⟨_,B H 1,hR _ _ ⟨?_,H⟩⟩;rw[ey,decide_eq_decide];constructor
    ·intro e
     have e:v=p.2:=e;rw[e]at hv;exact hv
    ·intro hm
     exact H5 Q hv (show(p.1,p.2)∈l from hm)
  ·rintro t' h4 ⟨rfl,n⟩
   by_cases hm:p∈l
   ·rw[decide_eq_true hm]
    refine au.2 ?_;have E:cF l p.1=true:=cy.2 ⟨p,hm,decide_eq_true rfl⟩;have:=F h4 b false (d.tr n) (by rw[Hm Q hm];exact bk.upd n fun _ h=>h.elim) (fun _=>rfl) (by rw[decide_eq_true hm];rfl)
    rw[E]at this;exact this
   ·rw[decide_eq_false hm]
    refine aj.2 ⟨none,o n 3,_,B n 0,_,B n 1,put hm n⟩
 |succ m ih=>
  intro hm b l p h t hW Q hn K F;have T:∀{h'},Upd No h h'→∀y,W y→y<h'.size:=fun k y hy=>aC (hW y hy) k.size
  have hl:13-(m+1)<13:=by omega
  have hlev:13-(m+1)=12-m:=by omega
  refine xQ (x.k0,x.k1,x.mask,none,p.1,eP x p.1) (some ⟨b,0,none⟩) p ((13-(m+1):Nat):Int) ?_;unfold sS ag aQ nv ax lM uy vN qO nW BR ng BQ Na;have k1:=Upd.hnew No h [.int .u64 x.k0,.int .u64 x.k1,.int .u64 x.mask,.pointer none,.string p.1,.int .u64 (eP x p.1)] de;have b1:=cp h [.int .u64 x.k0,.int .u64 x.k1,.int .u64 x.mask,.pointer none,.string p.1,.int .u64 (eP x p.1)] de
  refine bP ?_;simp only[cY h];generalize hnew h [.int .u64 x.k0,.int .u64 x.k1,.int .u64 x.mask,.pointer none,.string p.1,.int .u64 (eP x p.1)] de=w at k1 b1;have k2:=Upd.hnew No w [.string p.1,.string p.2] aq;have b2:=cp w [.string p.1,.string p.2] aq;refine bP ?_;simp only[cY w];generalize hnew w [.string p.1,.string p.2] aq=h2 at k2 b2
  have o:∀{h':ae},Upd No h2 h'→∀i,aP h' (adr ⟨h.size,0,none⟩ i)=(#[.int .u64 x.k0,.int .u64 x.k1,.int .u64 x.mask,.pointer none,.string p.1,.int .u64 (eP x p.1)]:Array Value)[i]?:=fun k i=>by
   rw[cj,bH (k.get0 (k2.get0 b1)),aR]
  have B:∀{h':ae},Upd No h2 h'→∀i,aP h' (adr ⟨w.size,0,none⟩ i)=(#[.string p.1,.string p.2]:Array Value)[i]?:=fun k i=>by rw[cj,bH (k.get0 b2),aR]
  have r:=Upd.refl No h2;have d:=k1.tr k2;obtain⟨s,Y,hs0⟩:=TrieAt.upd0 d t;have hs:∀c,c<32→SlotIs W x h2 m s c (part x (12-m) c l):=hs0;have tt:∀{h':ae},Upd No h2 h'→TrieAt W x h' (m+1) b l:=fun k=>TrieAt.upd0 (d.tr k) t
  obtain⟨d0,n0,sp0,sk0,ow0,hb0,_⟩:=Y.ex;refine gu hb0 (aj.2 ⟨_,o r 5,Sb hl ?_⟩);rw[hlev];have hi:=yX x (12-m) p.1;have O:=hs _ hi;have hrp:=iX (x:=x) (lev:=12-m) (c:=ck x (12-m) p.1) Q;have hnp:(part x (12-m) (ck x (12-m) p.1) l).length≤1000000:=bj kB hn;have M:p∈part x (12-m) (ck x (12-m) p.1) l↔p∈l:=by rw[mS];exact⟨fun h=>h.1,fun h=>⟨h,rfl⟩⟩
  have P:=HK (x:=x) (lev:=12-m) (l:=l) (k:=p.1);have g:=fun{h':ae} {b':Nat} {s':Slots}=>Uj (W:=W) (x:=x) (h:=h2) (h':=h') (m:=m) (b':=b') (s:=s) (s':=s') (l:=l) (p:=p) Q
  generalize hc:ck x (12-m) p.1=c at hi O hrp hnp M P g;generalize hlp:part x (12-m) c l=lc at O hrp hnp M P g;refine zx Y hi fun J H=>?_
  have k4:=Upd.hnew No J [.string (⟨#[]⟩:ByteArray),.string (⟨#[]⟩:ByteArray)] aq;have b4:=cp J [.string (⟨#[]⟩:ByteArray),.string (⟨#[]⟩:ByteArray)] aq;refine bP ?_;simp only[cY J];generalize hnew J [.string (⟨#[]⟩:ByteArray),.string (⟨#[]⟩:ByteArray)] aq=h4 at k4 b4;have b4':h4[J.size]? =some (.cells #[.string Qz.1,.string Qz.2] aq (0,0)):=b4
  refine F6 (p:=E5 (s.p c)) b4' fun h5 b5 hu5=>?_
  have a:Upd No h2 h5:=(H.tr k4).trans hu5 fun y hy=>.inr (by have hy:y=J.size:=hy;have:=H.size;omega)
  have X:∀{h':ae},Upd No h5 h'→∀i,aP h' (adr ⟨J.size,0,none⟩ i)=(#[.string (E5 (s.p c)).1,.string (E5 (s.p c)).2]:Array Value)[i]?:=fun k i=>by rw[cj,bH (k.get0 b5),aR]
  have r5:=Upd.refl No h5;have N:=Y.upd a fun _ h=>h.elim
  cases hsp:s.p c with
  |some y=>
   rw[hsp]at X;obtain⟨A,hk0⟩:lc= [y]∧s.k c=none:=by
    rcases O with⟨_,h2,_⟩|⟨q,w,h2,J⟩|⟨_,h2,_⟩
    ·rw[hsp]at h2;cases h2
    ·rw[hsp]at h2;cases h2;exact⟨w,J⟩
    ·rw[hsp]at h2;cases h2
   refine au.2 ⟨y.1,X r5 0,y.2,X r5 1,p.1,B a 0,p.2,B a 1,?_⟩;rw[ey,ey];have hyl:y∈l:=(mS.1 (show y∈part x (12-m) c l by rw[hlp,A];exact aD.2 rfl)).1
   by_cases I:y.1=p.1
   ·have E:cF l p.1=true:=cy.2 ⟨y,hyl,decide_eq_true I⟩
    rw[E]at F;by_cases e2:y.2=p.2
    ·rw[decide_eq_true I,decide_eq_true e2]
     have hyp:y=p:=ya I e2;have u:p∈l:=hyp▸hyl;refine au.2 ?_;exact F h5 b false (d.tr a) (by rw[Hm Q u];exact tt a) (fun _=>rfl) (by rw[decide_eq_true u];rfl)
    ·rw[decide_eq_true I,decide_eq_false e2]
     refine aj.2 ⟨y.1,X r5 0,p.1,B a 0,?_⟩;rw[ey,decide_eq_true I];refine au.2 ⟨none,o a 3,p.1,B a 0,p.2,B a 1,?_⟩;refine sA N (T (d.tr a)) hi (fun _ _=>hk0) p fun h6 S V f=>?_
     have L:p∉l:=fun hm=>by
      have:=M.2 hm;rw[A]at this;exact e2 (by rw[aD.1 this])
     refine F h6 S true ((d.tr a).tr f) (g (a.tr f) V hs (fun c' j=>⟨ge j,ge j⟩) ?_) (fun h=>by cases h) (by rw[decide_eq_false L];rfl)
     refine .inr (.inl ⟨p,?_,gH,gH⟩);rw[A,iw,if_neg (by rw[I];exact cr _),if_pos I]
   ·rw[decide_eq_false I]
    refine aj.2 ⟨y.1,X r5 0,p.1,B a 0,?_⟩;rw[ey,decide_eq_false I];refine aj.2 ⟨none,o a 3,_,o a 0,_,o a 1,_,o a 2,_,o a 3,_,o a 4,_,o a 5,y.1,X r5 0,y.2,X r5 1,p.1,B a 0,p.2,B a 1,?_⟩;have ew:IntKind.wrap .i64 (((12-m:Nat):Int)+1)=((13-m:Nat):Int):=by rw[fx (by omega)];omega
    rw[ew];refine Za m y p (by omega) I (T (d.tr a)) fun h6 S t6 f=>⟨o (a.tr f) 3,?_⟩
    refine xt (N.upd f fun _ h=>h.elim) (T ((d.tr a).tr f)) hi (fun z hz=>by rw[hk0]at hz;cases hz) ⟨S,0,none⟩ fun h7 b7 Z D=>?_
    have E:cF l p.1=false:=by
     rw[←P,A];unfold cF;rw[tC,decide_eq_false I];rfl
    have L:p∉l:=fun hm=>by
     have:cF l p.1=true:=cy.2 ⟨p,hm,decide_eq_true rfl⟩;rw[E]at this;cases this
    rw[E]at F;refine F h7 b7 true (((d.tr a).tr f).tr D) (g ((a.tr f).tr D) Z hs (fun c' j=>⟨ge j,ge j⟩) ?_) (fun h=>by cases h) (by rw[decide_eq_false L];rfl)
    rw[A];exact .inr (.inr ⟨by rw[Ta I];omega,gH,S,gH,TrieAt.upd0 D t6⟩)
  |none=>
   refine aj.2 (vV N hi ?_);cases hsk:s.k c with
   |none=>
    have hlc:lc= []:=by
     rcases O with⟨w,_⟩|⟨q,_,h2,_⟩|⟨_,_,kb,h2,_⟩
     ·exact w
     ·rw[hsp]at h2;cases h2
     ·rw[hsk]at h2;cases h2
    refine au.2 ⟨none,o a 3,p.1,B a 0,p.2,B a 1,?_⟩;refine sA N (T (d.tr a)) hi (fun _ _=>hsk) p fun h6 S V f=>?_
    have E:cF l p.1=false:=by rw[←P,hlc];rfl
    have L:p∉l:=fun hm=>by
     have:cF l p.1=true:=cy.2 ⟨p,hm,decide_eq_true rfl⟩;rw[E]at this;cases this
    rw[E]at F;refine F h6 S true ((d.tr a).tr f) (g (a.tr f) V hs (fun c' j=>⟨ge j,ge j⟩) ?_) (fun h=>by cases h) (by rw[decide_eq_false L];rfl)
    rw[hlc];exact .inr (.inl ⟨p,rfl,gH,gH⟩)
   |some kp=>
    obtain⟨h2l,kb,rfl,tk⟩:2≤lc.length∧∃kb,kp=some ⟨kb,0,none⟩∧TrieAt W x h2 m kb lc:=by
     rcases O with⟨_,_,h2⟩|⟨q,_,h2,_⟩|⟨w,_,kb,h2,J⟩
     ·rw[hsk]at h2;cases h2
     ·rw[hsp]at h2;cases h2
     ·rw[hsk]at h2;cases h2;exact⟨w,kb,rfl,J⟩
    refine aj.2 ⟨_,o a 0,_,o a 1,_,o a 2,_,o a 3,_,o a 4,_,o a 5,p.1,B a 0,p.2,B a 1,?_⟩;have ew:IntKind.wrap .i64 (((12-m:Nat):Int)+1)=((13-m:Nat):Int):=by rw[fx (by omega)];omega
    rw[ew];refine ih (by omega) p (TrieAt.upd0 a tk) (T (d.tr a)) hrp hnp fun h6 S ch f t6 hsame G=>?_
    have C:=a.tr f;by_cases u:p∈l
    ·have G:ch=false:=by rw[G,decide_eq_true (M.2 u)];rfl
     have E:cF l p.1=true:=cy.2 ⟨p,u,decide_eq_true rfl⟩;rw[E]at F;rw[G];refine au.2 ?_;exact F h6 b false (d.tr C) (by rw[Hm Q u];exact tt C) (fun _=>rfl) (by rw[decide_eq_true u];rfl)
    ·have G:ch=true:=by rw[G,decide_eq_false fun h=>u (M.1 h)];rfl
     rw[G];refine aj.2 ⟨none,o C 3,?_⟩;refine xt (N.upd f fun _ h=>h.elim) (T ((d.tr a).tr f)) hi (fun _ _=>hsp) ⟨S,0,none⟩ fun h7 b7 Z D=>?_
     rw[P];refine F h7 b7 true ((d.tr C).tr D) (g (C.tr D) Z hs (fun c' j=>⟨ge j,ge j⟩) ?_) (fun h=>by cases h) (by rw[decide_eq_false u];rfl)
     exact .inr (.inr ⟨bj h2l (Pt p),gH,S,gH,TrieAt.upd0 D t6⟩)
end Go.Proofs
namespace Go.Proofs
open Go.Lift
theorem Oz{W:Nat→Prop}{x:Hs}{h:ae}{m b:Nat}(a:NodeAt W h b ⟨fun _=>none,fun _=>none⟩):TrieAt W x h (m+1) b []:=⟨_,a,fun _ _=>.inl ⟨rfl,rfl,rfl⟩⟩
def RootAt(W:Nat→Prop)(x:Hs)(h:ae)(r:Option Addr)(l:List Pr):Prop:=(r=none∧l= [])∨∃b,r=some ⟨b,0,none⟩∧TrieAt W x h 13 b l
theorem RootAt.upd0{W:Nat→Prop}{x:Hs}{h h':ae}{r:Option Addr}{l:List Pr}(k:Upd No h h')(t:RootAt W x h r l):RootAt W x h' r l:=t.imp id fun⟨b,e,t⟩=>⟨b,e,TrieAt.upd0 k t⟩
theorem MR{W:Nat→Prop}{x:Hs}{h:ae}{r:Option Addr}{l:List Pr}(t:RootAt W x h r l)(e:∀y,W y→y<h.size){K:Option Addr→ae→Prop}(a:∀h' b,TrieAt W x h' 13 b l→Upd No h h'→(r=some ⟨b,0,none⟩∨r=none)→K (some ⟨b,0,none⟩) h'):HC PG mH [.pointer r] [.c .ptr] K h:=by
 refine N2 r ?_;unfold Eu;rcases t with⟨rfl,rfl⟩|⟨b,rfl,t⟩
 ·refine au.2 (Bx ?_)
  unfold xn;exact rc e fun h' b c d=>a h' b (Oz c) d (.inr rfl)
 ·exact aj.2 (a h b t (Upd.refl _ _) (.inl rfl))
theorem cU{h:ae}{b:Nat}{t:TypeId}{c vs:List Value}(a:h[b]? =some (.cells c.toArray t (0,0))) (d:vs.length=c.length) {k:ae→Prop}
  (f:∀h',h'[b]? =some (.cells vs.toArray t (0,0))→Upd (· =b) h h'→k h'):u6 h (some ⟨b,0,none⟩) 0 vs∧At (iP h ⟨b,0,none⟩ 0 vs) k:=by
 have e:=kT vs h 0 0 c a (by omega);refine⟨.inr ⟨_,rfl,fun j g=>by rw[cj];exact iV a (by rw[List.size_toArray];omega)⟩,bP ?_⟩
 rw[e];refine f _ ?_ (Upd.set h _ rfl);rw[kY a];congr 3
 simp[d]
set_option maxRecDepth 4000 in
theorem PP{W:Nat→Prop}{x:Hs}{h:ae}{r:Option Addr}{l:List Pr}(t:RootAt W x h r l)(Q:∀y,W y→y<h.size)(V:cf l)(Z:l.length≤1000000)(p:Pr){K:Option Addr×Bool→ae→Prop}
  (Y:∀h' b',Upd No h h'→TrieAt W x h' 13 b' (iM p l)→(p∈l→r=some ⟨b',0,none⟩∨r=none)→K (some ⟨b',0,none⟩, !cF l p.1) h'):
  HC PG zW [.agg #[.int .u64 x.k0,.int .u64 x.k1,.int .u64 x.mask],.pointer none,.pointer r,.agg #[.string p.1,.string p.2]] [.c .ptr,.c .bool] K h:=by
 refine Qj (x.k0,x.k1,x.mask) none r p ?_;unfold GL ag aQ eJ AC vO ax vN qO ZF ZN BR;have k1:=Upd.hnew No h [.int .u64 x.k0,.int .u64 x.k1,.int .u64 x.mask] cC;have b1:=cp h [.int .u64 x.k0,.int .u64 x.k1,.int .u64 x.mask] cC;refine bP ?_;simp only[cY h];generalize hnew h [.int .u64 x.k0,.int .u64 x.k1,.int .u64 x.mask] cC=h1 at k1 b1
 have J:=Upd.hnew No h1 [.string p.1,.string p.2] aq;have b2:=cp h1 [.string p.1,.string p.2] aq;refine bP ?_;simp only[cY h1];generalize hnew h1 [.string p.1,.string p.2] aq=h2 at J b2;have e:∀{h':ae},Upd No h2 h'→∀i,aP h' (adr ⟨h.size,0,none⟩ i)=(#[.int .u64 x.k0,.int .u64 x.k1,.int .u64 x.mask]:Array Value)[i]?:=fun k i=>by
  rw[cj,bH (k.get0 (J.get0 b1)),aR]
 have o:∀{h':ae},Upd No h2 h'→∀i,aP h' (adr ⟨h1.size,0,none⟩ i)=(#[.string p.1,.string p.2]:Array Value)[i]?:=fun k i=>by rw[cj,bH (k.get0 b2),aR]
 have s:=Upd.refl No h2;have q:=k1.tr J;let E:List Value:= [.int .u64 0,.int .u64 0,.int .u64 0,.pointer none,.string (⟨#[]⟩:ByteArray),.int .u64 0]
 let D:List Value:= [.int .u64 x.k0,.int .u64 x.k1,.int .u64 x.mask,.pointer none,.string p.1,.int .u64 (eP x p.1)]
 have B:∀{g:ae} {b:Nat},Upd No h2 g→g[b]? =some (.cells D.toArray de (0,0))→
   ∃v15:Int,aP g (adr ⟨b,0,none⟩ 0)=some (.int .u64 v15)∧
    ∃v16:Int,aP g (adr ⟨b,0,none⟩ 1)=some (.int .u64 v16)∧
    ∃v17:Int,aP g (adr ⟨b,0,none⟩ 2)=some (.int .u64 v17)∧
    ∃v18:Option Addr,aP g (adr ⟨b,0,none⟩ 3)=some (.pointer v18)∧
    ∃v19:ByteArray,aP g (adr ⟨b,0,none⟩ 4)=some (.string v19)∧
    ∃v20:Int,aP g (adr ⟨b,0,none⟩ 5)=some (.int .u64 v20)∧
    ∃v21:ByteArray,aP g (adr ⟨h1.size,0,none⟩ 0)=some (.string v21)∧
    ∃v22:ByteArray,aP g (adr ⟨h1.size,0,none⟩ 1)=some (.string v22)∧
    HC PG mH [.pointer r] [.c .ptr] (fun(I:Option Addr) f=>
     ((aP f (adr ⟨h1.size,0,none⟩ 0)=some (.string v21)∧aP f (adr ⟨h1.size,0,none⟩ 1)=some (.string v22))∧
      ((aP f (adr ⟨b,0,none⟩ 0)=some (.int .u64 v15)∧aP f (adr ⟨b,0,none⟩ 1)=some (.int .u64 v16)∧aP f (adr ⟨b,0,none⟩ 2)=some (.int .u64 v17)∧aP f (adr ⟨b,0,none⟩ 3)=some (.pointer v18)∧aP f (adr ⟨b,0,none⟩ 4)=some (.string v19)∧aP f (adr ⟨b,0,none⟩ 5)=some (.int .u64 v20))∧
       HC PG kq [.agg #[.int .u64 v15,.int .u64 v16,.int .u64 v17,.pointer v18,.string v19,.int .u64 v20],.pointer I,.agg #[.string v21,.string v22],.int .i64 0] [.c .ptr,.c .bool,.c .bool] (fun(z:(Option Addr)×Bool×Bool) L=>
        K (z.1,z.2.1) L) f))) g:=fun{g b} d O=>by
  have m:∀{h':ae},Upd No g h'→∀i,aP h' (adr ⟨b,0,none⟩ i)=D.toArray[i]?:=fun k i=>by rw[cj,bH (k.get0 O),aR]
  have v:=Upd.refl No g;refine⟨_,m v 0,_,m v 1,_,m v 2,_,m v 3,_,m v 4,_,m v 5,p.1,o d 0,p.2,o d 1,?_⟩;refine MR (t.upd0 (q.tr d)) (fun y A=>aC (Q y A) (q.tr d).size) fun P G S c F=>?_
  have a:=d.tr c;refine⟨⟨o a 0,o a 1⟩,⟨m c 0,m c 1,m c 2,m c 3,m c 4,m c 5⟩,?_⟩;refine Z6 13 (al _) p S (fun y A=>aC (Q y A) ((q.tr d).tr c).size) V Z fun R C ch u X U N=>?_
  refine Y R C ((q.tr a).tr u) X fun hm=>?_
  have M:C=G:=U (by rw[N,decide_eq_true hm];rfl);rw[M];exact F
 have own:∀{w g:ae} {b:Nat},h2.size≤b→Upd (· =b) w g→Upd No h2 w→Upd No h2 g:=fun M T k=>k.trans T fun y A=>.inr (A▸M)
 refine⟨_,e s 0,_,e s 1,_,e s 2,_,o s 0,_,e s 0,_,e s 1,_,e s 2,_,o s 0,?_,?_⟩
 ·refine uP fun w j=>⟨o j 0,⟨e j 0,e j 1,e j 2⟩,?_⟩
  have n:=Upd.hnew No w E de;have H:=cp w E de;have d:=j.tr n;refine bP ?_;simp only[cY w];refine⟨o d 0,⟨e d 0,e d 1,e d 2⟩,?_⟩;refine cU (vs:=D) H rfl fun P G c=>B (own j.size c d) G
 ·have n:=Upd.hnew No h2 E de
  have H:=cp h2 E de;refine bP ?_;simp only[cY h2];refine⟨o n 0,⟨e n 0,e n 1,e n 2⟩,o n 0,⟨e n 0,e n 1,e n 2⟩,?_⟩;refine uP fun P c=>?_
  have a:=n.tr c;refine⟨o a 0,⟨e a 0,e a 1,e a 2⟩,?_⟩;exact cU (vs:=D) (c.get0 H) rfl fun R C u=>B (own (al _) u a) C
end Go.Proofs
namespace Go.Proofs
open Go.Lift
abbrev qI(b:UInt8):List Value:= [.int .u8 (b.toNat:Int)]
theorem um(b:UInt8):(qI b).length=1∧0<1:=⟨rfl,Nat.one_pos⟩
theorem Df:∀xs:List UInt8,cG (xs.flatMap qI)=true
 | []=>rfl
 |x::xs=>by rw[aO];exact kZ rfl (Df xs)
theorem ws(s:ByteArray):eo s=s.data.toList.flatMap qI:=by
 unfold eo;generalize s.data.toList=l;induction l with
 |nil=>rfl
 |cons b l ih=>rw[fp,aO,ih];rfl
theorem xK{M:Nat→Prop}{h:ae}{so:SliceV}{out:List UInt8}{v:Int}{b:UInt8}(hv:v=(b.toNat:Int)){K:SliceV→ae→Prop}(c:OwnS qI 1 cM M h so out)(hM:∀b,h.size≤b→M b)(g:out.length+1≤140737488355328)
  (e:∀s' h',OwnS qI 1 cM M h' s' (out++ [b])→Upd M h h'→K s' h'):
  ∃xs,SRow (hnew h [.int .u8 v] cM) (some (aF h)) (1*1) xs∧AppP (some [.int .u8 0]) 1 1 cM so.a so.len so.cap 1 xs (hnew h [.int .u8 v] cM) K:=by
 subst hv;have k:=Upd.hnew No h [.int .u8 (b.toNat:Int)] cM;have d:OwnS qI 1 cM (fun _=>True) (hnew h [.int .u8 (b.toNat:Int)] cM) ⟨some (aF h),1,1⟩ [b]:=⟨rfl,um,al _,.inr ⟨h.size,[],rfl,trivial,cp ..,rfl⟩⟩
 refine⟨_,(d.sl (W:=No) fun _ _ _ h=>h).srow,?_⟩
 refine AppP.own (ys:= [b]) (c.upd k fun _ _ h=>h) rfl rfl rfl rfl (by omega) (by simp only[aE];omega) (hM _ (by rw[iY];omega)) fun s' h' a f=>?_
 exact e s' h' a ((Upd.hnew M h _ _).tr f)
def ol(n k:Nat):List UInt8:=(gV k).map fun i=>g6 (n>>>(8*i))
theorem AG(n k:Nat):ol n (k+1)=ol n k++ [g6 (n>>>(8*k))]:=by unfold ol;rw[kV,d9];rfl
theorem dS(n k:Nat):(ol n k).length=k:=by simp[ol]
theorem Rw{M:Nat→Prop}{h:ae}{s:SliceV}{xs:List UInt8}(v:OwnS qI 1 cM M h s xs)(hM:∀b,h.size≤b→M b){n k:Nat}(B:n<18446744073709551616)(w:k≤8)(y:xs.length+k≤140737488355328){K:SliceV→ae→Prop}
  (u:∀s' h',OwnS qI 1 cM M h' s' (xs++ol n k)→Upd M h h'→K s' h'):HC PG ot [.slice s.a s.len s.cap,.int .u64 n,.int .i64 k] [.c .slice] K h:=by
 refine Gr s n k ?_;unfold Ah;refine LoopP.ghost (fun(i:Nat) (t:SliceV×Int) h'=>t.2=(i:Int)∧i≤k∧OwnS qI 1 cM M h' t.1 (xs++ol n i)∧Upd M h h') (fun i=>k-i) 0 ⟨rfl,aS _,by simpa[ol]using v,Upd.refl _ _⟩ ?_
 rintro I i ⟨so,z⟩ h' ⟨m,hi,c,e⟩ p;simp only at m c;subst m;refine az (fun a=>?_) fun g=>?_
 ·have a:i<k:=by have:(i:Int)<(k:Int):=a;omega
  have o:IntKind.wrap .i64 (8*(i:Int))=((8*i:Nat):Int):=by rw[fx (by omega)];omega
  have x:min (((8*i:Nat):Int)).toNat (IntKind.bits .u64)=8*i:=by rw[aU];exact bJ (by show 8*i≤64;omega)
  refine Join.plain ?_;simp only[Bd];rw[o,x,oq];refine⟨by omega,bP ?_⟩;refine xK (b:=g6 (n>>>(8*i))) ?_ c (fun b q=>hM b (bj e.size q)) (by rw[ac,dS];omega) fun A h2 j f=>?_
  ·rw[IntKind.wrap_u8];simp
  ·rw[dd a (by omega)]
   refine p (i+1) _ _ ⟨rfl,a,?_,e.tr f⟩ (by omega);rw[AG,←ar];exact j
 ·have d:i=k:=by have:¬(i:Int)<(k:Int):=g;omega
  subst d;exact u _ _ c e
end Go.Proofs
namespace Go.Proofs
open Go Go.Lift
theorem PX{α:Type}{f:α→List Value}{j a:Nat}{t:TypeId}{W:Nat→Prop}{h:ae}{d:Option Addr}{sl k p:Nat}{xs ys:List α}{g z:List Value}{K:SliceV→ae→Prop}
  (m:Sl f j W h ⟨d,sl,k⟩ xs)(o:p=ys.length)(q:g=ys.flatMap f)(x:z.length=j)(u:0<a)(i:k<sl+p)(e:(xs.length+ys.length)*a≤140737488355328)
  (v:∀s' h',OwnS f j t (fun b=>h.size≤b) h' s' (xs++ys)→Upd No h h'→K s' h'):AppP (some z) j a t d sl k p g h K:=by
 have c:sl=xs.length:=m.len;subst o q;refine⟨fun s=>by omega,fun _=>?_⟩
 refine⟨xs.flatMap f,z,m.srow,rfl,u,Go.growslice_fits i (by rw[c];exact e),fun w n=>?_⟩
 refine v _ _ ⟨by simp[c],m.ne,n,.inr ⟨h.size,eh (w-(sl+ys.length)) z,rfl,al _,?_,?_⟩⟩ (Upd.hnew No h _ _)
 ·rw[cp,bO]
 ·rw[nT,x]
theorem YR{h:ae}{s:SliceV}{xs:List UInt8}(x:Sl qI 1 No h s xs)(hc:s.cap=s.len){n k:Nat}(B:k≤8)(v:0<k)(D:xs.length+k≤140737488355328){K:SliceV→ae→Prop}
  (z:∀s' h',OwnS qI 1 cM (fun b=>h.size≤b) h' s' (xs++ol n k)→Upd No h h'→K s' h'):HC PG ot [.slice s.a s.len s.cap,.int .u64 n,.int .i64 k] [.c .slice] K h:=by
 refine Gr s n k ?_;unfold Ah;refine LoopP.ghost (fun(i:Nat) (t:SliceV×Int) h'=>t.2=(i:Int)∧i≤k∧((i=0∧t.1=s∧h'=h)∨OwnS qI 1 cM (fun b=>h.size≤b) h' t.1 (xs++ol n i))∧Upd No h h') (fun i=>k-i) 0 ⟨rfl,aS _,.inl ⟨rfl,rfl,rfl⟩,Upd.refl _ _⟩ ?_
 rintro I i ⟨so,E⟩ h' ⟨q,hi,a,m⟩ p;simp only at q a;subst q;refine az (fun c=>?_) fun o=>?_
 ·have c:i<k:=by have:(i:Int)<(k:Int):=c;omega
  have w:IntKind.wrap .i64 (8*(i:Int))=((8*i:Nat):Int):=by rw[fx (by omega)];omega
  have C:min (((8*i:Nat):Int)).toNat (IntKind.bits .u64)=8*i:=by rw[aU];exact bJ (by show 8*i≤64;omega)
  refine Join.plain ?_;simp only[Bd];rw[w,C,oq];refine⟨by omega,bP ?_⟩;have u:IntKind.wrap .u8 ((n>>>(8*i):Nat):Int)=((g6 (n>>>(8*i))).toNat:Int):=by rw[IntKind.wrap_u8];simp
  rcases a with⟨rfl,rfl,rfl⟩|a
  ·rw[u]
   have k1:=Upd.hnew No h' [.int .u8 ((g6 (n>>>(8*0))).toNat:Int)] cM;have y:OwnS qI 1 cM (fun _=>True) (hnew h' [.int .u8 ((g6 (n>>>(8*0))).toNat:Int)] cM) ⟨some (aF h'),1,1⟩ [g6 (n>>>(8*0))]:=⟨rfl,um,al _,.inr ⟨h'.size,[],rfl,trivial,cp ..,rfl⟩⟩
   refine⟨_,(y.sl (W:=No) fun _ _ _ h=>h).srow,?_⟩
   refine PX (ys:= [g6 (n>>>(8*0))]) (x.upd k1 fun _ h=>h.elim) rfl rfl rfl (by omega) (by omega) (by simp only[aE];omega) fun A h2 f d=>?_
   rw[dd c (by omega)];refine p 1 _ _ ⟨rfl,c,.inr ?_,k1.tr d⟩ (by omega);exact f.more fun b g=>bj k1.size g
  ·refine xK u a (fun b g=>bj m.size g) (by rw[ac,dS];omega) fun A h2 f d=>?_
   rw[dd c (by omega)];refine p (i+1) _ _ ⟨rfl,c,.inr ?_,m.trans d fun b g=>.inr g⟩ (by omega)
   rw[AG,←ar];exact f
 ·have j:i=k:=by have:¬(i:Int)<(k:Int):=o;omega
  subst j;rcases a with⟨e,_⟩|a
  ·omega
  ·exact z _ _ a m
def pH(s:ByteArray):List UInt8:=ol s.size 2++s.data.toList
theorem Hc{W:Nat→Prop}{h:ae}{s:SliceV}{xs:List UInt8}(i:Sl qI 1 W h s xs)(hc:s.len≤s.cap)(b:ByteArray)(v:b.size≤1000000)(w:xs.length+2+b.size≤140737488355328){K:SliceV→ae→Prop}
  (q:∀s' h',OwnS qI 1 cM (fun x=>h.size≤x) h' s' (xs++pH b)→Upd No h h'→K s' h'):HC PG oN [.slice s.a s.len s.cap,.string b] [.c .slice] K h:=by
 refine NR s b ?_;unfold Ei;have j:=i.len;refine⟨by omega,by omega,?_⟩
 simp only[aU];have g:Sl qI 1 No h ⟨bh s.a 0 s.len 1,s.len-0,s.len-0⟩ xs:=by
  have:=Sl.sub (i.less (W':=No) fun _ h=>h.elim) (l:=0) (hi:=s.len) (m:=s.len) (c:=s.len-0) (aS _) (by omega) (al _)
  rw[List.drop_zero,bm (by omega)]at this;exact this
 have p:IntKind.wrap .u64 (b.size:Int)=(b.size:Int):=Go.IntWalk.u64_in _ (by omega);rw[p];refine YR g rfl (n:=b.size) (k:=2) (by omega) (by omega) (by omega) fun u h2 f a=>?_
 refine AppP.own (ys:=b.data.toList) f (by simp) (ws b) (by rw[ws];exact Df _) rfl (by omega) ?_ a.size fun t o d e=>?_
 ·simp only[ac,dS]
  have:b.data.toList.length=b.size:=by simp
  omega
 ·refine q t o ?_ (a.trans e fun x hx=>.inr hx)
  rw[pH,←ar];exact d
end Go.Proofs
namespace Go.Proofs
open Go Go.Lift
def Ga(p:Pr):List UInt8:=pH p.1++pH p.2
def l0(l:List Pr):List UInt8:=l.flatMap Ga
theorem ko(b:ByteArray):(pH b).length=2+b.size:=by simp[pH,dS]
def Fit(l:List Pr):Prop:=∀p∈l,p.1.size≤10000∧p.2.size≤10000
theorem UQ{p:Pr}(h:p.1.size≤10000∧p.2.size≤10000):(Ga p).length≤20004:=by
 unfold Ga;rw[ac,ko,ko];omega
theorem oe:∀{l:List Pr},Fit l→(l0 l).length≤l.length*20004
 | [],_=>by simp[l0]
 |p::l,h=>by
  have b:=UQ (h p (aw ..));have h2:=oe (l:=l) fun q a=>h q (aB _ a)
  unfold l0 at*;rw[aO,ac,ao];omega
theorem F9{l:List Pr}{i:Nat}(hi:i<l.length):l0 (l.take (i+1))=l0 (l.take i)++Ga l[i]:=by
 unfold l0;rw[List.take_succ_eq_append_getElem hi,bO,aO,List.flatMap_nil,List.append_nil]
theorem HT{M W:Nat→Prop}{h:ae}{s sp:SliceV}{xs:List UInt8}{l:List Pr}(Q:OwnS qI 1 cM M h s xs)(hM:∀b,h.size≤b→M b)(C:Sl eC 2 W h sp l)(J:∀x,M x→x<h.size→W x)(E:Fit l)(Y:l.length≤1000000)(S:xs.length+l.length*20004≤140737488355328){K:SliceV→ae→Prop}
  (O:∀s' h',OwnS qI 1 cM M h' s' (xs++l0 l)→Upd M h h'→K s' h'):HC PG tq [.slice s.a s.len s.cap,.slice sp.a sp.len sp.cap] [.c .slice] K h:=by
 refine KH s sp ?_;unfold BC cl aK nv ax lM hP CM;have F:=C.len;have w:∀b,M b→W b∨h.size≤b:=fun b u=>by
  rcases Nat.lt_or_ge b h.size with hx|hx
  ·exact .inl (J b u hx)
  ·exact .inr hx
 refine LoopP.ghost (fun(i:Nat) (t:SliceV×Int) h'=>t.2=(i:Int)∧i≤l.length∧OwnS qI 1 cM M h' t.1 (xs++l0 (l.take i))∧Upd M h h') (fun i=>l.length-i) 0 ⟨rfl,aS _,by simpa[l0]using Q,Upd.refl _ _⟩ ?_
 rintro I i ⟨so,V⟩ h' ⟨D,hi,e,m⟩ N;simp only at D e;subst D;refine az (fun c=>?_) fun z=>?_
 ·have c:i<l.length:=by have:(i:Int)<(sp.len:Int):=c;omega
  obtain⟨a,G,_,hv⟩:=(C.upd m w).at (af c);have H:=E l[i] (aZ c);have y:=oe (l:=l.take i) fun q R=>E q (List.mem_of_mem_take R)
  rw[List.length_take,bJ hi]at y;have k1:=Upd.hnew No h' [.string (⟨#[]⟩:ByteArray),.string (⟨#[]⟩:ByteArray)] aq;have b1:=cp h' [.string (⟨#[]⟩:ByteArray),.string (⟨#[]⟩:ByteArray)] aq;refine⟨by simp only;omega,a,G,l[i].1,hv 0 _ rfl,l[i].2,hv 1 _ rfl,bP ?_⟩;simp only[cY h'];generalize hnew h' [.string (⟨#[]⟩:ByteArray),.string (⟨#[]⟩:ByteArray)] aq=h1 at k1 b1
  have A:h1[h'.size]? =some (.cells #[.string Qz.1,.string Qz.2] aq (0,0)):=b1;refine F6 (p:=l[i]) A fun h2 b2 v=>?_
  have d:Upd No h' h2:=k1.trans v fun x hx=>.inr (gS hx.symm)
  have k:=e.upd d fun _ _ h=>h
  refine⟨l[i].1,by rw[cj,bH b2];rfl,l[i].2,by rw[cj,bH b2];rfl,?_⟩
  have B:i*20004+20004≤l.length*20004:=by rw[←Nat.succ_mul];exact cz _ c
  refine Hc (W:=No) (k.sl fun _ _ _ h=>h) k.cap l[i].1 (by omega) (by rw[ac];omega) fun U X j f=>⟨by rw[cj,bH (f.get0 b2)];rfl,?_⟩
  refine Hc (W:=No) (j.sl fun _ _ _ h=>h) j.cap l[i].2 (by omega) (by rw[ac,ac,ko];omega) fun T L o n=>?_
  have g:Upd M h L:=m.tr ((d.tr (f.tr n)).wide);rw[dd c (by omega)];refine N (i+1) _ _ ⟨rfl,c,?_,g⟩ (by omega);rw[F9 c,Ga,←ar,←ar];exact o.more fun b u=>hM b (bj (m.tr ((d.tr f).wide)).size u)
 ·have P:i=l.length:=by have:¬(i:Int)<(sp.len:Int):=z;omega
  rw[bm (by omega)]at e;exact O _ _ e m
end Go.Proofs
namespace Go.Proofs
open Go Go.Lift
def kG(q:Nat→Bool):Nat→Nat
 |0=>0
 |n+1=>kG q n+(if q n then 2^n else 0)
theorem oy(q:Nat→Bool):∀n,kG q n<2^n
 |0=>by simp[kG]
 |n+1=>by
  have:=oy q n;unfold kG;rw[ph];split<;>omega
theorem Fm(q:Nat→Bool)(c:Nat):∀n,(kG q n).testBit c=(decide (c<n)&&q c)
 |0=>by simp[kG]
 |n+1=>by
  have b:=oy q n;have d:=Fm q c n;unfold kG;by_cases a:q n=true
  ·rw[if_pos a,Nat.add_comm]
   rcases Nat.lt_trichotomy c n with h|h|h
   ·rw[Nat.testBit_two_pow_add_gt h,d,decide_eq_true h,decide_eq_true (by omega)]
   ·subst h
    rw[Nat.testBit_two_pow_add_eq,im b,decide_eq_true (by omega),a];rfl
   ·have f:2^n+kG q n<2^c:=aC (by rw[ph];omega:2^n+kG q n<2^(n+1)) (fX (by omega) h)
    rw[im f,decide_eq_false (by omega)];rfl
  ·rw[if_neg a,eN,d]
   by_cases h:c<n
   ·rw[decide_eq_true h,decide_eq_true (by omega)]
   ·by_cases e:c=n
    ·subst e;have:q c=false:=by simpa using a
     rw[this];simp
    ·rw[decide_eq_false h,decide_eq_false (by omega)]
theorem Mm{d:Nat}{q:Nat→Bool}(hd:d<4294967296)(h:∀c,c<32→d.testBit c=q c):d=kG q 32:=by
 refine Nat.eq_of_testBit_eq fun c=>?_
 rw[Fm];by_cases hc:c<32
 ·rw[h c hc,decide_eq_true hc];rfl
 ·rw[decide_eq_false hc,im (aC hd (fX (n:=2) (by omega) (show 32≤c by omega)))];rfl
end Go.Proofs
namespace Go.Proofs
open Go Go.Lift
def jM(l:List Pr):Option Pr:=match l with| [p]=>some p|_=>none
def fQ(l:List Pr):Option (List Pr):=if 2≤l.length then some l else none
def ia(x:Hs)(lev:Nat)(l:List Pr):List Pr:=fm (fun c=>jM (part x lev c l)) 32
def lN(x:Hs)(lev:Nat)(l:List Pr):List (List Pr):=fm (fun c=>fQ (part x lev c l)) 32
def gf(x:Hs):Nat→List Pr→List UInt8
 |0,l=>1::(ol l.length 2++l0 l)
 |m+1,l=>0::(ol (kG (fun c=>(jM (part x (12-m) c l)).isSome) 32) 4++(ol (kG (fun c=>(fQ (part x (12-m) c l)).isSome) 32) 4++(l0 (ia x (12-m) l)++(lN x (12-m) l).flatMap (gf x m))))
theorem HQ{W:Nat→Prop}{x:Hs}{h:ae}{m:Nat}{s:Slots}{c:Nat}{l:List Pr}(t:SlotIs W x h m s c l):s.p c=jM l∧(s.k c).isSome=(fQ l).isSome:=by
 rcases t with⟨rfl,d,h2⟩|⟨p,rfl,d,h2⟩|⟨e,d,f,h2,_⟩
 ·rw[d,h2];exact⟨rfl,rfl⟩
 ·rw[d,h2];exact⟨rfl,rfl⟩
 ·rw[d,h2]
  refine⟨?_,by simp[fQ,e]⟩
  match l,e with
  |a::b::l,_=>rfl
def KidsAt(W:Nat→Prop)(x:Hs)(h:ae)(m:Nat):List (Option Addr)→List (List Pr)→Prop
 | [],[]=>True
 |k::ks,l::ls=>(∃kb,k=some ⟨kb,0,none⟩∧TrieAt W x h m kb l)∧KidsAt W x h m ks ls
 |_,_=>False
theorem KidsAt.app{W:Nat→Prop}{x:Hs}{h:ae}{m:Nat}:∀{ks ks':List (Option Addr)} {ls ls':List (List Pr)},KidsAt W x h m ks ls→KidsAt W x h m ks' ls'→KidsAt W x h m (ks++ks') (ls++ls')
 | [],_,[],_,_,q=>q
 |_::_,_,_::_,_,q,q'=>⟨q.1,KidsAt.app q.2 q'⟩
 | [],_,_::_,_,q,_=>q.elim
 |_::_,_,[],_,q,_=>q.elim
theorem jp{β:Type}(g:Nat→Option β)(n:Nat):fm g (n+1)=fm g n++(g n).toList:=by
 unfold fm;rw[kV,List.filterMap_append];cases h:g n<;>simp[h]
theorem RC{W:Nat→Prop}{x:Hs}{h:ae}{m lev:Nat}{s:Slots}{l:List Pr}:∀n,(∀c,c<n→SlotIs W x h m s c (part x lev c l))→KidsAt W x h m (fm s.k n) (fm (fun c=>fQ (part x lev c l)) n)
 |0,_=>trivial
 |n+1,hs=>by
  rw[jp,jp];refine KidsAt.app (RC n fun c hc=>hs c (by omega)) ?_
  rcases hs n (by omega)with⟨a,_,h2⟩|⟨p,a,_,h2⟩|⟨a,_,d,h2,b⟩
  ·rw[h2,a];exact trivial
  ·rw[h2,a];exact trivial
  ·rw[h2]
   have:fQ (part x lev n l)=some (part x lev n l):=by unfold fQ;rw[if_pos a]
   simp only[this];exact⟨⟨d,rfl,b⟩,trivial⟩
theorem He{W:Nat→Prop}{x:Hs}{h:ae}{m lev:Nat}{s:Slots}{l:List Pr}(a:∀c,c<32→SlotIs W x h m s c (part x lev c l)):fm s.p 32=ia x lev l:=
 abb _ fun c hc=>(HQ (a c (List.mem_range.1 hc))).1
end Go.Proofs
namespace Go.Proofs
open Go Go.Lift
theorem xw(x:Hs)(lev:Nat)(l:List Pr):∀n,(((gV n).map fun c=>(part x lev c l).length).sum)=(l.filter fun p=>decide (ck x lev p.1<n)).length
 |0=>by
  have:(l.filter fun p=>decide (ck x lev p.1<0))= []:=rU.2 fun p _=>by simp
  rw[this];rfl
 |n+1=>by
  rw[kV,d9,qe,xw x lev l n];simp only[fp,j2,xo,List.sum_nil,eN];unfold part;clear xw;induction l with
  |nil=>rfl
  |cons p l ih=>
   simp only[bV,decide_eq_true_iff];split<;>split<;>split<;>first|omega|(simp only[ao];omega)
theorem xr(x:Hs)(lev:Nat)(l:List Pr):(ia x lev l).length+(lN x lev l).flatten.length≤l.length:=by
 have h:=xw x lev l 32;have d:(l.filter fun p=>decide (ck x lev p.1<32)).length≤l.length:=fL ..
 have:∀n,(fm (fun c=>jM (part x lev c l)) n).length+(fm (fun c=>fQ (part x lev c l)) n).flatten.length≤((gV n).map fun c=>(part x lev c l).length).sum:=by
  intro n;induction n with
  |zero=>simp[fm]
  |succ n ih=>
   rw[jp,jp,kV,d9,qe];simp only[ac,List.flatten_append,fp,j2,xo,List.sum_nil,eN];generalize part x lev n l=q;have:(jM q).toList.length+(fQ q).toList.flatten.length≤q.length:=by
    match q with
    | []=>simp[jM,fQ]
    | [a]=>simp[jM,fQ]
    |a::b::q=>simp[jM,fQ]
   omega
 have:=this 32;unfold ia lN;omega
end Go.Proofs
namespace Go.Proofs
open Go Go.Lift
theorem sE{x:Hs}{lev:Nat}{l:List Pr}{p:Pr}(h:p∈ia x lev l):p∈l:=by
 unfold ia fm at h;obtain⟨c,_,hc⟩:=qz.1 h;unfold jM at hc;split at hc
 ·rename_i q hq
  cases hc;have:p∈part x lev c l:=by rw[hq];exact aD.2 rfl
  exact(mS.1 this).1
 ·cases hc
theorem qE{x:Hs}{lev:Nat}{l L:List Pr}(h:L∈lN x lev l):2≤L.length∧∃c,L=part x lev c l:=by
 unfold lN fm at h;obtain⟨c,_,hc⟩:=qz.1 h;unfold fQ at hc;split at hc
 ·cases hc;exact⟨by assumption,c,rfl⟩
 ·cases hc
theorem Fit.part{x:Hs}{lev c:Nat}{l:List Pr}(h:Fit l):Fit (part x lev c l):=fun p a=>h p (mS.1 a).1
theorem Hd{B:Nat}{f:List Pr→List UInt8}:∀{ls:List (List Pr)},(∀L∈ls,2≤L.length∧(f L).length≤9+L.length*B)→(ls.flatMap f).length≤ls.flatten.length*(B+9)
 | [],_=>by simp
 |L::ls,h=>by
  have a:=h L (aw ..);have h2:=Hd (ls:=ls) fun M hM=>h M (aB _ hM)
  rw[aO,ac,List.flatten_cons,ac,km];have:L.length*(B+9)=L.length*B+L.length*9:=Nat.mul_add ..;omega
theorem qh{x:Hs}:∀(m:Nat) {l:List Pr},Fit l→(gf x m l).length≤9+l.length*(20004+9*(m+1))
 |0,l,h=>by
  have:=oe h;unfold gf;rw[ao,ac,dS];have:l.length*20004≤l.length*(20004+9*(0+1)):=ix _ (by omega);omega
 |m+1,l,h=>by
  have k:=oe (l:=ia x (12-m) l) fun p g=>h p (sE g)
  have h2:=Hd (f:=gf x m) (ls:=lN x (12-m) l) (B:=20004+9*(m+1)) fun L i=>by
   obtain⟨d,c,rfl⟩:=qE i;exact⟨d,qh m h.part⟩
  have e:=xr x (12-m) l;unfold gf;rw[ao,ac,ac,ac,dS,dS];have j:(ia x (12-m) l).length*20004≤(ia x (12-m) l).length*(20004+9*(m+1+1)):=ix _ (by omega);have a:((ia x (12-m) l).length+(lN x (12-m) l).flatten.length)*(20004+9*(m+1+1))≤l.length*(20004+9*(m+1+1)):=cz _ e;rw[km]at a
  have b:20004+9*(m+1)+9=20004+9*(m+1+1):=by omega
  rw[b]at h2;omega
end Go.Proofs
