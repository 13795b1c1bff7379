/- A part of the proof that the named laws of this program answer true, whatever the input. -/
import Derived.Test.YtajpljopgikpgaaGreatDoorPart1
open BitVec renaming ofInt→ai
open Bool renaming eq_iff_iff→kX
open Int renaming toNat_natCast→aM
open List renaming length_take→aN,flatMap_cons→aL,flatMap_append→bv,length_append→ae,size_toArray→cz,append_assoc→ak,drop_left'→bT,getElem?_eq_getElem→ag,getElem_mem→aW,pairwise_cons→bw,mem_cons→aq,mem_cons_self→ay,mem_cons_of_mem→aQ,filter_cons→cY,mem_filter→gA,append_eq_nil_iff→eO,mem_singleton→aj,append_nil→bV,append_cancel_left→eD,length→f8,getElem_of_mem→cD,take_append_drop→bF,pairwise_append→cL,mem_of_getElem→kB,pairwise_iff_getElem→cn,take_succ_cons→fV,length_cons→aO,drop_succ_cons→gX,any_eq_true→bO,length_singleton→bq,range_succ→eZ,take_of_length_le→bh
open Nat renaming zero_add→aD,min_eq_left→aZ,add_zero→dL,le_of_eq→fY,le_refl→au,mod_lt→pg,lt_or_ge→bM,zero_le→bp,le_trans→bB,testBit_lt_two_pow→eN,lt_of_lt_of_le→bI,pow_le_pow_right→gI
open Option renaming isSome_iff_exists→cN,some→bi
open UInt8 renaming toNat_inj→nL,ofNat→eX
namespace Go.Proofs
open Go.Lift
theorem qA{β:Type}{g:Nat→Option β}{i:Nat}(h:g i=none):upd g i none=g:=by
 funext j;unfold upd;split
 ·rename_i e;rw[e,h]
 ·rfl
theorem db{h:ad}{b:Nat}{c:Array Value}{t:TypeId}{i:Nat}(a:h[b]? =some (.cells c t (0,0))):aG h ⟨b,0+i,none⟩=c[i]?:=by rw[aD];exact aS a
theorem Lq{h:ad}{b:Nat}{c:Array Value}{t:TypeId}{i:Nat}(a:h[b]? =some (.cells c t (0,0))) (hi:i<c.size):Wr h ⟨b,0+i,none⟩:=by rw[aD];exact gM a hi
theorem Bp{h:ad}{b:Nat}{c c':Array Value}{t:TypeId}{i:Nat}{v:Value}{k:ad→Prop}(f:h[b]? =some (.cells c t (0,0))) (e:c.setIfInBounds i v=c')
 (g:∀a,a[b]? =some (.cells c' t (0,0))→Upd (· =b) h a→k a):At (hset h ⟨b,i,none⟩ v) k:=td f fun a d j=>g a (e▸d) j
theorem Dw{M:Nat→Prop}{h:ad}{b d n:Nat}{sp sk:SliceV}{s:Slots}{ow:Option Addr}(o:OwnN M h b d n sp sk s ow){i:Nat}(hi:i<32){K:Unit→ad→Prop}
  (V:∀t w G sp' sk',OwnN M t b w G sp' sk' ⟨upd s.p i none,upd s.k i none⟩ ow→Upd M h t→K () t):HC PG gF [.pointer (some ⟨b,0,none⟩),.int .i64 i] [] K h:=by
 obtain⟨A,B,Z,Y,a,m⟩:=o.ex;have bits:=o.bits;refine wL _ i ?_;unfold pS bL c8 Ea fJ kZ;have ew:∀k:Nat,k≤100→IntKind.wrap .i64 ((k:Int)+1)=((k+1:Nat):Int):=fun k V=>by rw[nA (by omega)];omega
 have hc1:=vi i d;have hc2:=vi i n;have T:∀x,A x→M x∨h.size≤x:=fun x hx=>.inl (a x hx).1
 refine Join.intro (fun _ t=>∃sp',t[b]? =some (.cells (eg d n sp' sk false ow) bm (0,0))∧OwnS iY 2 ar A t sp' (fm (upd s.p i none) 32)∧OwnS ny 1 ba B t sk (fm s.k 32)∧Upd M h t) (fun R C=>?_) ?_
 ·refine⟨_,rfl,_,db (i:=0) o.blk,xy bits.d32 hi ?_⟩
  rw[bits.dp i hi];cases hp:s.p i with
  |none=>exact ah.2 (C _ _ ⟨sp,o.blk,by rw[qA hp];exact Z,Y,Upd.refl _ _⟩)
  |some y=>
   refine az.2 ⟨_,rfl,_,db (i:=0) o.blk,mW bits.d32 hi ⟨_,rfl,sp,db (i:=2) o.blk,?_⟩⟩;rw[ew _ (by omega)];refine GH Z (Cx hi bits.dp hp) (by have:=sO (g:=s.p);omega) fun s2 X u f=>?_
   rw[←Kt hi bits.dp hp]at u;have b2:=f.get o.blk fun I=>(a b I).2.2.1 rfl
   refine⟨_,rfl,Lq (i:=2) b2 (show 2<6 by decide),Bp (i:=2) (c':=eg d n s2 sk false ow) b2 rfl fun W b3 j=>?_⟩
   refine C _ _ ⟨s2,b3,u.upd j fun x hx e=>(a x hx).2.2.1 e,(Y.upd f fun x hx H=>(a x H).2.1 hx).upd j fun x hx e=>(m x hx).2.1 e,(f.mono T).tr (j.mono fun x e=>.inl (e▸o.mb))⟩
 rintro _ h1 ⟨q,b1,E,D,F⟩;refine Join.intro (fun _ t=>∃sk',t[b]? =some (.cells (eg d n q sk' false ow) bm (0,0))∧OwnS iY 2 ar A t q (fm (upd s.p i none) 32)∧OwnS ny 1 ba B t sk' (fm (upd s.k i none) 32)∧Upd M h1 t) (fun R C=>?_) ?_
 ·refine⟨_,rfl,_,db (i:=1) b1,xy bits.n32 hi ?_⟩
  rw[bits.nk i hi];cases hp:s.k i with
  |none=>exact ah.2 (C _ _ ⟨sk,b1,E,by rw[qA hp];exact D,Upd.refl _ _⟩)
  |some y=>
   refine az.2 ⟨_,rfl,_,db (i:=1) b1,mW bits.n32 hi ⟨_,rfl,sk,db (i:=3) b1,?_⟩⟩;rw[ew _ (by omega)];refine GI D (Cx hi bits.nk hp) (by have:=sO (g:=s.k);omega) fun s2 X u f=>?_
   rw[←Kt hi bits.nk hp]at u;have b2:=f.get b1 fun I=>(m b I).2.1 rfl
   refine⟨_,rfl,Lq (i:=3) b2 (show 3<6 by decide),Bp (i:=3) (c':=eg d n q s2 false ow) b2 rfl fun W b3 j=>?_⟩
   refine C _ _ ⟨s2,b3,(E.upd f fun x hx H=>(a x hx).2.1 H).upd j fun x hx e=>(a x hx).2.2.1 e,u.upd j fun x hx e=>(m x hx).2.1 e,(f.mono fun x hx=>.inl (m x hx).1).tr (j.mono fun x e=>.inl (e▸o.mb))⟩
 rintro _ X ⟨v,b2,N,O,f⟩;refine⟨_,rfl,_,db (i:=0) b2,_,rfl,_,db (i:=1) b2,?_⟩;refine zB bits.d32 hi fun w S J=>⟨db (i:=1) b2,?_⟩
 refine zB bits.n32 hi fun G L P=>?_
 refine⟨_,rfl,Lq (i:=0) b2 (show 0<6 by decide),Bp (i:=0) (c':=eg w n q v false ow) b2 rfl fun W b3 j=>?_⟩
 refine⟨_,rfl,Lq (i:=1) b3 (show 1<6 by decide),Bp (i:=1) (c':=eg w G q v false ow) b3 rfl fun h4 b4 Q=>?_⟩
 have p:=j.tr Q;have z:=(F.tr (f.tr (p.mono (M':=M) fun x e=>.inl (e▸o.mb)))).size
 refine V h4 w G q v ⟨b4,⟨S,L,fun c hc=>?_,fun c hc=>?_⟩,⟨A,B,N.upd p fun x hx e=>(a x hx).2.2.1 e,O.upd p fun x hx e=>(m x hx).2.1 e,fun x hx=>⟨(a x hx).1,(a x hx).2.1,(a x hx).2.2.1,by have:=(a x hx).2.2.2;omega⟩,fun x hx=>⟨(m x hx).1,(m x hx).2.1,by have:=(m x hx).2.2;omega⟩⟩,o.mb⟩ (F.tr (f.tr (p.mono fun x e=>.inl (e▸o.mb))))
 ·rw[J,bits.dp c hc];simp only[upd];split<;>simp[*]
 ·rw[P,bits.nk c hc];simp only[upd];split<;>simp[*]
end Go.Proofs
namespace Go.Proofs
open Go.Lift
theorem OwnS.setAt{α:Type}{f:α→List Value}{c:Nat}{t:TypeId}{M:Nat→Prop}{h:ad}{s:SliceV}{xs:List α}(i:OwnS f c t M h s xs){k:Nat}(n:k<xs.length)(x:α):
  ∃a,s.a=some a∧M a.block∧rc h (some (adr a (k*c))) 0 (f x)∧OwnS f c t M (gd h (adr a (k*c)) 0 (f x)) s (xs.take k++x::xs.drop (k+1))∧Upd (· =a.block) h (gd h (adr a (k*c)) 0 (f x)):=by
 have m:∀x,(f x).length=c∧0<c:=i.ne;have w:=i.len;have g:=i.cap;rcases i.blk with F|⟨b,e,u,q,hc,y⟩
 ·omega
 have p:((xs.take k).flatMap f).length=k*c:=by rw[iC m,aN,aZ (by omega)]
 have z:xs.flatMap f=(xs.take k).flatMap f++(f xs[k]++(xs.drop (k+1)).flatMap f):=by
  rw[←aL,←List.drop_eq_getElem_cons n];exact vh xs k
 rw[z]at hc;have C:=(m xs[k]).1;have D:=(m x).1;have d:(xs.take k++x::xs.drop (k+1)).flatMap f=(xs.take k).flatMap f++(f x++(xs.drop (k+1)).flatMap f):=by rw[bv,aL]
 generalize (xs.take k).flatMap f=A at p hc d;generalize (xs.drop (k+1)).flatMap f=B at hc d;generalize f xs[k]=X at C hc;have v:k*c+0+(f x).length≤(A++(X++B)++e).length:=by simp only[ae];omega
 have o:adr ⟨b,0,none⟩ (k*c)=⟨b,k*c,none⟩:=by rw[bG,aD]
 refine⟨⟨b,0,none⟩,u,q,?_,?_,?_⟩
 ·rw[o]
  refine .inr ⟨_,rfl,fun j E=>?_⟩
  rw[bG];exact gM hc (by rw[cz];omega)
 ·rw[o,gw (f x) h 0 (k*c) _ hc v]
  refine⟨by simp;omega,m,g,.inr ⟨b,e,u,q,?_,?_⟩⟩
  ·rw[ix hc,d]
   congr 3
   rw[dL,ak A,List.take_left' p,←List.drop_drop,bT p,ak X,bT (by omega)];simp only[ak]
  ·exact y
 ·rw[o,gw (f x) h 0 (k*c) _ hc v]
  exact Upd.set h _ rfl
theorem OwnN.node{M W:Nat→Prop}{h:ad}{b d n:Nat}{sp sk:SliceV}{s:Slots}{ow:Option Addr}(o:OwnN M h b d n sp sk s ow)(a:∀x,M x→¬W x)(c:OwOk W h ow:=by exact iZ):NodeAt W h b s:=by
 obtain⟨A,B,e,f,i,g⟩:=o.ex;exact⟨⟨d,n,sp,sk,ow,o.blk,o.bits,e.sl fun x hx _=>a _ (i x hx).1,f.sl fun x hx _=>a _ (g x hx).1,e.cap,f.cap,c⟩,a _ o.mb⟩
theorem Ax{W:Nat→Prop}{h:ad}{b:Nat}{s:Slots}(a:NodeAt W h b s){i:Nat}(hi:i<32){K:Bool→ad→Prop}(e:K true h):HC PG gG [.pointer (some ⟨b,0,none⟩),.int .i64 i] [.c .bool] K h:=by
 obtain⟨d,n,sp,sk,ow,c,_⟩:=a.ex;refine wM _ i ?_;unfold pT ip;refine az.2 ⟨_,rfl,_,db (i:=4) c,az.2 ?_⟩;refine bj (fun _=>?_) fun h=>absurd (Int.natCast_nonneg i) h
 rw[decide_eq_true (by omega)];exact e
theorem He{β:Type}{g:Nat→Option β}{i:Nat}{x y:Option β}:upd (upd g i x) i y=upd g i y:=by
 funext j;unfold upd;split<;>rfl
theorem fg{β:Type}{g:Nat→Option β}{i:Nat}{x:Option β}:upd g i x i=x:=by simp[upd]
end Go.Proofs
namespace Go.Proofs
open Go.Lift
end Go.Proofs
namespace Go.Proofs
open Go.Lift
theorem Dx{h:ad}{b d n:Nat}{sp sk:SliceV}{a:Bool}{ow:Option Addr}(c:h[b]? =some (.cells (eg d n sp sk a ow) bm (0,0))) {K:Int→ad→Prop} (e:K (d:Int) h):HC PG hG [.pointer (some ⟨b,0,none⟩)] [.c (.int .u32)] K h:=by
 refine xY _ ?_;unfold qV fJ;exact ah.2 ⟨_,rfl,_,db (i:=0) c,e⟩
theorem vV{h:ad}{b d n:Nat}{sp sk:SliceV}{a:Bool}{ow:Option Addr}(c:h[b]? =some (.cells (eg d n sp sk a ow) bm (0,0))) {K:Int→ad→Prop} (e:K (n:Int) h):HC PG eL [.pointer (some ⟨b,0,none⟩)] [.c (.int .u32)] K h:=by
 refine wP _ ?_;unfold pW fJ;exact ah.2 ⟨_,rfl,_,db (i:=1) c,e⟩
theorem f6{h:ad}{b d n:Nat}{sp sk:SliceV}{a:Bool}{ow:Option Addr}(c:h[b]? =some (.cells (eg d n sp sk a ow) bm (0,0))) {K:Bool→ad→Prop} (e:K a h):HC PG dd [.pointer (some ⟨b,0,none⟩)] [.c .bool] K h:=by
 refine te _ ?_;unfold nt ip;exact az.2 ⟨_,rfl,_,db (i:=4) c,e⟩
def Ko(o:Option Pr):Pr:=o.getD (⟨#[]⟩,⟨#[]⟩)
theorem yv{h:ad}{b:Nat}{q p:Pr}(a:h[b]? =some (.cells #[.string q.1,.string q.2] ar (0,0))) {k:ad→Prop}
  (d:∀h',h'[b]? =some (.cells #[.string p.1,.string p.2] ar (0,0))→Upd (· =b) h h'→k h'):rc h (some ⟨b,0,none⟩) 0 [.string p.1,.string p.2]∧At (gd h ⟨b,0,none⟩ 0 [.string p.1,.string p.2]) k:=by
 have e:=gw [.string p.1,.string p.2] h 0 0 [.string q.1,.string q.2] a (by simp);refine⟨.inr ⟨_,rfl,fun j c=>by rw[bG];exact gM a (by simp at c⊢;omega)⟩,bK ?_⟩
 rw[e];refine d _ ?_ (Upd.set h _ rfl);rw[ix a];rfl
theorem An{W:Nat→Prop}{h:ad}{b:Nat}{s:Slots}(w:NodeAt W h b s){i:Nat}(hi:i<32){K:Pr×Bool→ad→Prop}(k:∀h',Upd No h h'→K (Ko (s.p i),(s.p i).isSome) h'):
  HC PG hE [.pointer (some ⟨b,0,none⟩),.int .i64 i] [.agg [.str,.str],.c .bool] K h:=by
 refine xV _ i ?_;unfold qS fH cG aE bL gC su qz fJ kZ;obtain⟨d,n,sp,sk,ow,q,bits,f,o,v,z⟩:=w.ex;have k1:=Upd.hnew No h [.string (⟨#[]⟩:ByteArray),.string (⟨#[]⟩:ByteArray)] ar;have b1:=cu h [.string (⟨#[]⟩:ByteArray),.string (⟨#[]⟩:ByteArray)] ar;refine bK ?_;simp only[fy h];generalize hnew h [.string (⟨#[]⟩:ByteArray),.string (⟨#[]⟩:ByteArray)] ar=h1 at k1 b1
 have c:=k1.get0 q;have j:h1[h.size]? =some (.cells #[.string Fv.1,.string Fv.2] ar (0,0)):=b1;refine Dx c (xy bits.d32 hi ?_);rw[bits.dp i hi];cases hp:s.p i with
 |none=>
  rw[hp]at k;refine az.2 (yv (p:=Fv) j fun t b2 e=>⟨_,by rw[bG,aS b2];rfl,_,by rw[bG,aS b2];rfl,k _ (k1.trans e fun x hx=>.inr (fY hx.symm))⟩)
 |some y=>
  rw[hp]at k;refine ah.2 ⟨_,rfl,sp,db (i:=2) c,_,rfl,_,db (i:=0) c,mW bits.d32 hi ⟨db (i:=2) c,?_⟩⟩;have A:=Cx hi bits.dp hp;have g:=f.upd k1 fun _ h=>h.elim
  obtain⟨a,u,_,hv⟩:=g.at (Ku hi bits.dp hp);have m:=f.len;refine⟨by omega,a,u,y.1,hv 0 _ rfl,y.2,hv 1 _ rfl,?_⟩;refine yv (p:=y) j fun t b2 e=>⟨_,by rw[bG,aS b2];rfl,_,by rw[bG,aS b2];rfl,k _ (k1.trans e fun x hx=>.inr (fY hx.symm))⟩
theorem Dg{W:Nat→Prop}{h:ad}{b:Nat}{s:Slots}(o:NodeAt W h b s){i:Nat}(hi:i<32){K:Option Addr×Bool→ad→Prop}(f:K ((s.k i).getD none,(s.k i).isSome) h):
  HC PG gy [.pointer (some ⟨b,0,none⟩),.int .i64 i] [.c .ptr,.c .bool] K h:=by
 refine y3 _ i ?_;unfold r9 dC fH bL fJ kZ;obtain⟨d,n,sp,sk,ow,e,bits,m,c,k,p⟩:=o.ex;refine vV e (xy bits.n32 hi ?_);rw[bits.nk i hi];cases hp:s.k i with
 |none=>rw[hp]at f;exact az.2 f
 |some y=>
  rw[hp]at f;refine ah.2 ⟨_,rfl,sk,db (i:=3) e,_,rfl,_,db (i:=1) e,mW bits.n32 hi ⟨db (i:=3) e,?_⟩⟩;have q:=Cx hi bits.nk hp;obtain⟨a,j,_,hv⟩:=c.at (Ku hi bits.nk hp);have g:=c.len;exact⟨by omega,a,j,y,hv 0 _ rfl,f⟩
theorem na{W:Nat→Prop}{h:ad}{b d n:Nat}{sp sk:SliceV}{f:Bool}{ow:Option Addr}{l:List Pr}(a:h[b]? =some (.cells (eg d n sp sk f ow) bm (0,0))) (e:Sl iY 2 W h sp l) (g:l.length≤1000000000) {K:SliceV→ad→Prop}
  (c:∀s' h',OwnS iY 2 ar (fun x=>h.size≤x) h' s' l→Upd No h h'→K s' h'):HC PG dQ [.pointer (some ⟨b,0,none⟩)] [.c .slice] K h:=by
 refine wN _ ?_;unfold pU bL;exact ah.2 ⟨_,rfl,sp,db (i:=2) a,xG e (by omega) c⟩
theorem Dk{W:Nat→Prop}{h:ad}{b d n:Nat}{sp sk:SliceV}{f:Bool}{ow:Option Addr}{l:List (Option Addr)}(a:h[b]? =some (.cells (eg d n sp sk f ow) bm (0,0))) (e:Sl ny 1 W h sk l) (g:l.length≤1000000000) {K:SliceV→ad→Prop}
  (c:∀s' h',OwnS ny 1 ba (fun x=>h.size≤x) h' s' l→Upd No h h'→K s' h'):HC PG jT [.pointer (some ⟨b,0,none⟩)] [.c .slice] K h:=by
 refine xW _ ?_;unfold qT bL;exact ah.2 ⟨_,rfl,sk,db (i:=3) a,CE e (by omega) c⟩
structure BuckAt(W:Nat→Prop)(h:ad)(b:Nat)(l:List Pr):Prop where
 ex:∃sp sk ow,h[b]? =some (.cells (eg 0 0 sp sk true ow) bm (0,0))∧Sl iY 2 W h sp l∧Sl ny 1 W h sk []∧sp.len≤sp.cap∧sk.len≤sk.cap∧OwOk W h ow
 nw:¬W b
theorem BuckAt.upd{W M:Nat→Prop}{h c:ad}{b:Nat}{l:List Pr}(n:BuckAt W h b l)(k:Upd M h c)(hm:∀b,M b→W b∨h.size≤b):BuckAt W c b l:=by
 obtain⟨sp,sk,ow,a,j,d,f,e,i⟩:=n.ex;exact⟨⟨sp,sk,ow,k.get a (fun g=>(hm _ g).elim n.nw fun h=>by have:=aF a;omega),j.upd k hm,d.upd k hm,f,e,i.upd k hm⟩,n.nw⟩
theorem M6{W:Nat→Prop}{h:ad}{b:Nat}{l:List Pr}(x:BuckAt W h b l)(n:cp l)(p:l.length≤1000000000)(k:ByteArray){K:ByteArray×Bool→ad→Prop}
  (i:∀h' v,Upd No h h'→(bQ l k=true→(k,v)∈l)→(bQ l k=false→v=⟨#[]⟩)→K (v,bQ l k) h'):HC PG oO [.pointer (some ⟨b,0,none⟩),.string k] [.c .str,.c .bool] K h:=by
 refine G3 _ k ?_;unfold Be fH cG sA;obtain⟨sp,sk,ow,s,m,q,w,y⟩:=x.ex;refine na s m p fun s1 t j g=>?_
 have c:Sl iY 2 No t s1 l:=j.sl fun _ _ _ h=>h
 refine Dr c n p k fun z d=>?_
 cases ht:bQ l k with
 |false=>rw[ht]at i;exact az.2 (i _ _ (g.tr d) (fun h=>by cases h) fun _=>rfl)
 |true=>
  rw[ht]at i;obtain⟨f,e⟩:=C8 n ht;obtain⟨a,u,_,hv⟩:=(c.upd d fun _ h=>h.elim).at (ag f)
  have o:=c.len;refine ah.2 ⟨by simp only;omega,a,u,_,hv 1 _ rfl,i _ _ (g.tr d) (fun _=>?_) fun h=>by cases h⟩
  have:(k,l[lh l k].2)=l[lh l k]:=Prod.ext e.symm rfl;rw[this];exact aW f
theorem Mp{W:Nat→Prop}{h:ad}{b:Nat}{l:List Pr}(g:BuckAt W h b l)(c:cp l)(f:l.length≤1000000000)(k:ByteArray){K:ByteArray×Bool→ad→Prop}
 (d:∀a v,Upd No h a→(bQ l k=true→(k,v)∈l)→K (v,bQ l k) a):HC PG oO [.pointer (some ⟨b,0,none⟩),.string k] [.c .str,.c .bool] K h:=M6 g c f k fun a v e i _=>d a v e i
end Go.Proofs
namespace Go.Proofs
open Go.Lift
theorem I0{W:Nat→Prop}{h:ad}(a:∀x,W x→x<h.size){K:Option Addr→ad→Prop}(b:∀h' b',BuckAt W h' b' []→Upd No h h'→K (some ⟨b',0,none⟩) h'):HC PG ql [] [.c .ptr] K h:=by
 refine BG ?_;unfold uB;exact b _ _ ⟨⟨⟨none,0,0⟩,⟨none,0,0⟩,none,cu h _ _,Sl.nil jy,Sl.nil oH,au _,au _,iZ⟩,fun hx=>Nat.lt_irrefl _ (a _ hx)⟩ (Upd.hnew No h _ _)
theorem rq{W:Nat→Prop}{h:ad}(a:∀x,W x→x<h.size){K:Option Addr→ad→Prop}(e:∀h' b',NodeAt W h' b' ⟨fun _=>none,fun _=>none⟩→Upd No h h'→K (some ⟨b',0,none⟩) h'):HC PG l0 [] [.c .ptr] K h:=by
 refine DT ?_;unfold w7 Jo;have d:fm (fun _=>(none:Option Pr)) 32= []:=by simp[fm]
 have b:fm (fun _=>(none:Option (Option Addr))) 32= []:=by simp[fm]
 refine e _ _ ⟨⟨0,0,⟨none,0,0⟩,⟨none,0,0⟩,none,cu h _ _,⟨by decide,by decide,fun c _=>by simp,fun c _=>by simp⟩,?_,?_,au _,au _,iZ⟩,fun hx=>Nat.lt_irrefl _ (a _ hx)⟩ (Upd.hnew No h _ _)
 ·show Sl iY 2 W _ _ (fm (fun _=>none) 32)
  rw[d];exact Sl.nil jy
 ·show Sl ny 1 W _ _ (fm (fun _=>none) 32)
  rw[b];exact Sl.nil oH
end Go.Proofs
namespace Go.Proofs
open Go.Lift
def jc(p:Pr):List Pr→List Pr
 | []=> [p]
 |q::l=>if kl q.1 p.1 then q::jc p l else if q.1=p.1 then p::l else p::q::l
theorem jO(p q:Pr)(l:List Pr):jc p (q::l)=if kl q.1 p.1 then q::jc p l else if q.1=p.1 then p::l else p::q::l:=rfl
theorem HA(p:Pr):∀{l:List Pr},cp l→Gv l p=jc p l
 | [],_=>by simp[Gv,jc,lh,bQ]
 |q::l,d=>by
  have d:=bw.1 d;unfold jc;have a:lh (q::l) p.1=if kl q.1 p.1 then lh l p.1+1 else 0:=by
   unfold lh;rw[List.takeWhile_cons];by_cases h:kl q.1 p.1
   ·rw[if_pos (by simpa using h),if_pos h];rfl
   ·rw[if_neg (by simpa using h),if_neg h];rfl
  have c:bQ (q::l) p.1=(decide (q.1=p.1)||bQ l p.1):=by unfold bQ;rw[List.any_cons]
  by_cases h:kl q.1 p.1
  ·have f:q.1≠p.1:=fun e=>by rw[e]at h;exact dq _ h
   rw[if_pos h,←HA p d.2];unfold Gv;rw[c,a,if_pos h,decide_eq_false f,Bool.false_or];by_cases b:bQ l p.1=true
   ·rw[if_pos b,if_pos b];rfl
   ·rw[if_neg b,if_neg b];rfl
  ·rw[if_neg h]
   unfold Gv;rw[c,a,if_neg h];by_cases e:q.1=p.1
   ·rw[if_pos e,decide_eq_true e,Bool.true_or,if_pos rfl];rfl
   ·have g:=Ar h e
    have b:bQ l p.1=false:=by
     unfold bQ;rw[List.any_eq_false];intro r i j;have j:=of_decide_eq_true j;have:=d.1 r i;rw[j]at this;exact dq _ (lR g this)
    rw[if_neg e,decide_eq_false e,b];rfl
theorem vX{p q:Pr}:∀{l:List Pr},q∈jc p l→q=p∨q∈l
 | [],h=>by simp[jc]at h;exact .inl h
 |r::l,h=>by
  unfold jc at h;split at h
  ·rcases aq.1 h with h|h
   ·exact .inr (h▸ay ..)
   ·exact(vX h).imp id fun h=>aQ _ h
  ·split at h
   ·rcases aq.1 h with h|h
    ·exact .inl h
    ·exact .inr (aQ _ h)
   ·rcases aq.1 h with h|h
    ·exact .inl h
    ·exact .inr h
theorem xp(p:Pr):∀{l:List Pr},cp l→cp (jc p l)
 | [],_=>List.pairwise_singleton ..
 |q::l,a=>by
  have c:=a;have a:=bw.1 a;unfold jc;split
  ·rename_i h
   refine bw.2 ⟨fun r hm=>?_,xp p a.2⟩
   rcases vX hm with rfl|hm
   ·exact h
   ·exact a.1 r hm
  ·rename_i h
   split
   ·rename_i e
    exact bw.2 ⟨fun r hm=>e▸a.1 r hm,a.2⟩
   ·rename_i e
    have b:=Ar h e;refine bw.2 ⟨fun r hm=>?_,c⟩
    rcases aq.1 hm with rfl|hm
    ·exact b
    ·exact lR b (a.1 r hm)
theorem AC(p:Pr)(g:ByteArray→Bool):∀{l:List Pr},cp l→(jc p l).filter (fun q=>g q.1)=if g p.1 then jc p (l.filter fun q=>g q.1)else l.filter fun q=>g q.1
 | [],_=>by
  unfold jc;rw[cY,List.filter_nil]
 |q::l,c=>by
  have k:=c;have c:=bw.1 c;have j:=AC p g c.2;rw[jO];by_cases h:kl q.1 p.1
  ·rw[if_pos h,cY,cY,j]
   by_cases f:g q.1=true
   ·rw[if_pos f,if_pos f]
    split
    ·rw[jO,if_pos h]
    ·rfl
   ·rw[if_neg f,if_neg f]
  ·rw[if_neg h]
   by_cases e:q.1=p.1
   ·rw[if_pos e,cY,cY,e]
    by_cases a:g p.1=true
    ·rw[if_pos a,if_pos a,if_pos a,jO,if_neg h,if_pos e]
    ·rw[if_neg a,if_neg a,if_neg a]
   ·rw[if_neg e]
    have d:=Ar h e;rw[cY];by_cases a:g p.1=true
    ·rw[if_pos a,if_pos a]
     have:∀r∈(q::l).filter (fun q=>g q.1),kl p.1 r.1:=fun r hm=>by
      rcases aq.1 (gA.1 hm).1 with rfl|hm
      ·exact d
      ·exact lR d (c.1 r hm)
     cases hf:(q::l).filter (fun q=>g q.1)with
     |nil=>rfl
     |cons r rs=>
      have b:=this r (by rw[hf];exact ay ..);rw[jO,if_neg fun i=>dq _ (lR b i),if_neg fun e=>by rw[e]at b;exact dq _ b]
    ·rw[if_neg a,if_neg a]
theorem zn{p:Pr}:∀{l:List Pr},cp l→p∈l→jc p l=l
 |q::l,a,hm=>by
  have a:=bw.1 a;unfold jc;rcases aq.1 hm with rfl|hm
  ·rw[if_neg (dq _),if_pos rfl]
  ·rw[if_pos (a.1 p hm),zn a.2 hm]
def ck(x:Hs)(lev:Nat)(k:ByteArray):Nat:=((lG x k).toNat>>>(5*lev))%32
theorem ww(x:Hs)(lev:Nat)(k:ByteArray):ck x lev k<32:=pg _ (by omega)
def part(x:Hs)(lev c:Nat)(l:List Pr):List Pr:=l.filter fun p=>decide (ck x lev p.1=c)
def TrieAt(W:Nat→Prop)(x:Hs)(h:ad):Nat→Nat→List Pr→Prop
 |0,b,l=>BuckAt W h b l
 |m+1,b,l=>∃s,NodeAt W h b s∧∀c,c<32→
  ((part x (12-m) c l= []∧s.p c=none∧s.k c=none)∨(∃p,part x (12-m) c l= [p]∧s.p c=some p∧s.k c=none)∨
   (2≤(part x (12-m) c l).length∧s.p c=none∧∃kb,s.k c=some (some ⟨kb,0,none⟩)∧TrieAt W x h m kb (part x (12-m) c l)))
theorem TrieAt.upd0{W:Nat→Prop}{x:Hs}{h d:ad}(k:Upd No h d):∀{m b:Nat} {l:List Pr},TrieAt W x h m b l→TrieAt W x d m b l
 |0,_,_,t=>BuckAt.upd t k fun _ h=>h.elim
 |m+1,_,_,⟨s,nd,hc⟩=>⟨s,nd.upd k fun _ h=>h.elim,fun c a=>(hc c a).imp id fun o=>o.imp id fun⟨g,j,f,i,e⟩=>⟨g,j,f,i,TrieAt.upd0 k e⟩⟩
theorem NodeAt.less{W W':Nat→Prop}{h:ad}{b:Nat}{s:Slots}(n:NodeAt W h b s)(hm:∀b,W' b→W b∨h.size≤b):NodeAt W' h b s:=by
 obtain⟨d,m,sp,sk,ow,a,j,i,c,f,e,g⟩:=n.ex;exact⟨⟨d,m,sp,sk,ow,a,j,i.less hm,c.less hm,f,e,g.less hm⟩,fun hx=>(hm _ hx).elim n.nw fun h=>by have:=aF a;omega⟩
theorem BuckAt.less{W W':Nat→Prop}{h:ad}{b:Nat}{l:List Pr}(n:BuckAt W h b l)(hm:∀b,W' b→W b∨h.size≤b):BuckAt W' h b l:=by
 obtain⟨sp,sk,ow,a,g,c,e,d,f⟩:=n.ex;exact⟨⟨sp,sk,ow,a,g.less hm,c.less hm,e,d,f.less hm⟩,fun hx=>(hm _ hx).elim n.nw fun h=>by have:=aF a;omega⟩
theorem TrieAt.less{W W':Nat→Prop}{x:Hs}{h:ad}(hm:∀b,W' b→W b∨h.size≤b):∀{m b:Nat} {l:List Pr},TrieAt W x h m b l→TrieAt W' x h m b l
 |0,_,_,t=>BuckAt.less t hm
 |m+1,_,_,⟨s,nd,hc⟩=>⟨s,nd.less hm,fun c a=>(hc c a).imp id fun o=>o.imp id fun⟨f,i,e,g,d⟩=>⟨f,i,e,g,TrieAt.less hm d⟩⟩
theorem TrieAt.updM{W M:Nat→Prop}{x:Hs}{h d:ad}(k:Upd M h d)(hm:∀b,M b→W b∨h.size≤b):∀{m b:Nat} {l:List Pr},TrieAt W x h m b l→TrieAt W x d m b l
 |0,_,_,t=>BuckAt.upd t k hm
 |m+1,_,_,⟨s,nd,hc⟩=>⟨s,nd.upd k hm,fun c a=>(hc c a).imp id fun o=>o.imp id fun⟨g,j,f,i,e⟩=>⟨g,j,f,i,TrieAt.updM k hm e⟩⟩
end Go.Proofs
namespace Go.Proofs
open Go.Lift
def By(h:ad)(w o:Option Addr):Prop:=(w=none∧o=none)∨∃b pl id lv,w=some ⟨b,0,none⟩∧h[b]? =some (.cells #[.pointer pl,.int .i64 id,.bool lv] mU (0,0))∧o=if lv then w else none
theorem By.upd{M:Nat→Prop}{h a:ad}{w o:Option Addr}(t:By h w o)(k:Upd M h a)(hm:∀b,w=some ⟨b,0,none⟩→M b→h.size≤b):By a w o:=by
 rcases t with t|⟨b,pl,id,lv,e,c,d⟩
 ·exact .inl t
 ·exact .inr ⟨b,pl,id,lv,e,k.get c (fun hM=>by have:=hm b e hM;have:=aF c;omega),d⟩
theorem By.upd0{h a:ad}{w o:Option Addr}(t:By h w o)(k:Upd No h a):By a w o:=t.upd k fun _ _ h=>h.elim
theorem By.tok{h:ad}{w o:Option Addr}(t:By h w o){a:Addr}(e:o=some a):w=some a:=by
 rcases t with⟨_,d⟩|⟨b,pl,id,lv,f,g,c⟩
 ·rw[d]at e;cases e
 ·rw[e]at c;split at c
  ·exact c.symm
  ·cases c
theorem By.plain{h:ad}{w o:Option Addr}(t:By h w o)(a:Addr)(e:w=some a):du h a:=by
 rcases t with⟨d,_⟩|⟨b,pl,id,lv,c,f,g⟩
 ·rw[d]at e;cases e
 ·rw[c]at e;cases e;exact⟨_,_,f,by simp⟩
theorem wa{h:ad}{w o:Option Addr}(t:By h w o){K:Bool→ad→Prop}(a:K o.isSome h):HC PG dD [.pointer w] [.c .bool] K h:=by
 refine vm w ?_;unfold oV ip;rcases t with⟨rfl,rfl⟩|⟨b,pl,id,lv,rfl,c,rfl⟩
 ·exact ah.2 a
 ·refine az.2 ⟨_,rfl,lv,db (i:=2) c,?_⟩
  cases lv<;>exact a
theorem EG{h:ad}{w o:Option Addr}{b d n:Nat}{sp sk:SliceV}{j:Bool}{ow:Option Addr}(t:By h w o)(g:h[b]? =some (.cells (eg d n sp sk j ow) bm (0,0))) (e:∀a,ow=some a→du h a) {K:Bool→ad→Prop} (c:K (o.isSome&&(ow==w)) h):
  HC PG lZ [.pointer (some ⟨b,0,none⟩),.pointer w] [.c .bool] K h:=by
 refine wO _ w ?_;unfold pV eK;refine az.2 (wa t ?_);cases o with
 |none=>exact ah.2 c
 |some a=>exact az.2 ⟨_,rfl,ow,db (i:=5) g,trivial,fun x y hx f=>⟨e x hx,t.plain y f⟩,c⟩
set_option maxRecDepth 4000 in
theorem Ht{W:Nat→Prop}{h:ad}{w o:Option Addr}{b d n:Nat}{sp sk:SliceV}{f:Bool}{ow:Option Addr}{S:List Pr}{lk:List (Option Addr)}(t:By h w o)(g:h[b]? =some (.cells (eg d n sp sk f ow) bm (0,0)))
  (hp:∀a,ow=some a→du h a) (Y:(o.isSome&&(ow==w))=false) (P:Sl iY 2 W h sp S) (T:Sl ny 1 W h sk lk) (hlp:S.length≤1000000000) (hlk:lk.length≤1000000000) {K:Option Addr→ad→Prop}
  (M:∀m sp' sk' (A B:Nat→Prop),m[h.size]? =some (.cells (eg d n sp' sk' f o) bm (0,0))→OwnS iY 2 ar A m sp' S→OwnS ny 1 ba B m sk' lk→(∀x,A x→h.size<x∧¬B x∧x<m.size)→(∀x,B x→h.size<x∧x<m.size)→Upd No h m→K (some ⟨h.size,0,none⟩) m):
  HC PG dF [.pointer (some ⟨b,0,none⟩),.pointer w] [.c .ptr] K h:=by
 refine rY _ w ?_;unfold nI eK bL nv c8 rO ip fJ Jo MB;refine EG t g hp ?_;rw[Y];refine ah.2 ?_;have c:∀{h:ad} {b:Nat} {c:Array Value} {i:Nat},h[b]? =some (.cells c bm (0,0))→aG h ⟨b,0+i,none⟩=c[i]?:=fun g=>by rw[aD];exact aS g
 refine⟨_,rfl,_,c (i:=0) g,_,c (i:=1) g,sp,c (i:=2) g,sk,c (i:=3) g,_,c (i:=4) g,_,c (i:=5) g,?_⟩;have k1:=Upd.hnew No h [.int .u32 0,.int .u32 0,.slice none 0 0,.slice none 0 0,.bool false,.pointer none] bm;have b1:=cu h [.int .u32 0,.int .u32 0,.slice none 0 0,.slice none 0 0,.bool false,.pointer none] bm;refine bK ?_;simp only[fy h];generalize hnew h [.int .u32 0,.int .u32 0,.slice none 0 0,.slice none 0 0,.bool false,.pointer none] bm=h1 at k1 b1
 have L:gd h1 ⟨h.size,0,none⟩ 0 [.int .u32 (d:Int),.int .u32 (n:Int),.slice sp.a sp.len sp.cap,.slice sk.a sk.len sk.cap,.bool f,.pointer ow]=_:=gw _ h1 0 0 _ b1 (by simp);refine⟨.inr ⟨_,rfl,fun j hj=>by rw[bG];exact gM b1 (by simp at hj⊢;omega)⟩,bK ?_⟩
 rw[L];have b2:=ix (o:=.cells (eg d n sp sk f ow) bm (0,0)) b1;have F:Upd No h _:=k1.trans (M':=(· =h.size)) (Upd.set h1 (.cells (eg d n sp sk f ow) bm (0,0)) rfl) fun x hx=>.inr (fY hx.symm)
 have hz2:h.size<(h1.setIfInBounds h.size (.cells (eg d n sp sk f ow) bm (0,0))).size:=aF b2;have e2:(Obj.cells (List.take (0+0) [Value.int .u32 0,.int .u32 0,.slice none 0 0,.slice none 0 0,.bool false,.pointer none]++ [Value.int .u32 (d:Int),.int .u32 (n:Int),.slice sp.a sp.len sp.cap,.slice sk.a sk.len sk.cap,.bool f,.pointer ow]++List.drop (0+0+ [Value.int .u32 (d:Int),.int .u32 (n:Int),.slice sp.a sp.len sp.cap,.slice sk.a sk.len sk.cap,.bool f,.pointer ow].length) [Value.int .u32 0,.int .u32 0,.slice none 0 0,.slice none 0 0,.bool false,.pointer none]).toArray bm (0,0))=.cells (eg d n sp sk f ow) bm (0,0):=rfl
 rw[e2];generalize h1.setIfInBounds h.size (.cells (eg d n sp sk f ow) bm (0,0))=h2 at b2 F hz2;have z:=F.get0 g;refine⟨_,rfl,sp,c (i:=2) z,_,rfl,sk,c (i:=3) z,?_⟩;refine xG (P.upd F fun _ h=>h.elim) (by omega) fun s3 h3 R s=>?_
 refine⟨c (i:=3) (s.get0 z),?_⟩;refine CE ((T.upd F fun _ h=>h.elim).upd s fun _ h=>h.elim) (by omega) fun C h4 O u=>?_
 have b4:=u.get0 (s.get0 b2);have G:=R.within.upd u fun _ _ h=>h
 have D:=O.within;have z3:=s.size;have z4:=u.size;have I:∀{h:ad} {c:Array Value} {x i:Nat},h[x]? =some (.cells c bm (0,0))→i<c.size→Wr h ⟨x,0+i,none⟩:=fun g hi=>by rw[aD];exact gM g hi
 have J:∀{h:ad} {c c':Array Value} {x i:Nat} {v:Value} {k:ad→Prop},h[x]? =some (.cells c bm (0,0))→c.setIfInBounds i v=c'→(∀m,m[x]? =some (.cells c' bm (0,0))→Upd (· =x) h m→k m)→At (hset h ⟨x,i,none⟩ v) k:=fun g e M=>td g fun m hb' hu=>M m (e▸hb') hu
 refine⟨I (i:=2) b4 (show 2<6 by decide),J (i:=2) (c':=eg d n s3 sk f ow) b4 rfl fun h5 b5 V=>?_⟩
 refine⟨I (i:=3) b5 (show 3<6 by decide),J (i:=3) (c':=eg d n s3 C f ow) b5 rfl fun h6 b6 N=>?_⟩
 refine⟨I (i:=5) b6 (show 5<6 by decide),J (i:=5) (c':=eg d n s3 C f none) b6 rfl fun h7 X Q=>?_⟩
 have p:=V.tr (N.tr Q);have z7:=p.size;have E:Upd No h h7:=((F.tr s).tr u).trans p fun x hx=>.inr (fY hx.symm)
 have t7:=t.upd0 E;have fin:∀{H:ad},H[h.size]? =some (.cells (eg d n s3 C f o) bm (0,0))→Upd (· =h.size) h7 H→K (some ⟨h.size,0,none⟩) H:=fun{H} Z q=>by
  have y:=p.tr q;have z8:=q.size;exact M _ s3 C (fun x=>h2.size≤x∧x<h3.size) (fun x=>h3.size≤x∧x<h4.size) Z (G.upd y fun x hx e=>by have e:x=h.size:=e;omega) (D.upd y fun x hx e=>by have e:x=h.size:=e;omega) (fun x hx=>⟨by omega,by omega,by omega⟩) (fun x hx=>⟨by omega,by omega⟩) (E.trans q fun x hx=>.inr (fY hx.symm))
 refine wa t7 ?_;cases ho:o with
 |none=>rw[ho]at fin;exact ah.2 (fin X (Upd.refl _ _))
 |some a=>
  rw[ho]at fin;rw[t.tok ho];refine az.2 ⟨I (i:=5) X (show 5<6 by decide),J (i:=5) (c':=eg d n s3 C f (some a)) X rfl fun H Z q=>fin Z q⟩
theorem Hr{h:ad}{w o:Option Addr}{b d n:Nat}{sp sk:SliceV}{i:Bool}{ow:Option Addr}(t:By h w o)(f:h[b]? =some (.cells (eg d n sp sk i ow) bm (0,0))) (e:∀a,ow=some a→du h a) (c:(o.isSome&&(ow==w))=true) {K:Option Addr→ad→Prop} (g:K (some ⟨b,0,none⟩) h):
  HC PG dF [.pointer (some ⟨b,0,none⟩),.pointer w] [.c .ptr] K h:=by
 refine rY _ w ?_;unfold nI eK bL nv c8 rO ip fJ Jo MB;refine EG t f e ?_;rw[c];exact az.2 g
def NodeO(o:Option Addr)(W:Nat→Prop)(h:ad)(b:Nat)(s:Slots)(S:Nat→Prop):Prop:=
 (NodeAt W h b s∧∀y,¬S y)∨(o.isSome=true∧∃d n sp sk,OwnN S h b d n sp sk s o)
theorem OwnN.mono{M M':Nat→Prop}{h:ad}{b d n:Nat}{sp sk:SliceV}{s:Slots}{ow:Option Addr}(o:OwnN M h b d n sp sk s ow)(hm:∀x,M x→M' x):OwnN M' h b d n sp sk s ow:=by
 obtain⟨A,B,f,e,c,a⟩:=o.ex;exact⟨o.blk,o.bits,⟨A,B,f,e,fun x hx=>⟨hm _ (c x hx).1,(c x hx).2⟩,fun x hx=>⟨hm _ (a x hx).1,(a x hx).2⟩⟩,hm _ o.mb⟩
theorem OwnN.within{M:Nat→Prop}{h:ad}{b d n:Nat}{sp sk:SliceV}{s:Slots}{ow:Option Addr}(o:OwnN M h b d n sp sk s ow):OwnN (fun x=>M x∧x<h.size) h b d n sp sk s ow:=by
 obtain⟨A,B,f,e,c,a⟩:=o.ex;exact⟨o.blk,o.bits,⟨A,B,f,e,fun x hx=>⟨⟨(c x hx).1,(c x hx).2.2.2⟩,(c x hx).2⟩,fun x hx=>⟨⟨(a x hx).1,(a x hx).2.2⟩,(a x hx).2⟩⟩,o.mb,aF o.blk⟩
theorem Da{W S:Nat→Prop}{h:ad}{w o:Option Addr}{b:Nat}{s:Slots}(i:NodeO o W h b s S)(t:By h w o)(I:∀a,o=some a→W a.block){K:Option Addr→ad→Prop}
  (C:∀m p d n sp sk,OwnN (fun y=>S y∨h.size≤y) m p d n sp sk s o→Upd No h m→K (some ⟨p,0,none⟩) m):
  HC PG dF [.pointer (some ⟨b,0,none⟩),.pointer w] [.c .ptr] K h:=by
 rcases i with⟨i,_⟩|⟨D,d,n,sp,sk,i⟩
 ·obtain⟨d,n,sp,sk,ow,F,bits,u,z,G,J,j⟩:=i.ex
  refine Ht t F (fun a e=>(j a e).2) ?_ u z (by have:=sO (g:=s.p);omega) (by have:=sO (g:=s.k);omega) fun m v q A B p L H c f k=>?_
  ·cases ho:o with
   |none=>rfl
   |some a=>
    have e:=t.tok ho;rw[Option.isSome_some,Bool.true_and,beq_eq_false_iff_ne];intro E;rw[e]at E;exact(j a E).1 (I a ho)
  ·exact C m h.size d n v q ⟨p,bits,⟨A,B,L,H,fun x hx=>⟨.inr (by have:=(c x hx).1;omega),(c x hx).2.1,by have:=(c x hx).1;omega,(c x hx).2.2⟩,fun x hx=>⟨.inr (by have:=(f x hx).1;omega),by have:=(f x hx).1;omega,(f x hx).2⟩⟩,.inr (au _)⟩ k
 ·refine Hr t i.blk (fun a e=>t.plain a (t.tok e)) ?_ (C h b d n sp sk (i.mono fun _ h=>.inl h) (Upd.refl _ _))
  obtain⟨a,e⟩:=cN.1 D;rw[D,e,t.tok e];simp
end Go.Proofs
namespace Go.Proofs
inductive Fo where
 |nil:Fo
 |cons (lab:List UInt8) (val:Option ByteArray) (kids rest:Fo):Fo
abbrev Bn:=List UInt8×Option ByteArray×Fo
def Fo.toL:Fo→List Bn
 | .nil=> []
 | .cons lab w kids rest=>(lab,w,kids)::rest.toL
theorem Fo.toL_cons(lab:List UInt8)(w:Option ByteArray)(a b:Fo):(Fo.cons lab w a b).toL=(lab,w,a)::b.toL:=rfl
def Fo.ofL:List Bn→Fo
 | []=>.nil
 |(lab,w,kids)::l=>.cons lab w kids (Fo.ofL l)
theorem Fo.to_of:∀l:List Bn,(Fo.ofL l).toL=l
 | []=>rfl
 |(_,_,_)::l=>by show _::(Fo.ofL l).toL=_;rw[Fo.to_of l]
theorem Fo.of_to:∀F:Fo,Fo.ofL F.toL=F
 | .nil=>rfl
 | .cons lab w kids rest=>by show Fo.cons lab w kids (Fo.ofL rest.toL)=_;rw[Fo.of_to rest]
def m0:Fo→List UInt8→ByteArray→Prop
 | .nil,_,_=>False
 | .cons lab w kids rest,k,v=>(∃r,k=lab++r∧((r= []∧w=some v)∨m0 kids r v))∨m0 rest k v
def nF(w:Option ByteArray)(F:Fo)(k:List UInt8)(v:ByteArray):Prop:=(k= []∧w=some v)∨m0 F k v
def qq(n:Bn)(k:List UInt8)(v:ByteArray):Prop:=∃r,k=n.1++r∧nF n.2.1 n.2.2 r v
theorem ee:∀{F:Fo} {k:List UInt8} {v:ByteArray},m0 F k v↔∃n∈F.toL,qq n k v
 | .nil,_,_=>by simp[m0,Fo.toL]
 | .cons lab w kids rest,k,v=>by
  rw[Fo.toL_cons];unfold m0;rw[ee (F:=rest)];constructor
  ·rintro(h|⟨n,a,h⟩)
   ·exact⟨_,ay ..,h⟩
   ·exact⟨n,aQ _ a,h⟩
  ·rintro⟨n,a,h⟩
   rcases aq.1 a with rfl|a
   ·exact .inl h
   ·exact .inr ⟨n,a,h⟩
def hd(k:List UInt8):Nat:=(k.headD 0).toNat
theorem mJ{a b:List UInt8}(h:a≠[]):hd (a++b)=hd a:=by
 cases a with
 |nil=>exact absurd rfl h
 |cons x a=>rfl
theorem Mq(a:List UInt8):hd a<256:=UInt8.toNat_lt _
def dW:Fo→Prop
 | .nil=>True
 | .cons lab w kids rest=>lab≠[]∧(w.isSome∨2≤kids.toL.length)∧dW kids∧(∀n∈rest.toL,hd lab<hd n.1)∧dW rest
def Jg(n:Bn):Prop:=n.1≠[]∧(n.2.1.isSome∨2≤n.2.2.toL.length)∧dW n.2.2
theorem dx:∀{F:Fo},dW F↔F.toL.Pairwise (fun m n=>hd m.1<hd n.1)∧∀n∈F.toL,Jg n
 | .nil=>by simp[dW,Fo.toL]
 | .cons lab w kids rest=>by
  rw[Fo.toL_cons,bw];show(lab≠[]∧(w.isSome∨2≤kids.toL.length)∧dW kids∧(∀n∈rest.toL,hd lab<hd n.1)∧dW rest)↔_
  rw[dx (F:=rest)];constructor
  ·rintro⟨e,g,f,c,d,b⟩
   refine⟨⟨c,d⟩,fun n a=>?_⟩
   rcases aq.1 a with rfl|a
   ·exact⟨e,g,f⟩
   ·exact b n a
  ·rintro⟨⟨c,d⟩,b⟩
   have:=b _ (ay ..);exact⟨this.1,this.2.1,this.2.2,c,d,fun n a=>b n (aQ _ a)⟩
theorem kG:∀{F:Fo},dW F→∀n∈F.toL,∃r v,nF n.2.1 n.2.2 r v
 | .nil,_,n,a=>by simp[Fo.toL]at a
 | .cons lab w kids rest,h,n,a=>by
  rcases aq.1 a with rfl|a
  ·rcases h.2.1 with d|b
   ·obtain⟨v,hv⟩:=cN.1 d
    exact⟨[],v,.inl ⟨rfl,hv⟩⟩
   ·have e:=kG h.2.2.1
    have⟨m,hm⟩:∃m,m∈kids.toL:=by
     cases hl:kids.toL with
     |nil=>rw[hl]at b;simp at b
     |cons m l=>exact⟨m,ay ..⟩
    obtain⟨r,v,c⟩:=e m hm;exact⟨m.1++r,v,.inr (ee.2 ⟨m,hm,r,rfl,c⟩)⟩
  ·exact kG h.2.2.2.2 n a
theorem lS{F:Fo}(h:dW F){k:List UInt8}{v:ByteArray}(hi:m0 F k v):k≠[]:=by
 obtain⟨n,a,r,rfl,_⟩:=ee.1 hi;have:=((dx.1 h).2 n a).1;intro e;exact this (eO.1 e).1
theorem nC{F:Fo}(h:dW F){k:List UInt8}{v:ByteArray}(hi:m0 F k v):∃n∈F.toL,hd n.1=hd k∧qq n k v:=by
 obtain⟨n,a,r,e,b⟩:=ee.1 hi;exact⟨n,a,by rw[e,mJ ((dx.1 h).2 n a).1],r,e,b⟩
theorem tK{F:Fo}(h:dW F){m n:Bn}(hm:m∈F.toL)(f:n∈F.toL)(e:hd m.1=hd n.1):m=n:=by
 have c:=(dx.1 h).1;revert hm f;generalize F.toL=l at*;clear h;induction l with
 |nil=>intro hm;simp at hm
 |cons a l ih=>
  have c:=bw.1 c;intro hm f;rcases aq.1 hm with i|d
  ·rcases aq.1 f with g|b
   ·rw[i,g]
   ·have:=c.1 n b;rw[←i]at this;omega
  ·rcases aq.1 f with g|b
   ·have:=c.1 m d;rw[←g]at this;omega
   ·exact ih c.2 d b
def Br(P:List UInt8→ByteArray→Prop):Prop:=(∃v,P [] v)∨∃j k u v,P j u∧P k v∧j≠[]∧k≠[]∧hd j≠hd k
theorem DE{w:Option ByteArray}{F:Fo}(h:dW F):(w.isSome∨2≤F.toL.length)↔Br (nF w F):=by
 constructor
 ·rintro(z|C)
  ·obtain⟨v,hv⟩:=cN.1 z
   exact .inl ⟨v,.inl ⟨rfl,hv⟩⟩
  ·right
   have c:=kG h;have hc:=dx.1 h;match hL:F.toL,C with
   |a::b::l,_=>
    have g:a∈F.toL:=by rw[hL];simp
    have d:b∈F.toL:=by rw[hL];simp
    obtain⟨r,v,t⟩:=c a g;obtain⟨s,u,c⟩:=c b d;have o:=(hc.2 a g).1;have q:=(hc.2 b d).1;have:=hc.1;rw[hL]at this;have D:=(bw.1 this).1 b (ay ..);refine⟨a.1++r,b.1++s,v,u,.inr (ee.2 ⟨a,g,r,rfl,t⟩),.inr (ee.2 ⟨b,d,s,rfl,c⟩),?_,?_,?_⟩
    ·intro e;exact o (eO.1 e).1
    ·intro e;exact q (eO.1 e).1
    ·rw[mJ o,mJ q];omega
 ·rintro(⟨v,hv⟩|⟨j,k,u,v,i,f,A,nk,y⟩)
  ·rcases hv with⟨_,hv⟩|hv
   ·left;rw[hv];rfl
   ·exact absurd rfl (lS h hv)
  ·right
   rcases i with⟨e,_⟩|i
   ·exact absurd e A
   rcases f with⟨e,_⟩|f
   ·exact absurd e nk
   obtain⟨m,hm,x,_⟩:=nC h i;obtain⟨n,p,B,_⟩:=nC h f;match hL:F.toL with
   | []=>rw[hL]at hm;simp at hm
   | [a]=>
    rw[hL]at hm p;rw[aj.1 hm]at x;rw[aj.1 p]at B;omega
   |a::b::l=>simp
end Go.Proofs
namespace Go.Proofs
theorem HB{m n:Bn}(g:Br (nF m.2.1 m.2.2))(h:∀k v,qq m k v→qq n k v):∃t,m.1=n.1++t:=by
 rcases g with⟨v,hv⟩|⟨j,k,u,v,o,i,p,nk,b⟩
 ·obtain⟨r,e,_⟩:=h m.1 v ⟨[],(bV _).symm,hv⟩
  exact⟨r,e⟩
 ·obtain⟨r,e,_⟩:=h (m.1++j) u ⟨j,rfl,o⟩
  obtain⟨s,f,_⟩:=h (m.1++k) v ⟨k,rfl,i⟩;rcases List.append_eq_append_iff.1 e with⟨a,c,d⟩|⟨a,c,d⟩
  ·rw[c,ak]at f
   have f:=eD f;cases a with
   |nil=>exact⟨[],by rw[c];simp⟩
   |cons x a=>
    rw[d]at b;rw[f]at b;exact absurd rfl b
  ·exact⟨a,c⟩
theorem GK:∀{F F':Fo},dW F→dW F'→(∀k v,m0 F k v↔m0 F' k v)→F=F'
 | .nil,.nil,_,_,_=>rfl
 | .nil,.cons lab w b c,_,h,he=>by
  obtain⟨r,v,j⟩:=kG h _ (ay ..);exact((he _ v).2 (ee.2 ⟨_,ay ..,r,rfl,j⟩)).elim
 | .cons lab w b c,.nil,h,_,he=>by
  obtain⟨r,v,j⟩:=kG h _ (ay ..);exact((he _ v).1 (ee.2 ⟨_,ay ..,r,rfl,j⟩)).elim
 | .cons lab w b c,.cons d w' a f,h,g,he=>by
  have x:∀{lab w b c} {F:Fo},dW (.cons lab w b c)→dW F→(∀k v,m0 F k v→m0 (.cons lab w b c) k v)→∀n∈F.toL,hd lab≤hd n.1:=by
   intro lab w b c F h I hi n i;obtain⟨r,v,j⟩:=kG I n i;obtain⟨m,hm,e,_⟩:=nC h (hi _ v (ee.2 ⟨n,i,r,rfl,j⟩));rw[mJ ((dx.1 I).2 n i).1]at e;rcases aq.1 hm with rfl|hm
   ·simp only at e;omega
   ·have:=h.2.2.2.1 m hm;omega
  have M:=x h g (fun k v=>(he k v).2) _ (ay ..)
  have N:=x g h (fun k v=>(he k v).1) _ (ay ..)
  simp only at M N;have s:hd lab=hd d:=by omega
  have y:∀{lab w b c d w' a f},dW (.cons lab w b c)→dW (.cons d w' a f)→hd lab=hd d→(∀k v,m0 (.cons lab w b c) k v→m0 (.cons d w' a f) k v)→(∀k v,qq (lab,w,b) k v→qq (d,w',a) k v)∧(∀k v,m0 c k v→m0 f k v):=by
   intro lab w b c d w' a f h g s hi;refine⟨fun k v o=>?_,fun k v o=>?_⟩
   ·obtain⟨n,i,e,j⟩:=nC g (hi k v (ee.2 ⟨_,ay ..,o⟩))
    obtain⟨r,rfl,_⟩:=o;rw[mJ h.1]at e;rw[←tK g i (ay ..) (by simp only;omega)];exact j
   ·obtain⟨m,hm,P,_⟩:=nC h.2.2.2.2 o
    have:=h.2.2.2.1 m hm;obtain⟨n,i,e,j⟩:=nC g (hi k v (Or.inr o));rcases aq.1 i with rfl|i
    ·simp only at e;omega
    ·exact ee.2 ⟨n,i,j⟩
  have⟨H,O⟩:=y h g s fun k v=>(he k v).1
  have⟨C,K⟩:=y g h s.symm fun k v=>(he k v).2
  have q:c=f:=GK h.2.2.2.2 g.2.2.2.2 fun k v=>⟨O k v,K k v⟩
  obtain⟨t,B⟩:=HB (m:=(lab,w,b)) (n:=(d,w',a)) ((DE h.2.2.1).1 h.2.1) H;obtain⟨Q,z⟩:=HB (m:=(d,w',a)) (n:=(lab,w,b)) ((DE g.2.2.1).1 g.2.1) C;simp only at B z;have A:lab=d:=by
   have:t= []:=by
    have L:=congrArg f8 B;have J:=congrArg f8 z;rw[ae]at L J;exact List.length_eq_zero_iff.1 (by omega)
   rw[B,this,bV]
  subst A;have u:∀{w b w' a},(∀k v,qq (lab,w,b) k v→qq (lab,w',a) k v)→∀k v,nF w b k v→nF w' a k v:=by
   intro w b w' a i k v o;obtain⟨r,e,j⟩:=i (lab++k) v ⟨k,rfl,o⟩;rw[eD e];exact j
  have i1:=u H;have G:=u C;have ew:w=w':=by
   have D:∀{w b w' a},dW a→(∀k v,nF w b k v→nF w' a k v)→∀v,w=some v→w'=some v:=by
    intro w b w' a hc hi v hv;rcases hi [] v (.inl ⟨rfl,hv⟩)with⟨_,h⟩|h
    ·exact h
    ·exact absurd rfl (lS hc h)
   exact Option.ext fun v=>⟨D g.2.2.1 i1 v,D h.2.2.1 G v⟩
  have E:∀{w b w' a},dW b→(∀k v,nF w b k v→nF w' a k v)→∀k v,m0 b k v→m0 a k v:=by
   intro w b w' a hc hi k v o;rcases hi k v (.inr o)with⟨e,_⟩|h
   ·exact absurd e (lS hc o)
   ·exact h
  have p:b=a:=GK h.2.2.1 g.2.2.1 fun k v=>⟨E h.2.2.1 i1 k v,E g.2.2.1 G k v⟩
  rw[ew,p,q]
def qp(P a:List UInt8→ByteArray→Prop)(k:List UInt8)(v:ByteArray):Prop:=∀k' v',a k' v'↔(k'=k∧v'=v)∨(k'≠k∧P k' v')
theorem Cg{w:Option ByteArray}{F:Fo}(h:dW F)(v:ByteArray):qp (nF w F) (nF (some v) F) [] v:=by
 intro k' a;unfold nF;constructor
 ·rintro(⟨e,f⟩|hi)
  ·exact .inl ⟨e,(bi.inj f).symm⟩
  ·exact .inr ⟨lS h hi,.inr hi⟩
 ·rintro(⟨e,f⟩|⟨e,⟨f,_⟩|hi⟩)
  ·exact .inl ⟨e,by rw[f]⟩
  ·exact absurd f e
  ·exact .inr hi
theorem xt{w:Option ByteArray}{F F':Fo}{k:List UInt8}{v:ByteArray}(b:k≠[])(h:qp (m0 F) (m0 F') k v):qp (nF w F) (nF w F') k v:=by
 intro k' a;unfold nF;rw[h k' a];constructor
 ·rintro(⟨e,f⟩|hi|hi)
  ·exact .inr ⟨fun e'=>b (e'.symm.trans e),.inl ⟨e,f⟩⟩
  ·exact .inl hi
  ·exact .inr ⟨hi.1,.inr hi.2⟩
 ·rintro(hi|⟨e,hi|hi⟩)
  ·exact .inr (.inl hi)
  ·exact .inl hi
  ·exact .inr (.inr ⟨e,hi⟩)
theorem It{F:Fo}{k:List UInt8}{v:ByteArray}{i:Nat}(h:dW F)(w:k≠[])(hi:∀j (d:j<F.toL.length),j<i→hd F.toL[j].1<hd k)(g:∀j (d:j<F.toL.length),i≤j→hd k<hd F.toL[j].1):dW (.ofL (F.toL.take i++(k,some v,.nil)::F.toL.drop i))∧qp (m0 F) (m0 (.ofL (F.toL.take i++(k,some v,.nil)::F.toL.drop i))) k v:=by
 have hc:=dx.1 h;have u:∀n∈F.toL.take i,hd n.1<hd k:=fun n c=>by
  obtain⟨j,d,e⟩:=cD c;rw[aN]at d;rw[←e,List.getElem_take];exact hi j (by omega) (by omega)
 have y:∀n∈F.toL.drop i,hd k<hd n.1:=fun n c=>by
  obtain⟨j,d,e⟩:=cD c;rw[List.length_drop]at d;rw[←e,List.getElem_drop];exact g _ (by omega) (by omega)
 have mem:∀n,n∈F.toL.take i++(k,some v,.nil)::F.toL.drop i↔n=(k,some v,Fo.nil)∨n∈F.toL:=fun n=>by
  conv=>rhs;rw[←bF i F.toL]
  simp only[List.mem_append,aq];exact⟨fun h=>h.elim (fun h=>.inr (.inl h)) fun h=>h.elim .inl fun h=>.inr (.inr h),fun h=>h.elim (fun h=>.inr (.inl h)) fun h=>h.elim .inl fun h=>.inr (.inr h)⟩
 refine⟨dx.2 ⟨?_,?_⟩,fun k' x=>?_⟩
 ·rw[Fo.to_of]
  have m:=hc.1;rw[←bF i F.toL,cL]at m;refine cL.2 ⟨m.1,bw.2 ⟨y,m.2.1⟩,fun a s b o=>?_⟩
  rcases aq.1 o with rfl|o
  ·exact u a s
  ·exact m.2.2 a s b o
 ·rw[Fo.to_of]
  intro n c;rcases(mem n).1 c with rfl|c
  ·exact⟨w,.inl rfl,trivial⟩
  ·exact hc.2 n c
 ·rw[ee,ee,Fo.to_of]
  constructor
  ·rintro⟨n,c,r,e,q⟩
   rcases(mem n).1 c with rfl|c
   ·rcases q with⟨rfl,f⟩|f
    ·exact .inl ⟨by rw[e];exact bV _,(bi.inj f).symm⟩
    ·exact f.elim
   ·right
    refine⟨fun e'=>?_,n,c,r,e,q⟩
    have z:hd k=hd n.1:=by rw[←e',e,mJ (hc.2 n c).1]
    obtain⟨j,d,t⟩:=cD c;rcases bM j i with p|p
    ·have:=hi j d p;rw[t]at this;omega
    ·have:=g j d p;rw[t]at this;omega
  ·rintro(⟨rfl,rfl⟩|⟨_,n,c,h⟩)
   ·exact⟨(k',some x,.nil),(mem _).2 (.inl rfl),[],(bV _).symm,.inl ⟨rfl,rfl⟩⟩
   ·exact⟨n,(mem _).2 (.inr c),h⟩
theorem jz{α:Type}{l:List α}{i:Nat}(hi:i<l.length){a x:α}(d:∀j (c:j<l.length),j≠i→l[j]≠l[i]):x∈l.set i a↔x=a∨(x∈l∧x≠l[i]):=by
 constructor
 ·intro h
  obtain⟨j,c,e⟩:=cD h;rw[List.length_set]at c;rw[List.getElem_set]at e;split at e
  ·exact .inl e.symm
  ·rename_i b
   exact .inr ⟨by rw[←e];exact aW c,by rw[←e];exact d j c fun e=>b e.symm⟩
 ·rintro(rfl|⟨h,b⟩)
  ·exact kB (i:=i) (h:=by simpa using hi) (by simp)
  ·obtain⟨j,c,e⟩:=cD h
   have:i≠j:=by rintro rfl;exact b e.symm
   exact kB (i:=j) (h:=by simpa using c) (by rw[List.getElem_set_ne this];exact e)
theorem HO{F:Fo}{i:Nat}{m:Bn}(h:dW F)(hi:i<F.toL.length)(hm:Jg m)(e:hd m.1=hd F.toL[i].1):dW (.ofL (F.toL.set i m)):=by
 have hc:=dx.1 h;rw[dx,Fo.to_of];refine⟨?_,fun n g=>?_⟩
 ·rw[cn]at hc⊢
  intro a b d f c;rw[List.length_set]at d f;rw[List.getElem_set,List.getElem_set];split
  ·rename_i ea;subst ea
   rw[if_neg (by omega),e];exact hc.1 _ _ d f c
  ·split
   ·rename_i eb;subst eb
    rw[e];exact hc.1 _ _ d f c
   ·exact hc.1 _ _ d f c
 ·rcases List.mem_or_eq_of_mem_set g with g|rfl
  ·exact hc.2 n g
  ·exact hm
theorem rp{F:Fo}(h:dW F){i:Nat}(hi:i<F.toL.length)(j:Nat)(c:j<F.toL.length)(a:j≠i):F.toL[j]≠F.toL[i]:=by
 have hc:=(dx.1 h).1;rw[cn]at hc;intro e;rcases Nat.lt_or_gt_of_ne a with b|b
 ·have:=hc j i c hi b;rw[e]at this;omega
 ·have:=hc i j hi c b;rw[e]at this;omega
theorem Ev{F:Fo}{i:Nat}{m:Bn}{k:List UInt8}{v:ByteArray}(h:dW F)(hi:i<F.toL.length)(ek:hd F.toL[i].1=hd k)(d:qp (qq F.toL[i]) (qq m) k v):qp (m0 F) (m0 (.ofL (F.toL.set i m))) k v:=by
 intro k' g;have hc:=dx.1 h;rw[ee,ee,Fo.to_of];constructor
 ·rintro⟨n,b,c⟩
  rcases(jz hi (rp h hi)).1 b with rfl|⟨b,f⟩
  ·rcases(d k' g).1 c with a|⟨a,j⟩
   ·exact .inl a
   ·exact .inr ⟨a,_,aW hi,j⟩
  ·refine .inr ⟨fun e=>f ?_,n,b,c⟩
   obtain⟨r,e',_⟩:=c;refine tK h b (aW hi) ?_;rw[ek,←e,e',mJ (hc.2 n b).1]
 ·rintro(a|⟨a,n,b,c⟩)
  ·exact⟨m,(jz hi (rp h hi)).2 (.inl rfl),(d k' g).2 (.inl a)⟩
  ·by_cases e:n=F.toL[i]
   ·exact⟨m,(jz hi (rp h hi)).2 (.inl rfl),(d k' g).2 (.inr ⟨a,by rw[←e];exact c⟩)⟩
   ·exact⟨n,(jz hi (rp h hi)).2 (.inr ⟨b,e⟩),c⟩
theorem Is{lab r:List UInt8}{w w':Option ByteArray}{F F':Fo}{v:ByteArray}(h:qp (nF w F) (nF w' F') r v):qp (qq (lab,w,F)) (qq (lab,w',F')) (lab++r) v:=by
 intro k' a;constructor
 ·rintro⟨s,e,c⟩
  rcases(h s a).1 c with⟨rfl,rfl⟩|⟨b,d⟩
  ·exact .inl ⟨e,rfl⟩
  ·exact .inr ⟨fun e'=>b (eD (e.symm.trans e')),s,e,d⟩
 ·rintro(⟨rfl,rfl⟩|⟨b,s,e,c⟩)
  ·exact⟨r,rfl,(h r a).2 (.inl ⟨rfl,rfl⟩)⟩
  ·exact⟨s,e,(h s a).2 (.inr ⟨fun e'=>b (by rw[e,e']),c⟩)⟩
def cm:List UInt8→List UInt8→Nat
 |a::x,b::y=>if a=b then cm x y+1 else 0
 |_,_=>0
theorem Mw:∀(x y:List UInt8),cm x y≤x.length∧cm x y≤y.length
 | [],_=>by simp[cm]
 |_::_,[]=>by simp[cm]
 |a::x,b::y=>by unfold cm;have:=Mw x y;split<;>simp<;>omega
theorem HM:∀(x y:List UInt8),x.take (cm x y)=y.take (cm x y)
 | [],_=>by simp[cm]
 |_::_,[]=>by simp[cm]
 |a::x,b::y=>by
  unfold cm;split
  ·rename_i e;rw[fV,fV,HM x y,e]
  ·simp
theorem HN:∀(x y:List UInt8),cm x y<x.length→cm x y<y.length→hd (x.drop (cm x y))≠hd (y.drop (cm x y))
 | [],_=>by simp[cm]
 |_::_,[]=>by simp[cm]
 |a::x,b::y=>by
  unfold cm;split
  ·rename_i e
   intro d c;rw[aO]at d c;rw[gX,gX];exact HN x y (by omega) (by omega)
  ·rename_i e
   intro _ _ h;exact e (nL.1 h)
theorem Nn{x y:List UInt8}(hx:x≠[])(c:y≠[])(h:hd x=hd y):0<cm x y:=by
 match x,y,hx,c with
 |a::x,b::y,_,_=>
  unfold cm;rw[if_pos (show a=b from nL.1 h)]
  omega
theorem Cs{lab:List UInt8}{w:Option ByteArray}{F:Fo}(c:Nat):∀k v,qq (lab.take c,none,.cons (lab.drop c) w F .nil) k v↔qq (lab,w,F) k v:=by
 intro k v;constructor
 ·rintro⟨r,e,⟨_,h⟩|(⟨s,rfl,h⟩|h)⟩
  ·cases h
  ·exact⟨s,by rw[e];simp only;rw[←ak,bF],h⟩
  ·exact h.elim
 ·rintro⟨s,e,h⟩
  exact⟨lab.drop c++s,by rw[e];simp only;rw[←ak,bF],.inr (.inl ⟨s,rfl,h⟩)⟩
theorem K4{lab r:List UInt8}{w w':Option ByteArray}{F F':Fo}{v:ByteArray}(b:lab≠[])(f:w.isSome∨2≤F.toL.length)(i:dW F)(a:r≠[]→hd r≠hd lab)(h:qp (nF none (.cons lab w F .nil)) (nF w' F') r v):Br (nF w' F'):=by
 by_cases e:r= []
 ·subst e
  exact .inl ⟨v,(h [] v).2 (.inl ⟨rfl,rfl⟩)⟩
 ·have hc:dW (.cons lab w F .nil):=⟨b,f,i,fun n g=>by simp[Fo.toL]at g,trivial⟩
  obtain⟨s,u,c⟩:=kG hc _ (ay ..);simp only at c;have d:hd (lab++s)=hd lab:=mJ b;refine .inr ⟨r,lab++s,v,u,(h r v).2 (.inl ⟨rfl,rfl⟩),(h _ u).2 (.inr ⟨fun e'=>a e (by rw[←e',d]),.inr (.inl ⟨s,rfl,c⟩)⟩),e,fun e'=>b (eO.1 e').1,by rw[d];exact a e⟩
theorem L8{P g:List UInt8→ByteArray→Prop}{k:List UInt8}{v:ByteArray}(d:Br P)(h:qp P g k v):Br g:=by
 have keep:∀j u,P j u→∃c,g j c:=fun j u f=>by
  by_cases e:j=k
  ·exact⟨v,(h j v).2 (.inl ⟨e,rfl⟩)⟩
  ·exact⟨u,(h j u).2 (.inr ⟨e,f⟩)⟩
 rcases d with⟨u,m⟩|⟨j,k',u,c,f,i,r⟩
 ·obtain⟨c,o⟩:=keep [] u m
  exact .inl ⟨c,o⟩
 ·obtain⟨a,n⟩:=keep j u f
  obtain⟨b,d⟩:=keep k' c i;exact .inr ⟨j,k',a,b,n,d,r⟩
end Go.Proofs
namespace Go.Proofs
open Go.Lift
theorem Nu(a b:Nat):(ai (IntKind.bits .u64) (a:Int)&&&ai (IntKind.bits .u64) (b:Int)).toNat=(a%18446744073709551616)&&&(b%18446744073709551616):=by
 simp[IntKind.bits,BitVec.toNat_and,BitVec.toNat_ofInt];rfl
theorem N9{hv:Int}(f:0≤hv∧hv<18446744073709551616){lev:Nat}(g:lev<13){h:ad}{K:Int→ad→Prop}(b:K (((hv.toNat>>>(5*lev))%32:Nat):Int) h):HC PG jE [.int .u64 hv,.int .i64 lev] [.c (.int .i64)] K h:=by
 refine G2 hv lev ?_;unfold Bc;refine Join.plain (bj (fun h=>by omega) fun _=>?_)
 rw[decide_eq_false (by omega)];refine ah.2 ?_;have d:IntKind.wrap .i64 (5*(lev:Int))=((5*lev:Nat):Int):=by rw[nA (by omega)];omega
 rw[d];have c:min (((5*lev:Nat):Int)).toNat (IntKind.bits .u64)=5*lev:=by rw[aM];exact aZ (by show 5*lev≤64;omega)
 rw[c];obtain⟨n,rfl⟩:=Int.eq_ofNat_of_zero_le f.1;rw[aM]at b;simp only[Bd];rw[jC];have a:n>>>(5*lev)<18446744073709551616:=Nat.lt_of_le_of_lt (Nat.shiftRight_le _ _) (by omega);have e:=Nu (n>>>(5*lev)) 31;rw[Nat.mod_eq_of_lt a,show((31:Nat):Int)=(31:Int)from rfl,show 31%18446744073709551616=2^5-1 from rfl,Nat.and_two_pow_sub_one_eq_mod]at e
 rw[e];have hm:n>>>(5*lev)%2^5<32:=pg _ (by omega);rw[Go.IntWalk.u64_in _ (by omega),nA (by omega)];exact⟨by omega,b⟩
theorem KY{x:Hs}{k:ByteArray}{lev:Nat}(a:lev<13){h:ad}{K:Int→ad→Prop}(b:K (ck x lev k:Int) h):HC PG jE [.int .u64 (lG x k),.int .i64 lev] [.c (.int .i64)] K h:=N9 (ES x k) a b
theorem EC{x:Hs}{lev c:Nat}{l:List Pr}(h:∀p∈l,ck x lev p.1=c):part x lev c l=l:=List.filter_eq_self.2 fun p a=>decide_eq_true (h p a)
theorem Hp{x:Hs}{lev c:Nat}{l:List Pr}(h:∀p∈l,ck x lev p.1≠c):part x lev c l= []:=List.filter_eq_nil_iff.2 fun p a=>by simpa using h p a
theorem Aj{x:Hs}{lev c:Nat}{p:Pr}{l:List Pr}(a:cp l):part x lev c (jc p l)=if ck x lev p.1=c then jc p (part x lev c l)else part x lev c l:=by
 have:=AC p (fun k=>decide (ck x lev k=c)) a
 unfold part;rw[this];by_cases h:ck x lev p.1=c
 ·rw[if_pos h,if_pos (decide_eq_true h)]
 ·rw[if_neg h,if_neg (by simpa using h)]
theorem Hf{p q:Pr}(h:p.1≠q.1):(jc q [p]).length=2:=by
 rw[jO];by_cases a:kl p.1 q.1
 ·rw[if_pos a];rfl
 ·rw[if_neg a,if_neg h];rfl
theorem Hv{p q r:Pr}(h:r∈jc q [p]):r=p∨r=q:=(vX h).symm.imp (fun h=>aj.1 h) id
theorem eP{β:Type}{g:Nat→Option β}{i c:Nat}{x:Option β}(h:c≠i):upd g i x c=g c:=by unfold upd;rw[if_neg h]
end Go.Proofs
namespace Go.Proofs
open Go.Lift
noncomputable instance memDec (p:Pr) (l:List Pr):Decidable (p∈l):=Classical.propDecidable _
theorem FV{l:List Pr}(a:cp l){k v w:ByteArray}(b:(k,v)∈l)(c:(k,w)∈l):v=w:=by
 induction l with
 |nil=>cases b
 |cons q l ih=>
  have a:=bw.1 a;rcases aq.1 b with d|b<;>rcases aq.1 c with e|c
  ·exact(Prod.mk.inj (d.trans e.symm)).2
  ·have:=a.1 _ c;rw[←d]at this;exact absurd this (dq _)
  ·have:=a.1 _ b;rw[←e]at this;exact absurd this (dq _)
  ·exact ih a.2 b c
theorem kF{x:Hs}{lev c:Nat}{l:List Pr}{p:Pr}:p∈part x lev c l↔p∈l∧ck x lev p.1=c:=by unfold part;rw[gA,decide_eq_true_iff]
theorem zK{x:Hs}{lev:Nat}{l:List Pr}{k:ByteArray}:bQ (part x lev (ck x lev k) l) k=bQ l k:=by
 unfold bQ;rw[kX,bO,bO];constructor
 ·rintro⟨p,a,e⟩;exact⟨p,(kF.1 a).1,e⟩
 ·rintro⟨p,a,e⟩;exact⟨p,kF.2 ⟨a,by rw[of_decide_eq_true e]⟩,e⟩
theorem oD{x:Hs}{lev c:Nat}{l:List Pr}(a:cp l):cp (part x lev c l):=a.sublist List.filter_sublist
theorem lO{x:Hs}{lev c:Nat}{l:List Pr}:(part x lev c l).length≤l.length:=List.length_filter_le ..
def SlotIs(W:Nat→Prop)(x:Hs)(h:ad)(m:Nat)(s:Slots)(c:Nat)(l:List Pr):Prop:=
 (l= []∧s.p c=none∧s.k c=none)∨(∃p,l= [p]∧s.p c=some p∧s.k c=none)∨(2≤l.length∧s.p c=none∧∃kb,s.k c=some (some ⟨kb,0,none⟩)∧TrieAt W x h m kb l)
theorem SlotIs.upd0{W:Nat→Prop}{x:Hs}{h a:ad}{m:Nat}{s:Slots}{c:Nat}{l:List Pr}(k:Upd No h a)(t:SlotIs W x h m s c l):SlotIs W x a m s c l:=t.imp id fun o=>o.imp id fun⟨e,g,d,f,b⟩=>⟨e,g,d,f,TrieAt.upd0 k b⟩
theorem EP(p:Pr):∀{l:List Pr},l.length≤(jc p l).length
 | []=>bp _
 |q::l=>by
  rw[jO];split
  ·have:=EP p (l:=l);simp only[aO];omega
  ·split<;>simp
theorem kM{a b:ByteArray}:(a.toList==b.toList)=decide (a=b):=by
 rw[kX,beq_iff_eq,decide_eq_true_iff,xH]
end Go.Proofs
namespace Go.Proofs
open Go.Lift
theorem JC{W:Nat→Prop}{x:Hs}{h:ad}{m b:Nat}(a:NodeAt W h b ⟨fun _=>none,fun _=>none⟩):TrieAt W x h (m+1) b []:=⟨_,a,fun _ _=>.inl ⟨rfl,rfl,rfl⟩⟩
def RootAt(W:Nat→Prop)(x:Hs)(h:ad)(r:Option Addr)(l:List Pr):Prop:=(r=none∧l= [])∨∃b,r=some ⟨b,0,none⟩∧TrieAt W x h 13 b l
theorem RootAt.upd0{W:Nat→Prop}{x:Hs}{h a:ad}{r:Option Addr}{l:List Pr}(k:Upd No h a)(t:RootAt W x h r l):RootAt W x a r l:=t.imp id fun⟨b,e,t⟩=>⟨b,e,TrieAt.upd0 k t⟩
theorem fc{h:ad}{b:Nat}{t:TypeId}{c vs:List Value}(a:h[b]? =some (.cells c.toArray t (0,0))) (d:vs.length=c.length) {k:ad→Prop}
  (f:∀h',h'[b]? =some (.cells vs.toArray t (0,0))→Upd (· =b) h h'→k h'):rc h (some ⟨b,0,none⟩) 0 vs∧At (gd h ⟨b,0,none⟩ 0 vs) k:=by
 have e:=gw vs h 0 0 c a (by omega);refine⟨.inr ⟨_,rfl,fun j g=>by rw[bG];exact gM a (by rw[cz];omega)⟩,bK ?_⟩
 rw[e];refine f _ ?_ (Upd.set h _ rfl);rw[ix a];congr 3
 simp[d]
end Go.Proofs
namespace Go.Proofs
open Go.Lift
abbrev qx(b:UInt8):List Value:= [.int .u8 (b.toNat:Int)]
theorem xI(b:UInt8):(qx b).length=1∧0<1:=⟨rfl,Nat.one_pos⟩
theorem zi:∀xs:List UInt8,bH (xs.flatMap qx)=true
 | []=>rfl
 |x::xs=>by rw[aL];exact jN rfl (zi xs)
theorem pH(s:ByteArray):cT s=s.data.toList.flatMap qx:=by
 unfold cT;generalize s.data.toList=l;induction l with
 |nil=>rfl
 |cons b l ih=>rw[List.map_cons,aL,ih];rfl
theorem qH{M:Nat→Prop}{h:ad}{c:SliceV}{out:List UInt8}{v:Int}{b:UInt8}(hv:v=(b.toNat:Int)){K:SliceV→ad→Prop}(i:OwnS qx 1 dg M h c out)(hM:∀b,h.size≤b→M b)(j:out.length+1≤140737488355328)
  (e:∀s' a,OwnS qx 1 dg M a s' (out++ [b])→Upd M h a→K s' a):
  ∃xs,SRow (hnew h [.int .u8 v] dg) (some (aC h)) (1*1) xs∧AppP (some [.int .u8 0]) 1 1 dg c.a c.len c.cap 1 xs (hnew h [.int .u8 v] dg) K:=by
 subst hv;have k:=Upd.hnew No h [.int .u8 (b.toNat:Int)] dg;have f:OwnS qx 1 dg (fun _=>True) (hnew h [.int .u8 (b.toNat:Int)] dg) ⟨some (aC h),1,1⟩ [b]:=⟨rfl,xI,au _,.inr ⟨h.size,[],rfl,trivial,cu ..,rfl⟩⟩
 refine⟨_,(f.sl (W:=No) fun _ _ _ h=>h).srow,?_⟩
 refine AppP.own (ys:= [b]) (i.upd k fun _ _ h=>h) rfl rfl rfl rfl (by omega) (by simp only[bq];omega) (hM _ (by rw[jP];omega)) fun s' a d g=>?_
 exact e s' a d ((Upd.hnew M h _ _).tr g)
def mI(n k:Nat):List UInt8:=(List.range k).map fun i=>eX (n>>>(8*i))
theorem tF(n k:Nat):mI n (k+1)=mI n k++ [eX (n>>>(8*k))]:=by unfold mI;rw[eZ,List.map_append];rfl
theorem eu(n k:Nat):(mI n k).length=k:=by simp[mI]
theorem Gi{M:Nat→Prop}{h:ad}{s:SliceV}{xs:List UInt8}(y:OwnS qx 1 dg M h s xs)(hM:∀b,h.size≤b→M b){n k:Nat}(z:n<18446744073709551616)(x:k≤8)(B:xs.length+k≤140737488355328){K:SliceV→ad→Prop}
  (u:∀s' c,OwnS qx 1 dg M c s' (xs++mI n k)→Upd M h c→K s' c):HC PG jD [.slice s.a s.len s.cap,.int .u64 n,.int .i64 k] [.c .slice] K h:=by
 refine yH s n k ?_;unfold tp;refine LoopP.ghost (fun(i:Nat) (t:SliceV×Int) c=>t.2=(i:Int)∧i≤k∧OwnS qx 1 dg M c t.1 (xs++mI n i)∧Upd M h c) (fun i=>k-i) 0 ⟨rfl,bp _,by simpa[mI]using y,Upd.refl _ _⟩ ?_
 rintro I i ⟨C,ti⟩ c ⟨o,hi,d,g⟩ v;simp only at o d;subst o;refine bj (fun a=>?_) fun e=>?_
 ·have a:i<k:=by have:(i:Int)<(k:Int):=a;omega
  have w:IntKind.wrap .i64 (8*(i:Int))=((8*i:Nat):Int):=by rw[nA (by omega)];omega
  have p:min (((8*i:Nat):Int)).toNat (IntKind.bits .u64)=8*i:=by rw[aM];exact aZ (by show 8*i≤64;omega)
  refine Join.plain ?_;simp only[Bd];rw[w,p,jC];refine⟨by omega,bK ?_⟩;refine qH (b:=eX (n>>>(8*i))) ?_ d (fun b q=>hM b (bB g.size q)) (by rw[ae,eu];omega) fun s2 A m f=>?_
  ·rw[IntKind.wrap_u8];simp
  ·rw[ep a (by omega)]
   refine v (i+1) _ _ ⟨rfl,a,?_,g.tr f⟩ (by omega);rw[tF,←ak];exact m
 ·have j:i=k:=by have:¬(i:Int)<(k:Int):=e;omega
  subst j;exact u _ _ d g
end Go.Proofs
namespace Go.Proofs
open Go Go.Lift
theorem E8{α:Type}{f:α→List Value}{j a:Nat}{t:TypeId}{W:Nat→Prop}{h:ad}{d:Option Addr}{sl m q:Nat}{xs ys:List α}{e z:List Value}{K:SliceV→ad→Prop}
  (k:Sl f j W h ⟨d,sl,m⟩ xs)(p:q=ys.length)(o:e=ys.flatMap f)(hz:z.length=j)(s:0<a)(i:m<sl+q)(g:(xs.length+ys.length)*a≤140737488355328)
  (u:∀s' h',OwnS f j t (fun b=>h.size≤b) h' s' (xs++ys)→Upd No h h'→K s' h'):AppP (some z) j a t d sl m q e h K:=by
 have c:sl=xs.length:=k.len;subst p o;refine⟨fun v=>by omega,fun _=>?_⟩
 refine⟨xs.flatMap f,z,k.srow,rfl,s,Go.growslice_fits i (by rw[c];exact g),fun w n=>?_⟩
 refine u _ _ ⟨by simp[c],k.ne,n,.inr ⟨h.size,cI (w-(sl+ys.length)) z,rfl,au _,?_,?_⟩⟩ (Upd.hnew No h _ _)
 ·rw[cu,bv]
 ·rw[jr,hz]
theorem LW{h:ad}{s:SliceV}{xs:List UInt8}(y:Sl qx 1 No h s xs)(hc:s.cap=s.len){n k:Nat}(D:k≤8)(z:0<k)(E:xs.length+k≤140737488355328){K:SliceV→ad→Prop}
  (x:∀s' d,OwnS qx 1 dg (fun b=>h.size≤b) d s' (xs++mI n k)→Upd No h d→K s' d):HC PG jD [.slice s.a s.len s.cap,.int .u64 n,.int .i64 k] [.c .slice] K h:=by
 refine yH s n k ?_;unfold tp;refine LoopP.ghost (fun(i:Nat) (t:SliceV×Int) d=>t.2=(i:Int)∧i≤k∧((i=0∧t.1=s∧d=h)∨OwnS qx 1 dg (fun b=>h.size≤b) d t.1 (xs++mI n i))∧Upd No h d) (fun i=>k-i) 0 ⟨rfl,bp _,.inl ⟨rfl,rfl,rfl⟩,Upd.refl _ _⟩ ?_
 rintro I i ⟨F,ti⟩ d ⟨v,hi,a,o⟩ u;simp only at v a;subst v;refine bj (fun c=>?_) fun m=>?_
 ·have c:i<k:=by have:(i:Int)<(k:Int):=c;omega
  have B:IntKind.wrap .i64 (8*(i:Int))=((8*i:Nat):Int):=by rw[nA (by omega)];omega
  have w:min (((8*i:Nat):Int)).toNat (IntKind.bits .u64)=8*i:=by rw[aM];exact aZ (by show 8*i≤64;omega)
  refine Join.plain ?_;simp only[Bd];rw[B,w,jC];refine⟨by omega,bK ?_⟩;have q:IntKind.wrap .u8 ((n>>>(8*i):Nat):Int)=((eX (n>>>(8*i))).toNat:Int):=by rw[IntKind.wrap_u8];simp
  rcases a with⟨rfl,rfl,rfl⟩|a
  ·rw[q]
   have k1:=Upd.hnew No d [.int .u8 ((eX (n>>>(8*0))).toNat:Int)] dg;have C:OwnS qx 1 dg (fun _=>True) (hnew d [.int .u8 ((eX (n>>>(8*0))).toNat:Int)] dg) ⟨some (aC d),1,1⟩ [eX (n>>>(8*0))]:=⟨rfl,xI,au _,.inr ⟨d.size,[],rfl,trivial,cu ..,rfl⟩⟩
   refine⟨_,(C.sl (W:=No) fun _ _ _ h=>h).srow,?_⟩
   refine E8 (ys:= [eX (n>>>(8*0))]) (y.upd k1 fun _ h=>h.elim) rfl rfl rfl (by omega) (by omega) (by simp only[bq];omega) fun s2 A g f=>?_
   rw[ep c (by omega)];refine u 1 _ _ ⟨rfl,c,.inr ?_,k1.tr f⟩ (by omega);exact g.more fun b j=>bB k1.size j
  ·refine qH q a (fun b j=>bB o.size j) (by rw[ae,eu];omega) fun s2 A g f=>?_
   rw[ep c (by omega)];refine u (i+1) _ _ ⟨rfl,c,.inr ?_,o.trans f fun b j=>.inr j⟩ (by omega)
   rw[tF,←ak];exact g
 ·have p:i=k:=by have:¬(i:Int)<(k:Int):=m;omega
  subst p;rcases a with⟨e,_⟩|a
  ·omega
  ·exact x _ _ a o
def rQ(s:ByteArray):List UInt8:=mI s.size 2++s.data.toList
theorem za{W:Nat→Prop}{h:ad}{s:SliceV}{xs:List UInt8}(i:Sl qx 1 W h s xs)(hc:s.len≤s.cap)(b:ByteArray)(q:b.size≤1000000)(u:xs.length+2+b.size≤140737488355328){K:SliceV→ad→Prop}
  (o:∀s' h',OwnS qx 1 dg (fun x=>h.size≤x) h' s' (xs++rQ b)→Upd No h h'→K s' h'):HC PG jR [.slice s.a s.len s.cap,.string b] [.c .slice] K h:=by
 refine DL s b ?_;unfold wV;have j:=i.len;refine⟨by omega,by omega,?_⟩
 simp only[aM];have e:Sl qx 1 No h ⟨aK s.a 0 s.len 1,s.len-0,s.len-0⟩ xs:=by
  have:=Sl.sub (i.less (W':=No) fun _ h=>h.elim) (l:=0) (hi:=s.len) (m:=s.len) (c:=s.len-0) (bp _) (by omega) (au _)
  rw[List.drop_zero,bh (by omega)]at this;exact this
 have ew:IntKind.wrap .u64 (b.size:Int)=(b.size:Int):=Go.IntWalk.u64_in _ (by omega);rw[ew];refine LW e rfl (n:=b.size) (k:=2) (by omega) (by omega) (by omega) fun s2 t g a=>?_
 refine AppP.own (ys:=b.data.toList) g (by simp) (pH b) (by rw[pH];exact zi _) rfl (by omega) ?_ a.size fun s3 p d f=>?_
 ·simp only[ae,eu]
  have:b.data.toList.length=b.size:=by simp
  omega
 ·refine o s3 p ?_ (a.trans f fun x hx=>.inr hx)
  rw[rQ,←ak];exact d
end Go.Proofs
namespace Go.Proofs
open Go Go.Lift
def Ak(p:Pr):List UInt8:=rQ p.1++rQ p.2
def ka(l:List Pr):List UInt8:=l.flatMap Ak
theorem g4(b:ByteArray):(rQ b).length=2+b.size:=by simp[rQ,eu]
def Fit(l:List Pr):Prop:=∀p∈l,p.1.size≤10000∧p.2.size≤10000
theorem Iy{p:Pr}(h:p.1.size≤10000∧p.2.size≤10000):(Ak p).length≤20004:=by
 unfold Ak;rw[ae,g4,g4];omega
theorem oG:∀{l:List Pr},Fit l→(ka l).length≤l.length*20004
 | [],_=>by simp[ka]
 |p::l,h=>by
  have c:=Iy (h p (ay ..));have b:=oG (l:=l) fun q a=>h q (aQ _ a)
  unfold ka at*;rw[aL,ae,aO];omega
theorem EE{l:List Pr}{i:Nat}(hi:i<l.length):ka (l.take (i+1))=ka (l.take i)++Ak l[i]:=by
 unfold ka;rw[List.take_succ_eq_append_getElem hi,bv,aL,List.flatMap_nil,bV]
theorem zW{M W:Nat→Prop}{h:ad}{s sp:SliceV}{xs:List UInt8}{l:List Pr}(R:OwnS qx 1 dg M h s xs)(hM:∀b,h.size≤b→M b)(C:Sl iY 2 W h sp l)(T:∀x,M x→x<h.size→W x)(D:Fit l)(X:l.length≤1000000)(Z:xs.length+l.length*20004≤140737488355328){K:SliceV→ad→Prop}
  (H:∀s' d,OwnS qx 1 dg M d s' (xs++ka l)→Upd M h d→K s' d):HC PG mX [.slice s.a s.len s.cap,.slice sp.a sp.len sp.cap] [.c .slice] K h:=by
 refine Bz s sp ?_;unfold uu fH cG aE nv su qz sA;have F:=C.len;have w:∀b,M b→W b∨h.size≤b:=fun b o=>by
  rcases bM b h.size with hx|hx
  ·exact .inl (T b o hx)
  ·exact .inr hx
 refine LoopP.ghost (fun(i:Nat) (t:SliceV×Int) d=>t.2=(i:Int)∧i≤l.length∧OwnS qx 1 dg M d t.1 (xs++ka (l.take i))∧Upd M h d) (fun i=>l.length-i) 0 ⟨rfl,bp _,by simpa[ka]using R,Upd.refl _ _⟩ ?_
 rintro I i ⟨so,ti⟩ d ⟨G,hi,f,n⟩ Q;simp only at G f;subst G;refine bj (fun c=>?_) fun z=>?_
 ·have c:i<l.length:=by have:(i:Int)<(sp.len:Int):=c;omega
  obtain⟨a,O,_,hv⟩:=(C.upd n w).at (ag c);have J:=D l[i] (aW c);have v:=oG (l:=l.take i) fun q N=>D q (List.mem_of_mem_take N)
  rw[aN,aZ hi]at v;have k1:=Upd.hnew No d [.string (⟨#[]⟩:ByteArray),.string (⟨#[]⟩:ByteArray)] ar;have b1:=cu d [.string (⟨#[]⟩:ByteArray),.string (⟨#[]⟩:ByteArray)] ar;refine⟨by simp only;omega,a,O,l[i].1,hv 0 _ rfl,l[i].2,hv 1 _ rfl,bK ?_⟩;simp only[fy d];generalize hnew d [.string (⟨#[]⟩:ByteArray),.string (⟨#[]⟩:ByteArray)] ar=h1 at k1 b1
  have y:h1[d.size]? =some (.cells #[.string Fv.1,.string Fv.2] ar (0,0)):=b1;refine yv (p:=l[i]) y fun L b2 A=>?_
  have e:Upd No d L:=k1.trans A fun x hx=>.inr (fY hx.symm)
  have m:=f.upd e fun _ _ h=>h
  refine⟨l[i].1,by rw[bG,aS b2];rfl,l[i].2,by rw[bG,aS b2];rfl,?_⟩
  have E:i*20004+20004≤l.length*20004:=by rw[←Nat.succ_mul];exact Nat.mul_le_mul_right _ c
  refine za (W:=No) (m.sl fun _ _ _ h=>h) m.cap l[i].1 (by omega) (by rw[ae];omega) fun s3 Y j g=>⟨by rw[bG,aS (g.get0 b2)];rfl,?_⟩
  refine za (W:=No) (j.sl fun _ _ _ h=>h) j.cap l[i].2 (by omega) (by rw[ae,ae,g4];omega) fun V S u B=>?_
  have k:Upd M h S:=n.tr ((e.tr (g.tr B)).wide);rw[ep c (by omega)];refine Q (i+1) _ _ ⟨rfl,c,?_,k⟩ (by omega);rw[EE c,Ak,←ak,←ak];exact u.more fun b o=>hM b (bB (n.tr ((e.tr g).wide)).size o)
 ·have P:i=l.length:=by have:¬(i:Int)<(sp.len:Int):=z;omega
  rw[bh (by omega)]at f;exact H _ _ f n
end Go.Proofs
namespace Go.Proofs
open Go Go.Lift
def l7(q:Nat→Bool):Nat→Nat
 |0=>0
 |n+1=>l7 q n+(if q n then 2^n else 0)
theorem oT(q:Nat→Bool):∀n,l7 q n<2^n
 |0=>by simp[l7]
 |n+1=>by
  have:=oT q n;unfold l7;rw[Nat.pow_succ];split<;>omega
theorem xK(q:Nat→Bool)(c:Nat):∀n,(l7 q n).testBit c=(decide (c<n)&&q c)
 |0=>by simp[l7]
 |n+1=>by
  have b:=oT q n;have d:=xK q c n;unfold l7;by_cases a:q n=true
  ·rw[if_pos a,Nat.add_comm]
   rcases Nat.lt_trichotomy c n with h|h|h
   ·rw[Nat.testBit_two_pow_add_gt h,d,decide_eq_true h,decide_eq_true (by omega)]
   ·subst h
    rw[Nat.testBit_two_pow_add_eq,eN b,decide_eq_true (by omega),a];rfl
   ·have f:2^n+l7 q n<2^c:=bI (by rw[Nat.pow_succ];omega:2^n+l7 q n<2^(n+1)) (gI (by omega) h)
    rw[eN f,decide_eq_false (by omega)];rfl
  ·rw[if_neg a,dL,d]
   by_cases h:c<n
   ·rw[decide_eq_true h,decide_eq_true (by omega)]
   ·by_cases e:c=n
    ·subst e;have:q c=false:=by simpa using a
     rw[this];simp
    ·rw[decide_eq_false h,decide_eq_false (by omega)]
theorem CF{d:Nat}{q:Nat→Bool}(hd:d<4294967296)(h:∀c,c<32→d.testBit c=q c):d=l7 q 32:=by
 refine Nat.eq_of_testBit_eq fun c=>?_
 rw[xK];by_cases hc:c<32
 ·rw[h c hc,decide_eq_true hc];rfl
 ·rw[decide_eq_false hc,eN (bI hd (gI (n:=2) (by omega) (show 32≤c by omega)))];rfl
end Go.Proofs
namespace Go.Proofs
open Go Go.Lift
def mC(l:List Pr):Option Pr:=match l with| [p]=>some p|_=>none
def fG(l:List Pr):Option (List Pr):=if 2≤l.length then some l else none
def eJ(x:Hs)(lev:Nat)(l:List Pr):List Pr:=fm (fun c=>mC (part x lev c l)) 32
def jg(x:Hs)(lev:Nat)(l:List Pr):List (List Pr):=fm (fun c=>fG (part x lev c l)) 32
def iw(x:Hs):Nat→List Pr→List UInt8
 |0,l=>1::(mI l.length 2++ka l)
 |m+1,l=>0::(mI (l7 (fun c=>(mC (part x (12-m) c l)).isSome) 32) 4++(mI (l7 (fun c=>(fG (part x (12-m) c l)).isSome) 32) 4++(ka (eJ x (12-m) l)++(jg x (12-m) l).flatMap (iw x m))))
theorem zU{W:Nat→Prop}{x:Hs}{h:ad}{m:Nat}{s:Slots}{c:Nat}{l:List Pr}(t:SlotIs W x h m s c l):s.p c=mC l∧(s.k c).isSome=(fG l).isSome:=by
 rcases t with⟨rfl,e,d⟩|⟨p,rfl,e,d⟩|⟨f,e,g,d,_⟩
 ·rw[e,d];exact⟨rfl,rfl⟩
 ·rw[e,d];exact⟨rfl,rfl⟩
 ·rw[e,d]
  refine⟨?_,by simp[fG,f]⟩
  match l,f with
  |a::b::l,_=>rfl
def KidsAt(W:Nat→Prop)(x:Hs)(h:ad)(m:Nat):List (Option Addr)→List (List Pr)→Prop
 | [],[]=>True
 |k::ks,l::ls=>(∃kb,k=some ⟨kb,0,none⟩∧TrieAt W x h m kb l)∧KidsAt W x h m ks ls
 |_,_=>False
theorem KidsAt.app{W:Nat→Prop}{x:Hs}{h:ad}{m:Nat}:∀{ks ks':List (Option Addr)} {ls ls':List (List Pr)},KidsAt W x h m ks ls→KidsAt W x h m ks' ls'→KidsAt W x h m (ks++ks') (ls++ls')
 | [],_,[],_,_,q=>q
 |_::_,_,_::_,_,q,q'=>⟨q.1,KidsAt.app q.2 q'⟩
 | [],_,_::_,_,q,_=>q.elim
 |_::_,_,[],_,q,_=>q.elim
theorem gS{β:Type}(g:Nat→Option β)(n:Nat):fm g (n+1)=fm g n++(g n).toList:=by
 unfold fm;rw[eZ,List.filterMap_append];cases h:g n<;>simp[h]
theorem Gn{W:Nat→Prop}{x:Hs}{h:ad}{m lev:Nat}{s:Slots}{l:List Pr}:∀n,(∀c,c<n→SlotIs W x h m s c (part x lev c l))→KidsAt W x h m (fm s.k n) (fm (fun c=>fG (part x lev c l)) n)
 |0,_=>trivial
 |n+1,hs=>by
  rw[gS,gS];refine KidsAt.app (Gn n fun c hc=>hs c (by omega)) ?_
  rcases hs n (by omega)with⟨b,_,a⟩|⟨p,b,_,a⟩|⟨b,_,d,a,e⟩
  ·rw[a,b];exact trivial
  ·rw[a,b];exact trivial
  ·rw[a]
   have:fG (part x lev n l)=some (part x lev n l):=by unfold fG;rw[if_pos b]
   simp only[this];exact⟨⟨d,rfl,e⟩,trivial⟩
theorem zd{W:Nat→Prop}{x:Hs}{h:ad}{m lev:Nat}{s:Slots}{l:List Pr}(a:∀c,c<32→SlotIs W x h m s c (part x lev c l)):fm s.p 32=eJ x lev l:=
 N2 _ fun c hc=>(zU (a c (List.mem_range.1 hc))).1
end Go.Proofs
