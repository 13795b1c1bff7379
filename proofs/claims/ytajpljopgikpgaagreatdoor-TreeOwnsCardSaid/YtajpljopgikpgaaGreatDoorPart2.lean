/- A part of the proof that the named laws of this program answer true, whatever the input. -/
import Derived.Test.YtajpljopgikpgaaGreatDoorPart1
open BitVec renaming ofInt→ao
open Bool renaming eq_iff_iff→nH
open Int renaming toNat_natCast→aM
open List renaming length_take→aD,flatMap_cons→aR,flatMap_append→bq,length_append→ad,size_toArray→dy,append_assoc→au,drop_left'→cF,getElem?_eq_getElem→af,getElem_mem→aU,pairwise_cons→ba,mem_cons→aw,mem_cons_self→av,mem_cons_of_mem→aL,filter_cons→cE,mem_filter→d9,append_eq_nil_iff→gv,mem_singleton→aq,append_nil→bh,append_cancel_left→fi,length→eE,getElem_of_mem→bP,take_append_drop→aG,pairwise_append→ci,length_set→iy,mem_of_getElem→m8,pairwise_iff_getElem→cB,take_succ_cons→cZ,length_cons→az,drop_succ_cons→iH,any_eq_true→co,length_singleton→aE,range_succ→ix,take_of_length_le→bv
open Nat renaming zero_add→aI,min_eq_left→bo,add_zero→cW,le_of_eq→fH,le_refl→aj,mod_lt→od,lt_or_ge→bG,zero_le→aS,le_trans→aX,pow_succ→mV,testBit_lt_two_pow→gr,lt_of_lt_of_le→bI,pow_le_pow_right→ft
open Option renaming isSome_iff_exists→dU,some→bA
open UInt8 renaming toNat_inj→li,ofNat→gd
namespace Go.Proofs
open Go.Lift
theorem ur{β:Type}{g:Nat→Option β}{i:Nat}(h:g i=none):upd g i none=g:=by
 funext j;unfold upd;split
 ·rename_i e;rw[e,h]
 ·rfl
theorem eC{h:ae}{b:Nat}{c:Array Value}{t:TypeId}{i:Nat}(a:h[b]? =some (.cells c t (0,0))):aJ h ⟨b,0+i,none⟩=c[i]?:=by rw[aI];exact bl a
theorem SM{h:ae}{b:Nat}{c:Array Value}{t:TypeId}{i:Nat}(a:h[b]? =some (.cells c t (0,0))) (hi:i<c.size):Wr h ⟨b,0+i,none⟩:=by rw[aI];exact iX a hi
theorem FK{h:ae}{b:Nat}{c c':Array Value}{t:TypeId}{i:Nat}{v:Value}{k:ae→Prop}(g:h[b]? =some (.cells c t (0,0))) (e:c.setIfInBounds i v=c')
 (j:∀a,a[b]? =some (.cells c' t (0,0))→Upd (· =b) h a→k a):At (hset h ⟨b,i,none⟩ v) k:=vB g fun a d f=>j a (e▸d) f
theorem Ih{M:Nat→Prop}{h:ae}{b d n:Nat}{sp sk:SliceV}{s:Slots}{ow:Option Addr}(o:OwnN M h b d n sp sk s ow){i:Nat}(hi:i<32){K:Unit→ae→Prop}
  (hk:∀q E H sp' sk',OwnN M q b E H sp' sk' ⟨upd s.p i none,upd s.k i none⟩ ow→Upd M h q→K () q):HC PG jx [.pointer (some ⟨b,0,none⟩),.int .i64 i] [] K h:=by
 obtain⟨A,B,W,V,a,m⟩:=o.ex;have bits:=o.bits;refine AH _ i ?_;unfold tB cY bD Ji ig nI;have Y:∀k:Nat,k≤100→IntKind.wrap .i64 ((k:Int)+1)=((k+1:Nat):Int):=fun k hk=>by rw[ji (by omega)];omega
 have hc1:=yZ i d;have hc2:=yZ i n;have S:∀x,A x→M x∨h.size≤x:=fun x hx=>.inl (a x hx).1
 refine Join.intro (fun _ q=>∃sp',q[b]? =some (.cells (fR d n sp' sk false ow) bT (0,0))∧OwnS eg 2 ar A q sp' (fm (upd s.p i none) 32)∧OwnS p6 1 bO B q sk (fm s.k 32)∧Upd M h q) (fun R D=>?_) ?_
 ·refine⟨_,rfl,_,eC (i:=0) o.blk,BC bits.d32 hi ?_⟩
  rw[bits.dp i hi];cases hp:s.p i with
  |none=>exact al.2 (D _ _ ⟨sp,o.blk,by rw[ur hp];exact W,V,Upd.refl _ _⟩)
  |some y=>
   refine ax.2 ⟨_,rfl,_,eC (i:=0) o.blk,pZ bits.d32 hi ⟨_,rfl,sp,eC (i:=2) o.blk,?_⟩⟩;rw[Y _ (by omega)];refine MQ W (GX hi bits.dp hp) (by have:=vO (g:=s.p);omega) fun G Z u f=>?_
   rw[←Rw hi bits.dp hp]at u;have b2:=f.get o.blk fun I=>(a b I).2.2.1 rfl
   refine⟨_,rfl,SM (i:=2) b2 (show 2<6 by decide),FK (i:=2) (c':=fR d n G sk false ow) b2 rfl fun X b3 j=>?_⟩
   refine D _ _ ⟨G,b3,u.upd j fun x hx e=>(a x hx).2.2.1 e,(V.upd f fun x hx J=>(a x J).2.1 hx).upd j fun x hx e=>(m x hx).2.1 e,(f.mono S).tr (j.mono fun x e=>.inl (e▸o.mb))⟩
 rintro _ h1 ⟨t,b1,w,F,C⟩;refine Join.intro (fun _ q=>∃sk',q[b]? =some (.cells (fR d n t sk' false ow) bT (0,0))∧OwnS eg 2 ar A q t (fm (upd s.p i none) 32)∧OwnS p6 1 bO B q sk' (fm (upd s.k i none) 32)∧Upd M h1 q) (fun R D=>?_) ?_
 ·refine⟨_,rfl,_,eC (i:=1) b1,BC bits.n32 hi ?_⟩
  rw[bits.nk i hi];cases hp:s.k i with
  |none=>exact al.2 (D _ _ ⟨sk,b1,w,by rw[ur hp];exact F,Upd.refl _ _⟩)
  |some y=>
   refine ax.2 ⟨_,rfl,_,eC (i:=1) b1,pZ bits.n32 hi ⟨_,rfl,sk,eC (i:=3) b1,?_⟩⟩;rw[Y _ (by omega)];refine MR F (GX hi bits.nk hp) (by have:=vO (g:=s.k);omega) fun G Z u f=>?_
   rw[←Rw hi bits.nk hp]at u;have b2:=f.get b1 fun I=>(m b I).2.1 rfl
   refine⟨_,rfl,SM (i:=3) b2 (show 3<6 by decide),FK (i:=3) (c':=fR d n t G false ow) b2 rfl fun X b3 j=>?_⟩
   refine D _ _ ⟨G,b3,(w.upd f fun x hx J=>(a x hx).2.1 J).upd j fun x hx e=>(a x hx).2.2.1 e,u.upd j fun x hx e=>(m x hx).2.1 e,(f.mono fun x hx=>.inl (m x hx).1).tr (j.mono fun x e=>.inl (e▸o.mb))⟩
 rintro _ Z ⟨v,b2,U,P,f⟩;refine⟨_,rfl,_,eC (i:=0) b2,_,rfl,_,eC (i:=1) b2,?_⟩;refine Dx bits.d32 hi fun E Q L=>⟨eC (i:=1) b2,?_⟩
 refine Dx bits.n32 hi fun H O T=>?_
 refine⟨_,rfl,SM (i:=0) b2 (show 0<6 by decide),FK (i:=0) (c':=fR E n t v false ow) b2 rfl fun X b3 j=>?_⟩
 refine⟨_,rfl,SM (i:=1) b3 (show 1<6 by decide),FK (i:=1) (c':=fR E H t v false ow) b3 rfl fun h4 b4 N=>?_⟩
 have p:=j.tr N;have z:=(C.tr (f.tr (p.mono (M':=M) fun x e=>.inl (e▸o.mb)))).size
 refine hk h4 E H t v ⟨b4,⟨Q,O,fun c hc=>?_,fun c hc=>?_⟩,⟨A,B,U.upd p fun x hx e=>(a x hx).2.2.1 e,P.upd p fun x hx e=>(m x hx).2.1 e,fun x hx=>⟨(a x hx).1,(a x hx).2.1,(a x hx).2.2.1,by have:=(a x hx).2.2.2;omega⟩,fun x hx=>⟨(m x hx).1,(m x hx).2.1,by have:=(m x hx).2.2;omega⟩⟩,o.mb⟩ (C.tr (f.tr (p.mono fun x e=>.inl (e▸o.mb))))
 ·rw[L,bits.dp c hc];simp only[upd];split<;>simp[*]
 ·rw[T,bits.nk c hc];simp only[upd];split<;>simp[*]
end Go.Proofs
namespace Go.Proofs
open Go.Lift
theorem OwnS.setAt{α:Type}{f:α→List Value}{c:Nat}{t:TypeId}{M:Nat→Prop}{h:ae}{s:SliceV}{xs:List α}(m:OwnS f c t M h s xs){k:Nat}(o:k<xs.length)(x:α):
  ∃a,s.a=some a∧M a.block∧uD h (some (adr a (k*c))) 0 (f x)∧OwnS f c t M (iC h (adr a (k*c)) 0 (f x)) s (xs.take k++x::xs.drop (k+1))∧Upd (· =a.block) h (iC h (adr a (k*c)) 0 (f x)):=by
 have i:∀x,(f x).length=c∧0<c:=m.ne;have u:=m.len;have g:=m.cap;rcases m.blk with E|⟨b,e,w,q,hc,y⟩
 ·omega
 have n:((xs.take k).flatMap f).length=k*c:=by rw[kK i,aD,bo (by omega)]
 have C:xs.flatMap f=(xs.take k).flatMap f++(f xs[k]++(xs.drop (k+1)).flatMap f):=by
  rw[←aR,←List.drop_eq_getElem_cons o];exact yX xs k
 rw[C]at hc;have z:=(i xs[k]).1;have F:=(i x).1;have d:(xs.take k++x::xs.drop (k+1)).flatMap f=(xs.take k).flatMap f++(f x++(xs.drop (k+1)).flatMap f):=by rw[bq,aR]
 generalize (xs.take k).flatMap f=A at n hc d;generalize (xs.drop (k+1)).flatMap f=B at hc d;generalize f xs[k]=X at z hc;have v:k*c+0+(f x).length≤(A++(X++B)++e).length:=by simp only[ad];omega
 have p:adr ⟨b,0,none⟩ (k*c)=⟨b,k*c,none⟩:=by rw[bV,aI]
 refine⟨⟨b,0,none⟩,w,q,?_,?_,?_⟩
 ·rw[p]
  refine .inr ⟨_,rfl,fun j D=>?_⟩
  rw[bV];exact iX hc (by rw[dy];omega)
 ·rw[p,j1 (f x) h 0 (k*c) _ hc v]
  refine⟨by simp;omega,i,g,.inr ⟨b,e,w,q,?_,?_⟩⟩
  ·rw[jt hc,d]
   congr 3
   rw[cW,au A,List.take_left' n,←List.drop_drop,cF n,au X,cF (by omega)];simp only[au]
  ·exact y
 ·rw[p,j1 (f x) h 0 (k*c) _ hc v]
  exact Upd.set h _ rfl
theorem OwnN.node{M W:Nat→Prop}{h:ae}{b d n:Nat}{sp sk:SliceV}{s:Slots}{ow:Option Addr}(o:OwnN M h b d n sp sk s ow)(c:∀x,M x→¬W x)(a:OwOk W h ow:=by exact lm):NodeAt W h b s:=by
 obtain⟨A,B,f,e,i,g⟩:=o.ex;exact⟨⟨d,n,sp,sk,ow,o.blk,o.bits,f.sl fun x hx _=>c _ (i x hx).1,e.sl fun x hx _=>c _ (g x hx).1,f.cap,e.cap,a⟩,c _ o.mb⟩
theorem Et{W:Nat→Prop}{h:ae}{b:Nat}{s:Slots}(a:NodeAt W h b s){i:Nat}(hi:i<32){K:Bool→ae→Prop}(c:K true h):HC PG jy [.pointer (some ⟨b,0,none⟩),.int .i64 i] [.c .bool] K h:=by
 obtain⟨d,n,sp,sk,ow,e,_⟩:=a.ex;refine AI _ i ?_;unfold tC f9;refine ax.2 ⟨_,rfl,_,eC (i:=4) e,ax.2 ?_⟩;refine aB (fun _=>?_) fun h=>absurd (Int.natCast_nonneg i) h
 rw[decide_eq_true (by omega)];exact c
theorem NN{β:Type}{g:Nat→Option β}{i:Nat}{x y:Option β}:upd (upd g i x) i y=upd g i y:=by
 funext j;unfold upd;split<;>rfl
theorem gK{β:Type}{g:Nat→Option β}{i:Nat}{x:Option β}:upd g i x i=x:=by simp[upd]
end Go.Proofs
namespace Go.Proofs
open Go.Lift
end Go.Proofs
namespace Go.Proofs
open Go.Lift
theorem Ii{h:ae}{b d n:Nat}{sp sk:SliceV}{a:Bool}{ow:Option Addr}(e:h[b]? =some (.cells (fR d n sp sk a ow) bT (0,0))) {K:Int→ae→Prop} (c:K (d:Int) h):HC PG j5 [.pointer (some ⟨b,0,none⟩)] [.c (.int .u32)] K h:=by
 refine B6 _ ?_;unfold uR ig;exact al.2 ⟨_,rfl,_,eC (i:=0) e,c⟩
theorem zX{h:ae}{b d n:Nat}{sp sk:SliceV}{a:Bool}{ow:Option Addr}(e:h[b]? =some (.cells (fR d n sp sk a ow) bT (0,0))) {K:Int→ae→Prop} (c:K (n:Int) h):HC PG gp [.pointer (some ⟨b,0,none⟩)] [.c (.int .u32)] K h:=by
 refine AK _ ?_;unfold tE ig;exact al.2 ⟨_,rfl,_,eC (i:=1) e,c⟩
theorem iM{h:ae}{b d n:Nat}{sp sk:SliceV}{a:Bool}{ow:Option Addr}(e:h[b]? =some (.cells (fR d n sp sk a ow) bT (0,0))) {K:Bool→ae→Prop} (c:K a h):HC PG eD [.pointer (some ⟨b,0,none⟩)] [.c .bool] K h:=by
 refine wU _ ?_;unfold qv f9;exact ax.2 ⟨_,rfl,_,eC (i:=4) e,c⟩
def BD(o:Option Pr):Pr:=o.getD (⟨#[]⟩,⟨#[]⟩)
theorem Cm{h:ae}{b:Nat}{q p:Pr}(a:h[b]? =some (.cells #[.string q.1,.string q.2] ar (0,0))) {k:ae→Prop}
  (d:∀h',h'[b]? =some (.cells #[.string p.1,.string p.2] ar (0,0))→Upd (· =b) h h'→k h'):uD h (some ⟨b,0,none⟩) 0 [.string p.1,.string p.2]∧At (iC h ⟨b,0,none⟩ 0 [.string p.1,.string p.2]) k:=by
 have e:=j1 [.string p.1,.string p.2] h 0 0 [.string q.1,.string q.2] a (by simp);refine⟨.inr ⟨_,rfl,fun j c=>by rw[bV];exact iX a (by simp at c⊢;omega)⟩,bU ?_⟩
 rw[e];refine d _ ?_ (Upd.set h _ rfl);rw[jt a];rfl
theorem Eh{W:Nat→Prop}{h:ae}{b:Nat}{s:Slots}(A:NodeAt W h b s){i:Nat}(hi:i<32){K:Pr×Bool→ae→Prop}(k:∀h',Upd No h h'→K (BD (s.p i),(s.p i).isSome) h'):
  HC PG j2 [.pointer (some ⟨b,0,none⟩),.int .i64 i] [.agg [.str,.str],.c .bool] K h:=by
 refine B4 _ i ?_;unfold uP cQ aY eP jU im ay bD ig nI;obtain⟨d,n,sp,sk,ow,w,bits,g,u,v,t⟩:=A.ex;have k1:=Upd.hnew No h [.string (⟨#[]⟩:ByteArray),.string (⟨#[]⟩:ByteArray)] ar;have b1:=cO h [.string (⟨#[]⟩:ByteArray),.string (⟨#[]⟩:ByteArray)] ar;refine bU ?_;simp only[fE h];generalize hnew h [.string (⟨#[]⟩:ByteArray),.string (⟨#[]⟩:ByteArray)] ar=h1 at k1 b1
 have c:=k1.get0 w;have j:h1[h.size]? =some (.cells #[.string Hl.1,.string Hl.2] ar (0,0)):=b1;refine Ii c (BC bits.d32 hi ?_);rw[bits.dp i hi];cases hp:s.p i with
 |none=>
  rw[hp]at k;refine ax.2 (Cm (p:=Hl) j fun o b2 e=>⟨_,by rw[bV,bl b2];rfl,_,by rw[bV,bl b2];rfl,k _ (k1.trans e fun x hx=>.inr (fH hx.symm))⟩)
 |some y=>
  rw[hp]at k;refine al.2 ⟨_,rfl,sp,eC (i:=2) c,_,rfl,_,eC (i:=0) c,pZ bits.d32 hi ⟨eC (i:=2) c,?_⟩⟩;have z:=GX hi bits.dp hp;have f:=g.upd k1 fun _ h=>h.elim
  obtain⟨a,q,_,hv⟩:=f.at (Rx hi bits.dp hp);have m:=g.len;refine⟨by omega,a,q,y.1,hv 0 _ rfl,y.2,hv 1 _ rfl,?_⟩;refine Cm (p:=y) j fun o b2 e=>⟨_,by rw[bV,bl b2];rfl,_,by rw[bV,bl b2];rfl,k _ (k1.trans e fun x hx=>.inr (fH hx.symm))⟩
theorem H1{W:Nat→Prop}{h:ae}{b:Nat}{s:Slots}(q:NodeAt W h b s){i:Nat}(hi:i<32){K:Option Addr×Bool→ae→Prop}(f:K ((s.k i).getD none,(s.k i).isSome) h):
  HC PG jo [.pointer (some ⟨b,0,none⟩),.int .i64 i] [.c .ptr,.c .bool] K h:=by
 refine C5 _ i ?_;unfold wa bR cQ bD ig nI;obtain⟨d,n,sp,sk,ow,e,bits,m,c,o,k⟩:=q.ex;refine zX e (BC bits.n32 hi ?_);rw[bits.nk i hi];cases hp:s.k i with
 |none=>rw[hp]at f;exact ax.2 f
 |some y=>
  rw[hp]at f;refine al.2 ⟨_,rfl,sk,eC (i:=3) e,_,rfl,_,eC (i:=1) e,pZ bits.n32 hi ⟨eC (i:=3) e,?_⟩⟩;have p:=GX hi bits.nk hp;obtain⟨a,j,_,hv⟩:=c.at (Rx hi bits.nk hp);have g:=c.len;exact⟨by omega,a,j,y,hv 0 _ rfl,f⟩
theorem oH{W:Nat→Prop}{h:ae}{b d n:Nat}{sp sk:SliceV}{c:Bool}{ow:Option Addr}{l:List Pr}(a:h[b]? =some (.cells (fR d n sp sk c ow) bT (0,0))) (f:Sl eg 2 W h sp l) (g:l.length≤1000000000) {K:SliceV→ae→Prop}
  (e:∀s' h',OwnS eg 2 ar (fun x=>h.size≤x) h' s' l→Upd No h h'→K s' h'):HC PG fa [.pointer (some ⟨b,0,none⟩)] [.c .slice] K h:=by
 refine sY _ ?_;unfold o9 bD;exact al.2 ⟨_,rfl,sp,eC (i:=2) a,xx f (by omega) e⟩
theorem Dk{W:Nat→Prop}{h:ae}{b d n:Nat}{sp sk:SliceV}{c:Bool}{ow:Option Addr}{l:List (Option Addr)}(a:h[b]? =some (.cells (fR d n sp sk c ow) bT (0,0))) (f:Sl p6 1 W h sk l) (g:l.length≤1000000000) {K:SliceV→ae→Prop}
  (e:∀s' h',OwnS p6 1 bO (fun x=>h.size≤x) h' s' l→Upd No h h'→K s' h'):HC PG j3 [.pointer (some ⟨b,0,none⟩)] [.c .slice] K h:=by
 refine uE _ ?_;unfold pQ bD;exact al.2 ⟨_,rfl,sk,eC (i:=3) a,G9 f (by omega) e⟩
structure BuckAt(W:Nat→Prop)(h:ae)(b:Nat)(l:List Pr):Prop where
 ex:∃sp sk ow,h[b]? =some (.cells (fR 0 0 sp sk true ow) bT (0,0))∧Sl eg 2 W h sp l∧Sl p6 1 W h sk []∧sp.len≤sp.cap∧sk.len≤sk.cap∧OwOk W h ow
 nw:¬W b
theorem BuckAt.upd{W M:Nat→Prop}{h c:ae}{b:Nat}{l:List Pr}(n:BuckAt W h b l)(k:Upd M h c)(hm:∀b,M b→W b∨h.size≤b):BuckAt W c b l:=by
 obtain⟨sp,sk,ow,a,g,d,e,j,i⟩:=n.ex;exact⟨⟨sp,sk,ow,k.get a (fun f=>(hm _ f).elim n.nw fun h=>by have:=aN a;omega),g.upd k hm,d.upd k hm,e,j,i.upd k hm⟩,n.nw⟩
theorem U9{W:Nat→Prop}{h:ae}{b:Nat}{l:List Pr}(x:BuckAt W h b l)(n:cx l)(p:l.length≤1000000000)(k:ByteArray){K:ByteArray×Bool→ae→Prop}
  (i:∀h' v,Upd No h h'→(cp l k=true→(k,v)∈l)→(cp l k=false→v=⟨#[]⟩)→K (v,cp l k) h'):HC PG rN [.pointer (some ⟨b,0,none⟩),.string k] [.c .str,.c .bool] K h:=by
 refine Nu _ k ?_;unfold Fs cQ aY Bh;obtain⟨sp,sk,ow,t,j,u,w,y⟩:=x.ex;refine oH t j p fun s q m f=>?_
 have c:Sl eg 2 No q s l:=m.sl fun _ _ _ h=>h
 refine Ib c n p k fun A d=>?_
 cases ht:cp l k with
 |false=>rw[ht]at i;exact ax.2 (i _ _ (f.tr d) (fun h=>by cases h) fun _=>rfl)
 |true=>
  rw[ht]at i;obtain⟨g,e⟩:=HR n ht;obtain⟨a,z,_,hv⟩:=(c.upd d fun _ h=>h.elim).at (af g)
  have o:=c.len;refine al.2 ⟨by simp only;omega,a,z,_,hv 1 _ rfl,i _ _ (f.tr d) (fun _=>?_) fun h=>by cases h⟩
  have:(k,l[nM l k].2)=l[nM l k]:=Prod.ext e.symm rfl;rw[this];exact aU g
theorem Uo{W:Nat→Prop}{h:ae}{b:Nat}{l:List Pr}(c:BuckAt W h b l)(i:cx l)(f:l.length≤1000000000)(k:ByteArray){K:ByteArray×Bool→ae→Prop}
 (g:∀a v,Upd No h a→(cp l k=true→(k,v)∈l)→K (v,cp l k) a):HC PG rN [.pointer (some ⟨b,0,none⟩),.string k] [.c .str,.c .bool] K h:=U9 c i f k fun a v e d _=>g a v e d
end Go.Proofs
namespace Go.Proofs
open Go.Lift
theorem PM{W:Nat→Prop}{h:ae}(a:∀x,W x→x<h.size){K:Option Addr→ae→Prop}(b:∀h' b',BuckAt W h' b' []→Upd No h h'→K (some ⟨b',0,none⟩) h'):HC PG ud [] [.c .ptr] K h:=by
 refine F7 ?_;unfold yn;exact b _ _ ⟨⟨⟨none,0,0⟩,⟨none,0,0⟩,none,cO h _ _,Sl.nil g9,Sl.nil qD,aj _,aj _,lm⟩,fun hx=>Nat.lt_irrefl _ (a _ hx)⟩ (Upd.hnew No h _ _)
theorem vh{W:Nat→Prop}{h:ae}(b:∀x,W x→x<h.size){K:Option Addr→ae→Prop}(e:∀h' b',NodeAt W h' b' ⟨fun _=>none,fun _=>none⟩→Upd No h h'→K (some ⟨b',0,none⟩) h'):HC PG oT [] [.c .ptr] K h:=by
 refine IU ?_;unfold A0 Qd;have a:fm (fun _=>(none:Option Pr)) 32= []:=by simp[fm]
 have d:fm (fun _=>(none:Option (Option Addr))) 32= []:=by simp[fm]
 refine e _ _ ⟨⟨0,0,⟨none,0,0⟩,⟨none,0,0⟩,none,cO h _ _,⟨by decide,by decide,fun c _=>by simp,fun c _=>by simp⟩,?_,?_,aj _,aj _,lm⟩,fun hx=>Nat.lt_irrefl _ (b _ hx)⟩ (Upd.hnew No h _ _)
 ·show Sl eg 2 W _ _ (fm (fun _=>none) 32)
  rw[a];exact Sl.nil g9
 ·show Sl p6 1 W _ _ (fm (fun _=>none) 32)
  rw[d];exact Sl.nil qD
end Go.Proofs
namespace Go.Proofs
open Go.Lift
def gA(p:Pr):List Pr→List Pr
 | []=> [p]
 |q::l=>if kl q.1 p.1 then q::gA p l else if q.1=p.1 then p::l else p::q::l
theorem gP(p q:Pr)(l:List Pr):gA p (q::l)=if kl q.1 p.1 then q::gA p l else if q.1=p.1 then p::l else p::q::l:=rfl
theorem Oe(p:Pr):∀{l:List Pr},cx l→MC l p=gA p l
 | [],_=>by simp[MC,gA,nM,cp]
 |q::l,d=>by
  have d:=ba.1 d;unfold gA;have a:nM (q::l) p.1=if kl q.1 p.1 then nM l p.1+1 else 0:=by
   unfold nM;rw[List.takeWhile_cons];by_cases h:kl q.1 p.1
   ·rw[if_pos (by simpa using h),if_pos h];rfl
   ·rw[if_neg (by simpa using h),if_neg h];rfl
  have c:cp (q::l) p.1=(decide (q.1=p.1)||cp l p.1):=by unfold cp;rw[List.any_cons]
  by_cases h:kl q.1 p.1
  ·have g:q.1≠p.1:=fun e=>by rw[e]at h;exact cD _ h
   rw[if_pos h,←Oe p d.2];unfold MC;rw[c,a,if_pos h,decide_eq_false g,Bool.false_or];by_cases b:cp l p.1=true
   ·rw[if_pos b,if_pos b];rfl
   ·rw[if_neg b,if_neg b];rfl
  ·rw[if_neg h]
   unfold MC;rw[c,a,if_neg h];by_cases e:q.1=p.1
   ·rw[if_pos e,decide_eq_true e,Bool.true_or,if_pos rfl];rfl
   ·have j:=qE h e
    have b:cp l p.1=false:=by
     unfold cp;rw[List.any_eq_false];intro r f i;have i:=of_decide_eq_true i;have:=d.1 r f;rw[i]at this;exact cD _ (iB j this)
    rw[if_neg e,decide_eq_false e,b];rfl
theorem wx{p q:Pr}:∀{l:List Pr},q∈gA p l→q=p∨q∈l
 | [],h=>by simp[gA]at h;exact .inl h
 |r::l,h=>by
  unfold gA at h;split at h
  ·rcases aw.1 h with h|h
   ·exact .inr (h▸av ..)
   ·exact(wx h).imp id fun h=>aL _ h
  ·split at h
   ·rcases aw.1 h with h|h
    ·exact .inl h
    ·exact .inr (aL _ h)
   ·rcases aw.1 h with h|h
    ·exact .inl h
    ·exact .inr h
theorem xh(p:Pr):∀{l:List Pr},cx l→cx (gA p l)
 | [],_=>List.pairwise_singleton ..
 |q::l,a=>by
  have c:=a;have a:=ba.1 a;unfold gA;split
  ·rename_i h
   refine ba.2 ⟨fun r hm=>?_,xh p a.2⟩
   rcases wx hm with rfl|hm
   ·exact h
   ·exact a.1 r hm
  ·rename_i h
   split
   ·rename_i e
    exact ba.2 ⟨fun r hm=>e▸a.1 r hm,a.2⟩
   ·rename_i e
    have b:=qE h e;refine ba.2 ⟨fun r hm=>?_,c⟩
    rcases aw.1 hm with rfl|hm
    ·exact b
    ·exact iB b (a.1 r hm)
theorem Ey(p:Pr)(g:ByteArray→Bool):∀{l:List Pr},cx l→(gA p l).filter (fun q=>g q.1)=if g p.1 then gA p (l.filter fun q=>g q.1)else l.filter fun q=>g q.1
 | [],_=>by
  unfold gA;rw[cE,List.filter_nil]
 |q::l,d=>by
  have i:=d;have d:=ba.1 d;have j:=Ey p g d.2;rw[gP];by_cases h:kl q.1 p.1
  ·rw[if_pos h,cE,cE,j]
   by_cases f:g q.1=true
   ·rw[if_pos f,if_pos f]
    split
    ·rw[gP,if_pos h]
    ·rfl
   ·rw[if_neg f,if_neg f]
  ·rw[if_neg h]
   by_cases e:q.1=p.1
   ·rw[if_pos e,cE,cE,e]
    by_cases a:g p.1=true
    ·rw[if_pos a,if_pos a,if_pos a,gP,if_neg h,if_pos e]
    ·rw[if_neg a,if_neg a,if_neg a]
   ·rw[if_neg e]
    have c:=qE h e;rw[cE];by_cases a:g p.1=true
    ·rw[if_pos a,if_pos a]
     have:∀r∈(q::l).filter (fun q=>g q.1),kl p.1 r.1:=fun r hm=>by
      rcases aw.1 (d9.1 hm).1 with rfl|hm
      ·exact c
      ·exact iB c (d.1 r hm)
     cases hf:(q::l).filter (fun q=>g q.1)with
     |nil=>rfl
     |cons r rs=>
      have b:=this r (by rw[hf];exact av ..);rw[gP,if_neg fun k=>cD _ (iB b k),if_neg fun e=>by rw[e]at b;exact cD _ b]
    ·rw[if_neg a,if_neg a]
theorem Dl{p:Pr}:∀{l:List Pr},cx l→p∈l→gA p l=l
 |q::l,a,hm=>by
  have a:=ba.1 a;unfold gA;rcases aw.1 hm with rfl|hm
  ·rw[if_neg (cD _),if_pos rfl]
  ·rw[if_pos (a.1 p hm),Dl a.2 hm]
def ck(x:Hs)(lev:Nat)(k:ByteArray):Nat:=((me x k).toNat>>>(5*lev))%32
theorem x8(x:Hs)(lev:Nat)(k:ByteArray):ck x lev k<32:=od _ (by omega)
def part(x:Hs)(lev c:Nat)(l:List Pr):List Pr:=l.filter fun p=>decide (ck x lev p.1=c)
def TrieAt(W:Nat→Prop)(x:Hs)(h:ae):Nat→Nat→List Pr→Prop
 |0,b,l=>BuckAt W h b l
 |m+1,b,l=>∃s,NodeAt W h b s∧∀c,c<32→
  ((part x (12-m) c l= []∧s.p c=none∧s.k c=none)∨(∃p,part x (12-m) c l= [p]∧s.p c=some p∧s.k c=none)∨
   (2≤(part x (12-m) c l).length∧s.p c=none∧∃kb,s.k c=some (some ⟨kb,0,none⟩)∧TrieAt W x h m kb (part x (12-m) c l)))
theorem TrieAt.upd0{W:Nat→Prop}{x:Hs}{h d:ae}(k:Upd No h d):∀{m b:Nat} {l:List Pr},TrieAt W x h m b l→TrieAt W x d m b l
 |0,_,_,t=>BuckAt.upd t k fun _ h=>h.elim
 |m+1,_,_,⟨s,nd,hc⟩=>⟨s,nd.upd k fun _ h=>h.elim,fun c a=>(hc c a).imp id fun o=>o.imp id fun⟨f,e,j,i,g⟩=>⟨f,e,j,i,TrieAt.upd0 k g⟩⟩
theorem NodeAt.less{W W':Nat→Prop}{h:ae}{b:Nat}{s:Slots}(n:NodeAt W h b s)(hm:∀b,W' b→W b∨h.size≤b):NodeAt W' h b s:=by
 obtain⟨d,m,sp,sk,ow,a,c,g,e,f,j,i⟩:=n.ex;exact⟨⟨d,m,sp,sk,ow,a,c,g.less hm,e.less hm,f,j,i.less hm⟩,fun hx=>(hm _ hx).elim n.nw fun h=>by have:=aN a;omega⟩
theorem BuckAt.less{W W':Nat→Prop}{h:ae}{b:Nat}{l:List Pr}(n:BuckAt W h b l)(hm:∀b,W' b→W b∨h.size≤b):BuckAt W' h b l:=by
 obtain⟨sp,sk,ow,a,e,c,d,g,f⟩:=n.ex;exact⟨⟨sp,sk,ow,a,e.less hm,c.less hm,d,g,f.less hm⟩,fun hx=>(hm _ hx).elim n.nw fun h=>by have:=aN a;omega⟩
theorem TrieAt.less{W W':Nat→Prop}{x:Hs}{h:ae}(hm:∀b,W' b→W b∨h.size≤b):∀{m b:Nat} {l:List Pr},TrieAt W x h m b l→TrieAt W' x h m b l
 |0,_,_,t=>BuckAt.less t hm
 |m+1,_,_,⟨s,nd,hc⟩=>⟨s,nd.less hm,fun c a=>(hc c a).imp id fun o=>o.imp id fun⟨e,d,i,g,f⟩=>⟨e,d,i,g,TrieAt.less hm f⟩⟩
theorem TrieAt.updM{W M:Nat→Prop}{x:Hs}{h d:ae}(k:Upd M h d)(hm:∀b,M b→W b∨h.size≤b):∀{m b:Nat} {l:List Pr},TrieAt W x h m b l→TrieAt W x d m b l
 |0,_,_,t=>BuckAt.upd t k hm
 |m+1,_,_,⟨s,nd,hc⟩=>⟨s,nd.upd k hm,fun c a=>(hc c a).imp id fun o=>o.imp id fun⟨f,e,j,i,g⟩=>⟨f,e,j,i,TrieAt.updM k hm g⟩⟩
end Go.Proofs
namespace Go.Proofs
open Go.Lift
def By(h:ae)(w o:Option Addr):Prop:=(w=none∧o=none)∨∃b pl id lv,w=some ⟨b,0,none⟩∧h[b]? =some (.cells #[.pointer pl,.int .i64 id,.bool lv] pW (0,0))∧o=if lv then w else none
theorem By.upd{M:Nat→Prop}{h a:ae}{w o:Option Addr}(t:By h w o)(k:Upd M h a)(hm:∀b,w=some ⟨b,0,none⟩→M b→h.size≤b):By a w o:=by
 rcases t with t|⟨b,d,id,lv,e,c,f⟩
 ·exact .inl t
 ·exact .inr ⟨b,d,id,lv,e,k.get c (fun hM=>by have:=hm b e hM;have:=aN c;omega),f⟩
theorem By.upd0{h a:ae}{w o:Option Addr}(t:By h w o)(k:Upd No h a):By a w o:=t.upd k fun _ _ h=>h.elim
theorem By.tok{h:ae}{w o:Option Addr}(t:By h w o){a:Addr}(e:o=some a):w=some a:=by
 rcases t with⟨_,d⟩|⟨b,g,id,lv,f,i,c⟩
 ·rw[d]at e;cases e
 ·rw[e]at c;split at c
  ·exact c.symm
  ·cases c
theorem By.plain{h:ae}{w o:Option Addr}(t:By h w o)(a:Addr)(e:w=some a):eY h a:=by
 rcases t with⟨d,_⟩|⟨b,g,id,lv,c,f,i⟩
 ·rw[d]at e;cases e
 ·rw[c]at e;cases e;exact⟨_,_,f,by simp⟩
theorem Di{h:ae}{w o:Option Addr}(t:By h w o){K:Bool→ae→Prop}(a:K o.isSome h):HC PG gQ [.pointer w] [.c .bool] K h:=by
 refine y7 w ?_;unfold rT f9;rcases t with⟨rfl,rfl⟩|⟨b,d,id,lv,rfl,c,rfl⟩
 ·exact al.2 a
 ·refine ax.2 ⟨_,rfl,lv,eC (i:=2) c,?_⟩
  cases lv<;>exact a
theorem JZ{h:ae}{w o:Option Addr}{b d n:Nat}{sp sk:SliceV}{g:Bool}{ow:Option Addr}(t:By h w o)(f:h[b]? =some (.cells (fR d n sp sk g ow) bT (0,0))) (e:∀a,ow=some a→eY h a) {K:Bool→ae→Prop} (c:K (o.isSome&&(ow==w)) h):
  HC PG oQ [.pointer (some ⟨b,0,none⟩),.pointer w] [.c .bool] K h:=by
 refine AJ _ w ?_;unfold tD vN;refine ax.2 (Di t ?_);cases o with
 |none=>exact al.2 c
 |some a=>exact ax.2 ⟨_,rfl,ow,eC (i:=5) f,trivial,fun x y hx j=>⟨e x hx,t.plain y j⟩,c⟩
set_option maxRecDepth 4000 in
theorem N2{W:Nat→Prop}{h:ae}{w o:Option Addr}{b d n:Nat}{sp sk:SliceV}{f:Bool}{ow:Option Addr}{X:List Pr}{lk:List (Option Addr)}(t:By h w o)(g:h[b]? =some (.cells (fR d n sp sk f ow) bT (0,0)))
  (hp:∀a,ow=some a→eY h a) (Y:(o.isSome&&(ow==w))=false) (Q:Sl eg 2 W h sp X) (O:Sl p6 1 W h sk lk) (hlp:X.length≤1000000000) (hlk:lk.length≤1000000000) {K:Option Addr→ae→Prop}
  (hk:∀m sp' sk' (A B:Nat→Prop),m[h.size]? =some (.cells (fR d n sp' sk' f o) bT (0,0))→OwnS eg 2 ar A m sp' X→OwnS p6 1 bO B m sk' lk→(∀x,A x→h.size<x∧¬B x∧x<m.size)→(∀x,B x→h.size<x∧x<m.size)→Upd No h m→K (some ⟨h.size,0,none⟩) m):
  HC PG fA [.pointer (some ⟨b,0,none⟩),.pointer w] [.c .ptr] K h:=by
 refine vU _ w ?_;unfold qM nv vJ cY bD f9 vN ig Qd UA;refine JZ t g hp ?_;rw[Y];refine al.2 ?_;have c:∀{h:ae} {b:Nat} {c:Array Value} {i:Nat},h[b]? =some (.cells c bT (0,0))→aJ h ⟨b,0+i,none⟩=c[i]?:=fun g=>by rw[aI];exact bl g
 refine⟨_,rfl,_,c (i:=0) g,_,c (i:=1) g,sp,c (i:=2) g,sk,c (i:=3) g,_,c (i:=4) g,_,c (i:=5) g,?_⟩;have k1:=Upd.hnew No h [.int .u32 0,.int .u32 0,.slice none 0 0,.slice none 0 0,.bool false,.pointer none] bT;have b1:=cO h [.int .u32 0,.int .u32 0,.slice none 0 0,.slice none 0 0,.bool false,.pointer none] bT;refine bU ?_;simp only[fE h];generalize hnew h [.int .u32 0,.int .u32 0,.slice none 0 0,.slice none 0 0,.bool false,.pointer none] bT=h1 at k1 b1
 have T:iC h1 ⟨h.size,0,none⟩ 0 [.int .u32 (d:Int),.int .u32 (n:Int),.slice sp.a sp.len sp.cap,.slice sk.a sk.len sk.cap,.bool f,.pointer ow]=_:=j1 _ h1 0 0 _ b1 (by simp);refine⟨.inr ⟨_,rfl,fun j hj=>by rw[bV];exact iX b1 (by simp at hj⊢;omega)⟩,bU ?_⟩
 rw[T];have b2:=jt (o:=.cells (fR d n sp sk f ow) bT (0,0)) b1;have E:Upd No h _:=k1.trans (M':=(· =h.size)) (Upd.set h1 (.cells (fR d n sp sk f ow) bT (0,0)) rfl) fun x hx=>.inr (fH hx.symm)
 have P:h.size<(h1.setIfInBounds h.size (.cells (fR d n sp sk f ow) bT (0,0))).size:=aN b2;have e2:(Obj.cells (List.take (0+0) [Value.int .u32 0,.int .u32 0,.slice none 0 0,.slice none 0 0,.bool false,.pointer none]++ [Value.int .u32 (d:Int),.int .u32 (n:Int),.slice sp.a sp.len sp.cap,.slice sk.a sk.len sk.cap,.bool f,.pointer ow]++List.drop (0+0+ [Value.int .u32 (d:Int),.int .u32 (n:Int),.slice sp.a sp.len sp.cap,.slice sk.a sk.len sk.cap,.bool f,.pointer ow].length) [Value.int .u32 0,.int .u32 0,.slice none 0 0,.slice none 0 0,.bool false,.pointer none]).toArray bT (0,0))=.cells (fR d n sp sk f ow) bT (0,0):=rfl
 rw[e2];generalize h1.setIfInBounds h.size (.cells (fR d n sp sk f ow) bT (0,0))=h2 at b2 E P;have C:=E.get0 g;refine⟨_,rfl,sp,c (i:=2) C,_,rfl,sk,c (i:=3) C,?_⟩;refine xx (Q.upd E fun _ h=>h.elim) (by omega) fun D h3 Z s=>?_
 refine⟨c (i:=3) (s.get0 C),?_⟩;refine G9 ((O.upd E fun _ h=>h.elim).upd s fun _ h=>h.elim) (by omega) fun G h4 U u=>?_
 have b4:=u.get0 (s.get0 b2);have H:=Z.within.upd u fun _ _ h=>h
 have I:=U.within;have z3:=s.size;have z4:=u.size;have M:∀{h:ae} {c:Array Value} {x i:Nat},h[x]? =some (.cells c bT (0,0))→i<c.size→Wr h ⟨x,0+i,none⟩:=fun g hi=>by rw[aI];exact iX g hi
 have L:∀{h:ae} {c c':Array Value} {x i:Nat} {v:Value} {k:ae→Prop},h[x]? =some (.cells c bT (0,0))→c.setIfInBounds i v=c'→(∀m,m[x]? =some (.cells c' bT (0,0))→Upd (· =x) h m→k m)→At (hset h ⟨x,i,none⟩ v) k:=fun g e hk=>vB g fun m N hu=>hk m (e▸N) hu
 refine⟨M (i:=2) b4 (show 2<6 by decide),L (i:=2) (c':=fR d n D sk f ow) b4 rfl fun h5 b5 hu5=>?_⟩
 refine⟨M (i:=3) b5 (show 3<6 by decide),L (i:=3) (c':=fR d n D G f ow) b5 rfl fun h6 b6 S=>?_⟩
 refine⟨M (i:=5) b6 (show 5<6 by decide),L (i:=5) (c':=fR d n D G f none) b6 rfl fun h7 V R=>?_⟩
 have p:=hu5.tr (S.tr R);have z7:=p.size;have J:Upd No h h7:=((E.tr s).tr u).trans p fun x hx=>.inr (fH hx.symm)
 have t7:=t.upd0 J;have y:∀{F:ae},F[h.size]? =some (.cells (fR d n D G f o) bT (0,0))→Upd (· =h.size) h7 F→K (some ⟨h.size,0,none⟩) F:=fun{F} b8 q=>by
  have z:=p.tr q;have z8:=q.size;exact hk _ D G (fun x=>h2.size≤x∧x<h3.size) (fun x=>h3.size≤x∧x<h4.size) b8 (H.upd z fun x hx e=>by have e:x=h.size:=e;omega) (I.upd z fun x hx e=>by have e:x=h.size:=e;omega) (fun x hx=>⟨by omega,by omega,by omega⟩) (fun x hx=>⟨by omega,by omega⟩) (J.trans q fun x hx=>.inr (fH hx.symm))
 refine Di t7 ?_;cases ho:o with
 |none=>rw[ho]at y;exact al.2 (y V (Upd.refl _ _))
 |some a=>
  rw[ho]at y;rw[t.tok ho];refine ax.2 ⟨M (i:=5) V (show 5<6 by decide),L (i:=5) (c':=fR d n D G f (some a)) V rfl fun F b8 q=>y b8 q⟩
theorem N1{h:ae}{w o:Option Addr}{b d n:Nat}{sp sk:SliceV}{g:Bool}{ow:Option Addr}(t:By h w o)(f:h[b]? =some (.cells (fR d n sp sk g ow) bT (0,0))) (e:∀a,ow=some a→eY h a) (c:(o.isSome&&(ow==w))=true) {K:Option Addr→ae→Prop} (i:K (some ⟨b,0,none⟩) h):
  HC PG fA [.pointer (some ⟨b,0,none⟩),.pointer w] [.c .ptr] K h:=by
 refine vU _ w ?_;unfold qM nv vJ cY bD f9 vN ig Qd UA;refine JZ t f e ?_;rw[c];exact ax.2 i
def NodeO(o:Option Addr)(W:Nat→Prop)(h:ae)(b:Nat)(s:Slots)(S:Nat→Prop):Prop:=
 (NodeAt W h b s∧∀y,¬S y)∨(o.isSome=true∧∃d n sp sk,OwnN S h b d n sp sk s o)
theorem OwnN.mono{M M':Nat→Prop}{h:ae}{b d n:Nat}{sp sk:SliceV}{s:Slots}{ow:Option Addr}(o:OwnN M h b d n sp sk s ow)(hm:∀x,M x→M' x):OwnN M' h b d n sp sk s ow:=by
 obtain⟨A,B,f,e,a,c⟩:=o.ex;exact⟨o.blk,o.bits,⟨A,B,f,e,fun x hx=>⟨hm _ (a x hx).1,(a x hx).2⟩,fun x hx=>⟨hm _ (c x hx).1,(c x hx).2⟩⟩,hm _ o.mb⟩
theorem OwnN.within{M:Nat→Prop}{h:ae}{b d n:Nat}{sp sk:SliceV}{s:Slots}{ow:Option Addr}(o:OwnN M h b d n sp sk s ow):OwnN (fun x=>M x∧x<h.size) h b d n sp sk s ow:=by
 obtain⟨A,B,f,e,a,c⟩:=o.ex;exact⟨o.blk,o.bits,⟨A,B,f,e,fun x hx=>⟨⟨(a x hx).1,(a x hx).2.2.2⟩,(a x hx).2⟩,fun x hx=>⟨⟨(c x hx).1,(c x hx).2.2⟩,(c x hx).2⟩⟩,o.mb,aN o.blk⟩
theorem HT{W S:Nat→Prop}{h:ae}{w o:Option Addr}{b:Nat}{s:Slots}(i:NodeO o W h b s S)(t:By h w o)(J:∀a,o=some a→W a.block){K:Option Addr→ae→Prop}
  (E:∀j p d n sp sk,OwnN (fun y=>S y∨h.size≤y) j p d n sp sk s o→Upd No h j→K (some ⟨p,0,none⟩) j):
  HC PG fA [.pointer (some ⟨b,0,none⟩),.pointer w] [.c .ptr] K h:=by
 rcases i with⟨i,_⟩|⟨D,d,n,sp,sk,i⟩
 ·obtain⟨d,n,sp,sk,ow,G,bits,z,q,I,L,m⟩:=i.ex
  refine N2 t G (fun a e=>(m a e).2) ?_ z q (by have:=vO (g:=s.p);omega) (by have:=vO (g:=s.k);omega) fun j u v A B p H F c f k=>?_
  ·cases ho:o with
   |none=>rfl
   |some a=>
    have e:=t.tok ho;rw[Option.isSome_some,Bool.true_and,beq_eq_false_iff_ne];intro C;rw[e]at C;exact(m a C).1 (J a ho)
  ·exact E j h.size d n u v ⟨p,bits,⟨A,B,H,F,fun x hx=>⟨.inr (by have:=(c x hx).1;omega),(c x hx).2.1,by have:=(c x hx).1;omega,(c x hx).2.2⟩,fun x hx=>⟨.inr (by have:=(f x hx).1;omega),by have:=(f x hx).1;omega,(f x hx).2⟩⟩,.inr (aj _)⟩ k
 ·refine N1 t i.blk (fun a e=>t.plain a (t.tok e)) ?_ (E h b d n sp sk (i.mono fun _ h=>.inl h) (Upd.refl _ _))
  obtain⟨a,e⟩:=dU.1 D;rw[D,e,t.tok e];simp
end Go.Proofs
namespace Go.Proofs
inductive Fo where
 |nil:Fo
 |cons (lab:List UInt8) (val:Option ByteArray) (kids rest:Fo):Fo
abbrev Bn:=List UInt8×Option ByteArray×Fo
def Fo.toL:Fo→List Bn
 | .nil=> []
 | .cons lab w kids rest=>(lab,w,kids)::rest.toL
theorem Fo.toL_cons(lab:List UInt8)(w:Option ByteArray)(a b:Fo):(Fo.cons lab w a b).toL=(lab,w,a)::b.toL:=rfl
def Fo.ofL:List Bn→Fo
 | []=>.nil
 |(lab,w,kids)::l=>.cons lab w kids (Fo.ofL l)
theorem Fo.to_of:∀l:List Bn,(Fo.ofL l).toL=l
 | []=>rfl
 |(_,_,_)::l=>by show _::(Fo.ofL l).toL=_;rw[Fo.to_of l]
theorem Fo.of_to:∀F:Fo,Fo.ofL F.toL=F
 | .nil=>rfl
 | .cons lab w kids rest=>by show Fo.cons lab w kids (Fo.ofL rest.toL)=_;rw[Fo.of_to rest]
def pv:Fo→List UInt8→ByteArray→Prop
 | .nil,_,_=>False
 | .cons lab w kids rest,k,v=>(∃r,k=lab++r∧((r= []∧w=some v)∨pv kids r v))∨pv rest k v
def qy(w:Option ByteArray)(F:Fo)(k:List UInt8)(v:ByteArray):Prop:=(k= []∧w=some v)∨pv F k v
def sy(n:Bn)(k:List UInt8)(v:ByteArray):Prop:=∃r,k=n.1++r∧qy n.2.1 n.2.2 r v
theorem fK:∀{F:Fo} {k:List UInt8} {v:ByteArray},pv F k v↔∃n∈F.toL,sy n k v
 | .nil,_,_=>by simp[pv,Fo.toL]
 | .cons lab w kids rest,k,v=>by
  rw[Fo.toL_cons];unfold pv;rw[fK (F:=rest)];constructor
  ·rintro(h|⟨n,a,h⟩)
   ·exact⟨_,av ..,h⟩
   ·exact⟨n,aL _ a,h⟩
  ·rintro⟨n,a,h⟩
   rcases aw.1 a with rfl|a
   ·exact .inl h
   ·exact .inr ⟨n,a,h⟩
def hd(k:List UInt8):Nat:=(k.headD 0).toNat
theorem oJ{a b:List UInt8}(h:a≠[]):hd (a++b)=hd a:=by
 cases a with
 |nil=>exact absurd rfl h
 |cons x a=>rfl
theorem Uq(a:List UInt8):hd a<256:=UInt8.toNat_lt _
def fG:Fo→Prop
 | .nil=>True
 | .cons lab w kids rest=>lab≠[]∧(w.isSome∨2≤kids.toL.length)∧fG kids∧(∀n∈rest.toL,hd lab<hd n.1)∧fG rest
def Lg(n:Bn):Prop:=n.1≠[]∧(n.2.1.isSome∨2≤n.2.2.toL.length)∧fG n.2.2
theorem eN:∀{F:Fo},fG F↔F.toL.Pairwise (fun m n=>hd m.1<hd n.1)∧∀n∈F.toL,Lg n
 | .nil=>by simp[fG,Fo.toL]
 | .cons lab w kids rest=>by
  rw[Fo.toL_cons,ba];show(lab≠[]∧(w.isSome∨2≤kids.toL.length)∧fG kids∧(∀n∈rest.toL,hd lab<hd n.1)∧fG rest)↔_
  rw[eN (F:=rest)];constructor
  ·rintro⟨f,e,g,c,d,b⟩
   refine⟨⟨c,d⟩,fun n a=>?_⟩
   rcases aw.1 a with rfl|a
   ·exact⟨f,e,g⟩
   ·exact b n a
  ·rintro⟨⟨c,d⟩,b⟩
   have:=b _ (av ..);exact⟨this.1,this.2.1,this.2.2,c,d,fun n a=>b n (aL _ a)⟩
theorem mc:∀{F:Fo},fG F→∀n∈F.toL,∃r v,qy n.2.1 n.2.2 r v
 | .nil,_,n,a=>by simp[Fo.toL]at a
 | .cons lab w kids rest,h,n,a=>by
  rcases aw.1 a with rfl|a
  ·rcases h.2.1 with c|b
   ·obtain⟨v,hv⟩:=dU.1 c
    exact⟨[],v,.inl ⟨rfl,hv⟩⟩
   ·have d:=mc h.2.2.1
    have⟨m,hm⟩:∃m,m∈kids.toL:=by
     cases hl:kids.toL with
     |nil=>rw[hl]at b;simp at b
     |cons m l=>exact⟨m,av ..⟩
    obtain⟨r,v,e⟩:=d m hm;exact⟨m.1++r,v,.inr (fK.2 ⟨m,hm,r,rfl,e⟩)⟩
  ·exact mc h.2.2.2.2 n a
theorem oI{F:Fo}(h:fG F){k:List UInt8}{v:ByteArray}(hi:pv F k v):k≠[]:=by
 obtain⟨n,a,r,rfl,_⟩:=fK.1 hi;have:=((eN.1 h).2 n a).1;intro e;exact this (gv.1 e).1
theorem qF{F:Fo}(h:fG F){k:List UInt8}{v:ByteArray}(hi:pv F k v):∃n∈F.toL,hd n.1=hd k∧sy n k v:=by
 obtain⟨n,a,r,e,b⟩:=fK.1 hi;exact⟨n,a,by rw[e,oJ ((eN.1 h).2 n a).1],r,e,b⟩
theorem xz{F:Fo}(h:fG F){m n:Bn}(hm:m∈F.toL)(f:n∈F.toL)(e:hd m.1=hd n.1):m=n:=by
 have c:=(eN.1 h).1;revert hm f;generalize F.toL=l at*;clear h;induction l with
 |nil=>intro hm;simp at hm
 |cons a l ih=>
  have c:=ba.1 c;intro hm f;rcases aw.1 hm with i|d
  ·rcases aw.1 f with g|b
   ·rw[i,g]
   ·have:=c.1 n b;rw[←i]at this;omega
  ·rcases aw.1 f with g|b
   ·have:=c.1 m d;rw[←g]at this;omega
   ·exact ih c.2 d b
def Br(P:List UInt8→ByteArray→Prop):Prop:=(∃v,P [] v)∨∃j k u v,P j u∧P k v∧j≠[]∧k≠[]∧hd j≠hd k
theorem EN{w:Option ByteArray}{F:Fo}(h:fG F):(w.isSome∨2≤F.toL.length)↔Br (qy w F):=by
 constructor
 ·rintro(y|x)
  ·obtain⟨v,hv⟩:=dU.1 y
   exact .inl ⟨v,.inl ⟨rfl,hv⟩⟩
  ·right
   have c:=mc h;have hc:=eN.1 h;match hL:F.toL,x with
   |a::b::l,_=>
    have f:a∈F.toL:=by rw[hL];simp
    have g:b∈F.toL:=by rw[hL];simp
    obtain⟨r,v,C⟩:=c a f;obtain⟨s,u,c⟩:=c b g;have p:=(hc.2 a f).1;have o:=(hc.2 b g).1;have:=hc.1;rw[hL]at this;have D:=(ba.1 this).1 b (av ..);refine⟨a.1++r,b.1++s,v,u,.inr (fK.2 ⟨a,f,r,rfl,C⟩),.inr (fK.2 ⟨b,g,s,rfl,c⟩),?_,?_,?_⟩
    ·intro e;exact p (gv.1 e).1
    ·intro e;exact o (gv.1 e).1
    ·rw[oJ p,oJ o];omega
 ·rintro(⟨v,hv⟩|⟨j,k,u,v,d,i,B,nk,t⟩)
  ·rcases hv with⟨_,hv⟩|hv
   ·left;rw[hv];rfl
   ·exact absurd rfl (oI h hv)
  ·right
   rcases d with⟨e,_⟩|d
   ·exact absurd e B
   rcases i with⟨e,_⟩|i
   ·exact absurd e nk
   obtain⟨m,hm,A,_⟩:=qF h d;obtain⟨n,q,z,_⟩:=qF h i;match hL:F.toL with
   | []=>rw[hL]at hm;simp at hm
   | [a]=>
    rw[hL]at hm q;rw[aq.1 hm]at A;rw[aq.1 q]at z;omega
   |a::b::l=>simp
end Go.Proofs
namespace Go.Proofs
theorem Of{m n:Bn}(i:Br (qy m.2.1 m.2.2))(h:∀k v,sy m k v→sy n k v):∃t,m.1=n.1++t:=by
 rcases i with⟨v,hv⟩|⟨j,k,u,v,g,o,p,nk,b⟩
 ·obtain⟨r,e,_⟩:=h m.1 v ⟨[],(bh _).symm,hv⟩
  exact⟨r,e⟩
 ·obtain⟨r,e,_⟩:=h (m.1++j) u ⟨j,rfl,g⟩
  obtain⟨s,f,_⟩:=h (m.1++k) v ⟨k,rfl,o⟩;rcases List.append_eq_append_iff.1 e with⟨a,c,d⟩|⟨a,c,d⟩
  ·rw[c,au]at f
   have f:=fi f;cases a with
   |nil=>exact⟨[],by rw[c];simp⟩
   |cons x a=>
    rw[d]at b;rw[f]at b;exact absurd rfl b
  ·exact⟨a,c⟩
theorem MV:∀{F F':Fo},fG F→fG F'→(∀k v,pv F k v↔pv F' k v)→F=F'
 | .nil,.nil,_,_,_=>rfl
 | .nil,.cons lab w b c,_,h,he=>by
  obtain⟨r,v,i⟩:=mc h _ (av ..);exact((he _ v).2 (fK.2 ⟨_,av ..,r,rfl,i⟩)).elim
 | .cons lab w b c,.nil,h,_,he=>by
  obtain⟨r,v,i⟩:=mc h _ (av ..);exact((he _ v).1 (fK.2 ⟨_,av ..,r,rfl,i⟩)).elim
 | .cons lab w b c,.cons d w' a f,h,g,he=>by
  have z:∀{lab w b c} {F:Fo},fG (.cons lab w b c)→fG F→(∀k v,pv F k v→pv (.cons lab w b c) k v)→∀n∈F.toL,hd lab≤hd n.1:=by
   intro lab w b c F h D hi n j;obtain⟨r,v,i⟩:=mc D n j;obtain⟨m,hm,e,_⟩:=qF h (hi _ v (fK.2 ⟨n,j,r,rfl,i⟩));rw[oJ ((eN.1 D).2 n j).1]at e;rcases aw.1 hm with rfl|hm
   ·simp only at e;omega
   ·have:=h.2.2.2.1 m hm;omega
  have O:=z h g (fun k v=>(he k v).2) _ (av ..)
  have N:=z g h (fun k v=>(he k v).1) _ (av ..)
  simp only at O N;have p:hd lab=hd d:=by omega
  have x:∀{lab w b c d w' a f},fG (.cons lab w b c)→fG (.cons d w' a f)→hd lab=hd d→(∀k v,pv (.cons lab w b c) k v→pv (.cons d w' a f) k v)→(∀k v,sy (lab,w,b) k v→sy (d,w',a) k v)∧(∀k v,pv c k v→pv f k v):=by
   intro lab w b c d w' a f h g p hi;refine⟨fun k v o=>?_,fun k v o=>?_⟩
   ·obtain⟨n,j,e,i⟩:=qF g (hi k v (fK.2 ⟨_,av ..,o⟩))
    obtain⟨r,rfl,_⟩:=o;rw[oJ h.1]at e;rw[←xz g j (av ..) (by simp only;omega)];exact i
   ·obtain⟨m,hm,R,_⟩:=qF h.2.2.2.2 o
    have:=h.2.2.2.1 m hm;obtain⟨n,j,e,i⟩:=qF g (hi k v (Or.inr o));rcases aw.1 j with rfl|j
    ·simp only at e;omega
    ·exact fK.2 ⟨n,j,i⟩
  have⟨I,M⟩:=x h g p fun k v=>(he k v).1
  have⟨E,K⟩:=x g h p.symm fun k v=>(he k v).2
  have s:c=f:=MV h.2.2.2.2 g.2.2.2.2 fun k v=>⟨M k v,K k v⟩
  obtain⟨t,B⟩:=Of (m:=(lab,w,b)) (n:=(d,w',a)) ((EN h.2.2.1).1 h.2.1) I;obtain⟨Q,A⟩:=Of (m:=(d,w',a)) (n:=(lab,w,b)) ((EN g.2.2.1).1 g.2.1) E;simp only at B A;have u:lab=d:=by
   have:t= []:=by
    have J:=congrArg eE B;have P:=congrArg eE A;rw[ad]at J P;exact List.length_eq_zero_iff.1 (by omega)
   rw[B,this,bh]
  subst u;have y:∀{w b w' a},(∀k v,sy (lab,w,b) k v→sy (lab,w',a) k v)→∀k v,qy w b k v→qy w' a k v:=by
   intro w b w' a j k v o;obtain⟨r,e,i⟩:=j (lab++k) v ⟨k,rfl,o⟩;rw[fi e];exact i
  have C:=y I;have H:=y E;have L:w=w':=by
   have G:∀{w b w' a},fG a→(∀k v,qy w b k v→qy w' a k v)→∀v,w=some v→w'=some v:=by
    intro w b w' a hc hi v hv;rcases hi [] v (.inl ⟨rfl,hv⟩)with⟨_,h⟩|h
    ·exact h
    ·exact absurd rfl (oI hc h)
   exact Option.ext fun v=>⟨G g.2.2.1 C v,G h.2.2.1 H v⟩
  have kd:∀{w b w' a},fG b→(∀k v,qy w b k v→qy w' a k v)→∀k v,pv b k v→pv a k v:=by
   intro w b w' a hc hi k v o;rcases hi k v (.inr o)with⟨e,_⟩|h
   ·exact absurd e (oI hc o)
   ·exact h
  have q:b=a:=MV h.2.2.1 g.2.2.1 fun k v=>⟨kd h.2.2.1 C k v,kd g.2.2.1 H k v⟩
  rw[L,q,s]
def ui(P a:List UInt8→ByteArray→Prop)(k:List UInt8)(v:ByteArray):Prop:=∀k' v',a k' v'↔(k'=k∧v'=v)∨(k'≠k∧P k' v')
theorem GC{w:Option ByteArray}{F:Fo}(h:fG F)(v:ByteArray):ui (qy w F) (qy (some v) F) [] v:=by
 intro k' a;unfold qy;constructor
 ·rintro(⟨e,f⟩|hi)
  ·exact .inl ⟨e,(bA.inj f).symm⟩
  ·exact .inr ⟨oI h hi,.inr hi⟩
 ·rintro(⟨e,f⟩|⟨e,⟨f,_⟩|hi⟩)
  ·exact .inl ⟨e,by rw[f]⟩
  ·exact absurd f e
  ·exact .inr hi
theorem Bw{w:Option ByteArray}{F F':Fo}{k:List UInt8}{v:ByteArray}(b:k≠[])(h:ui (pv F) (pv F') k v):ui (qy w F) (qy w F') k v:=by
 intro k' c;unfold qy;rw[h k' c];constructor
 ·rintro(⟨e,f⟩|hi|hi)
  ·exact .inr ⟨fun a=>b (a.symm.trans e),.inl ⟨e,f⟩⟩
  ·exact .inl hi
  ·exact .inr ⟨hi.1,.inr hi.2⟩
 ·rintro(hi|⟨e,hi|hi⟩)
  ·exact .inr (.inl hi)
  ·exact .inl hi
  ·exact .inr (.inr ⟨e,hi⟩)
theorem Pk{F:Fo}{k:List UInt8}{v:ByteArray}{i:Nat}(h:fG F)(z:k≠[])(hi:∀j (d:j<F.toL.length),j<i→hd F.toL[j].1<hd k)(g:∀j (d:j<F.toL.length),i≤j→hd k<hd F.toL[j].1):fG (.ofL (F.toL.take i++(k,some v,.nil)::F.toL.drop i))∧ui (pv F) (pv (.ofL (F.toL.take i++(k,some v,.nil)::F.toL.drop i))) k v:=by
 have hc:=eN.1 h;have x:∀n∈F.toL.take i,hd n.1<hd k:=fun n c=>by
  obtain⟨j,d,e⟩:=bP c;rw[aD]at d;rw[←e,List.getElem_take];exact hi j (by omega) (by omega)
 have u:∀n∈F.toL.drop i,hd k<hd n.1:=fun n c=>by
  obtain⟨j,d,e⟩:=bP c;rw[List.length_drop]at d;rw[←e,List.getElem_drop];exact g _ (by omega) (by omega)
 have mem:∀n,n∈F.toL.take i++(k,some v,.nil)::F.toL.drop i↔n=(k,some v,Fo.nil)∨n∈F.toL:=fun n=>by
  conv=>rhs;rw[←aG i F.toL]
  simp only[List.mem_append,aw];exact⟨fun h=>h.elim (fun h=>.inr (.inl h)) fun h=>h.elim .inl fun h=>.inr (.inr h),fun h=>h.elim (fun h=>.inr (.inl h)) fun h=>h.elim .inl fun h=>.inr (.inr h)⟩
 refine⟨eN.2 ⟨?_,?_⟩,fun k' y=>?_⟩
 ·rw[Fo.to_of]
  have m:=hc.1;rw[←aG i F.toL,ci]at m;refine ci.2 ⟨m.1,ba.2 ⟨u,m.2.1⟩,fun a s b p=>?_⟩
  rcases aw.1 p with rfl|p
  ·exact x a s
  ·exact m.2.2 a s b p
 ·rw[Fo.to_of]
  intro n c;rcases(mem n).1 c with rfl|c
  ·exact⟨z,.inl rfl,trivial⟩
  ·exact hc.2 n c
 ·rw[fK,fK,Fo.to_of]
  constructor
  ·rintro⟨n,c,r,e,t⟩
   rcases(mem n).1 c with rfl|c
   ·rcases t with⟨rfl,f⟩|f
    ·exact .inl ⟨by rw[e];exact bh _,(bA.inj f).symm⟩
    ·exact f.elim
   ·right
    refine⟨fun w=>?_,n,c,r,e,t⟩
    have A:hd k=hd n.1:=by rw[←w,e,oJ (hc.2 n c).1]
    obtain⟨j,d,q⟩:=bP c;rcases bG j i with o|o
    ·have:=hi j d o;rw[q]at this;omega
    ·have:=g j d o;rw[q]at this;omega
  ·rintro(⟨rfl,rfl⟩|⟨_,n,c,h⟩)
   ·exact⟨(k',some y,.nil),(mem _).2 (.inl rfl),[],(bh _).symm,.inl ⟨rfl,rfl⟩⟩
   ·exact⟨n,(mem _).2 (.inr c),h⟩
theorem l8{α:Type}{l:List α}{i:Nat}(hi:i<l.length){a x:α}(d:∀j (c:j<l.length),j≠i→l[j]≠l[i]):x∈l.set i a↔x=a∨(x∈l∧x≠l[i]):=by
 constructor
 ·intro h
  obtain⟨j,c,e⟩:=bP h;rw[iy]at c;rw[List.getElem_set]at e;split at e
  ·exact .inl e.symm
  ·rename_i b
   exact .inr ⟨by rw[←e];exact aU c,by rw[←e];exact d j c fun e=>b e.symm⟩
 ·rintro(rfl|⟨h,b⟩)
  ·exact m8 (i:=i) (h:=by simpa using hi) (by simp)
  ·obtain⟨j,c,e⟩:=bP h
   have:i≠j:=by rintro rfl;exact b e.symm
   exact m8 (i:=j) (h:=by simpa using c) (by rw[List.getElem_set_ne this];exact e)
theorem Oz{F:Fo}{i:Nat}{m:Bn}(h:fG F)(hi:i<F.toL.length)(hm:Lg m)(e:hd m.1=hd F.toL[i].1):fG (.ofL (F.toL.set i m)):=by
 have hc:=eN.1 h;rw[eN,Fo.to_of];refine⟨?_,fun n g=>?_⟩
 ·rw[cB]at hc⊢
  intro a b f d c;rw[iy]at f d;rw[List.getElem_set,List.getElem_set];split
  ·rename_i ea;subst ea
   rw[if_neg (by omega),e];exact hc.1 _ _ f d c
  ·split
   ·rename_i eb;subst eb
    rw[e];exact hc.1 _ _ f d c
   ·exact hc.1 _ _ f d c
 ·rcases List.mem_or_eq_of_mem_set g with g|rfl
  ·exact hc.2 n g
  ·exact hm
theorem vg{F:Fo}(h:fG F){i:Nat}(hi:i<F.toL.length)(j:Nat)(c:j<F.toL.length)(a:j≠i):F.toL[j]≠F.toL[i]:=by
 have hc:=(eN.1 h).1;rw[cB]at hc;intro e;rcases Nat.lt_or_gt_of_ne a with b|b
 ·have:=hc j i c hi b;rw[e]at this;omega
 ·have:=hc i j hi c b;rw[e]at this;omega
theorem JN{F:Fo}{i:Nat}{m:Bn}{k:List UInt8}{v:ByteArray}(h:fG F)(hi:i<F.toL.length)(ek:hd F.toL[i].1=hd k)(f:ui (sy F.toL[i]) (sy m) k v):ui (pv F) (pv (.ofL (F.toL.set i m))) k v:=by
 intro k' g;have hc:=eN.1 h;rw[fK,fK,Fo.to_of];constructor
 ·rintro⟨n,b,c⟩
  rcases(l8 hi (vg h hi)).1 b with rfl|⟨b,d⟩
  ·rcases(f k' g).1 c with a|⟨a,j⟩
   ·exact .inl a
   ·exact .inr ⟨a,_,aU hi,j⟩
  ·refine .inr ⟨fun e=>d ?_,n,b,c⟩
   obtain⟨r,o,_⟩:=c;refine xz h b (aU hi) ?_;rw[ek,←e,o,oJ (hc.2 n b).1]
 ·rintro(a|⟨a,n,b,c⟩)
  ·exact⟨m,(l8 hi (vg h hi)).2 (.inl rfl),(f k' g).2 (.inl a)⟩
  ·by_cases e:n=F.toL[i]
   ·exact⟨m,(l8 hi (vg h hi)).2 (.inl rfl),(f k' g).2 (.inr ⟨a,by rw[←e];exact c⟩)⟩
   ·exact⟨n,(l8 hi (vg h hi)).2 (.inr ⟨b,e⟩),c⟩
theorem Pj{lab r:List UInt8}{w w':Option ByteArray}{F F':Fo}{v:ByteArray}(h:ui (qy w F) (qy w' F') r v):ui (sy (lab,w,F)) (sy (lab,w',F')) (lab++r) v:=by
 intro k' c;constructor
 ·rintro⟨s,e,d⟩
  rcases(h s c).1 d with⟨rfl,rfl⟩|⟨a,f⟩
  ·exact .inl ⟨e,rfl⟩
  ·exact .inr ⟨fun b=>a (fi (e.symm.trans b)),s,e,f⟩
 ·rintro(⟨rfl,rfl⟩|⟨a,s,e,d⟩)
  ·exact⟨r,rfl,(h r c).2 (.inl ⟨rfl,rfl⟩)⟩
  ·exact⟨s,e,(h s c).2 (.inr ⟨fun b=>a (by rw[e,b]),d⟩)⟩
def cm:List UInt8→List UInt8→Nat
 |a::x,b::y=>if a=b then cm x y+1 else 0
 |_,_=>0
theorem Oy:∀(x y:List UInt8),cm x y≤x.length∧cm x y≤y.length
 | [],_=>by simp[cm]
 |_::_,[]=>by simp[cm]
 |a::x,b::y=>by unfold cm;have:=Oy x y;split<;>simp<;>omega
theorem Ow:∀(x y:List UInt8),x.take (cm x y)=y.take (cm x y)
 | [],_=>by simp[cm]
 |_::_,[]=>by simp[cm]
 |a::x,b::y=>by
  unfold cm;split
  ·rename_i e;rw[cZ,cZ,Ow x y,e]
  ·simp
theorem Im:∀(x y:List UInt8),cm x y<x.length→cm x y<y.length→hd (x.drop (cm x y))≠hd (y.drop (cm x y))
 | [],_=>by simp[cm]
 |_::_,[]=>by simp[cm]
 |a::x,b::y=>by
  unfold cm;split
  ·rename_i e
   intro d c;rw[az]at d c;rw[iH,iH];exact Im x y (by omega) (by omega)
  ·rename_i e
   intro _ _ h;exact e (li.1 h)
theorem R0{x y:List UInt8}(hx:x≠[])(c:y≠[])(h:hd x=hd y):0<cm x y:=by
 match x,y,hx,c with
 |a::x,b::y,_,_=>
  unfold cm;rw[if_pos (show a=b from li.1 h)]
  omega
theorem GR{lab:List UInt8}{w:Option ByteArray}{F:Fo}(c:Nat):∀k v,sy (lab.take c,none,.cons (lab.drop c) w F .nil) k v↔sy (lab,w,F) k v:=by
 intro k v;constructor
 ·rintro⟨r,e,⟨_,h⟩|(⟨s,rfl,h⟩|h)⟩
  ·cases h
  ·exact⟨s,by rw[e];simp only;rw[←au,aG],h⟩
  ·exact h.elim
 ·rintro⟨s,e,h⟩
  exact⟨lab.drop c++s,by rw[e];simp only;rw[←au,aG],.inr (.inl ⟨s,rfl,h⟩)⟩
theorem Se{lab r:List UInt8}{w w':Option ByteArray}{F F':Fo}{v:ByteArray}(b:lab≠[])(j:w.isSome∨2≤F.toL.length)(i:fG F)(a:r≠[]→hd r≠hd lab)(h:ui (qy none (.cons lab w F .nil)) (qy w' F') r v):Br (qy w' F'):=by
 by_cases e:r= []
 ·subst e
  exact .inl ⟨v,(h [] v).2 (.inl ⟨rfl,rfl⟩)⟩
 ·have hc:fG (.cons lab w F .nil):=⟨b,j,i,fun n g=>by simp[Fo.toL]at g,trivial⟩
  obtain⟨s,u,f⟩:=mc hc _ (av ..);simp only at f;have d:hd (lab++s)=hd lab:=oJ b;refine .inr ⟨r,lab++s,v,u,(h r v).2 (.inl ⟨rfl,rfl⟩),(h _ u).2 (.inr ⟨fun c=>a e (by rw[←c,d]),.inr (.inl ⟨s,rfl,f⟩)⟩),e,fun c=>b (gv.1 c).1,by rw[d];exact a e⟩
theorem T0{P g:List UInt8→ByteArray→Prop}{k:List UInt8}{v:ByteArray}(f:Br P)(h:ui P g k v):Br g:=by
 have keep:∀j u,P j u→∃c,g j c:=fun j u d=>by
  by_cases e:j=k
  ·exact⟨v,(h j v).2 (.inl ⟨e,rfl⟩)⟩
  ·exact⟨u,(h j u).2 (.inr ⟨e,d⟩)⟩
 rcases f with⟨u,m⟩|⟨j,k',u,c,d,o,r⟩
 ·obtain⟨c,n⟩:=keep [] u m
  exact .inl ⟨c,n⟩
 ·obtain⟨a,i⟩:=keep j u d
  obtain⟨b,f⟩:=keep k' c o;exact .inr ⟨j,k',a,b,i,f,r⟩
end Go.Proofs
namespace Go.Proofs
open Go.Lift
theorem VC(a b:Nat):(ao (IntKind.bits .u64) (a:Int)&&&ao (IntKind.bits .u64) (b:Int)).toNat=(a%18446744073709551616)&&&(b%18446744073709551616):=by
 simp[IntKind.bits,BitVec.toNat_and,BitVec.toNat_ofInt];rfl
theorem Wx{hv:Int}(d:0≤hv∧hv<18446744073709551616){lev:Nat}(g:lev<13){h:ae}{K:Int→ae→Prop}(b:K (((hv.toNat>>>(5*lev))%32:Nat):Int) h):HC PG mn [.int .u64 hv,.int .i64 lev] [.c (.int .i64)] K h:=by
 refine Nt hv lev ?_;unfold Fq;refine Join.plain (aB (fun h=>by omega) fun _=>?_)
 rw[decide_eq_false (by omega)];refine al.2 ?_;have c:IntKind.wrap .i64 (5*(lev:Int))=((5*lev:Nat):Int):=by rw[ji (by omega)];omega
 rw[c];have f:min (((5*lev:Nat):Int)).toNat (IntKind.bits .u64)=5*lev:=by rw[aM];exact bo (by show 5*lev≤64;omega)
 rw[f];obtain⟨n,rfl⟩:=Int.eq_ofNat_of_zero_le d.1;rw[aM]at b;simp only[Bd];rw[mg];have a:n>>>(5*lev)<18446744073709551616:=Nat.lt_of_le_of_lt (Nat.shiftRight_le _ _) (by omega);have e:=VC (n>>>(5*lev)) 31;rw[Nat.mod_eq_of_lt a,show((31:Nat):Int)=(31:Int)from rfl,show 31%18446744073709551616=2^5-1 from rfl,Nat.and_two_pow_sub_one_eq_mod]at e
 rw[e];have hm:n>>>(5*lev)%2^5<32:=od _ (by omega);rw[Go.IntWalk.u64_in _ (by omega),ji (by omega)];exact⟨by omega,b⟩
theorem R8{x:Hs}{k:ByteArray}{lev:Nat}(a:lev<13){h:ae}{K:Int→ae→Prop}(b:K (ck x lev k:Int) h):HC PG mn [.int .u64 (me x k),.int .i64 lev] [.c (.int .i64)] K h:=Wx (Cs x k) a b
theorem JW{x:Hs}{lev c:Nat}{l:List Pr}(h:∀p∈l,ck x lev p.1=c):part x lev c l=l:=List.filter_eq_self.2 fun p a=>decide_eq_true (h p a)
theorem NZ{x:Hs}{lev c:Nat}{l:List Pr}(h:∀p∈l,ck x lev p.1≠c):part x lev c l= []:=List.filter_eq_nil_iff.2 fun p a=>by simpa using h p a
theorem Ec{x:Hs}{lev c:Nat}{p:Pr}{l:List Pr}(a:cx l):part x lev c (gA p l)=if ck x lev p.1=c then gA p (part x lev c l)else part x lev c l:=by
 have:=Ey p (fun k=>decide (ck x lev k=c)) a
 unfold part;rw[this];by_cases h:ck x lev p.1=c
 ·rw[if_pos h,if_pos (decide_eq_true h)]
 ·rw[if_neg h,if_neg (by simpa using h)]
theorem NO{p q:Pr}(h:p.1≠q.1):(gA q [p]).length=2:=by
 rw[gP];by_cases a:kl p.1 q.1
 ·rw[if_pos a];rfl
 ·rw[if_neg a,if_neg h];rfl
theorem N6{p q r:Pr}(h:r∈gA q [p]):r=p∨r=q:=(wx h).symm.imp (fun h=>aq.1 h) id
theorem gw{β:Type}{g:Nat→Option β}{i c:Nat}{x:Option β}(h:c≠i):upd g i x c=g c:=by unfold upd;rw[if_neg h]
end Go.Proofs
namespace Go.Proofs
open Go.Lift
noncomputable instance memDec (p:Pr) (l:List Pr):Decidable (p∈l):=Classical.propDecidable _
theorem D7{l:List Pr}(b:cx l){k v w:ByteArray}(a:(k,v)∈l)(c:(k,w)∈l):v=w:=by
 induction l with
 |nil=>cases a
 |cons q l ih=>
  have b:=ba.1 b;rcases aw.1 a with d|a<;>rcases aw.1 c with e|c
  ·exact(Prod.mk.inj (d.trans e.symm)).2
  ·have:=b.1 _ c;rw[←d]at this;exact absurd this (cD _)
  ·have:=b.1 _ a;rw[←e]at this;exact absurd this (cD _)
  ·exact ih b.2 a c
theorem kU{x:Hs}{lev c:Nat}{l:List Pr}{p:Pr}:p∈part x lev c l↔p∈l∧ck x lev p.1=c:=by unfold part;rw[d9,decide_eq_true_iff]
theorem DJ{x:Hs}{lev:Nat}{l:List Pr}{k:ByteArray}:cp (part x lev (ck x lev k) l) k=cp l k:=by
 unfold cp;rw[nH,co,co];constructor
 ·rintro⟨p,a,e⟩;exact⟨p,(kU.1 a).1,e⟩
 ·rintro⟨p,a,e⟩;exact⟨p,kU.2 ⟨a,by rw[of_decide_eq_true e]⟩,e⟩
theorem rE{x:Hs}{lev c:Nat}{l:List Pr}(a:cx l):cx (part x lev c l):=a.sublist List.filter_sublist
theorem jX{x:Hs}{lev c:Nat}{l:List Pr}:(part x lev c l).length≤l.length:=List.length_filter_le ..
def SlotIs(W:Nat→Prop)(x:Hs)(h:ae)(m:Nat)(s:Slots)(c:Nat)(l:List Pr):Prop:=
 (l= []∧s.p c=none∧s.k c=none)∨(∃p,l= [p]∧s.p c=some p∧s.k c=none)∨(2≤l.length∧s.p c=none∧∃kb,s.k c=some (some ⟨kb,0,none⟩)∧TrieAt W x h m kb l)
theorem SlotIs.upd0{W:Nat→Prop}{x:Hs}{h a:ae}{m:Nat}{s:Slots}{c:Nat}{l:List Pr}(k:Upd No h a)(t:SlotIs W x h m s c l):SlotIs W x a m s c l:=t.imp id fun o=>o.imp id fun⟨d,b,g,f,e⟩=>⟨d,b,g,f,TrieAt.upd0 k e⟩
theorem Kk(p:Pr):∀{l:List Pr},l.length≤(gA p l).length
 | []=>aS _
 |q::l=>by
  rw[gP];split
  ·have:=Kk p (l:=l);simp only[az];omega
  ·split<;>simp
theorem jB{a b:ByteArray}:(a.toList==b.toList)=decide (a=b):=by
 rw[nH,beq_iff_eq,decide_eq_true_iff,BO]
end Go.Proofs
namespace Go.Proofs
open Go.Lift
theorem Qt{W:Nat→Prop}{x:Hs}{h:ae}{m b:Nat}(a:NodeAt W h b ⟨fun _=>none,fun _=>none⟩):TrieAt W x h (m+1) b []:=⟨_,a,fun _ _=>.inl ⟨rfl,rfl,rfl⟩⟩
def RootAt(W:Nat→Prop)(x:Hs)(h:ae)(r:Option Addr)(l:List Pr):Prop:=(r=none∧l= [])∨∃b,r=some ⟨b,0,none⟩∧TrieAt W x h 13 b l
theorem RootAt.upd0{W:Nat→Prop}{x:Hs}{h a:ae}{r:Option Addr}{l:List Pr}(k:Upd No h a)(t:RootAt W x h r l):RootAt W x a r l:=t.imp id fun⟨b,e,t⟩=>⟨b,e,TrieAt.upd0 k t⟩
theorem cC{h:ae}{b:Nat}{t:TypeId}{c vs:List Value}(a:h[b]? =some (.cells c.toArray t (0,0))) (d:vs.length=c.length) {k:ae→Prop}
  (f:∀h',h'[b]? =some (.cells vs.toArray t (0,0))→Upd (· =b) h h'→k h'):uD h (some ⟨b,0,none⟩) 0 vs∧At (iC h ⟨b,0,none⟩ 0 vs) k:=by
 have e:=j1 vs h 0 0 c a (by omega);refine⟨.inr ⟨_,rfl,fun j g=>by rw[bV];exact iX a (by rw[dy];omega)⟩,bU ?_⟩
 rw[e];refine f _ ?_ (Upd.set h _ rfl);rw[jt a];congr 3
 simp[d]
end Go.Proofs
namespace Go.Proofs
open Go.Lift
abbrev nX(b:UInt8):List Value:= [.int .u8 (b.toNat:Int)]
theorem qJ(b:UInt8):(nX b).length=1∧0<1:=⟨rfl,Nat.one_pos⟩
theorem zU:∀xs:List UInt8,cl (xs.flatMap nX)=true
 | []=>rfl
 |x::xs=>by rw[aR];exact kG rfl (zU xs)
theorem sS(s:ByteArray):dS s=s.data.toList.flatMap nX:=by
 unfold dS;generalize s.data.toList=l;induction l with
 |nil=>rfl
 |cons b l ih=>rw[List.map_cons,aR,ih];rfl
theorem uC{M:Nat→Prop}{h:ae}{c:SliceV}{out:List UInt8}{v:Int}{b:UInt8}(hv:v=(b.toNat:Int)){K:SliceV→ae→Prop}(g:OwnS nX 1 cr M h c out)(hM:∀b,h.size≤b→M b)(j:out.length+1≤140737488355328)
  (i:∀s' a,OwnS nX 1 cr M a s' (out++ [b])→Upd M h a→K s' a):
  ∃xs,SRow (hnew h [.int .u8 v] cr) (some (aC h)) (1*1) xs∧AppP (some [.int .u8 0]) 1 1 cr c.a c.len c.cap 1 xs (hnew h [.int .u8 v] cr) K:=by
 subst hv;have k:=Upd.hnew No h [.int .u8 (b.toNat:Int)] cr;have e:OwnS nX 1 cr (fun _=>True) (hnew h [.int .u8 (b.toNat:Int)] cr) ⟨some (aC h),1,1⟩ [b]:=⟨rfl,qJ,aj _,.inr ⟨h.size,[],rfl,trivial,cO ..,rfl⟩⟩
 refine⟨_,(e.sl (W:=No) fun _ _ _ h=>h).srow,?_⟩
 refine AppP.own (ys:= [b]) (g.upd k fun _ _ h=>h) rfl rfl rfl rfl (by omega) (by simp only[aE];omega) (hM _ (by rw[jm];omega)) fun s' a d f=>?_
 exact i s' a d ((Upd.hnew M h _ _).tr f)
def ma(n k:Nat):List UInt8:=(List.range k).map fun i=>gd (n>>>(8*i))
theorem xp(n k:Nat):ma n (k+1)=ma n k++ [gd (n>>>(8*k))]:=by unfold ma;rw[ix,List.map_append];rfl
theorem df(n k:Nat):(ma n k).length=k:=by simp[ma]
theorem Mk{M:Nat→Prop}{h:ae}{s:SliceV}{xs:List UInt8}(u:OwnS nX 1 cr M h s xs)(hM:∀b,h.size≤b→M b){n k:Nat}(z:n<18446744073709551616)(x:k≤8)(A:xs.length+k≤140737488355328){K:SliceV→ae→Prop}
  (y:∀s' c,OwnS nX 1 cr M c s' (xs++ma n k)→Upd M h c→K s' c):HC PG mh [.slice s.a s.len s.cap,.int .u64 n,.int .i64 k] [.c .slice] K h:=by
 refine CD s n k ?_;unfold wZ;refine LoopP.ghost (fun(i:Nat) (t:SliceV×Int) c=>t.2=(i:Int)∧i≤k∧OwnS nX 1 cr M c t.1 (xs++ma n i)∧Upd M h c) (fun i=>k-i) 0 ⟨rfl,aS _,by simpa[ma]using u,Upd.refl _ _⟩ ?_
 rintro I i ⟨D,B⟩ c ⟨o,hi,d,f⟩ p;simp only at o d;subst o;refine aB (fun a=>?_) fun g=>?_
 ·have a:i<k:=by have:(i:Int)<(k:Int):=a;omega
  have v:IntKind.wrap .i64 (8*(i:Int))=((8*i:Nat):Int):=by rw[ji (by omega)];omega
  have w:min (((8*i:Nat):Int)).toNat (IntKind.bits .u64)=8*i:=by rw[aM];exact bo (by show 8*i≤64;omega)
  refine Join.plain ?_;simp only[Bd];rw[v,w,mg];refine⟨by omega,bU ?_⟩;refine uC (b:=gd (n>>>(8*i))) ?_ d (fun b q=>hM b (aX f.size q)) (by rw[ad,df];omega) fun E C e m=>?_
  ·rw[IntKind.wrap_u8];simp
  ·rw[cz a (by omega)]
   refine p (i+1) _ _ ⟨rfl,a,?_,f.tr m⟩ (by omega);rw[xp,←au];exact e
 ·have j:i=k:=by have:¬(i:Int)<(k:Int):=g;omega
  subst j;exact y _ _ d f
end Go.Proofs
namespace Go.Proofs
open Go Go.Lift
theorem KL{α:Type}{f:α→List Value}{j a:Nat}{t:TypeId}{W:Nat→Prop}{h:ae}{d:Option Addr}{sl n p:Nat}{xs ys:List α}{e z:List Value}{K:SliceV→ae→Prop}
  (k:Sl f j W h ⟨d,sl,n⟩ xs)(m:p=ys.length)(q:e=ys.flatMap f)(hz:z.length=j)(u:0<a)(g:n<sl+p)(i:(xs.length+ys.length)*a≤140737488355328)
  (w:∀s' h',OwnS f j t (fun b=>h.size≤b) h' s' (xs++ys)→Upd No h h'→K s' h'):AppP (some z) j a t d sl n p e h K:=by
 have c:sl=xs.length:=k.len;subst m q;refine⟨fun v=>by omega,fun _=>?_⟩
 refine⟨xs.flatMap f,z,k.srow,rfl,u,Go.growslice_fits g (by rw[c];exact i),fun s o=>?_⟩
 refine w _ _ ⟨by simp[c],k.ne,o,.inr ⟨h.size,dH (s-(sl+ys.length)) z,rfl,aj _,?_,?_⟩⟩ (Upd.hnew No h _ _)
 ·rw[cO,bq]
 ·rw[lU,hz]
theorem TK{h:ae}{s:SliceV}{xs:List UInt8}(A:Sl nX 1 No h s xs)(hc:s.cap=s.len){n k:Nat}(C:k≤8)(y:0<k)(F:xs.length+k≤140737488355328){K:SliceV→ae→Prop}
  (E:∀s' d,OwnS nX 1 cr (fun b=>h.size≤b) d s' (xs++ma n k)→Upd No h d→K s' d):HC PG mh [.slice s.a s.len s.cap,.int .u64 n,.int .i64 k] [.c .slice] K h:=by
 refine CD s n k ?_;unfold wZ;refine LoopP.ghost (fun(i:Nat) (t:SliceV×Int) d=>t.2=(i:Int)∧i≤k∧((i=0∧t.1=s∧d=h)∨OwnS nX 1 cr (fun b=>h.size≤b) d t.1 (xs++ma n i))∧Upd No h d) (fun i=>k-i) 0 ⟨rfl,aS _,.inl ⟨rfl,rfl,rfl⟩,Upd.refl _ _⟩ ?_
 rintro I i ⟨H,G⟩ d ⟨v,hi,a,m⟩ q;simp only at v a;subst v;refine aB (fun c=>?_) fun o=>?_
 ·have c:i<k:=by have:(i:Int)<(k:Int):=c;omega
  have x:IntKind.wrap .i64 (8*(i:Int))=((8*i:Nat):Int):=by rw[ji (by omega)];omega
  have z:min (((8*i:Nat):Int)).toNat (IntKind.bits .u64)=8*i:=by rw[aM];exact bo (by show 8*i≤64;omega)
  refine Join.plain ?_;simp only[Bd];rw[x,z,mg];refine⟨by omega,bU ?_⟩;have u:IntKind.wrap .u8 ((n>>>(8*i):Nat):Int)=((gd (n>>>(8*i))).toNat:Int):=by rw[IntKind.wrap_u8];simp
  rcases a with⟨rfl,rfl,rfl⟩|a
  ·rw[u]
   have k1:=Upd.hnew No d [.int .u8 ((gd (n>>>(8*0))).toNat:Int)] cr;have w:OwnS nX 1 cr (fun _=>True) (hnew d [.int .u8 ((gd (n>>>(8*0))).toNat:Int)] cr) ⟨some (aC d),1,1⟩ [gd (n>>>(8*0))]:=⟨rfl,qJ,aj _,.inr ⟨d.size,[],rfl,trivial,cO ..,rfl⟩⟩
   refine⟨_,(w.sl (W:=No) fun _ _ _ h=>h).srow,?_⟩
   refine KL (ys:= [gd (n>>>(8*0))]) (A.upd k1 fun _ h=>h.elim) rfl rfl rfl (by omega) (by omega) (by simp only[aE];omega) fun D B f g=>?_
   rw[cz c (by omega)];refine q 1 _ _ ⟨rfl,c,.inr ?_,k1.tr g⟩ (by omega);exact f.more fun b j=>aX k1.size j
  ·refine uC u a (fun b j=>aX m.size j) (by rw[ad,df];omega) fun D B f g=>?_
   rw[cz c (by omega)];refine q (i+1) _ _ ⟨rfl,c,.inr ?_,m.trans g fun b j=>.inr j⟩ (by omega)
   rw[xp,←au];exact f
 ·have p:i=k:=by have:¬(i:Int)<(k:Int):=o;omega
  subst p;rcases a with⟨e,_⟩|a
  ·omega
  ·exact E _ _ a m
def nf(s:ByteArray):List UInt8:=ma s.size 2++s.data.toList
theorem C9{W:Nat→Prop}{h:ae}{s:SliceV}{xs:List UInt8}(j:Sl nX 1 W h s xs)(hc:s.len≤s.cap)(b:ByteArray)(w:b.size≤1000000)(v:xs.length+2+b.size≤140737488355328){K:SliceV→ae→Prop}
  (t:∀s' h',OwnS nX 1 cr (fun x=>h.size≤x) h' s' (xs++nf b)→Upd No h h'→K s' h'):HC PG mH [.slice s.a s.len s.cap,.string b] [.c .slice] K h:=by
 refine IJ s b ?_;unfold AQ;have i:=j.len;refine⟨by omega,by omega,?_⟩
 simp only[aM];have e:Sl nX 1 No h ⟨aV s.a 0 s.len 1,s.len-0,s.len-0⟩ xs:=by
  have:=Sl.sub (j.less (W':=No) fun _ h=>h.elim) (l:=0) (hi:=s.len) (m:=s.len) (c:=s.len-0) (aS _) (by omega) (aj _)
  rw[List.drop_zero,bv (by omega)]at this;exact this
 have o:IntKind.wrap .u64 (b.size:Int)=(b.size:Int):=Go.IntWalk.u64_in _ (by omega);rw[o];refine TK e rfl (n:=b.size) (k:=2) (by omega) (by omega) (by omega) fun y u f a=>?_
 refine AppP.own (ys:=b.data.toList) f (by simp) (sS b) (by rw[sS];exact zU _) rfl (by omega) ?_ a.size fun q p d g=>?_
 ·simp only[ad,df]
  have:b.data.toList.length=b.size:=by simp
  omega
 ·refine t q p ?_ (a.trans g fun x hx=>.inr hx)
  rw[nf,←au];exact d
end Go.Proofs
namespace Go.Proofs
open Go Go.Lift
def Co(p:Pr):List UInt8:=nf p.1++nf p.2
def jY(l:List Pr):List UInt8:=l.flatMap Co
theorem iS(b:ByteArray):(nf b).length=2+b.size:=by simp[nf,df]
def Fit(l:List Pr):Prop:=∀p∈l,p.1.size≤10000∧p.2.size≤10000
theorem Pp{p:Pr}(h:p.1.size≤10000∧p.2.size≤10000):(Co p).length≤20004:=by
 unfold Co;rw[ad,iS,iS];omega
theorem l7:∀{l:List Pr},Fit l→(jY l).length≤l.length*20004
 | [],_=>by simp[jY]
 |p::l,h=>by
  have c:=Pp (h p (av ..));have b:=l7 (l:=l) fun q a=>h q (aL _ a)
  unfold jY at*;rw[aR,ad,az];omega
theorem Cn{l:List Pr}{i:Nat}(hi:i<l.length):jY (l.take (i+1))=jY (l.take i)++Co l[i]:=by
 unfold jY;rw[List.take_succ_eq_append_getElem hi,bq,aR,List.flatMap_nil,bh]
theorem DU{M W:Nat→Prop}{h:ae}{s sp:SliceV}{xs:List UInt8}{l:List Pr}(J:OwnS nX 1 cr M h s xs)(hM:∀b,h.size≤b→M b)(F:Sl eg 2 W h sp l)(O:∀x,M x→x<h.size→W x)(C:Fit l)(V:l.length≤1000000)(Y:xs.length+l.length*20004≤140737488355328){K:SliceV→ae→Prop}
  (T:∀s' d,OwnS nX 1 cr M d s' (xs++jY l)→Upd M h d→K s' d):HC PG qa [.slice s.a s.len s.cap,.slice sp.a sp.len sp.cap] [.c .slice] K h:=by
 refine FX s sp ?_;unfold ye cQ aY nv jU im Bh ay;have D:=F.len;have w:∀b,M b→W b∨h.size≤b:=fun b u=>by
  rcases bG b h.size with hx|hx
  ·exact .inl (O b u hx)
  ·exact .inr hx
 refine LoopP.ghost (fun(i:Nat) (t:SliceV×Int) d=>t.2=(i:Int)∧i≤l.length∧OwnS nX 1 cr M d t.1 (xs++jY (l.take i))∧Upd M h d) (fun i=>l.length-i) 0 ⟨rfl,aS _,by simpa[jY]using J,Upd.refl _ _⟩ ?_
 rintro I i ⟨so,Z⟩ d ⟨E,hi,f,n⟩ H;simp only at E f;subst E;refine aB (fun c=>?_) fun y=>?_
 ·have c:i<l.length:=by have:(i:Int)<(sp.len:Int):=c;omega
  obtain⟨a,R,_,hv⟩:=(F.upd n w).at (af c);have S:=C l[i] (aU c);have o:=l7 (l:=l.take i) fun q P=>C q (List.mem_of_mem_take P)
  rw[aD,bo hi]at o;have k1:=Upd.hnew No d [.string (⟨#[]⟩:ByteArray),.string (⟨#[]⟩:ByteArray)] ar;have b1:=cO d [.string (⟨#[]⟩:ByteArray),.string (⟨#[]⟩:ByteArray)] ar;refine⟨by simp only;omega,a,R,l[i].1,hv 0 _ rfl,l[i].2,hv 1 _ rfl,bU ?_⟩;simp only[fE d];generalize hnew d [.string (⟨#[]⟩:ByteArray),.string (⟨#[]⟩:ByteArray)] ar=h1 at k1 b1
  have z:h1[d.size]? =some (.cells #[.string Hl.1,.string Hl.2] ar (0,0)):=b1;refine Cm (p:=l[i]) z fun Q b2 B=>?_
  have e:Upd No d Q:=k1.trans B fun x hx=>.inr (fH hx.symm)
  have j:=f.upd e fun _ _ h=>h
  refine⟨l[i].1,by rw[bV,bl b2];rfl,l[i].2,by rw[bV,bl b2];rfl,?_⟩
  have G:i*20004+20004≤l.length*20004:=by rw[←Nat.succ_mul];exact Nat.mul_le_mul_right _ c
  refine C9 (W:=No) (j.sl fun _ _ _ h=>h) j.cap l[i].1 (by omega) (by rw[ad];omega) fun s3 U m g=>⟨by rw[bV,bl (g.get0 b2)];rfl,?_⟩
  refine C9 (W:=No) (m.sl fun _ _ _ h=>h) m.cap l[i].2 (by omega) (by rw[ad,ad,iS];omega) fun X N A v=>?_
  have k:Upd M h N:=n.tr ((e.tr (g.tr v)).wide);rw[cz c (by omega)];refine H (i+1) _ _ ⟨rfl,c,?_,k⟩ (by omega);rw[Cn c,Co,←au,←au];exact A.more fun b u=>hM b (aX (n.tr ((e.tr g).wide)).size u)
 ·have L:i=l.length:=by have:¬(i:Int)<(sp.len:Int):=y;omega
  rw[bv (by omega)]at f;exact T _ _ f n
end Go.Proofs
namespace Go.Proofs
open Go Go.Lift
def i7(q:Nat→Bool):Nat→Nat
 |0=>0
 |n+1=>i7 q n+(if q n then 2^n else 0)
theorem mo(q:Nat→Bool):∀n,i7 q n<2^n
 |0=>by simp[i7]
 |n+1=>by
  have:=mo q n;unfold i7;rw[mV];split<;>omega
theorem BQ(q:Nat→Bool)(c:Nat):∀n,(i7 q n).testBit c=(decide (c<n)&&q c)
 |0=>by simp[i7]
 |n+1=>by
  have b:=mo q n;have d:=BQ q c n;unfold i7;by_cases a:q n=true
  ·rw[if_pos a,Nat.add_comm]
   rcases Nat.lt_trichotomy c n with h|h|h
   ·rw[Nat.testBit_two_pow_add_gt h,d,decide_eq_true h,decide_eq_true (by omega)]
   ·subst h
    rw[Nat.testBit_two_pow_add_eq,gr b,decide_eq_true (by omega),a];rfl
   ·have f:2^n+i7 q n<2^c:=bI (by rw[mV];omega:2^n+i7 q n<2^(n+1)) (ft (by omega) h)
    rw[gr f,decide_eq_false (by omega)];rfl
  ·rw[if_neg a,cW,d]
   by_cases h:c<n
   ·rw[decide_eq_true h,decide_eq_true (by omega)]
   ·by_cases e:c=n
    ·subst e;have:q c=false:=by simpa using a
     rw[this];simp
    ·rw[decide_eq_false h,decide_eq_false (by omega)]
theorem Hb{d:Nat}{q:Nat→Bool}(hd:d<4294967296)(h:∀c,c<32→d.testBit c=q c):d=i7 q 32:=by
 refine Nat.eq_of_testBit_eq fun c=>?_
 rw[BQ];by_cases hc:c<32
 ·rw[h c hc,decide_eq_true hc];rfl
 ·rw[decide_eq_false hc,gr (bI hd (ft (n:=2) (by omega) (show 32≤c by omega)))];rfl
end Go.Proofs
namespace Go.Proofs
open Go Go.Lift
def gL(l:List Pr):Option Pr:=match l with| [p]=>some p|_=>none
def eL(l:List Pr):Option (List Pr):=if 2≤l.length then some l else none
def fQ(x:Hs)(lev:Nat)(l:List Pr):List Pr:=fm (fun c=>gL (part x lev c l)) 32
def iA(x:Hs)(lev:Nat)(l:List Pr):List (List Pr):=fm (fun c=>eL (part x lev c l)) 32
def fC(x:Hs):Nat→List Pr→List UInt8
 |0,l=>1::(ma l.length 2++jY l)
 |m+1,l=>0::(ma (i7 (fun c=>(gL (part x (12-m) c l)).isSome) 32) 4++(ma (i7 (fun c=>(eL (part x (12-m) c l)).isSome) 32) 4++(jY (fQ x (12-m) l)++(iA x (12-m) l).flatMap (fC x m))))
theorem DS{W:Nat→Prop}{x:Hs}{h:ae}{m:Nat}{s:Slots}{c:Nat}{l:List Pr}(t:SlotIs W x h m s c l):s.p c=gL l∧(s.k c).isSome=(eL l).isSome:=by
 rcases t with⟨rfl,e,d⟩|⟨p,rfl,e,d⟩|⟨f,e,g,d,_⟩
 ·rw[e,d];exact⟨rfl,rfl⟩
 ·rw[e,d];exact⟨rfl,rfl⟩
 ·rw[e,d]
  refine⟨?_,by simp[eL,f]⟩
  match l,f with
  |a::b::l,_=>rfl
def KidsAt(W:Nat→Prop)(x:Hs)(h:ae)(m:Nat):List (Option Addr)→List (List Pr)→Prop
 | [],[]=>True
 |k::ks,l::ls=>(∃kb,k=some ⟨kb,0,none⟩∧TrieAt W x h m kb l)∧KidsAt W x h m ks ls
 |_,_=>False
theorem KidsAt.app{W:Nat→Prop}{x:Hs}{h:ae}{m:Nat}:∀{ks ks':List (Option Addr)} {ls ls':List (List Pr)},KidsAt W x h m ks ls→KidsAt W x h m ks' ls'→KidsAt W x h m (ks++ks') (ls++ls')
 | [],_,[],_,_,q=>q
 |_::_,_,_::_,_,q,q'=>⟨q.1,KidsAt.app q.2 q'⟩
 | [],_,_::_,_,q,_=>q.elim
 |_::_,_,[],_,q,_=>q.elim
theorem gj{β:Type}(g:Nat→Option β)(n:Nat):fm g (n+1)=fm g n++(g n).toList:=by
 unfold fm;rw[ix,List.filterMap_append];cases h:g n<;>simp[h]
theorem H4{W:Nat→Prop}{x:Hs}{h:ae}{m lev:Nat}{s:Slots}{l:List Pr}:∀n,(∀c,c<n→SlotIs W x h m s c (part x lev c l))→KidsAt W x h m (fm s.k n) (fm (fun c=>eL (part x lev c l)) n)
 |0,_=>trivial
 |n+1,hs=>by
  rw[gj,gj];refine KidsAt.app (H4 n fun c hc=>hs c (by omega)) ?_
  rcases hs n (by omega)with⟨b,_,a⟩|⟨p,b,_,a⟩|⟨b,_,d,a,e⟩
  ·rw[a,b];exact trivial
  ·rw[a,b];exact trivial
  ·rw[a]
   have:eL (part x lev n l)=some (part x lev n l):=by unfold eL;rw[if_pos b]
   simp only[this];exact⟨⟨d,rfl,e⟩,trivial⟩
theorem zN{W:Nat→Prop}{x:Hs}{h:ae}{m lev:Nat}{s:Slots}{l:List Pr}(a:∀c,c<32→SlotIs W x h m s c (part x lev c l)):fm s.p 32=fQ x lev l:=
 Wi _ fun c hc=>(DS (a c (List.mem_range.1 hc))).1
end Go.Proofs
