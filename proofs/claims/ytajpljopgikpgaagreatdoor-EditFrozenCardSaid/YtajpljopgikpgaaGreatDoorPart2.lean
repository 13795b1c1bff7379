/- A part of the proof that the named laws of this program answer true, whatever the input. -/
import Derived.Test.YtajpljopgikpgaaGreatDoorPart1
open BitVec renaming ofInt→aq
open Bool renaming eq_iff_iff→lj
open Int renaming toNat_natCast→aO
open List renaming length_take→aU,flatMap_cons→aY,flatMap_append→bH,length_append→af,size_toArray→cP,append_assoc→aw,drop_left'→cG,getElem?_eq_getElem→ag,getElem_mem→aP,pairwise_cons→bB,mem_cons→aA,mem_cons_self→aE,mem_cons_of_mem→aX,filter_cons→cK,mem_filter→il,append_eq_nil_iff→gm,mem_singleton→au,append_nil→bT,append_cancel_left→d9,length→f8,getElem_of_mem→cD,take_append_drop→ba,pairwise_append→du,length_set→dJ,mem_of_getElem→nh,pairwise_iff_getElem→cF,take_succ_cons→de,length_cons→aV,drop_succ_cons→gr,any_eq_true→cy,length_singleton→aK,range_succ→gz,take_of_length_le→bD
open Nat renaming zero_add→aL,min_eq_left→bC,add_zero→cX,le_of_eq→iA,le_refl→ao,mod_lt→mh,lt_or_ge→bK,zero_le→bo,le_trans→bv,pow_succ→mW,testBit_lt_two_pow→gj,lt_of_lt_of_le→bP,pow_le_pow_right→eW
open Option renaming isSome_iff_exists→dT,some→bF
open UInt8 renaming toNat_inj→li,ofNat→fV
namespace Go.Proofs
open Go.Lift
theorem tX{β:Type}{g:Nat→Option β}{i:Nat}(h:g i=none):upd g i none=g:=by
 funext j;unfold upd;split
 ·rename_i e;rw[e,h]
 ·rfl
theorem eA{h:ad}{b:Nat}{c:Array Value}{t:TypeId}{i:Nat}(a:h[b]? =some (.cells c t (0,0))):aR h ⟨b,0+i,none⟩=c[i]?:=by rw[aL];exact bA a
theorem Sy{h:ad}{b:Nat}{c:Array Value}{t:TypeId}{i:Nat}(a:h[b]? =some (.cells c t (0,0))) (hi:i<c.size):Wr h ⟨b,0+i,none⟩:=by rw[aL];exact iv a hi
theorem F6{h:ad}{b:Nat}{c c':Array Value}{t:TypeId}{i:Nat}{v:Value}{k:ad→Prop}(j:h[b]? =some (.cells c t (0,0))) (e:c.setIfInBounds i v=c')
 (f:∀a,a[b]? =some (.cells c' t (0,0))→Upd (· =b) h a→k a):At (hset h ⟨b,i,none⟩ v) k:=vq j fun a d g=>f a (e▸d) g
theorem IC{M:Nat→Prop}{h:ad}{b d n:Nat}{sp sk:SliceV}{s:Slots}{ow:Option Addr}(o:OwnN M h b d n sp sk s ow){i:Nat}(hi:i<32){K:Unit→ad→Prop}
  (Y:∀u D H sp' sk',OwnN M u b D H sp' sk' ⟨upd s.p i none,upd s.k i none⟩ ow→Upd M h u→K () u):HC PG jw [.pointer (some ⟨b,0,none⟩),.int .i64 i] [] K h:=by
 obtain⟨A,B,hA,W,a,m⟩:=o.ex;have bits:=o.bits;refine AM _ i ?_;unfold s9 aM cp Js hG nN;have ew:∀k:Nat,k≤100→IntKind.wrap .i64 ((k:Int)+1)=((k+1:Nat):Int):=fun k Y=>by rw[oD (by omega)];omega
 have hc1:=y3 i d;have hc2:=y3 i n;have I:∀x,A x→M x∨h.size≤x:=fun x hx=>.inl (a x hx).1
 refine Join.intro (fun _ u=>∃sp',u[b]? =some (.cells (fM d n sp' sk false ow) bQ (0,0))∧OwnS ge 2 aB A u sp' (fm (upd s.p i none) 32)∧OwnS qu 1 bM B u sk (fm s.k 32)∧Upd M h u) (fun R E=>?_) ?_
 ·refine⟨_,rfl,_,eA (i:=0) o.blk,BL bits.d32 hi ?_⟩
  rw[bits.dp i hi];cases hp:s.p i with
  |none=>exact aj.2 (E _ _ ⟨sp,o.blk,by rw[tX hp];exact hA,W,Upd.refl _ _⟩)
  |some y=>
   refine ay.2 ⟨_,rfl,_,eA (i:=0) o.blk,pW bits.d32 hi ⟨_,rfl,sp,eA (i:=2) o.blk,?_⟩⟩;rw[ew _ (by omega)];refine MJ hA (Hl hi bits.dp hp) (by have:=wJ (g:=s.p);omega) fun s2 X v f=>?_
   rw[←Rc hi bits.dp hp]at v;have b2:=f.get o.blk fun L=>(a b L).2.2.1 rfl
   refine⟨_,rfl,Sy (i:=2) b2 (show 2<6 by decide),F6 (i:=2) (c':=fM d n s2 sk false ow) b2 rfl fun Z b3 j=>?_⟩
   refine E _ _ ⟨s2,b3,v.upd j fun x hx e=>(a x hx).2.2.1 e,(W.upd f fun x hx O=>(a x O).2.1 hx).upd j fun x hx e=>(m x hx).2.1 e,(f.mono I).tr (j.mono fun x e=>.inl (e▸o.mb))⟩
 rintro _ h1 ⟨q,b1,C,F,G⟩;refine Join.intro (fun _ u=>∃sk',u[b]? =some (.cells (fM d n q sk' false ow) bQ (0,0))∧OwnS ge 2 aB A u q (fm (upd s.p i none) 32)∧OwnS qu 1 bM B u sk' (fm (upd s.k i none) 32)∧Upd M h1 u) (fun R E=>?_) ?_
 ·refine⟨_,rfl,_,eA (i:=1) b1,BL bits.n32 hi ?_⟩
  rw[bits.nk i hi];cases hp:s.k i with
  |none=>exact aj.2 (E _ _ ⟨sk,b1,C,by rw[tX hp];exact F,Upd.refl _ _⟩)
  |some y=>
   refine ay.2 ⟨_,rfl,_,eA (i:=1) b1,pW bits.n32 hi ⟨_,rfl,sk,eA (i:=3) b1,?_⟩⟩;rw[ew _ (by omega)];refine MK F (Hl hi bits.nk hp) (by have:=wJ (g:=s.k);omega) fun s2 X v f=>?_
   rw[←Rc hi bits.nk hp]at v;have b2:=f.get b1 fun L=>(m b L).2.1 rfl
   refine⟨_,rfl,Sy (i:=3) b2 (show 3<6 by decide),F6 (i:=3) (c':=fM d n q s2 false ow) b2 rfl fun Z b3 j=>?_⟩
   refine E _ _ ⟨s2,b3,(C.upd f fun x hx O=>(a x hx).2.1 O).upd j fun x hx e=>(a x hx).2.2.1 e,v.upd j fun x hx e=>(m x hx).2.1 e,(f.mono fun x hx=>.inl (m x hx).1).tr (j.mono fun x e=>.inl (e▸o.mb))⟩
 rintro _ X ⟨w,b2,J,N,f⟩;refine⟨_,rfl,_,eA (i:=0) b2,_,rfl,_,eA (i:=1) b2,?_⟩;refine DL bits.d32 hi fun D V T=>⟨eA (i:=1) b2,?_⟩
 refine DL bits.n32 hi fun H S Q=>?_
 refine⟨_,rfl,Sy (i:=0) b2 (show 0<6 by decide),F6 (i:=0) (c':=fM D n q w false ow) b2 rfl fun Z b3 j=>?_⟩
 refine⟨_,rfl,Sy (i:=1) b3 (show 1<6 by decide),F6 (i:=1) (c':=fM D H q w false ow) b3 rfl fun h4 b4 P=>?_⟩
 have p:=j.tr P;have z:=(G.tr (f.tr (p.mono (M':=M) fun x e=>.inl (e▸o.mb)))).size
 refine Y h4 D H q w ⟨b4,⟨V,S,fun c hc=>?_,fun c hc=>?_⟩,⟨A,B,J.upd p fun x hx e=>(a x hx).2.2.1 e,N.upd p fun x hx e=>(m x hx).2.1 e,fun x hx=>⟨(a x hx).1,(a x hx).2.1,(a x hx).2.2.1,by have:=(a x hx).2.2.2;omega⟩,fun x hx=>⟨(m x hx).1,(m x hx).2.1,by have:=(m x hx).2.2;omega⟩⟩,o.mb⟩ (G.tr (f.tr (p.mono fun x e=>.inl (e▸o.mb))))
 ·rw[T,bits.dp c hc];simp only[upd];split<;>simp[*]
 ·rw[Q,bits.nk c hc];simp only[upd];split<;>simp[*]
end Go.Proofs
namespace Go.Proofs
open Go.Lift
theorem OwnS.setAt{α:Type}{f:α→List Value}{sz:Nat}{t:TypeId}{M:Nat→Prop}{h:ad}{s:SliceV}{xs:List α}(m:OwnS f sz t M h s xs){k:Nat}(o:k<xs.length)(x:α):
  ∃a,s.a=some a∧M a.block∧tT h (some (adr a (k*sz))) 0 (f x)∧OwnS f sz t M (gT h (adr a (k*sz)) 0 (f x)) s (xs.take k++x::xs.drop (k+1))∧Upd (· =a.block) h (gT h (adr a (k*sz)) 0 (f x)):=by
 have i:∀x,(f x).length=sz∧0<sz:=m.ne;have u:=m.len;have g:=m.cap;rcases m.blk with E|⟨b,d,q,v,hc,z⟩
 ·omega
 have p:((xs.take k).flatMap f).length=k*sz:=by rw[kM i,aU,bC (by omega)]
 have C:xs.flatMap f=(xs.take k).flatMap f++(f xs[k]++(xs.drop (k+1)).flatMap f):=by
  rw[←aY,←List.drop_eq_getElem_cons o];exact y2 xs k
 rw[C]at hc;have y:=(i xs[k]).1;have D:=(i x).1;have c:(xs.take k++x::xs.drop (k+1)).flatMap f=(xs.take k).flatMap f++(f x++(xs.drop (k+1)).flatMap f):=by rw[bH,aY]
 generalize (xs.take k).flatMap f=A at p hc c;generalize (xs.drop (k+1)).flatMap f=B at hc c;generalize f xs[k]=X at y hc;have w:k*sz+0+(f x).length≤(A++(X++B)++d).length:=by simp only[af];omega
 have n:adr ⟨b,0,none⟩ (k*sz)=⟨b,k*sz,none⟩:=by rw[bO,aL]
 refine⟨⟨b,0,none⟩,q,v,?_,?_,?_⟩
 ·rw[n]
  refine .inr ⟨_,rfl,fun j F=>?_⟩
  rw[bO];exact iv hc (by rw[cP];omega)
 ·rw[n,iG (f x) h 0 (k*sz) _ hc w]
  refine⟨by simp;omega,i,g,.inr ⟨b,d,q,v,?_,?_⟩⟩
  ·rw[jK hc,c]
   congr 3
   rw[cX,aw A,List.take_left' p,←List.drop_drop,cG p,aw X,cG (by omega)];simp only[aw]
  ·exact z
 ·rw[n,iG (f x) h 0 (k*sz) _ hc w]
  exact Upd.set h _ rfl
theorem OwnN.node{M W:Nat→Prop}{h:ad}{b d n:Nat}{sp sk:SliceV}{s:Slots}{ow:Option Addr}(o:OwnN M h b d n sp sk s ow)(c:∀x,M x→¬W x)(a:OwOk W h ow:=by exact lw):NodeAt W h b s:=by
 obtain⟨A,B,f,g,j,i⟩:=o.ex;exact⟨⟨d,n,sp,sk,ow,o.blk,o.bits,f.sl fun x hx _=>c _ (j x hx).1,g.sl fun x hx _=>c _ (i x hx).1,f.cap,g.cap,a⟩,c _ o.mb⟩
theorem EH{W:Nat→Prop}{h:ad}{b:Nat}{s:Slots}(c:NodeAt W h b s){i:Nat}(hi:i<32){K:Bool→ad→Prop}(a:K true h):HC PG jx [.pointer (some ⟨b,0,none⟩),.int .i64 i] [.c .bool] K h:=by
 obtain⟨d,n,sp,sk,ow,f,_⟩:=c.ex;refine AN _ i ?_;unfold tc fL;refine ay.2 ⟨_,rfl,_,eA (i:=4) f,ay.2 ?_⟩;refine aQ (fun _=>?_) fun h=>absurd (Int.natCast_nonneg i) h
 rw[decide_eq_true (by omega)];exact a
theorem ND{β:Type}{g:Nat→Option β}{i:Nat}{x y:Option β}:upd (upd g i x) i y=upd g i y:=by
 funext j;unfold upd;split<;>rfl
theorem gD{β:Type}{g:Nat→Option β}{i:Nat}{x:Option β}:upd g i x i=x:=by simp[upd]
end Go.Proofs
namespace Go.Proofs
open Go.Lift
end Go.Proofs
namespace Go.Proofs
open Go.Lift
theorem IE{h:ad}{b d n:Nat}{sp sk:SliceV}{a:Bool}{ow:Option Addr}(f:h[b]? =some (.cells (fM d n sp sk a ow) bQ (0,0))) {K:Int→ad→Prop} (c:K (d:Int) h):HC PG j1 [.pointer (some ⟨b,0,none⟩)] [.c (.int .u32)] K h:=by
 refine Ce _ ?_;unfold uF hG;exact aj.2 ⟨_,rfl,_,eA (i:=0) f,c⟩
theorem zX{h:ad}{b d n:Nat}{sp sk:SliceV}{a:Bool}{ow:Option Addr}(f:h[b]? =some (.cells (fM d n sp sk a ow) bQ (0,0))) {K:Int→ad→Prop} (c:K (n:Int) h):HC PG gh [.pointer (some ⟨b,0,none⟩)] [.c (.int .u32)] K h:=by
 refine AQ _ ?_;unfold tg hG;exact aj.2 ⟨_,rfl,_,eA (i:=1) f,c⟩
theorem gt{h:ad}{b d n:Nat}{sp sk:SliceV}{a:Bool}{ow:Option Addr}(f:h[b]? =some (.cells (fM d n sp sk a ow) bQ (0,0))) {K:Bool→ad→Prop} (c:K a h):HC PG dL [.pointer (some ⟨b,0,none⟩)] [.c .bool] K h:=by
 refine w9 _ ?_;unfold qp fL;exact ay.2 ⟨_,rfl,_,eA (i:=4) f,c⟩
def BM(o:Option Pr):Pr:=o.getD (⟨#[]⟩,⟨#[]⟩)
theorem Cz{h:ad}{b:Nat}{q p:Pr}(a:h[b]? =some (.cells #[.string q.1,.string q.2] aB (0,0))) {k:ad→Prop}
  (c:∀h',h'[b]? =some (.cells #[.string p.1,.string p.2] aB (0,0))→Upd (· =b) h h'→k h'):tT h (some ⟨b,0,none⟩) 0 [.string p.1,.string p.2]∧At (gT h ⟨b,0,none⟩ 0 [.string p.1,.string p.2]) k:=by
 have e:=iG [.string p.1,.string p.2] h 0 0 [.string q.1,.string q.2] a (by simp);refine⟨.inr ⟨_,rfl,fun j d=>by rw[bO];exact iv a (by simp at d⊢;omega)⟩,bV ?_⟩
 rw[e];refine c _ ?_ (Upd.set h _ rfl);rw[jK a];rfl
theorem zZ{W:Nat→Prop}{h:ad}{b:Nat}{s:Slots}(w:NodeAt W h b s){i:Nat}(hi:i<32){K:Pr×Bool→ad→Prop}(m:∀h',Upd No h h'→K (BM (s.p i),(s.p i).isSome) h'):
  HC PG iI [.pointer (some ⟨b,0,none⟩),.int .i64 i] [.agg [.str,.str],.c .bool] K h:=by
 refine Cb _ i ?_;unfold uC dH bw aG aM eK my jS hG nN;obtain⟨d,n,sp,sk,ow,B,bits,j,A,u,v⟩:=w.ex;have k1:=Upd.hnew No h [.string (⟨#[]⟩:ByteArray),.string (⟨#[]⟩:ByteArray)] aB;have b1:=db h [.string (⟨#[]⟩:ByteArray),.string (⟨#[]⟩:ByteArray)] aB;refine bV ?_;simp only[gf h];generalize hnew h [.string (⟨#[]⟩:ByteArray),.string (⟨#[]⟩:ByteArray)] aB=h1 at k1 b1
 have c:=k1.get0 B;have k:h1[h.size]? =some (.cells #[.string FT.1,.string FT.2] aB (0,0)):=b1;refine IE c (BL bits.d32 hi ?_);rw[bits.dp i hi];cases hp:s.p i with
 |none=>
  rw[hp]at m;refine ay.2 (Cz (p:=FT) k fun C b2 f=>⟨_,by rw[bO,bA b2];rfl,_,by rw[bO,bA b2];rfl,m _ (k1.trans f fun x hx=>.inr (iA hx.symm))⟩)
 |some y=>
  rw[hp]at m;refine aj.2 ⟨_,rfl,sp,eA (i:=2) c,_,rfl,_,eA (i:=0) c,pW bits.d32 hi ⟨eA (i:=2) c,?_⟩⟩;have z:=Hl hi bits.dp hp;have g:=j.upd k1 fun _ h=>h.elim
  obtain⟨a,q,_,hv⟩:=g.at (Rd hi bits.dp hp);have o:=j.len;refine⟨by omega,a,q,y.1,hv 0 _ rfl,y.2,hv 1 _ rfl,?_⟩;refine Cz (p:=y) k fun C b2 f=>⟨_,by rw[bO,bA b2];rfl,_,by rw[bO,bA b2];rfl,m _ (k1.trans f fun x hx=>.inr (iA hx.symm))⟩
theorem Aa{W:Nat→Prop}{h:ad}{b:Nat}{s:Slots}(p:NodeAt W h b s){i:Nat}(hi:i<32){K:Option Addr×Bool→ad→Prop}(f:K ((s.k i).getD none,(s.k i).isSome) h):
  HC PG ig [.pointer (some ⟨b,0,none⟩),.int .i64 i] [.c .ptr,.c .bool] K h:=by
 refine Dk _ i ?_;unfold vV bJ dH aM hG nN;obtain⟨d,n,sp,sk,ow,g,bits,u,c,m,o⟩:=p.ex;refine zX g (BL bits.n32 hi ?_);rw[bits.nk i hi];cases hp:s.k i with
 |none=>rw[hp]at f;exact ay.2 f
 |some y=>
  rw[hp]at f;refine aj.2 ⟨_,rfl,sk,eA (i:=3) g,_,rfl,_,eA (i:=1) g,pW bits.n32 hi ⟨eA (i:=3) g,?_⟩⟩;have q:=Hl hi bits.nk hp;obtain⟨a,k,_,hv⟩:=c.at (Rd hi bits.nk hp);have j:=c.len;exact⟨by omega,a,k,y,hv 0 _ rfl,f⟩
theorem qf{W:Nat→Prop}{h:ad}{b d n:Nat}{sp sk:SliceV}{c:Bool}{ow:Option Addr}{l:List Pr}(f:h[b]? =some (.cells (fM d n sp sk c ow) bQ (0,0))) (g:Sl ge 2 W h sp l) (j:l.length≤1000000000) {K:SliceV→ad→Prop}
  (a:∀s' h',OwnS ge 2 aB (fun x=>h.size≤x) h' s' l→Upd No h h'→K s' h'):HC PG ft [.pointer (some ⟨b,0,none⟩)] [.c .slice] K h:=by
 refine AO _ ?_;unfold te aM;exact aj.2 ⟨_,rfl,sp,eA (i:=2) f,BX g (by omega) a⟩
theorem Is{W:Nat→Prop}{h:ad}{b d n:Nat}{sp sk:SliceV}{c:Bool}{ow:Option Addr}{l:List (Option Addr)}(f:h[b]? =some (.cells (fM d n sp sk c ow) bQ (0,0))) (g:Sl qu 1 W h sk l) (j:l.length≤1000000000) {K:SliceV→ad→Prop}
  (a:∀s' h',OwnS qu 1 bM (fun x=>h.size≤x) h' s' l→Upd No h h'→K s' h'):HC PG mI [.pointer (some ⟨b,0,none⟩)] [.c .slice] K h:=by
 refine Cc _ ?_;unfold uD aM;exact aj.2 ⟨_,rfl,sk,eA (i:=3) f,Hx g (by omega) a⟩
structure BuckAt(W:Nat→Prop)(h:ad)(b:Nat)(l:List Pr):Prop where
 ex:∃sp sk ow,h[b]? =some (.cells (fM 0 0 sp sk true ow) bQ (0,0))∧Sl ge 2 W h sp l∧Sl qu 1 W h sk []∧sp.len≤sp.cap∧sk.len≤sk.cap∧OwOk W h ow
 nw:¬W b
theorem BuckAt.upd{W M:Nat→Prop}{h c:ad}{b:Nat}{l:List Pr}(n:BuckAt W h b l)(k:Upd M h c)(hm:∀b,M b→W b∨h.size≤b):BuckAt W c b l:=by
 obtain⟨sp,sk,ow,a,i,d,f,g,j⟩:=n.ex;exact⟨⟨sp,sk,ow,k.get a (fun m=>(hm _ m).elim n.nw fun h=>by have:=aH a;omega),i.upd k hm,d.upd k hm,f,g,j.upd k hm⟩,n.nw⟩
theorem Q5{W:Nat→Prop}{h:ad}{b:Nat}{l:List Pr}(z:BuckAt W h b l)(n:cA l)(o:l.length≤1000000000)(k:ByteArray){K:ByteArray×Bool→ad→Prop}
  (i:∀h' v,Upd No h h'→(cn l k=true→(k,v)∈l)→(cn l k=false→v=⟨#[]⟩)→K (v,cn l k) h'):HC PG pI [.pointer (some ⟨b,0,none⟩),.string k] [.c .str,.c .bool] K h:=by
 refine Nk _ k ?_;unfold FJ dH bw zE;obtain⟨sp,sk,ow,A,m,y,u,s⟩:=z.ex;refine qf A m o fun s1 w j f=>?_
 have d:Sl ge 2 No w s1 l:=j.sl fun _ _ _ h=>h
 refine Iy d n o k fun B c=>?_
 cases ht:cn l k with
 |false=>rw[ht]at i;exact ay.2 (i _ _ (f.tr c) (fun h=>by cases h) fun _=>rfl)
 |true=>
  rw[ht]at i;obtain⟨g,e⟩:=Ih n ht;obtain⟨a,q,_,hv⟩:=(d.upd c fun _ h=>h.elim).at (ag g)
  have p:=d.len;refine aj.2 ⟨by simp only;omega,a,q,_,hv 1 _ rfl,i _ _ (f.tr c) (fun _=>?_) fun h=>by cases h⟩
  have:(k,l[nT l k].2)=l[nT l k]:=Prod.ext e.symm rfl;rw[this];exact aP g
theorem T4{W:Nat→Prop}{h:ad}{b:Nat}{l:List Pr}(i:BuckAt W h b l)(g:cA l)(c:l.length≤1000000000)(k:ByteArray){K:ByteArray×Bool→ad→Prop}
 (d:∀a v,Upd No h a→(cn l k=true→(k,v)∈l)→K (v,cn l k) a):HC PG pI [.pointer (some ⟨b,0,none⟩),.string k] [.c .str,.c .bool] K h:=Q5 i g c k fun a v f j _=>d a v f j
end Go.Proofs
namespace Go.Proofs
open Go.Lift
theorem PH{W:Nat→Prop}{h:ad}(b:∀x,W x→x<h.size){K:Option Addr→ad→Prop}(a:∀h' b',BuckAt W h' b' []→Upd No h h'→K (some ⟨b',0,none⟩) h'):HC PG tL [] [.c .ptr] K h:=by
 refine Gq ?_;unfold yw;exact a _ _ ⟨⟨⟨none,0,0⟩,⟨none,0,0⟩,none,db h _ _,Sl.nil jh,Sl.nil rA,ao _,ao _,lw⟩,fun hx=>Nat.lt_irrefl _ (b _ hx)⟩ (Upd.hnew No h _ _)
theorem qW{W:Nat→Prop}{h:ad}(d:∀x,W x→x<h.size){K:Option Addr→ad→Prop}(b:∀h' b',NodeAt W h' b' ⟨fun _=>none,fun _=>none⟩→Upd No h h'→K (some ⟨b',0,none⟩) h'):HC PG oV [] [.c .ptr] K h:=by
 refine Jc ?_;unfold Bc P7;have a:fm (fun _=>(none:Option Pr)) 32= []:=by simp[fm]
 have f:fm (fun _=>(none:Option (Option Addr))) 32= []:=by simp[fm]
 refine b _ _ ⟨⟨0,0,⟨none,0,0⟩,⟨none,0,0⟩,none,db h _ _,⟨by decide,by decide,fun c _=>by simp,fun c _=>by simp⟩,?_,?_,ao _,ao _,lw⟩,fun hx=>Nat.lt_irrefl _ (d _ hx)⟩ (Upd.hnew No h _ _)
 ·show Sl ge 2 W _ _ (fm (fun _=>none) 32)
  rw[a];exact Sl.nil jh
 ·show Sl qu 1 W _ _ (fm (fun _=>none) 32)
  rw[f];exact Sl.nil rA
end Go.Proofs
namespace Go.Proofs
open Go.Lift
def ix(p:Pr):List Pr→List Pr
 | []=> [p]
 |q::l=>if kl q.1 p.1 then q::ix p l else if q.1=p.1 then p::l else p::q::l
theorem gJ(p q:Pr)(l:List Pr):ix p (q::l)=if kl q.1 p.1 then q::ix p l else if q.1=p.1 then p::l else p::q::l:=rfl
theorem N5(p:Pr):∀{l:List Pr},cA l→Ms l p=ix p l
 | [],_=>by simp[Ms,ix,nT,cn]
 |q::l,d=>by
  have d:=bB.1 d;unfold ix;have a:nT (q::l) p.1=if kl q.1 p.1 then nT l p.1+1 else 0:=by
   unfold nT;rw[List.takeWhile_cons];by_cases h:kl q.1 p.1
   ·rw[if_pos (by simpa using h),if_pos h];rfl
   ·rw[if_neg (by simpa using h),if_neg h];rfl
  have c:cn (q::l) p.1=(decide (q.1=p.1)||cn l p.1):=by unfold cn;rw[List.any_cons]
  by_cases h:kl q.1 p.1
  ·have j:q.1≠p.1:=fun e=>by rw[e]at h;exact cO _ h
   rw[if_pos h,←N5 p d.2];unfold Ms;rw[c,a,if_pos h,decide_eq_false j,Bool.false_or];by_cases b:cn l p.1=true
   ·rw[if_pos b,if_pos b];rfl
   ·rw[if_neg b,if_neg b];rfl
  ·rw[if_neg h]
   unfold Ms;rw[c,a,if_neg h];by_cases e:q.1=p.1
   ·rw[if_pos e,decide_eq_true e,Bool.true_or,if_pos rfl];rfl
   ·have f:=wF h e
    have b:cn l p.1=false:=by
     unfold cn;rw[List.any_eq_false];intro r g i;have i:=of_decide_eq_true i;have:=d.1 r g;rw[i]at this;exact cO _ (jY f this)
    rw[if_neg e,decide_eq_false e,b];rfl
theorem Ac{p q:Pr}:∀{l:List Pr},q∈ix p l→q=p∨q∈l
 | [],h=>by simp[ix]at h;exact .inl h
 |r::l,h=>by
  unfold ix at h;split at h
  ·rcases aA.1 h with h|h
   ·exact .inr (h▸aE ..)
   ·exact(Ac h).imp id fun h=>aX _ h
  ·split at h
   ·rcases aA.1 h with h|h
    ·exact .inl h
    ·exact .inr (aX _ h)
   ·rcases aA.1 h with h|h
    ·exact .inl h
    ·exact .inr h
theorem BA(p:Pr):∀{l:List Pr},cA l→cA (ix p l)
 | [],_=>List.pairwise_singleton ..
 |q::l,a=>by
  have c:=a;have a:=bB.1 a;unfold ix;split
  ·rename_i h
   refine bB.2 ⟨fun r hm=>?_,BA p a.2⟩
   rcases Ac hm with rfl|hm
   ·exact h
   ·exact a.1 r hm
  ·rename_i h
   split
   ·rename_i e
    exact bB.2 ⟨fun r hm=>e▸a.1 r hm,a.2⟩
   ·rename_i e
    have b:=wF h e;refine bB.2 ⟨fun r hm=>?_,c⟩
    rcases aA.1 hm with rfl|hm
    ·exact b
    ·exact jY b (a.1 r hm)
theorem EL(p:Pr)(g:ByteArray→Bool):∀{l:List Pr},cA l→(ix p l).filter (fun q=>g q.1)=if g p.1 then ix p (l.filter fun q=>g q.1)else l.filter fun q=>g q.1
 | [],_=>by
  unfold ix;rw[cK,List.filter_nil]
 |q::l,d=>by
  have i:=d;have d:=bB.1 d;have k:=EL p g d.2;rw[gJ];by_cases h:kl q.1 p.1
  ·rw[if_pos h,cK,cK,k]
   by_cases f:g q.1=true
   ·rw[if_pos f,if_pos f]
    split
    ·rw[gJ,if_pos h]
    ·rfl
   ·rw[if_neg f,if_neg f]
  ·rw[if_neg h]
   by_cases e:q.1=p.1
   ·rw[if_pos e,cK,cK,e]
    by_cases a:g p.1=true
    ·rw[if_pos a,if_pos a,if_pos a,gJ,if_neg h,if_pos e]
    ·rw[if_neg a,if_neg a,if_neg a]
   ·rw[if_neg e]
    have c:=wF h e;rw[cK];by_cases a:g p.1=true
    ·rw[if_pos a,if_pos a]
     have:∀r∈(q::l).filter (fun q=>g q.1),kl p.1 r.1:=fun r hm=>by
      rcases aA.1 (il.1 hm).1 with rfl|hm
      ·exact c
      ·exact jY c (d.1 r hm)
     cases hf:(q::l).filter (fun q=>g q.1)with
     |nil=>rfl
     |cons r rs=>
      have b:=this r (by rw[hf];exact aE ..);rw[gJ,if_neg fun j=>cO _ (jY b j),if_neg fun e=>by rw[e]at b;exact cO _ b]
    ·rw[if_neg a,if_neg a]
theorem DC{p:Pr}:∀{l:List Pr},cA l→p∈l→ix p l=l
 |q::l,a,hm=>by
  have a:=bB.1 a;unfold ix;rcases aA.1 hm with rfl|hm
  ·rw[if_neg (cO _),if_pos rfl]
  ·rw[if_pos (a.1 p hm),DC a.2 hm]
def ck(x:Hs)(lev:Nat)(k:ByteArray):Nat:=((l9 x k).toNat>>>(5*lev))%32
theorem yg(x:Hs)(lev:Nat)(k:ByteArray):ck x lev k<32:=mh _ (by omega)
def part(x:Hs)(lev c:Nat)(l:List Pr):List Pr:=l.filter fun p=>decide (ck x lev p.1=c)
def TrieAt(W:Nat→Prop)(x:Hs)(h:ad):Nat→Nat→List Pr→Prop
 |0,b,l=>BuckAt W h b l
 |m+1,b,l=>∃s,NodeAt W h b s∧∀c,c<32→
  ((part x (12-m) c l= []∧s.p c=none∧s.k c=none)∨(∃p,part x (12-m) c l= [p]∧s.p c=some p∧s.k c=none)∨
   (2≤(part x (12-m) c l).length∧s.p c=none∧∃kb,s.k c=some (some ⟨kb,0,none⟩)∧TrieAt W x h m kb (part x (12-m) c l)))
theorem TrieAt.upd0{W:Nat→Prop}{x:Hs}{h d:ad}(k:Upd No h d):∀{m b:Nat} {l:List Pr},TrieAt W x h m b l→TrieAt W x d m b l
 |0,_,_,t=>BuckAt.upd t k fun _ h=>h.elim
 |m+1,_,_,⟨s,nd,hc⟩=>⟨s,nd.upd k fun _ h=>h.elim,fun c a=>(hc c a).imp id fun o=>o.imp id fun⟨i,n,g,j,f⟩=>⟨i,n,g,j,TrieAt.upd0 k f⟩⟩
theorem NodeAt.less{W W':Nat→Prop}{h:ad}{b:Nat}{s:Slots}(n:NodeAt W h b s)(hm:∀b,W' b→W b∨h.size≤b):NodeAt W' h b s:=by
 obtain⟨d,m,sp,sk,ow,a,j,g,c,f,k,i⟩:=n.ex;exact⟨⟨d,m,sp,sk,ow,a,j,g.less hm,c.less hm,f,k,i.less hm⟩,fun hx=>(hm _ hx).elim n.nw fun h=>by have:=aH a;omega⟩
theorem BuckAt.less{W W':Nat→Prop}{h:ad}{b:Nat}{l:List Pr}(n:BuckAt W h b l)(hm:∀b,W' b→W b∨h.size≤b):BuckAt W' h b l:=by
 obtain⟨sp,sk,ow,a,f,c,d,i,g⟩:=n.ex;exact⟨⟨sp,sk,ow,a,f.less hm,c.less hm,d,i,g.less hm⟩,fun hx=>(hm _ hx).elim n.nw fun h=>by have:=aH a;omega⟩
theorem TrieAt.less{W W':Nat→Prop}{x:Hs}{h:ad}(hm:∀b,W' b→W b∨h.size≤b):∀{m b:Nat} {l:List Pr},TrieAt W x h m b l→TrieAt W' x h m b l
 |0,_,_,t=>BuckAt.less t hm
 |m+1,_,_,⟨s,nd,hc⟩=>⟨s,nd.less hm,fun c a=>(hc c a).imp id fun o=>o.imp id fun⟨g,j,f,i,d⟩=>⟨g,j,f,i,TrieAt.less hm d⟩⟩
theorem TrieAt.updM{W M:Nat→Prop}{x:Hs}{h d:ad}(k:Upd M h d)(hm:∀b,M b→W b∨h.size≤b):∀{m b:Nat} {l:List Pr},TrieAt W x h m b l→TrieAt W x d m b l
 |0,_,_,t=>BuckAt.upd t k hm
 |m+1,_,_,⟨s,nd,hc⟩=>⟨s,nd.upd k hm,fun c a=>(hc c a).imp id fun o=>o.imp id fun⟨i,n,g,j,f⟩=>⟨i,n,g,j,TrieAt.updM k hm f⟩⟩
end Go.Proofs
namespace Go.Proofs
open Go.Lift
def By(h:ad)(w o:Option Addr):Prop:=(w=none∧o=none)∨∃b pl id lv,w=some ⟨b,0,none⟩∧h[b]? =some (.cells #[.pointer pl,.int .i64 id,.bool lv] pS (0,0))∧o=if lv then w else none
theorem By.upd{M:Nat→Prop}{h c:ad}{w o:Option Addr}(t:By h w o)(k:Upd M h c)(hm:∀b,w=some ⟨b,0,none⟩→M b→h.size≤b):By c w o:=by
 rcases t with t|⟨b,pl,id,lv,e,a,d⟩
 ·exact .inl t
 ·exact .inr ⟨b,pl,id,lv,e,k.get a (fun hM=>by have:=hm b e hM;have:=aH a;omega),d⟩
theorem By.upd0{h a:ad}{w o:Option Addr}(t:By h w o)(k:Upd No h a):By a w o:=t.upd k fun _ _ h=>h.elim
theorem By.tok{h:ad}{w o:Option Addr}(t:By h w o){a:Addr}(e:o=some a):w=some a:=by
 rcases t with⟨_,d⟩|⟨b,pl,id,lv,f,g,c⟩
 ·rw[d]at e;cases e
 ·rw[e]at c;split at c
  ·exact c.symm
  ·cases c
theorem By.plain{h:ad}{w o:Option Addr}(t:By h w o)(a:Addr)(e:w=some a):eL h a:=by
 rcases t with⟨f,_⟩|⟨b,pl,id,lv,c,d,g⟩
 ·rw[f]at e;cases e
 ·rw[c]at e;cases e;exact⟨_,_,d,by simp⟩
theorem Ag{h:ad}{w o:Option Addr}(t:By h w o){K:Bool→ad→Prop}(a:K o.isSome h):HC PG eV [.pointer w] [.c .bool] K h:=by
 refine y7 w ?_;unfold rN fL;rcases t with⟨rfl,rfl⟩|⟨b,pl,id,lv,rfl,c,rfl⟩
 ·exact aj.2 a
 ·refine ay.2 ⟨_,rfl,lv,eA (i:=2) c,?_⟩
  cases lv<;>exact a
theorem Ka{h:ad}{w o:Option Addr}{b d n:Nat}{sp sk:SliceV}{g:Bool}{ow:Option Addr}(t:By h w o)(k:h[b]? =some (.cells (fM d n sp sk g ow) bQ (0,0))) (f:∀a,ow=some a→eL h a) {K:Bool→ad→Prop} (c:K (o.isSome&&(ow==w)) h):
  HC PG oU [.pointer (some ⟨b,0,none⟩),.pointer w] [.c .bool] K h:=by
 refine AP _ w ?_;unfold tf f9;refine ay.2 (Ag t ?_);cases o with
 |none=>exact aj.2 c
 |some a=>exact ay.2 ⟨_,rfl,ow,eA (i:=5) k,trivial,fun x y hx j=>⟨f x hx,t.plain y j⟩,c⟩
set_option maxRecDepth 4000 in
theorem NW{W:Nat→Prop}{h:ad}{w o:Option Addr}{b d n:Nat}{sp sk:SliceV}{f:Bool}{ow:Option Addr}{Z:List Pr}{lk:List (Option Addr)}(t:By h w o)(g:h[b]? =some (.cells (fM d n sp sk f ow) bQ (0,0)))
  (hp:∀a,ow=some a→eL h a) (T:(o.isSome&&(ow==w))=false) (S:Sl ge 2 W h sp Z) (O:Sl qu 1 W h sk lk) (hlp:Z.length≤1000000000) (hlk:lk.length≤1000000000) {K:Option Addr→ad→Prop}
  (V:∀m sp' sk' (A B:Nat→Prop),m[h.size]? =some (.cells (fM d n sp' sk' f o) bQ (0,0))→OwnS ge 2 aB A m sp' Z→OwnS qu 1 bM B m sk' lk→(∀x,A x→h.size<x∧¬B x∧x<m.size)→(∀x,B x→h.size<x∧x<m.size)→Upd No h m→K (some ⟨h.size,0,none⟩) m):
  HC PG fe [.pointer (some ⟨b,0,none⟩),.pointer w] [.c .ptr] K h:=by
 refine vP _ w ?_;unfold qE aM cp nv f9 jp fL hG P7 Uj;refine Ka t g hp ?_;rw[T];refine aj.2 ?_;have c:∀{h:ad} {b:Nat} {c:Array Value} {i:Nat},h[b]? =some (.cells c bQ (0,0))→aR h ⟨b,0+i,none⟩=c[i]?:=fun g=>by rw[aL];exact bA g
 refine⟨_,rfl,_,c (i:=0) g,_,c (i:=1) g,sp,c (i:=2) g,sk,c (i:=3) g,_,c (i:=4) g,_,c (i:=5) g,?_⟩;have k1:=Upd.hnew No h [.int .u32 0,.int .u32 0,.slice none 0 0,.slice none 0 0,.bool false,.pointer none] bQ;have b1:=db h [.int .u32 0,.int .u32 0,.slice none 0 0,.slice none 0 0,.bool false,.pointer none] bQ;refine bV ?_;simp only[gf h];generalize hnew h [.int .u32 0,.int .u32 0,.slice none 0 0,.slice none 0 0,.bool false,.pointer none] bQ=h1 at k1 b1
 have hs1:gT h1 ⟨h.size,0,none⟩ 0 [.int .u32 (d:Int),.int .u32 (n:Int),.slice sp.a sp.len sp.cap,.slice sk.a sk.len sk.cap,.bool f,.pointer ow]=_:=iG _ h1 0 0 _ b1 (by simp);refine⟨.inr ⟨_,rfl,fun j hj=>by rw[bO];exact iv b1 (by simp at hj⊢;omega)⟩,bV ?_⟩
 rw[hs1];have b2:=jK (o:=.cells (fM d n sp sk f ow) bQ (0,0)) b1;have H:Upd No h _:=k1.trans (M':=(· =h.size)) (Upd.set h1 (.cells (fM d n sp sk f ow) bQ (0,0)) rfl) fun x hx=>.inr (iA hx.symm)
 have M:h.size<(h1.setIfInBounds h.size (.cells (fM d n sp sk f ow) bQ (0,0))).size:=aH b2;have e2:(Obj.cells (List.take (0+0) [Value.int .u32 0,.int .u32 0,.slice none 0 0,.slice none 0 0,.bool false,.pointer none]++ [Value.int .u32 (d:Int),.int .u32 (n:Int),.slice sp.a sp.len sp.cap,.slice sk.a sk.len sk.cap,.bool f,.pointer ow]++List.drop (0+0+ [Value.int .u32 (d:Int),.int .u32 (n:Int),.slice sp.a sp.len sp.cap,.slice sk.a sk.len sk.cap,.bool f,.pointer ow].length) [Value.int .u32 0,.int .u32 0,.slice none 0 0,.slice none 0 0,.bool false,.pointer none]).toArray bQ (0,0))=.cells (fM d n sp sk f ow) bQ (0,0):=rfl
 rw[e2];generalize h1.setIfInBounds h.size (.cells (fM d n sp sk f ow) bQ (0,0))=h2 at b2 H M;have z:=H.get0 g;refine⟨_,rfl,sp,c (i:=2) z,_,rfl,sk,c (i:=3) z,?_⟩;refine BX (S.upd H fun _ h=>h.elim) (by omega) fun s3 h3 N p=>?_
 refine⟨c (i:=3) (p.get0 z),?_⟩;refine Hx ((O.upd H fun _ h=>h.elim).upd p fun _ h=>h.elim) (by omega) fun D h4 Y u=>?_
 have b4:=u.get0 (p.get0 b2);have E:=N.within.upd u fun _ _ h=>h
 have C:=Y.within;have z3:=p.size;have z4:=u.size;have J:∀{h:ad} {c:Array Value} {x i:Nat},h[x]? =some (.cells c bQ (0,0))→i<c.size→Wr h ⟨x,0+i,none⟩:=fun g hi=>by rw[aL];exact iv g hi
 have I:∀{h:ad} {c c':Array Value} {x i:Nat} {v:Value} {k:ad→Prop},h[x]? =some (.cells c bQ (0,0))→c.setIfInBounds i v=c'→(∀m,m[x]? =some (.cells c' bQ (0,0))→Upd (· =x) h m→k m)→At (hset h ⟨x,i,none⟩ v) k:=fun g e V=>vq g fun m L hu=>V m (e▸L) hu
 refine⟨J (i:=2) b4 (show 2<6 by decide),I (i:=2) (c':=fM d n s3 sk f ow) b4 rfl fun h5 b5 hu5=>?_⟩
 refine⟨J (i:=3) b5 (show 3<6 by decide),I (i:=3) (c':=fM d n s3 D f ow) b5 rfl fun h6 b6 Q=>?_⟩
 refine⟨J (i:=5) b6 (show 5<6 by decide),I (i:=5) (c':=fM d n s3 D f none) b6 rfl fun h7 P R=>?_⟩
 have s:=hu5.tr (Q.tr R);have z7:=s.size;have G:Upd No h h7:=((H.tr p).tr u).trans s fun x hx=>.inr (iA hx.symm)
 have t7:=t.upd0 G;have fin:∀{F:ad},F[h.size]? =some (.cells (fM d n s3 D f o) bQ (0,0))→Upd (· =h.size) h7 F→K (some ⟨h.size,0,none⟩) F:=fun{F} X q=>by
  have y:=s.tr q;have z8:=q.size;exact V _ s3 D (fun x=>h2.size≤x∧x<h3.size) (fun x=>h3.size≤x∧x<h4.size) X (E.upd y fun x hx e=>by have e:x=h.size:=e;omega) (C.upd y fun x hx e=>by have e:x=h.size:=e;omega) (fun x hx=>⟨by omega,by omega,by omega⟩) (fun x hx=>⟨by omega,by omega⟩) (G.trans q fun x hx=>.inr (iA hx.symm))
 refine Ag t7 ?_;cases ho:o with
 |none=>rw[ho]at fin;exact aj.2 (fin P (Upd.refl _ _))
 |some a=>
  rw[ho]at fin;rw[t.tok ho];refine ay.2 ⟨J (i:=5) P (show 5<6 by decide),I (i:=5) (c':=fM d n s3 D f (some a)) P rfl fun F X q=>fin X q⟩
theorem NV{h:ad}{w o:Option Addr}{b d n:Nat}{sp sk:SliceV}{i:Bool}{ow:Option Addr}(t:By h w o)(j:h[b]? =some (.cells (fM d n sp sk i ow) bQ (0,0))) (f:∀a,ow=some a→eL h a) (c:(o.isSome&&(ow==w))=true) {K:Option Addr→ad→Prop} (g:K (some ⟨b,0,none⟩) h):
  HC PG fe [.pointer (some ⟨b,0,none⟩),.pointer w] [.c .ptr] K h:=by
 refine vP _ w ?_;unfold qE aM cp nv f9 jp fL hG P7 Uj;refine Ka t j f ?_;rw[c];exact ay.2 g
def NodeO(o:Option Addr)(W:Nat→Prop)(h:ad)(b:Nat)(s:Slots)(S:Nat→Prop):Prop:=
 (NodeAt W h b s∧∀y,¬S y)∨(o.isSome=true∧∃d n sp sk,OwnN S h b d n sp sk s o)
theorem OwnN.mono{M M':Nat→Prop}{h:ad}{b d n:Nat}{sp sk:SliceV}{s:Slots}{ow:Option Addr}(o:OwnN M h b d n sp sk s ow)(hm:∀x,M x→M' x):OwnN M' h b d n sp sk s ow:=by
 obtain⟨A,B,f,g,c,a⟩:=o.ex;exact⟨o.blk,o.bits,⟨A,B,f,g,fun x hx=>⟨hm _ (c x hx).1,(c x hx).2⟩,fun x hx=>⟨hm _ (a x hx).1,(a x hx).2⟩⟩,hm _ o.mb⟩
theorem OwnN.within{M:Nat→Prop}{h:ad}{b d n:Nat}{sp sk:SliceV}{s:Slots}{ow:Option Addr}(o:OwnN M h b d n sp sk s ow):OwnN (fun x=>M x∧x<h.size) h b d n sp sk s ow:=by
 obtain⟨A,B,f,g,c,a⟩:=o.ex;exact⟨o.blk,o.bits,⟨A,B,f,g,fun x hx=>⟨⟨(c x hx).1,(c x hx).2.2.2⟩,(c x hx).2⟩,fun x hx=>⟨⟨(a x hx).1,(a x hx).2.2⟩,(a x hx).2⟩⟩,o.mb,aH o.blk⟩
theorem Ij{W S:Nat→Prop}{h:ad}{w o:Option Addr}{b:Nat}{s:Slots}(i:NodeO o W h b s S)(t:By h w o)(I:∀a,o=some a→W a.block){K:Option Addr→ad→Prop}
  (E:∀j p d n sp sk,OwnN (fun y=>S y∨h.size≤y) j p d n sp sk s o→Upd No h j→K (some ⟨p,0,none⟩) j):
  HC PG fe [.pointer (some ⟨b,0,none⟩),.pointer w] [.c .ptr] K h:=by
 rcases i with⟨i,_⟩|⟨D,d,n,sp,sk,i⟩
 ·obtain⟨d,n,sp,sk,ow,F,bits,v,u,J,G,m⟩:=i.ex
  refine NW t F (fun a e=>(m a e).2) ?_ v u (by have:=wJ (g:=s.p);omega) (by have:=wJ (g:=s.k);omega) fun j q z A B p L H c f k=>?_
  ·cases ho:o with
   |none=>rfl
   |some a=>
    have e:=t.tok ho;rw[Option.isSome_some,Bool.true_and,beq_eq_false_iff_ne];intro C;rw[e]at C;exact(m a C).1 (I a ho)
  ·exact E j h.size d n q z ⟨p,bits,⟨A,B,L,H,fun x hx=>⟨.inr (by have:=(c x hx).1;omega),(c x hx).2.1,by have:=(c x hx).1;omega,(c x hx).2.2⟩,fun x hx=>⟨.inr (by have:=(f x hx).1;omega),by have:=(f x hx).1;omega,(f x hx).2⟩⟩,.inr (ao _)⟩ k
 ·refine NV t i.blk (fun a e=>t.plain a (t.tok e)) ?_ (E h b d n sp sk (i.mono fun _ h=>.inl h) (Upd.refl _ _))
  obtain⟨a,e⟩:=dT.1 D;rw[D,e,t.tok e];simp
end Go.Proofs
namespace Go.Proofs
inductive Fo where
 |nil:Fo
 |cons (lab:List UInt8) (val:Option ByteArray) (kids rest:Fo):Fo
abbrev Bn:=List UInt8×Option ByteArray×Fo
def Fo.toL:Fo→List Bn
 | .nil=> []
 | .cons lab w kids rest=>(lab,w,kids)::rest.toL
theorem Fo.toL_cons(lab:List UInt8)(w:Option ByteArray)(b a:Fo):(Fo.cons lab w b a).toL=(lab,w,b)::a.toL:=rfl
def Fo.ofL:List Bn→Fo
 | []=>.nil
 |(lab,w,kids)::l=>.cons lab w kids (Fo.ofL l)
theorem Fo.to_of:∀l:List Bn,(Fo.ofL l).toL=l
 | []=>rfl
 |(_,_,_)::l=>by show _::(Fo.ofL l).toL=_;rw[Fo.to_of l]
theorem Fo.of_to:∀F:Fo,Fo.ofL F.toL=F
 | .nil=>rfl
 | .cons lab w kids rest=>by show Fo.cons lab w kids (Fo.ofL rest.toL)=_;rw[Fo.of_to rest]
def pi:Fo→List UInt8→ByteArray→Prop
 | .nil,_,_=>False
 | .cons lab w kids rest,k,v=>(∃r,k=lab++r∧((r= []∧w=some v)∨pi kids r v))∨pi rest k v
def p7(w:Option ByteArray)(F:Fo)(k:List UInt8)(v:ByteArray):Prop:=(k= []∧w=some v)∨pi F k v
def rK(n:Bn)(k:List UInt8)(v:ByteArray):Prop:=∃r,k=n.1++r∧p7 n.2.1 n.2.2 r v
theorem fq:∀{F:Fo} {k:List UInt8} {v:ByteArray},pi F k v↔∃n∈F.toL,rK n k v
 | .nil,_,_=>by simp[pi,Fo.toL]
 | .cons lab w kids rest,k,v=>by
  rw[Fo.toL_cons];unfold pi;rw[fq (F:=rest)];constructor
  ·rintro(h|⟨n,a,h⟩)
   ·exact⟨_,aE ..,h⟩
   ·exact⟨n,aX _ a,h⟩
  ·rintro⟨n,a,h⟩
   rcases aA.1 a with rfl|a
   ·exact .inl h
   ·exact .inr ⟨n,a,h⟩
def hd(k:List UInt8):Nat:=(k.headD 0).toNat
theorem oL{a b:List UInt8}(h:a≠[]):hd (a++b)=hd a:=by
 cases a with
 |nil=>exact absurd rfl h
 |cons x a=>rfl
theorem T7(a:List UInt8):hd a<256:=UInt8.toNat_lt _
def fi:Fo→Prop
 | .nil=>True
 | .cons lab w kids rest=>lab≠[]∧(w.isSome∨2≤kids.toL.length)∧fi kids∧(∀n∈rest.toL,hd lab<hd n.1)∧fi rest
def Lc(n:Bn):Prop:=n.1≠[]∧(n.2.1.isSome∨2≤n.2.2.toL.length)∧fi n.2.2
theorem eI:∀{F:Fo},fi F↔F.toL.Pairwise (fun m n=>hd m.1<hd n.1)∧∀n∈F.toL,Lc n
 | .nil=>by simp[fi,Fo.toL]
 | .cons lab w kids rest=>by
  rw[Fo.toL_cons,bB];show(lab≠[]∧(w.isSome∨2≤kids.toL.length)∧fi kids∧(∀n∈rest.toL,hd lab<hd n.1)∧fi rest)↔_
  rw[eI (F:=rest)];constructor
  ·rintro⟨f,i,g,c,d,b⟩
   refine⟨⟨c,d⟩,fun n a=>?_⟩
   rcases aA.1 a with rfl|a
   ·exact⟨f,i,g⟩
   ·exact b n a
  ·rintro⟨⟨c,d⟩,b⟩
   have:=b _ (aE ..);exact⟨this.1,this.2.1,this.2.2,c,d,fun n a=>b n (aX _ a)⟩
theorem nr:∀{F:Fo},fi F→∀n∈F.toL,∃r v,p7 n.2.1 n.2.2 r v
 | .nil,_,n,a=>by simp[Fo.toL]at a
 | .cons lab w kids rest,h,n,a=>by
  rcases aA.1 a with rfl|a
  ·rcases h.2.1 with c|b
   ·obtain⟨v,hv⟩:=dT.1 c
    exact⟨[],v,.inl ⟨rfl,hv⟩⟩
   ·have d:=nr h.2.2.1
    have⟨m,hm⟩:∃m,m∈kids.toL:=by
     cases hl:kids.toL with
     |nil=>rw[hl]at b;simp at b
     |cons m l=>exact⟨m,aE ..⟩
    obtain⟨r,v,f⟩:=d m hm;exact⟨m.1++r,v,.inr (fq.2 ⟨m,hm,r,rfl,f⟩)⟩
  ·exact nr h.2.2.2.2 n a
theorem nU{F:Fo}(h:fi F){k:List UInt8}{v:ByteArray}(hi:pi F k v):k≠[]:=by
 obtain⟨n,a,r,rfl,_⟩:=fq.1 hi;have:=((eI.1 h).2 n a).1;intro e;exact this (gm.1 e).1
theorem oK{F:Fo}(h:fi F){k:List UInt8}{v:ByteArray}(hi:pi F k v):∃n∈F.toL,hd n.1=hd k∧rK n k v:=by
 obtain⟨n,a,r,e,b⟩:=fq.1 hi;exact⟨n,a,by rw[e,oL ((eI.1 h).2 n a).1],r,e,b⟩
theorem vp{F:Fo}(h:fi F){m n:Bn}(hm:m∈F.toL)(f:n∈F.toL)(e:hd m.1=hd n.1):m=n:=by
 have c:=(eI.1 h).1;revert hm f;generalize F.toL=l at*;clear h;induction l with
 |nil=>intro hm;simp at hm
 |cons a l ih=>
  have c:=bB.1 c;intro hm f;rcases aA.1 hm with i|d
  ·rcases aA.1 f with g|b
   ·rw[i,g]
   ·have:=c.1 n b;rw[←i]at this;omega
  ·rcases aA.1 f with g|b
   ·have:=c.1 m d;rw[←g]at this;omega
   ·exact ih c.2 d b
def Br(P:List UInt8→ByteArray→Prop):Prop:=(∃v,P [] v)∨∃j k u v,P j u∧P k v∧j≠[]∧k≠[]∧hd j≠hd k
theorem E5{w:Option ByteArray}{F:Fo}(h:fi F):(w.isSome∨2≤F.toL.length)↔Br (p7 w F):=by
 constructor
 ·rintro(y|E)
  ·obtain⟨v,hv⟩:=dT.1 y
   exact .inl ⟨v,.inl ⟨rfl,hv⟩⟩
  ·right
   have c:=nr h;have hc:=eI.1 h;match hL:F.toL,E with
   |a::b::l,_=>
    have d:a∈F.toL:=by rw[hL];simp
    have i:b∈F.toL:=by rw[hL];simp
    obtain⟨r,v,D⟩:=c a d;obtain⟨s,u,c⟩:=c b i;have p:=(hc.2 a d).1;have q:=(hc.2 b i).1;have:=hc.1;rw[hL]at this;have G:=(bB.1 this).1 b (aE ..);refine⟨a.1++r,b.1++s,v,u,.inr (fq.2 ⟨a,d,r,rfl,D⟩),.inr (fq.2 ⟨b,i,s,rfl,c⟩),?_,?_,?_⟩
    ·intro e;exact p (gm.1 e).1
    ·intro e;exact q (gm.1 e).1
    ·rw[oL p,oL q];omega
 ·rintro(⟨v,hv⟩|⟨j,k,u,v,g,f,z,nk,A⟩)
  ·rcases hv with⟨_,hv⟩|hv
   ·left;rw[hv];rfl
   ·exact absurd rfl (nU h hv)
  ·right
   rcases g with⟨e,_⟩|g
   ·exact absurd e z
   rcases f with⟨e,_⟩|f
   ·exact absurd e nk
   obtain⟨m,hm,B,_⟩:=oK h g;obtain⟨n,o,C,_⟩:=oK h f;match hL:F.toL with
   | []=>rw[hL]at hm;simp at hm
   | [a]=>
    rw[hL]at hm o;rw[au.1 hm]at B;rw[au.1 o]at C;omega
   |a::b::l=>simp
end Go.Proofs
namespace Go.Proofs
theorem N6{m n:Bn}(o:Br (p7 m.2.1 m.2.2))(h:∀k v,rK m k v→rK n k v):∃t,m.1=n.1++t:=by
 rcases o with⟨v,hv⟩|⟨j,k,u,v,i,g,p,nk,b⟩
 ·obtain⟨r,e,_⟩:=h m.1 v ⟨[],(bT _).symm,hv⟩
  exact⟨r,e⟩
 ·obtain⟨r,e,_⟩:=h (m.1++j) u ⟨j,rfl,i⟩
  obtain⟨s,f,_⟩:=h (m.1++k) v ⟨k,rfl,g⟩;rcases List.append_eq_append_iff.1 e with⟨a,c,d⟩|⟨a,c,d⟩
  ·rw[c,aw]at f
   have f:=d9 f;cases a with
   |nil=>exact⟨[],by rw[c];simp⟩
   |cons x a=>
    rw[d]at b;rw[f]at b;exact absurd rfl b
  ·exact⟨a,c⟩
theorem MN:∀{F F':Fo},fi F→fi F'→(∀k v,pi F k v↔pi F' k v)→F=F'
 | .nil,.nil,_,_,_=>rfl
 | .nil,.cons lab w b c,_,h,he=>by
  obtain⟨r,v,j⟩:=nr h _ (aE ..);exact((he _ v).2 (fq.2 ⟨_,aE ..,r,rfl,j⟩)).elim
 | .cons lab w b c,.nil,h,_,he=>by
  obtain⟨r,v,j⟩:=nr h _ (aE ..);exact((he _ v).1 (fq.2 ⟨_,aE ..,r,rfl,j⟩)).elim
 | .cons lab w b c,.cons d w' a f,h,g,he=>by
  have z:∀{lab w b c} {F:Fo},fi (.cons lab w b c)→fi F→(∀k v,pi F k v→pi (.cons lab w b c) k v)→∀n∈F.toL,hd lab≤hd n.1:=by
   intro lab w b c F h I hi n i;obtain⟨r,v,j⟩:=nr I n i;obtain⟨m,hm,e,_⟩:=oK h (hi _ v (fq.2 ⟨n,i,r,rfl,j⟩));rw[oL ((eI.1 I).2 n i).1]at e;rcases aA.1 hm with rfl|hm
   ·simp only at e;omega
   ·have:=h.2.2.2.1 m hm;omega
  have O:=z h g (fun k v=>(he k v).2) _ (aE ..)
  have K:=z g h (fun k v=>(he k v).1) _ (aE ..)
  simp only at O K;have s:hd lab=hd d:=by omega
  have B:∀{lab w b c d w' a f},fi (.cons lab w b c)→fi (.cons d w' a f)→hd lab=hd d→(∀k v,pi (.cons lab w b c) k v→pi (.cons d w' a f) k v)→(∀k v,rK (lab,w,b) k v→rK (d,w',a) k v)∧(∀k v,pi c k v→pi f k v):=by
   intro lab w b c d w' a f h g s hi;refine⟨fun k v o=>?_,fun k v o=>?_⟩
   ·obtain⟨n,i,e,j⟩:=oK g (hi k v (fq.2 ⟨_,aE ..,o⟩))
    obtain⟨r,rfl,_⟩:=o;rw[oL h.1]at e;rw[←vp g i (aE ..) (by simp only;omega)];exact j
   ·obtain⟨m,hm,Q,_⟩:=oK h.2.2.2.2 o
    have:=h.2.2.2.1 m hm;obtain⟨n,i,e,j⟩:=oK g (hi k v (Or.inr o));rcases aA.1 i with rfl|i
    ·simp only at e;omega
    ·exact fq.2 ⟨n,i,j⟩
  have⟨H,L⟩:=B h g s fun k v=>(he k v).1
  have⟨J,N⟩:=B g h s.symm fun k v=>(he k v).2
  have q:c=f:=MN h.2.2.2.2 g.2.2.2.2 fun k v=>⟨L k v,N k v⟩
  obtain⟨t,C⟩:=N6 (m:=(lab,w,b)) (n:=(d,w',a)) ((E5 h.2.2.1).1 h.2.1) H;obtain⟨R,y⟩:=N6 (m:=(d,w',a)) (n:=(lab,w,b)) ((E5 g.2.2.1).1 g.2.1) J;simp only at C y;have A:lab=d:=by
   have:t= []:=by
    have P:=congrArg f8 C;have M:=congrArg f8 y;rw[af]at P M;exact List.length_eq_zero_iff.1 (by omega)
   rw[C,this,bT]
  subst A;have u:∀{w b w' a},(∀k v,rK (lab,w,b) k v→rK (lab,w',a) k v)→∀k v,p7 w b k v→p7 w' a k v:=by
   intro w b w' a i k v o;obtain⟨r,e,j⟩:=i (lab++k) v ⟨k,rfl,o⟩;rw[d9 e];exact j
  have i1:=u H;have G:=u J;have ew:w=w':=by
   have D:∀{w b w' a},fi a→(∀k v,p7 w b k v→p7 w' a k v)→∀v,w=some v→w'=some v:=by
    intro w b w' a hc hi v hv;rcases hi [] v (.inl ⟨rfl,hv⟩)with⟨_,h⟩|h
    ·exact h
    ·exact absurd rfl (nU hc h)
   exact Option.ext fun v=>⟨D g.2.2.1 i1 v,D h.2.2.1 G v⟩
  have E:∀{w b w' a},fi b→(∀k v,p7 w b k v→p7 w' a k v)→∀k v,pi b k v→pi a k v:=by
   intro w b w' a hc hi k v o;rcases hi k v (.inr o)with⟨e,_⟩|h
   ·exact absurd e (nU hc o)
   ·exact h
  have p:b=a:=MN h.2.2.1 g.2.2.1 fun k v=>⟨E h.2.2.1 i1 k v,E g.2.2.1 G k v⟩
  rw[ew,p,q]
def tO(P a:List UInt8→ByteArray→Prop)(k:List UInt8)(v:ByteArray):Prop:=∀k' v',a k' v'↔(k'=k∧v'=v)∨(k'≠k∧P k' v')
theorem G1{w:Option ByteArray}{F:Fo}(h:fi F)(v:ByteArray):tO (p7 w F) (p7 (some v) F) [] v:=by
 intro k' a;unfold p7;constructor
 ·rintro(⟨e,f⟩|hi)
  ·exact .inl ⟨e,(bF.inj f).symm⟩
  ·exact .inr ⟨nU h hi,.inr hi⟩
 ·rintro(⟨e,f⟩|⟨e,⟨f,_⟩|hi⟩)
  ·exact .inl ⟨e,by rw[f]⟩
  ·exact absurd f e
  ·exact .inr hi
theorem BE{w:Option ByteArray}{F F':Fo}{k:List UInt8}{v:ByteArray}(a:k≠[])(h:tO (pi F) (pi F') k v):tO (p7 w F) (p7 w F') k v:=by
 intro k' b;unfold p7;rw[h k' b];constructor
 ·rintro(⟨e,f⟩|hi|hi)
  ·exact .inr ⟨fun e'=>a (e'.symm.trans e),.inl ⟨e,f⟩⟩
  ·exact .inl hi
  ·exact .inr ⟨hi.1,.inr hi.2⟩
 ·rintro(hi|⟨e,hi|hi⟩)
  ·exact .inr (.inl hi)
  ·exact .inl hi
  ·exact .inr (.inr ⟨e,hi⟩)
theorem O7{F:Fo}{k:List UInt8}{v:ByteArray}{i:Nat}(h:fi F)(A:k≠[])(hi:∀j (d:j<F.toL.length),j<i→hd F.toL[j].1<hd k)(g:∀j (d:j<F.toL.length),i≤j→hd k<hd F.toL[j].1):fi (.ofL (F.toL.take i++(k,some v,.nil)::F.toL.drop i))∧tO (pi F) (pi (.ofL (F.toL.take i++(k,some v,.nil)::F.toL.drop i))) k v:=by
 have hc:=eI.1 h;have y:∀n∈F.toL.take i,hd n.1<hd k:=fun n c=>by
  obtain⟨j,d,e⟩:=cD c;rw[aU]at d;rw[←e,List.getElem_take];exact hi j (by omega) (by omega)
 have z:∀n∈F.toL.drop i,hd k<hd n.1:=fun n c=>by
  obtain⟨j,d,e⟩:=cD c;rw[List.length_drop]at d;rw[←e,List.getElem_drop];exact g _ (by omega) (by omega)
 have mem:∀n,n∈F.toL.take i++(k,some v,.nil)::F.toL.drop i↔n=(k,some v,Fo.nil)∨n∈F.toL:=fun n=>by
  conv=>rhs;rw[←ba i F.toL]
  simp only[List.mem_append,aA];exact⟨fun h=>h.elim (fun h=>.inr (.inl h)) fun h=>h.elim .inl fun h=>.inr (.inr h),fun h=>h.elim (fun h=>.inr (.inl h)) fun h=>h.elim .inl fun h=>.inr (.inr h)⟩
 refine⟨eI.2 ⟨?_,?_⟩,fun k' w=>?_⟩
 ·rw[Fo.to_of]
  have m:=hc.1;rw[←ba i F.toL,du]at m;refine du.2 ⟨m.1,bB.2 ⟨z,m.2.1⟩,fun a q b p=>?_⟩
  rcases aA.1 p with rfl|p
  ·exact y a q
  ·exact m.2.2 a q b p
 ·rw[Fo.to_of]
  intro n c;rcases(mem n).1 c with rfl|c
  ·exact⟨A,.inl rfl,trivial⟩
  ·exact hc.2 n c
 ·rw[fq,fq,Fo.to_of]
  constructor
  ·rintro⟨n,c,r,e,u⟩
   rcases(mem n).1 c with rfl|c
   ·rcases u with⟨rfl,f⟩|f
    ·exact .inl ⟨by rw[e];exact bT _,(bF.inj f).symm⟩
    ·exact f.elim
   ·right
    refine⟨fun e'=>?_,n,c,r,e,u⟩
    have B:hd k=hd n.1:=by rw[←e',e,oL (hc.2 n c).1]
    obtain⟨j,d,s⟩:=cD c;rcases bK j i with o|o
    ·have:=hi j d o;rw[s]at this;omega
    ·have:=g j d o;rw[s]at this;omega
  ·rintro(⟨rfl,rfl⟩|⟨_,n,c,h⟩)
   ·exact⟨(k',some w,.nil),(mem _).2 (.inl rfl),[],(bT _).symm,.inl ⟨rfl,rfl⟩⟩
   ·exact⟨n,(mem _).2 (.inr c),h⟩
theorem lZ{α:Type}{l:List α}{i:Nat}(hi:i<l.length){a x:α}(d:∀j (c:j<l.length),j≠i→l[j]≠l[i]):x∈l.set i a↔x=a∨(x∈l∧x≠l[i]):=by
 constructor
 ·intro h
  obtain⟨j,c,e⟩:=cD h;rw[dJ]at c;rw[List.getElem_set]at e;split at e
  ·exact .inl e.symm
  ·rename_i b
   exact .inr ⟨by rw[←e];exact aP c,by rw[←e];exact d j c fun e=>b e.symm⟩
 ·rintro(rfl|⟨h,b⟩)
  ·exact nh (i:=i) (h:=by simpa using hi) (by simp)
  ·obtain⟨j,c,e⟩:=cD h
   have:i≠j:=by rintro rfl;exact b e.symm
   exact nh (i:=j) (h:=by simpa using c) (by rw[List.getElem_set_ne this];exact e)
theorem Ol{F:Fo}{i:Nat}{m:Bn}(h:fi F)(hi:i<F.toL.length)(hm:Lc m)(e:hd m.1=hd F.toL[i].1):fi (.ofL (F.toL.set i m)):=by
 have hc:=eI.1 h;rw[eI,Fo.to_of];refine⟨?_,fun n g=>?_⟩
 ·rw[cF]at hc⊢
  intro a b d f c;rw[dJ]at d f;rw[List.getElem_set,List.getElem_set];split
  ·rename_i ea;subst ea
   rw[if_neg (by omega),e];exact hc.1 _ _ d f c
  ·split
   ·rename_i eb;subst eb
    rw[e];exact hc.1 _ _ d f c
   ·exact hc.1 _ _ d f c
 ·rcases List.mem_or_eq_of_mem_set g with g|rfl
  ·exact hc.2 n g
  ·exact hm
theorem uT{F:Fo}(h:fi F){i:Nat}(hi:i<F.toL.length)(j:Nat)(c:j<F.toL.length)(b:j≠i):F.toL[j]≠F.toL[i]:=by
 have hc:=(eI.1 h).1;rw[cF]at hc;intro e;rcases Nat.lt_or_gt_of_ne b with a|a
 ·have:=hc j i c hi a;rw[e]at this;omega
 ·have:=hc i j hi c a;rw[e]at this;omega
theorem JU{F:Fo}{i:Nat}{m:Bn}{k:List UInt8}{v:ByteArray}(h:fi F)(hi:i<F.toL.length)(ek:hd F.toL[i].1=hd k)(d:tO (rK F.toL[i]) (rK m) k v):tO (pi F) (pi (.ofL (F.toL.set i m))) k v:=by
 intro k' f;have hc:=eI.1 h;rw[fq,fq,Fo.to_of];constructor
 ·rintro⟨n,a,c⟩
  rcases(lZ hi (uT h hi)).1 a with rfl|⟨a,g⟩
  ·rcases(d k' f).1 c with b|⟨b,j⟩
   ·exact .inl b
   ·exact .inr ⟨b,_,aP hi,j⟩
  ·refine .inr ⟨fun e=>g ?_,n,a,c⟩
   obtain⟨r,e',_⟩:=c;refine vp h a (aP hi) ?_;rw[ek,←e,e',oL (hc.2 n a).1]
 ·rintro(b|⟨b,n,a,c⟩)
  ·exact⟨m,(lZ hi (uT h hi)).2 (.inl rfl),(d k' f).2 (.inl b)⟩
  ·by_cases e:n=F.toL[i]
   ·exact⟨m,(lZ hi (uT h hi)).2 (.inl rfl),(d k' f).2 (.inr ⟨b,by rw[←e];exact c⟩)⟩
   ·exact⟨n,(lZ hi (uT h hi)).2 (.inr ⟨a,e⟩),c⟩
theorem O6{lab r:List UInt8}{w w':Option ByteArray}{F F':Fo}{v:ByteArray}(h:tO (p7 w F) (p7 w' F') r v):tO (rK (lab,w,F)) (rK (lab,w',F')) (lab++r) v:=by
 intro k' c;constructor
 ·rintro⟨s,e,b⟩
  rcases(h s c).1 b with⟨rfl,rfl⟩|⟨a,d⟩
  ·exact .inl ⟨e,rfl⟩
  ·exact .inr ⟨fun e'=>a (d9 (e.symm.trans e')),s,e,d⟩
 ·rintro(⟨rfl,rfl⟩|⟨a,s,e,b⟩)
  ·exact⟨r,rfl,(h r c).2 (.inl ⟨rfl,rfl⟩)⟩
  ·exact⟨s,e,(h s c).2 (.inr ⟨fun e'=>a (by rw[e,e']),b⟩)⟩
def cm:List UInt8→List UInt8→Nat
 |a::x,b::y=>if a=b then cm x y+1 else 0
 |_,_=>0
theorem Ok:∀(x y:List UInt8),cm x y≤x.length∧cm x y≤y.length
 | [],_=>by simp[cm]
 |_::_,[]=>by simp[cm]
 |a::x,b::y=>by unfold cm;have:=Ok x y;split<;>simp<;>omega
theorem Oi:∀(x y:List UInt8),x.take (cm x y)=y.take (cm x y)
 | [],_=>by simp[cm]
 |_::_,[]=>by simp[cm]
 |a::x,b::y=>by
  unfold cm;split
  ·rename_i e;rw[de,de,Oi x y,e]
  ·simp
theorem IJ:∀(x y:List UInt8),cm x y<x.length→cm x y<y.length→hd (x.drop (cm x y))≠hd (y.drop (cm x y))
 | [],_=>by simp[cm]
 |_::_,[]=>by simp[cm]
 |a::x,b::y=>by
  unfold cm;split
  ·rename_i e
   intro c d;rw[aV]at c d;rw[gr,gr];exact IJ x y (by omega) (by omega)
  ·rename_i e
   intro _ _ h;exact e (li.1 h)
theorem RI{x y:List UInt8}(hx:x≠[])(c:y≠[])(h:hd x=hd y):0<cm x y:=by
 match x,y,hx,c with
 |a::x,b::y,_,_=>
  unfold cm;rw[if_pos (show a=b from li.1 h)]
  omega
theorem Hf{lab:List UInt8}{w:Option ByteArray}{F:Fo}(c:Nat):∀k v,rK (lab.take c,none,.cons (lab.drop c) w F .nil) k v↔rK (lab,w,F) k v:=by
 intro k v;constructor
 ·rintro⟨r,e,⟨_,h⟩|(⟨s,rfl,h⟩|h)⟩
  ·cases h
  ·exact⟨s,by rw[e];simp only;rw[←aw,ba],h⟩
  ·exact h.elim
 ·rintro⟨s,e,h⟩
  exact⟨lab.drop c++s,by rw[e];simp only;rw[←aw,ba],.inr (.inl ⟨s,rfl,h⟩)⟩
theorem RP{lab r:List UInt8}{w w':Option ByteArray}{F F':Fo}{v:ByteArray}(b:lab≠[])(g:w.isSome∨2≤F.toL.length)(i:fi F)(a:r≠[]→hd r≠hd lab)(h:tO (p7 none (.cons lab w F .nil)) (p7 w' F') r v):Br (p7 w' F'):=by
 by_cases e:r= []
 ·subst e
  exact .inl ⟨v,(h [] v).2 (.inl ⟨rfl,rfl⟩)⟩
 ·have hc:fi (.cons lab w F .nil):=⟨b,g,i,fun n f=>by simp[Fo.toL]at f,trivial⟩
  obtain⟨s,u,d⟩:=nr hc _ (aE ..);simp only at d;have c:hd (lab++s)=hd lab:=oL b;refine .inr ⟨r,lab++s,v,u,(h r v).2 (.inl ⟨rfl,rfl⟩),(h _ u).2 (.inr ⟨fun e'=>a e (by rw[←e',c]),.inr (.inl ⟨s,rfl,d⟩)⟩),e,fun e'=>b (gm.1 e').1,by rw[c];exact a e⟩
theorem TN{P g:List UInt8→ByteArray→Prop}{k:List UInt8}{v:ByteArray}(f:Br P)(h:tO P g k v):Br g:=by
 have keep:∀j u,P j u→∃c,g j c:=fun j u d=>by
  by_cases e:j=k
  ·exact⟨v,(h j v).2 (.inl ⟨e,rfl⟩)⟩
  ·exact⟨u,(h j u).2 (.inr ⟨e,d⟩)⟩
 rcases f with⟨u,n⟩|⟨j,k',u,c,d,m,r⟩
 ·obtain⟨c,o⟩:=keep [] u n
  exact .inl ⟨c,o⟩
 ·obtain⟨a,i⟩:=keep j u d
  obtain⟨b,f⟩:=keep k' c m;exact .inr ⟨j,k',a,b,i,f,r⟩
end Go.Proofs
namespace Go.Proofs
open Go.Lift
theorem Vn(a b:Nat):(aq (IntKind.bits .u64) (a:Int)&&&aq (IntKind.bits .u64) (b:Int)).toNat=(a%18446744073709551616)&&&(b%18446744073709551616):=by
 simp[IntKind.bits,BitVec.toNat_and,BitVec.toNat_ofInt];rfl
theorem Wc{hv:Int}(d:0≤hv∧hv<18446744073709551616){lev:Nat}(g:lev<13){h:ad}{K:Int→ad→Prop}(b:K (((hv.toNat>>>(5*lev))%32:Nat):Int) h):HC PG kL [.int .u64 hv,.int .i64 lev] [.c (.int .i64)] K h:=by
 refine Nj hv lev ?_;unfold FI;refine Join.plain (aQ (fun h=>by omega) fun _=>?_)
 rw[decide_eq_false (by omega)];refine aj.2 ?_;have c:IntKind.wrap .i64 (5*(lev:Int))=((5*lev:Nat):Int):=by rw[oD (by omega)];omega
 rw[c];have f:min (((5*lev:Nat):Int)).toNat (IntKind.bits .u64)=5*lev:=by rw[aO];exact bC (by show 5*lev≤64;omega)
 rw[f];obtain⟨n,rfl⟩:=Int.eq_ofNat_of_zero_le d.1;rw[aO]at b;simp only[Bd];rw[mc];have a:n>>>(5*lev)<18446744073709551616:=Nat.lt_of_le_of_lt (Nat.shiftRight_le _ _) (by omega);have e:=Vn (n>>>(5*lev)) 31;rw[Nat.mod_eq_of_lt a,show((31:Nat):Int)=(31:Int)from rfl,show 31%18446744073709551616=2^5-1 from rfl,Nat.and_two_pow_sub_one_eq_mod]at e
 rw[e];have hm:n>>>(5*lev)%2^5<32:=mh _ (by omega);rw[Go.IntWalk.u64_in _ (by omega),oD (by omega)];exact⟨by omega,b⟩
theorem PC{x:Hs}{k:ByteArray}{lev:Nat}(b:lev<13){h:ad}{K:Int→ad→Prop}(a:K (ck x lev k:Int) h):HC PG kL [.int .u64 (l9 x k),.int .i64 lev] [.c (.int .i64)] K h:=Wc (CF x k) b a
theorem JZ{x:Hs}{lev c:Nat}{l:List Pr}(h:∀p∈l,ck x lev p.1=c):part x lev c l=l:=List.filter_eq_self.2 fun p a=>decide_eq_true (h p a)
theorem NT{x:Hs}{lev c:Nat}{l:List Pr}(h:∀p∈l,ck x lev p.1≠c):part x lev c l= []:=List.filter_eq_nil_iff.2 fun p a=>by simpa using h p a
theorem Er{x:Hs}{lev c:Nat}{p:Pr}{l:List Pr}(a:cA l):part x lev c (ix p l)=if ck x lev p.1=c then ix p (part x lev c l)else part x lev c l:=by
 have:=EL p (fun k=>decide (ck x lev k=c)) a
 unfold part;rw[this];by_cases h:ck x lev p.1=c
 ·rw[if_pos h,if_pos (decide_eq_true h)]
 ·rw[if_neg h,if_neg (by simpa using h)]
theorem NF{p q:Pr}(h:p.1≠q.1):(ix q [p]).length=2:=by
 rw[gJ];by_cases a:kl p.1 q.1
 ·rw[if_pos a];rfl
 ·rw[if_neg a,if_neg h];rfl
theorem NZ{p q r:Pr}(h:r∈ix q [p]):r=p∨r=q:=(Ac h).symm.imp (fun h=>au.1 h) id
theorem gp{β:Type}{g:Nat→Option β}{i c:Nat}{x:Option β}(h:c≠i):upd g i x c=g c:=by unfold upd;rw[if_neg h]
end Go.Proofs
namespace Go.Proofs
open Go.Lift
noncomputable instance memDec (p:Pr) (l:List Pr):Decidable (p∈l):=Classical.propDecidable _
theorem LK{l:List Pr}(b:cA l){k v w:ByteArray}(a:(k,v)∈l)(c:(k,w)∈l):v=w:=by
 induction l with
 |nil=>cases a
 |cons q l ih=>
  have b:=bB.1 b;rcases aA.1 a with f|a<;>rcases aA.1 c with d|c
  ·exact(Prod.mk.inj (f.trans d.symm)).2
  ·have:=b.1 _ c;rw[←f]at this;exact absurd this (cO _)
  ·have:=b.1 _ a;rw[←d]at this;exact absurd this (cO _)
  ·exact ih b.2 a c
theorem nq{x:Hs}{lev c:Nat}{l:List Pr}{p:Pr}:p∈part x lev c l↔p∈l∧ck x lev p.1=c:=by unfold part;rw[il,decide_eq_true_iff]
theorem DY{x:Hs}{lev:Nat}{l:List Pr}{k:ByteArray}:cn (part x lev (ck x lev k) l) k=cn l k:=by
 unfold cn;rw[lj,cy,cy];constructor
 ·rintro⟨p,a,e⟩;exact⟨p,(nq.1 a).1,e⟩
 ·rintro⟨p,a,e⟩;exact⟨p,nq.2 ⟨a,by rw[of_decide_eq_true e]⟩,e⟩
theorem px{x:Hs}{lev c:Nat}{l:List Pr}(a:cA l):cA (part x lev c l):=a.sublist List.filter_sublist
theorem jW{x:Hs}{lev c:Nat}{l:List Pr}:(part x lev c l).length≤l.length:=List.length_filter_le ..
def SlotIs(W:Nat→Prop)(x:Hs)(h:ad)(m:Nat)(s:Slots)(c:Nat)(l:List Pr):Prop:=
 (l= []∧s.p c=none∧s.k c=none)∨(∃p,l= [p]∧s.p c=some p∧s.k c=none)∨(2≤l.length∧s.p c=none∧∃kb,s.k c=some (some ⟨kb,0,none⟩)∧TrieAt W x h m kb l)
theorem SlotIs.upd0{W:Nat→Prop}{x:Hs}{h a:ad}{m:Nat}{s:Slots}{c:Nat}{l:List Pr}(k:Upd No h a)(t:SlotIs W x h m s c l):SlotIs W x a m s c l:=t.imp id fun o=>o.imp id fun⟨f,i,d,g,b⟩=>⟨f,i,d,g,TrieAt.upd0 k b⟩
theorem Kl(p:Pr):∀{l:List Pr},l.length≤(ix p l).length
 | []=>bo _
 |q::l=>by
  rw[gJ];split
  ·have:=Kl p (l:=l);simp only[aV];omega
  ·split<;>simp
theorem iW{a b:ByteArray}:(a.toList==b.toList)=decide (a=b):=by
 rw[lj,beq_iff_eq,decide_eq_true_iff,BZ]
end Go.Proofs
namespace Go.Proofs
open Go.Lift
theorem Ju{W:Nat→Prop}{x:Hs}{h:ad}{m b:Nat}(a:NodeAt W h b ⟨fun _=>none,fun _=>none⟩):TrieAt W x h (m+1) b []:=⟨_,a,fun _ _=>.inl ⟨rfl,rfl,rfl⟩⟩
def RootAt(W:Nat→Prop)(x:Hs)(h:ad)(r:Option Addr)(l:List Pr):Prop:=(r=none∧l= [])∨∃b,r=some ⟨b,0,none⟩∧TrieAt W x h 13 b l
theorem RootAt.upd0{W:Nat→Prop}{x:Hs}{h a:ad}{r:Option Addr}{l:List Pr}(k:Upd No h a)(t:RootAt W x h r l):RootAt W x a r l:=t.imp id fun⟨b,e,t⟩=>⟨b,e,TrieAt.upd0 k t⟩
theorem SZ{W:Nat→Prop}{x:Hs}{h:ad}{r:Option Addr}{l:List Pr}(t:RootAt W x h r l)(g:∀y,W y→y<h.size){K:Option Addr→ad→Prop}(c:∀a b,TrieAt W x a 13 b l→Upd No h a→(r=some ⟨b,0,none⟩∨r=none)→K (some ⟨b,0,none⟩) a):HC PG jA [.pointer r] [.c .ptr] K h:=by
 refine AZ r ?_;unfold vB;rcases t with⟨rfl,rfl⟩|⟨b,rfl,t⟩
 ·refine ay.2 (yj ?_)
  unfold tR;exact qW g fun a b d f=>c a b (Ju d) f (.inr rfl)
 ·exact aj.2 (c h b t (Upd.refl _ _) (.inl rfl))
theorem cS{h:ad}{b:Nat}{t:TypeId}{c vs:List Value}(a:h[b]? =some (.cells c.toArray t (0,0))) (f:vs.length=c.length) {k:ad→Prop}
  (d:∀h',h'[b]? =some (.cells vs.toArray t (0,0))→Upd (· =b) h h'→k h'):tT h (some ⟨b,0,none⟩) 0 vs∧At (gT h ⟨b,0,none⟩ 0 vs) k:=by
 have e:=iG vs h 0 0 c a (by omega);refine⟨.inr ⟨_,rfl,fun j g=>by rw[bO];exact iv a (by rw[cP];omega)⟩,bV ?_⟩
 rw[e];refine d _ ?_ (Upd.set h _ rfl);rw[jK a];congr 3
 simp[f]
end Go.Proofs
namespace Go.Proofs
open Go.Lift
abbrev oz(b:UInt8):List Value:= [.int .u8 (b.toNat:Int)]
theorem qB(b:UInt8):(oz b).length=1∧0<1:=⟨rfl,Nat.one_pos⟩
theorem zU:∀xs:List UInt8,co (xs.flatMap oz)=true
 | []=>rfl
 |x::xs=>by rw[aY];exact kH rfl (zU xs)
theorem sO(s:ByteArray):dN s=s.data.toList.flatMap oz:=by
 unfold dN;generalize s.data.toList=l;induction l with
 |nil=>rfl
 |cons b l ih=>rw[List.map_cons,aY,ih];rfl
theorem ul{M:Nat→Prop}{h:ad}{c:SliceV}{out:List UInt8}{v:Int}{b:UInt8}(hv:v=(b.toNat:Int)){K:SliceV→ad→Prop}(f:OwnS oz 1 cz M h c out)(hM:∀b,h.size≤b→M b)(m:out.length+1≤140737488355328)
  (g:∀s' a,OwnS oz 1 cz M a s' (out++ [b])→Upd M h a→K s' a):
  ∃xs,SRow (hnew h [.int .u8 v] cz) (some (aD h)) (1*1) xs∧AppP (some [.int .u8 0]) 1 1 cz c.a c.len c.cap 1 xs (hnew h [.int .u8 v] cz) K:=by
 subst hv;have k:=Upd.hnew No h [.int .u8 (b.toNat:Int)] cz;have i:OwnS oz 1 cz (fun _=>True) (hnew h [.int .u8 (b.toNat:Int)] cz) ⟨some (aD h),1,1⟩ [b]:=⟨rfl,qB,ao _,.inr ⟨h.size,[],rfl,trivial,db ..,rfl⟩⟩
 refine⟨_,(i.sl (W:=No) fun _ _ _ h=>h).srow,?_⟩
 refine AppP.own (ys:= [b]) (f.upd k fun _ _ h=>h) rfl rfl rfl rfl (by omega) (by simp only[aK];omega) (hM _ (by rw[ly];omega)) fun s' a d j=>?_
 exact g s' a d ((Upd.hnew M h _ _).tr j)
def l8(n k:Nat):List UInt8:=(List.range k).map fun i=>fV (n>>>(8*i))
theorem xA(n k:Nat):l8 n (k+1)=l8 n k++ [fV (n>>>(8*k))]:=by unfold l8;rw[gz,List.map_append];rfl
theorem di(n k:Nat):(l8 n k).length=k:=by simp[l8]
theorem L9{M:Nat→Prop}{h:ad}{s:SliceV}{xs:List UInt8}(v:OwnS oz 1 cz M h s xs)(hM:∀b,h.size≤b→M b){n k:Nat}(B:n<18446744073709551616)(q:k≤8)(E:xs.length+k≤140737488355328){K:SliceV→ad→Prop}
  (z:∀s' c,OwnS oz 1 cz M c s' (xs++l8 n k)→Upd M h c→K s' c):HC PG me [.slice s.a s.len s.cap,.int .u64 n,.int .i64 k] [.c .slice] K h:=by
 refine CQ s n k ?_;unfold xf;refine LoopP.ghost (fun(i:Nat) (t:SliceV×Int) c=>t.2=(i:Int)∧i≤k∧OwnS oz 1 cz M c t.1 (xs++l8 n i)∧Upd M h c) (fun i=>k-i) 0 ⟨rfl,bo _,by simpa[l8]using v,Upd.refl _ _⟩ ?_
 rintro I i ⟨D,ti⟩ c ⟨p,hi,d,o⟩ w;simp only at p d;subst p;refine aQ (fun a=>?_) fun m=>?_
 ·have a:i<k:=by have:(i:Int)<(k:Int):=a;omega
  have y:IntKind.wrap .i64 (8*(i:Int))=((8*i:Nat):Int):=by rw[oD (by omega)];omega
  have A:min (((8*i:Nat):Int)).toNat (IntKind.bits .u64)=8*i:=by rw[aO];exact bC (by show 8*i≤64;omega)
  refine Join.plain ?_;simp only[Bd];rw[y,A,mc];refine⟨by omega,bV ?_⟩;refine ul (b:=fV (n>>>(8*i))) ?_ d (fun b u=>hM b (bv o.size u)) (by rw[af,di];omega) fun s2 C j g=>?_
  ·rw[IntKind.wrap_u8];simp
  ·rw[cI a (by omega)]
   refine w (i+1) _ _ ⟨rfl,a,?_,o.tr g⟩ (by omega);rw[xA,←aw];exact j
 ·have f:i=k:=by have:¬(i:Int)<(k:Int):=m;omega
  subst f;exact z _ _ d o
end Go.Proofs
namespace Go.Proofs
open Go Go.Lift
theorem KO{α:Type}{f:α→List Value}{sz a:Nat}{t:TypeId}{W:Nat→Prop}{h:ad}{c:Option Addr}{sl q p:Nat}{xs ys:List α}{g z:List Value}{K:SliceV→ad→Prop}
  (k:Sl f sz W h ⟨c,sl,q⟩ xs)(m:p=ys.length)(n:g=ys.flatMap f)(hz:z.length=sz)(v:0<a)(i:q<sl+p)(j:(xs.length+ys.length)*a≤140737488355328)
  (u:∀s' h',OwnS f sz t (fun b=>h.size≤b) h' s' (xs++ys)→Upd No h h'→K s' h'):AppP (some z) sz a t c sl q p g h K:=by
 have d:sl=xs.length:=k.len;subst m n;refine⟨fun s=>by omega,fun _=>?_⟩
 refine⟨xs.flatMap f,z,k.srow,rfl,v,Go.growslice_fits i (by rw[d];exact j),fun w o=>?_⟩
 refine u _ _ ⟨by simp[d],k.ne,o,.inr ⟨h.size,dE (w-(sl+ys.length)) z,rfl,ao _,?_,?_⟩⟩ (Upd.hnew No h _ _)
 ·rw[db,bH]
 ·rw[lO,hz]
theorem Tx{h:ad}{s:SliceV}{xs:List UInt8}(z:Sl oz 1 No h s xs)(hc:s.cap=s.len){n k:Nat}(y:k≤8)(w:0<k)(G:xs.length+k≤140737488355328){K:SliceV→ad→Prop}
  (C:∀s' d,OwnS oz 1 cz (fun b=>h.size≤b) d s' (xs++l8 n k)→Upd No h d→K s' d):HC PG me [.slice s.a s.len s.cap,.int .u64 n,.int .i64 k] [.c .slice] K h:=by
 refine CQ s n k ?_;unfold xf;refine LoopP.ghost (fun(i:Nat) (t:SliceV×Int) d=>t.2=(i:Int)∧i≤k∧((i=0∧t.1=s∧d=h)∨OwnS oz 1 cz (fun b=>h.size≤b) d t.1 (xs++l8 n i))∧Upd No h d) (fun i=>k-i) 0 ⟨rfl,bo _,.inl ⟨rfl,rfl,rfl⟩,Upd.refl _ _⟩ ?_
 rintro I i ⟨F,ti⟩ d ⟨v,hi,a,p⟩ q;simp only at v a;subst v;refine aQ (fun c=>?_) fun o=>?_
 ·have c:i<k:=by have:(i:Int)<(k:Int):=c;omega
  have B:IntKind.wrap .i64 (8*(i:Int))=((8*i:Nat):Int):=by rw[oD (by omega)];omega
  have D:min (((8*i:Nat):Int)).toNat (IntKind.bits .u64)=8*i:=by rw[aO];exact bC (by show 8*i≤64;omega)
  refine Join.plain ?_;simp only[Bd];rw[B,D,mc];refine⟨by omega,bV ?_⟩;have u:IntKind.wrap .u8 ((n>>>(8*i):Nat):Int)=((fV (n>>>(8*i))).toNat:Int):=by rw[IntKind.wrap_u8];simp
  rcases a with⟨rfl,rfl,rfl⟩|a
  ·rw[u]
   have k1:=Upd.hnew No d [.int .u8 ((fV (n>>>(8*0))).toNat:Int)] cz;have E:OwnS oz 1 cz (fun _=>True) (hnew d [.int .u8 ((fV (n>>>(8*0))).toNat:Int)] cz) ⟨some (aD d),1,1⟩ [fV (n>>>(8*0))]:=⟨rfl,qB,ao _,.inr ⟨d.size,[],rfl,trivial,db ..,rfl⟩⟩
   refine⟨_,(E.sl (W:=No) fun _ _ _ h=>h).srow,?_⟩
   refine KO (ys:= [fV (n>>>(8*0))]) (z.upd k1 fun _ h=>h.elim) rfl rfl rfl (by omega) (by omega) (by simp only[aK];omega) fun s2 A g f=>?_
   rw[cI c (by omega)];refine q 1 _ _ ⟨rfl,c,.inr ?_,k1.tr f⟩ (by omega);exact g.more fun b j=>bv k1.size j
  ·refine ul u a (fun b j=>bv p.size j) (by rw[af,di];omega) fun s2 A g f=>?_
   rw[cI c (by omega)];refine q (i+1) _ _ ⟨rfl,c,.inr ?_,p.trans f fun b j=>.inr j⟩ (by omega)
   rw[xA,←aw];exact g
 ·have m:i=k:=by have:¬(i:Int)<(k:Int):=o;omega
  subst m;rcases a with⟨e,_⟩|a
  ·omega
  ·exact C _ _ a p
def nn(s:ByteArray):List UInt8:=l8 s.size 2++s.data.toList
theorem Dq{W:Nat→Prop}{h:ad}{s:SliceV}{xs:List UInt8}(j:Sl oz 1 W h s xs)(hc:s.len≤s.cap)(b:ByteArray)(v:b.size≤1000000)(w:xs.length+2+b.size≤140737488355328){K:SliceV→ad→Prop}
  (p:∀s' h',OwnS oz 1 cz (fun x=>h.size≤x) h' s' (xs++nn b)→Upd No h h'→K s' h'):HC PG mF [.slice s.a s.len s.cap,.string b] [.c .slice] K h:=by
 refine IW s b ?_;unfold A0;have o:=j.len;refine⟨by omega,by omega,?_⟩
 simp only[aO];have i:Sl oz 1 No h ⟨bq s.a 0 s.len 1,s.len-0,s.len-0⟩ xs:=by
  have:=Sl.sub (j.less (W':=No) fun _ h=>h.elim) (l:=0) (hi:=s.len) (m:=s.len) (c:=s.len-0) (bo _) (by omega) (ao _)
  rw[List.drop_zero,bD (by omega)]at this;exact this
 have ew:IntKind.wrap .u64 (b.size:Int)=(b.size:Int):=Go.IntWalk.u64_in _ (by omega);rw[ew];refine Tx i rfl (n:=b.size) (k:=2) (by omega) (by omega) (by omega) fun s2 u g a=>?_
 refine AppP.own (ys:=b.data.toList) g (by simp) (sO b) (by rw[sO];exact zU _) rfl (by omega) ?_ a.size fun s3 q f d=>?_
 ·simp only[af,di]
  have:b.data.toList.length=b.size:=by simp
  omega
 ·refine p s3 q ?_ (a.trans d fun x hx=>.inr hx)
  rw[nn,←aw];exact f
end Go.Proofs
namespace Go.Proofs
open Go Go.Lift
def CC(p:Pr):List UInt8:=nn p.1++nn p.2
def jX(l:List Pr):List UInt8:=l.flatMap CC
theorem iE(b:ByteArray):(nn b).length=2+b.size:=by simp[nn,di]
def Fit(l:List Pr):Prop:=∀p∈l,p.1.size≤10000∧p.2.size≤10000
theorem Pd{p:Pr}(h:p.1.size≤10000∧p.2.size≤10000):(CC p).length≤20004:=by
 unfold CC;rw[af,iE,iE];omega
theorem lY:∀{l:List Pr},Fit l→(jX l).length≤l.length*20004
 | [],_=>by simp[jX]
 |p::l,h=>by
  have b:=Pd (h p (aE ..));have c:=lY (l:=l) fun q a=>h q (aX _ a)
  unfold jX at*;rw[aY,af,aV];omega
theorem CB{l:List Pr}{i:Nat}(hi:i<l.length):jX (l.take (i+1))=jX (l.take i)++CC l[i]:=by
 unfold jX;rw[List.take_succ_eq_append_getElem hi,bH,aY,List.flatMap_nil,bT]
theorem D7{M W:Nat→Prop}{h:ad}{s sp:SliceV}{xs:List UInt8}{l:List Pr}(L:OwnS oz 1 cz M h s xs)(hM:∀b,h.size≤b→M b)(D:Sl ge 2 W h sp l)(O:∀x,M x→x<h.size→W x)(E:Fit l)(X:l.length≤1000000)(hl:xs.length+l.length*20004≤140737488355328){K:SliceV→ad→Prop}
  (T:∀s' d,OwnS oz 1 cz M d s' (xs++jX l)→Upd M h d→K s' d):HC PG pX [.slice s.a s.len s.cap,.slice sp.a sp.len sp.cap] [.c .slice] K h:=by
 refine Gh s sp ?_;unfold ym dH bw aG nv my jS zE;have F:=D.len;have A:∀b,M b→W b∨h.size≤b:=fun b u=>by
  rcases bK b h.size with hx|hx
  ·exact .inl (O b u hx)
  ·exact .inr hx
 refine LoopP.ghost (fun(i:Nat) (t:SliceV×Int) d=>t.2=(i:Int)∧i≤l.length∧OwnS oz 1 cz M d t.1 (xs++jX (l.take i))∧Upd M h d) (fun i=>l.length-i) 0 ⟨rfl,bo _,by simpa[jX]using L,Upd.refl _ _⟩ ?_
 rintro I i ⟨so,ti⟩ d ⟨H,hi,g,o⟩ N;simp only at H g;subst H;refine aQ (fun c=>?_) fun B=>?_
 ·have c:i<l.length:=by have:(i:Int)<(sp.len:Int):=c;omega
  obtain⟨a,J,_,hv⟩:=(D.upd o A).at (ag c);have Q:=E l[i] (aP c);have z:=lY (l:=l.take i) fun q S=>E q (List.mem_of_mem_take S)
  rw[aU,bC hi]at z;have k1:=Upd.hnew No d [.string (⟨#[]⟩:ByteArray),.string (⟨#[]⟩:ByteArray)] aB;have b1:=db d [.string (⟨#[]⟩:ByteArray),.string (⟨#[]⟩:ByteArray)] aB;refine⟨by simp only;omega,a,J,l[i].1,hv 0 _ rfl,l[i].2,hv 1 _ rfl,bV ?_⟩;simp only[gf d];generalize hnew d [.string (⟨#[]⟩:ByteArray),.string (⟨#[]⟩:ByteArray)] aB=h1 at k1 b1
  have w:h1[d.size]? =some (.cells #[.string FT.1,.string FT.2] aB (0,0)):=b1;refine Cz (p:=l[i]) w fun P b2 v=>?_
  have f:Upd No d P:=k1.trans v fun x hx=>.inr (iA hx.symm)
  have m:=g.upd f fun _ _ h=>h
  refine⟨l[i].1,by rw[bO,bA b2];rfl,l[i].2,by rw[bO,bA b2];rfl,?_⟩
  have G:i*20004+20004≤l.length*20004:=by rw[←Nat.succ_mul];exact Nat.mul_le_mul_right _ c
  refine Dq (W:=No) (m.sl fun _ _ _ h=>h) m.cap l[i].1 (by omega) (by rw[af];omega) fun s3 Z k j=>⟨by rw[bO,bA (j.get0 b2)];rfl,?_⟩
  refine Dq (W:=No) (k.sl fun _ _ _ h=>h) k.cap l[i].2 (by omega) (by rw[af,af,iE];omega) fun Y R C y=>?_
  have n:Upd M h R:=o.tr ((f.tr (j.tr y)).wide);rw[cI c (by omega)];refine N (i+1) _ _ ⟨rfl,c,?_,n⟩ (by omega);rw[CB c,CC,←aw,←aw];exact C.more fun b u=>hM b (bv (o.tr ((f.tr j).wide)).size u)
 ·have V:i=l.length:=by have:¬(i:Int)<(sp.len:Int):=B;omega
  rw[bD (by omega)]at g;exact T _ _ g o
end Go.Proofs
namespace Go.Proofs
open Go Go.Lift
def iV(q:Nat→Bool):Nat→Nat
 |0=>0
 |n+1=>iV q n+(if q n then 2^n else 0)
theorem mg(q:Nat→Bool):∀n,iV q n<2^n
 |0=>by simp[iV]
 |n+1=>by
  have:=mg q n;unfold iV;rw[mW];split<;>omega
theorem B1(q:Nat→Bool)(c:Nat):∀n,(iV q n).testBit c=(decide (c<n)&&q c)
 |0=>by simp[iV]
 |n+1=>by
  have b:=mg q n;have d:=B1 q c n;unfold iV;by_cases a:q n=true
  ·rw[if_pos a,Nat.add_comm]
   rcases Nat.lt_trichotomy c n with h|h|h
   ·rw[Nat.testBit_two_pow_add_gt h,d,decide_eq_true h,decide_eq_true (by omega)]
   ·subst h
    rw[Nat.testBit_two_pow_add_eq,gj b,decide_eq_true (by omega),a];rfl
   ·have f:2^n+iV q n<2^c:=bP (by rw[mW];omega:2^n+iV q n<2^(n+1)) (eW (by omega) h)
    rw[gj f,decide_eq_false (by omega)];rfl
  ·rw[if_neg a,cX,d]
   by_cases h:c<n
   ·rw[decide_eq_true h,decide_eq_true (by omega)]
   ·by_cases e:c=n
    ·subst e;have:q c=false:=by simpa using a
     rw[this];simp
    ·rw[decide_eq_false h,decide_eq_false (by omega)]
theorem Hz{d:Nat}{q:Nat→Bool}(hd:d<4294967296)(h:∀c,c<32→d.testBit c=q c):d=iV q 32:=by
 refine Nat.eq_of_testBit_eq fun c=>?_
 rw[B1];by_cases hc:c<32
 ·rw[h c hc,decide_eq_true hc];rfl
 ·rw[decide_eq_false hc,gj (bP hd (eW (n:=2) (by omega) (show 32≤c by omega)))];rfl
end Go.Proofs
namespace Go.Proofs
open Go Go.Lift
def gI(l:List Pr):Option Pr:=match l with| [p]=>some p|_=>none
def eJ(l:List Pr):Option (List Pr):=if 2≤l.length then some l else none
def fS(x:Hs)(lev:Nat)(l:List Pr):List Pr:=fm (fun c=>gI (part x lev c l)) 32
def jJ(x:Hs)(lev:Nat)(l:List Pr):List (List Pr):=fm (fun c=>eJ (part x lev c l)) 32
def fg(x:Hs):Nat→List Pr→List UInt8
 |0,l=>1::(l8 l.length 2++jX l)
 |m+1,l=>0::(l8 (iV (fun c=>(gI (part x (12-m) c l)).isSome) 32) 4++(l8 (iV (fun c=>(eJ (part x (12-m) c l)).isSome) 32) 4++(jX (fS x (12-m) l)++(jJ x (12-m) l).flatMap (fg x m))))
theorem D5{W:Nat→Prop}{x:Hs}{h:ad}{m:Nat}{s:Slots}{c:Nat}{l:List Pr}(t:SlotIs W x h m s c l):s.p c=gI l∧(s.k c).isSome=(eJ l).isSome:=by
 rcases t with⟨rfl,d,f⟩|⟨p,rfl,d,f⟩|⟨g,d,i,f,_⟩
 ·rw[d,f];exact⟨rfl,rfl⟩
 ·rw[d,f];exact⟨rfl,rfl⟩
 ·rw[d,f]
  refine⟨?_,by simp[eJ,g]⟩
  match l,g with
  |a::b::l,_=>rfl
def KidsAt(W:Nat→Prop)(x:Hs)(h:ad)(m:Nat):List (Option Addr)→List (List Pr)→Prop
 | [],[]=>True
 |k::ks,l::ls=>(∃kb,k=some ⟨kb,0,none⟩∧TrieAt W x h m kb l)∧KidsAt W x h m ks ls
 |_,_=>False
theorem KidsAt.app{W:Nat→Prop}{x:Hs}{h:ad}{m:Nat}:∀{ks ks':List (Option Addr)} {ls ls':List (List Pr)},KidsAt W x h m ks ls→KidsAt W x h m ks' ls'→KidsAt W x h m (ks++ks') (ls++ls')
 | [],_,[],_,_,q=>q
 |_::_,_,_::_,_,q,q'=>⟨q.1,KidsAt.app q.2 q'⟩
 | [],_,_::_,_,q,_=>q.elim
 |_::_,_,[],_,q,_=>q.elim
theorem gg{β:Type}(g:Nat→Option β)(n:Nat):fm g (n+1)=fm g n++(g n).toList:=by
 unfold fm;rw[gz,List.filterMap_append];cases h:g n<;>simp[h]
theorem Mh{W:Nat→Prop}{x:Hs}{h:ad}{m lev:Nat}{s:Slots}{l:List Pr}:∀n,(∀c,c<n→SlotIs W x h m s c (part x lev c l))→KidsAt W x h m (fm s.k n) (fm (fun c=>eJ (part x lev c l)) n)
 |0,_=>trivial
 |n+1,hs=>by
  rw[gg,gg];refine KidsAt.app (Mh n fun c hc=>hs c (by omega)) ?_
  rcases hs n (by omega)with⟨a,_,b⟩|⟨p,a,_,b⟩|⟨a,_,d,b,f⟩
  ·rw[b,a];exact trivial
  ·rw[b,a];exact trivial
  ·rw[b]
   have:eJ (part x lev n l)=some (part x lev n l):=by unfold eJ;rw[if_pos a]
   simp only[this];exact⟨⟨d,rfl,f⟩,trivial⟩
theorem Ds{W:Nat→Prop}{x:Hs}{h:ad}{m lev:Nat}{s:Slots}{l:List Pr}(a:∀c,c<32→SlotIs W x h m s c (part x lev c l)):fm s.p 32=fS x lev l:=
 V4 _ fun c hc=>(D5 (a c (List.mem_range.1 hc))).1
end Go.Proofs
