/- A part of the proof that the named laws of this program answer true, whatever the input. -/
import Derived.Test.YtajpljopgikpgaaGreatDoorPart1
open BitVec renaming ofInt→ah
open Bool renaming eq_iff_iff→l3
open Int renaming toNat_natCast→aE
open List renaming length_take→aG,flatMap_cons→aU,flatMap_append→bj,length_append→ae,size_toArray→cH,append_assoc→ao,drop_left'→ce,getElem?_eq_getElem→ag,getElem_mem→aP,pairwise_cons→ba,mem_cons→ar,mem_cons_self→au,mem_cons_of_mem→aM,filter_cons→cl,mem_filter→gA,append_eq_nil_iff→fE,mem_singleton→aq,append_nil→bJ,append_cancel_left→dX,length→fP,getElem_of_mem→cj,take_append_drop→aN,pairwise_append→cS,mem_of_getElem→lD,pairwise_iff_getElem→cy,take_succ_cons→dq,length_cons→aL,drop_succ_cons→lF,any_eq_true→bV,length_singleton→aO,range_succ→fO,take_of_length_le→bp
open Nat renaming zero_add→aB,min_eq_left→aZ,add_zero→cN,le_of_eq→gJ,le_refl→al,mod_lt→nQ,lt_or_ge→bD,zero_le→aV,le_trans→aX,pow_succ→lj,testBit_lt_two_pow→fC,lt_of_lt_of_le→cg,pow_le_pow_right→d9
open Option renaming isSome_iff_exists→dg,some→bm
open UInt8 renaming toNat_inj→jI,ofNat→dH
namespace Go.Proofs
open Go.Lift
theorem rD{β:Type}{g:Nat→Option β}{i:Nat}(h:g i=none):upd g i none=g:=by
 funext j;unfold upd;split
 ·rename_i e;rw[e,h]
 ·rfl
theorem dD{h:ad}{b:Nat}{c:Array Value}{t:TypeId}{i:Nat}(a:h[b]? =some (.cells c t (0,0))):aK h ⟨b,0+i,none⟩=c[i]?:=by rw[aB];exact aY a
theorem OQ{h:ad}{b:Nat}{c:Array Value}{t:TypeId}{i:Nat}(a:h[b]? =some (.cells c t (0,0))) (hi:i<c.size):Wr h ⟨b,0+i,none⟩:=by rw[aB];exact gS a hi
theorem C4{h:ad}{b:Nat}{c c':Array Value}{t:TypeId}{i:Nat}{v:Value}{k:ad→Prop}(g:h[b]? =some (.cells c t (0,0))) (e:c.setIfInBounds i v=c')
 (f:∀a,a[b]? =some (.cells c' t (0,0))→Upd (· =b) h a→k a):At (hset h ⟨b,i,none⟩ v) k:=sP g fun a d j=>f a (e▸d) j
theorem Fs{M:Nat→Prop}{h:ad}{b d n:Nat}{sp sk:SliceV}{s:Slots}{ow:Option Addr}(o:OwnN M h b d n sp sk s ow){i:Nat}(hi:i<32){K:Unit→ad→Prop}
  (W:∀t G H sp' sk',OwnN M t b G H sp' sk' ⟨upd s.p i none,upd s.k i none⟩ ow→Upd M h t→K () t):HC PG im [.pointer (some ⟨b,0,none⟩),.int .i64 i] [] K h:=by
 obtain⟨A,B,Z,V,a,m⟩:=o.ex;have bits:=o.bits;refine yg _ i ?_;unfold qN bG cL Gg gm l4;have ew:∀k:Nat,k≤100→IntKind.wrap .i64 ((k:Int)+1)=((k+1:Nat):Int):=fun k W=>by rw[nq (by omega)];omega
 have hc1:=wK i d;have hc2:=wK i n;have U:∀x,A x→M x∨h.size≤x:=fun x hx=>.inl (a x hx).1
 refine Join.intro (fun _ t=>∃sp',t[b]? =some (.cells (ff d n sp' sk false ow) bE (0,0))∧OwnS gC 2 ay A t sp' (fm (upd s.p i none) 32)∧OwnS oJ 1 bA B t sk (fm s.k 32)∧Upd M h t) (fun R F=>?_) ?_
 ·refine⟨_,rfl,_,dD (i:=0) o.blk,y5 bits.d32 hi ?_⟩
  rw[bits.dp i hi];cases hp:s.p i with
  |none=>exact aj.2 (F _ _ ⟨sp,o.blk,by rw[rD hp];exact Z,V,Upd.refl _ _⟩)
  |some y=>
   refine ax.2 ⟨_,rfl,_,dD (i:=0) o.blk,nZ bits.d32 hi ⟨_,rfl,sp,dD (i:=2) o.blk,?_⟩⟩;rw[ew _ (by omega)];refine Jl Z (Ef hi bits.dp hp) (by have:=uc (g:=s.p);omega) fun C Y u f=>?_
   rw[←NI hi bits.dp hp]at u;have b2:=f.get o.blk fun J=>(a b J).2.2.1 rfl
   refine⟨_,rfl,OQ (i:=2) b2 (show 2<6 by decide),C4 (i:=2) (c':=ff d n C sk false ow) b2 rfl fun X b3 j=>?_⟩
   refine F _ _ ⟨C,b3,u.upd j fun x hx e=>(a x hx).2.2.1 e,(V.upd f fun x hx T=>(a x T).2.1 hx).upd j fun x hx e=>(m x hx).2.1 e,(f.mono U).tr (j.mono fun x e=>.inl (e▸o.mb))⟩
 rintro _ h1 ⟨q,b1,E,D,w⟩;refine Join.intro (fun _ t=>∃sk',t[b]? =some (.cells (ff d n q sk' false ow) bE (0,0))∧OwnS gC 2 ay A t q (fm (upd s.p i none) 32)∧OwnS oJ 1 bA B t sk' (fm (upd s.k i none) 32)∧Upd M h1 t) (fun R F=>?_) ?_
 ·refine⟨_,rfl,_,dD (i:=1) b1,y5 bits.n32 hi ?_⟩
  rw[bits.nk i hi];cases hp:s.k i with
  |none=>exact aj.2 (F _ _ ⟨sk,b1,E,by rw[rD hp];exact D,Upd.refl _ _⟩)
  |some y=>
   refine ax.2 ⟨_,rfl,_,dD (i:=1) b1,nZ bits.n32 hi ⟨_,rfl,sk,dD (i:=3) b1,?_⟩⟩;rw[ew _ (by omega)];refine Jm D (Ef hi bits.nk hp) (by have:=uc (g:=s.k);omega) fun C Y u f=>?_
   rw[←NI hi bits.nk hp]at u;have b2:=f.get b1 fun J=>(m b J).2.1 rfl
   refine⟨_,rfl,OQ (i:=3) b2 (show 3<6 by decide),C4 (i:=3) (c':=ff d n q C false ow) b2 rfl fun X b3 j=>?_⟩
   refine F _ _ ⟨C,b3,(E.upd f fun x hx T=>(a x hx).2.1 T).upd j fun x hx e=>(a x hx).2.2.1 e,u.upd j fun x hx e=>(m x hx).2.1 e,(f.mono fun x hx=>.inl (m x hx).1).tr (j.mono fun x e=>.inl (e▸o.mb))⟩
 rintro _ Y ⟨v,b2,I,L,f⟩;refine⟨_,rfl,_,dD (i:=0) b2,_,rfl,_,dD (i:=1) b2,?_⟩;refine Bc bits.d32 hi fun G S P=>⟨dD (i:=1) b2,?_⟩
 refine Bc bits.n32 hi fun H Q N=>?_
 refine⟨_,rfl,OQ (i:=0) b2 (show 0<6 by decide),C4 (i:=0) (c':=ff G n q v false ow) b2 rfl fun X b3 j=>?_⟩
 refine⟨_,rfl,OQ (i:=1) b3 (show 1<6 by decide),C4 (i:=1) (c':=ff G H q v false ow) b3 rfl fun h4 b4 O=>?_⟩
 have p:=j.tr O;have z:=(w.tr (f.tr (p.mono (M':=M) fun x e=>.inl (e▸o.mb)))).size
 refine W h4 G H q v ⟨b4,⟨S,Q,fun c hc=>?_,fun c hc=>?_⟩,⟨A,B,I.upd p fun x hx e=>(a x hx).2.2.1 e,L.upd p fun x hx e=>(m x hx).2.1 e,fun x hx=>⟨(a x hx).1,(a x hx).2.1,(a x hx).2.2.1,by have:=(a x hx).2.2.2;omega⟩,fun x hx=>⟨(m x hx).1,(m x hx).2.1,by have:=(m x hx).2.2;omega⟩⟩,o.mb⟩ (w.tr (f.tr (p.mono fun x e=>.inl (e▸o.mb))))
 ·rw[P,bits.dp c hc];simp only[upd];split<;>simp[*]
 ·rw[N,bits.nk c hc];simp only[upd];split<;>simp[*]
end Go.Proofs
namespace Go.Proofs
open Go.Lift
theorem OwnS.setAt{α:Type}{f:α→List Value}{c:Nat}{t:TypeId}{M:Nat→Prop}{h:ad}{s:SliceV}{xs:List α}(i:OwnS f c t M h s xs){k:Nat}(n:k<xs.length)(x:α):
  ∃a,s.a=some a∧M a.block∧rK h (some (adr a (k*c))) 0 (f x)∧OwnS f c t M (gD h (adr a (k*c)) 0 (f x)) s (xs.take k++x::xs.drop (k+1))∧Upd (· =a.block) h (gD h (adr a (k*c)) 0 (f x)):=by
 have m:∀x,(f x).length=c∧0<c:=i.ne;have u:=i.len;have g:=i.cap;rcases i.blk with D|⟨b,e,w,q,hc,z⟩
 ·omega
 have p:((xs.take k).flatMap f).length=k*c:=by rw[jp m,aG,aZ (by omega)]
 have y:xs.flatMap f=(xs.take k).flatMap f++(f xs[k]++(xs.drop (k+1)).flatMap f):=by
  rw[←aU,←List.drop_eq_getElem_cons n];exact wJ xs k
 rw[y]at hc;have C:=(m xs[k]).1;have F:=(m x).1;have d:(xs.take k++x::xs.drop (k+1)).flatMap f=(xs.take k).flatMap f++(f x++(xs.drop (k+1)).flatMap f):=by rw[bj,aU]
 generalize (xs.take k).flatMap f=A at p hc d;generalize (xs.drop (k+1)).flatMap f=B at hc d;generalize f xs[k]=X at C hc;have v:k*c+0+(f x).length≤(A++(X++B)++e).length:=by simp only[ae];omega
 have o:adr ⟨b,0,none⟩ (k*c)=⟨b,k*c,none⟩:=by rw[bF,aB]
 refine⟨⟨b,0,none⟩,w,q,?_,?_,?_⟩
 ·rw[o]
  refine .inr ⟨_,rfl,fun j E=>?_⟩
  rw[bF];exact gS hc (by rw[cH];omega)
 ·rw[o,ia (f x) h 0 (k*c) _ hc v]
  refine⟨by simp;omega,m,g,.inr ⟨b,e,w,q,?_,?_⟩⟩
  ·rw[jh hc,d]
   congr 3
   rw[cN,ao A,List.take_left' p,←List.drop_drop,ce p,ao X,ce (by omega)];simp only[ao]
  ·exact z
 ·rw[o,ia (f x) h 0 (k*c) _ hc v]
  exact Upd.set h _ rfl
theorem OwnN.node{M W:Nat→Prop}{h:ad}{b d n:Nat}{sp sk:SliceV}{s:Slots}{ow:Option Addr}(o:OwnN M h b d n sp sk s ow)(c:∀x,M x→¬W x)(a:OwOk W h ow:=by exact jL):NodeAt W h b s:=by
 obtain⟨A,B,e,f,i,g⟩:=o.ex;exact⟨⟨d,n,sp,sk,ow,o.blk,o.bits,e.sl fun x hx _=>c _ (i x hx).1,f.sl fun x hx _=>c _ (g x hx).1,e.cap,f.cap,a⟩,c _ o.mb⟩
theorem B1{W:Nat→Prop}{h:ad}{b:Nat}{s:Slots}(e:NodeAt W h b s){i:Nat}(hi:i<32){K:Bool→ad→Prop}(a:K true h):HC PG ip [.pointer (some ⟨b,0,none⟩),.int .i64 i] [.c .bool] K h:=by
 obtain⟨d,n,sp,sk,ow,c,_⟩:=e.ex;refine yh _ i ?_;unfold qO gT;refine ax.2 ⟨_,rfl,_,dD (i:=4) c,ax.2 ?_⟩;refine aH (fun _=>?_) fun h=>absurd (Int.natCast_nonneg i) h
 rw[decide_eq_true (by omega)];exact a
theorem Kh{β:Type}{g:Nat→Option β}{i:Nat}{x y:Option β}:upd (upd g i x) i y=upd g i y:=by
 funext j;unfold upd;split<;>rfl
theorem fU{β:Type}{g:Nat→Option β}{i:Nat}{x:Option β}:upd g i x i=x:=by simp[upd]
end Go.Proofs
namespace Go.Proofs
open Go.Lift
end Go.Proofs
namespace Go.Proofs
open Go.Lift
theorem Ft{h:ad}{b d n:Nat}{sp sk:SliceV}{a:Bool}{ow:Option Addr}(e:h[b]? =some (.cells (ff d n sp sk a ow) bE (0,0))) {K:Int→ad→Prop} (c:K (d:Int) h):HC PG iR [.pointer (some ⟨b,0,none⟩)] [.c (.int .u32)] K h:=by
 refine zF _ ?_;unfold rX gm;exact aj.2 ⟨_,rfl,_,dD (i:=0) e,c⟩
theorem xz{h:ad}{b d n:Nat}{sp sk:SliceV}{a:Bool}{ow:Option Addr}(e:h[b]? =some (.cells (ff d n sp sk a ow) bE (0,0))) {K:Int→ad→Prop} (c:K (n:Int) h):HC PG fA [.pointer (some ⟨b,0,none⟩)] [.c (.int .u32)] K h:=by
 refine yk _ ?_;unfold qR gm;exact aj.2 ⟨_,rfl,_,dD (i:=1) e,c⟩
theorem gL{h:ad}{b d n:Nat}{sp sk:SliceV}{a:Bool}{ow:Option Addr}(e:h[b]? =some (.cells (ff d n sp sk a ow) bE (0,0))) {K:Bool→ad→Prop} (c:K a h):HC PG dE [.pointer (some ⟨b,0,none⟩)] [.c .bool] K h:=by
 refine uy _ ?_;unfold oG gT;exact ax.2 ⟨_,rfl,_,dD (i:=4) e,c⟩
def y6(o:Option Pr):Pr:=o.getD (⟨#[]⟩,⟨#[]⟩)
theorem zV{h:ad}{b:Nat}{q p:Pr}(a:h[b]? =some (.cells #[.string q.1,.string q.2] ay (0,0))) {k:ad→Prop}
  (d:∀h',h'[b]? =some (.cells #[.string p.1,.string p.2] ay (0,0))→Upd (· =b) h h'→k h'):rK h (some ⟨b,0,none⟩) 0 [.string p.1,.string p.2]∧At (gD h ⟨b,0,none⟩ 0 [.string p.1,.string p.2]) k:=by
 have e:=ia [.string p.1,.string p.2] h 0 0 [.string q.1,.string q.2] a (by simp);refine⟨.inr ⟨_,rfl,fun j c=>by rw[bF];exact gS a (by simp at c⊢;omega)⟩,bL ?_⟩
 rw[e];refine d _ ?_ (Upd.set h _ rfl);rw[jh a];rfl
theorem BS{W:Nat→Prop}{h:ad}{b:Nat}{s:Slots}(A:NodeAt W h b s){i:Nat}(hi:i<32){K:Pr×Bool→ad→Prop}(k:∀h',Upd No h h'→K (y6 (s.p i),(s.p i).isSome) h'):
  HC PG iQ [.pointer (some ⟨b,0,none⟩),.int .i64 i] [.agg [.str,.str],.c .bool] K h:=by
 refine zC _ i ?_;unfold rU dz az bG fT mC jO bI gm l4;obtain⟨d,n,sp,sk,ow,u,bits,g,o,q,t⟩:=A.ex;have k1:=Upd.hnew No h [.string (⟨#[]⟩:ByteArray),.string (⟨#[]⟩:ByteArray)] ay;have b1:=cJ h [.string (⟨#[]⟩:ByteArray),.string (⟨#[]⟩:ByteArray)] ay;refine bL ?_;simp only[fy h];generalize hnew h [.string (⟨#[]⟩:ByteArray),.string (⟨#[]⟩:ByteArray)] ay=h1 at k1 b1
 have c:=k1.get0 u;have j:h1[h.size]? =some (.cells #[.string HT.1,.string HT.2] ay (0,0)):=b1;refine Ft c (y5 bits.d32 hi ?_);rw[bits.dp i hi];cases hp:s.p i with
 |none=>
  rw[hp]at k;refine ax.2 (zV (p:=HT) j fun w b2 e=>⟨_,by rw[bF,aY b2];rfl,_,by rw[bF,aY b2];rfl,k _ (k1.trans e fun x hx=>.inr (gJ hx.symm))⟩)
 |some y=>
  rw[hp]at k;refine aj.2 ⟨_,rfl,sp,dD (i:=2) c,_,rfl,_,dD (i:=0) c,nZ bits.d32 hi ⟨dD (i:=2) c,?_⟩⟩;have z:=Ef hi bits.dp hp;have f:=g.upd k1 fun _ h=>h.elim
  obtain⟨a,v,_,hv⟩:=f.at (NJ hi bits.dp hp);have m:=g.len;refine⟨by omega,a,v,y.1,hv 0 _ rfl,y.2,hv 1 _ rfl,?_⟩;refine zV (p:=y) j fun w b2 e=>⟨_,by rw[bF,aY b2];rfl,_,by rw[bF,aY b2];rfl,k _ (k1.trans e fun x hx=>.inr (gJ hx.symm))⟩
theorem Fa{W:Nat→Prop}{h:ad}{b:Nat}{s:Slots}(q:NodeAt W h b s){i:Nat}(hi:i<32){K:Option Addr×Bool→ad→Prop}(e:K ((s.k i).getD none,(s.k i).isSome) h):
  HC PG ig [.pointer (some ⟨b,0,none⟩),.int .i64 i] [.c .ptr,.c .bool] K h:=by
 refine AI _ i ?_;unfold tC cT dz bG gm l4;obtain⟨d,n,sp,sk,ow,f,bits,p,c,j,m⟩:=q.ex;refine xz f (y5 bits.n32 hi ?_);rw[bits.nk i hi];cases hp:s.k i with
 |none=>rw[hp]at e;exact ax.2 e
 |some y=>
  rw[hp]at e;refine aj.2 ⟨_,rfl,sk,dD (i:=3) f,_,rfl,_,dD (i:=1) f,nZ bits.n32 hi ⟨dD (i:=3) f,?_⟩⟩;have k:=Ef hi bits.nk hp;obtain⟨a,o,_,hv⟩:=c.at (NJ hi bits.nk hp);have g:=c.len;exact⟨by omega,a,o,y,hv 0 _ rfl,e⟩
theorem ou{W:Nat→Prop}{h:ad}{b d n:Nat}{sp sk:SliceV}{f:Bool}{ow:Option Addr}{l:List Pr}(e:h[b]? =some (.cells (ff d n sp sk f ow) bE (0,0))) (a:Sl gC 2 W h sp l) (g:l.length≤1000000000) {K:SliceV→ad→Prop}
  (c:∀s' h',OwnS gC 2 ay (fun x=>h.size≤x) h' s' l→Upd No h h'→K s' h'):HC PG eK [.pointer (some ⟨b,0,none⟩)] [.c .slice] K h:=by
 refine yi _ ?_;unfold qP bG;exact aj.2 ⟨_,rfl,sp,dD (i:=2) e,zl a (by omega) c⟩
theorem Fc{W:Nat→Prop}{h:ad}{b d n:Nat}{sp sk:SliceV}{f:Bool}{ow:Option Addr}{l:List (Option Addr)}(e:h[b]? =some (.cells (ff d n sp sk f ow) bE (0,0))) (a:Sl oJ 1 W h sk l) (g:l.length≤1000000000) {K:SliceV→ad→Prop}
  (c:∀s' h',OwnS oJ 1 bA (fun x=>h.size≤x) h' s' l→Upd No h h'→K s' h'):HC PG kT [.pointer (some ⟨b,0,none⟩)] [.c .slice] K h:=by
 refine zD _ ?_;unfold rV bG;exact aj.2 ⟨_,rfl,sk,dD (i:=3) e,Eo a (by omega) c⟩
structure BuckAt(W:Nat→Prop)(h:ad)(b:Nat)(l:List Pr):Prop where
 ex:∃sp sk ow,h[b]? =some (.cells (ff 0 0 sp sk true ow) bE (0,0))∧Sl gC 2 W h sp l∧Sl oJ 1 W h sk []∧sp.len≤sp.cap∧sk.len≤sk.cap∧OwOk W h ow
 nw:¬W b
theorem BuckAt.upd{W M:Nat→Prop}{h c:ad}{b:Nat}{l:List Pr}(n:BuckAt W h b l)(k:Upd M h c)(hm:∀b,M b→W b∨h.size≤b):BuckAt W c b l:=by
 obtain⟨sp,sk,ow,a,g,f,j,i,d⟩:=n.ex;exact⟨⟨sp,sk,ow,k.get a (fun e=>(hm _ e).elim n.nw fun h=>by have:=aD a;omega),g.upd k hm,f.upd k hm,j,i,d.upd k hm⟩,n.nw⟩
theorem QN{W:Nat→Prop}{h:ad}{b:Nat}{l:List Pr}(z:BuckAt W h b l)(o:cB l)(n:l.length≤1000000000)(k:ByteArray){K:ByteArray×Bool→ad→Prop}
  (i:∀h' v,Upd No h h'→(bW l k=true→(k,v)∈l)→(bW l k=false→v=⟨#[]⟩)→K (v,bW l k) h'):HC PG pR [.pointer (some ⟨b,0,none⟩),.string k] [.c .str,.c .bool] K h:=by
 refine JR _ k ?_;unfold CQ dz yO bI;obtain⟨sp,sk,ow,q,m,u,y,s⟩:=z.ex;refine ou q m n fun w t j f=>?_
 have d:Sl gC 2 No t w l:=j.sl fun _ _ _ h=>h
 refine Fl d o n k fun A c=>?_
 cases ht:bW l k with
 |false=>rw[ht]at i;exact ax.2 (i _ _ (f.tr c) (fun h=>by cases h) fun _=>rfl)
 |true=>
  rw[ht]at i;obtain⟨g,e⟩:=E1 o ht;obtain⟨a,x,_,hv⟩:=(d.upd c fun _ h=>h.elim).at (ag g)
  have p:=d.len;refine aj.2 ⟨by simp only;omega,a,x,_,hv 1 _ rfl,i _ _ (f.tr c) (fun _=>?_) fun h=>by cases h⟩
  have:(k,l[l9 l k].2)=l[l9 l k]:=Prod.ext e.symm rfl;rw[this];exact aP g
theorem P4{W:Nat→Prop}{h:ad}{b:Nat}{l:List Pr}(g:BuckAt W h b l)(i:cB l)(e:l.length≤1000000000)(k:ByteArray){K:ByteArray×Bool→ad→Prop}
 (d:∀a v,Upd No h a→(bW l k=true→(k,v)∈l)→K (v,bW l k) a):HC PG pR [.pointer (some ⟨b,0,none⟩),.string k] [.c .str,.c .bool] K h:=QN g i e k fun a v c f _=>d a v c f
end Go.Proofs
namespace Go.Proofs
open Go.Lift
theorem Mb{W:Nat→Prop}{h:ad}(b:∀x,W x→x<h.size){K:Option Addr→ad→Prop}(a:∀h' b',BuckAt W h' b' []→Upd No h h'→K (some ⟨b',0,none⟩) h'):HC PG rp [] [.c .ptr] K h:=by
 refine Dl ?_;unfold vS;exact a _ _ ⟨⟨⟨none,0,0⟩,⟨none,0,0⟩,none,cJ h _ _,Sl.nil hJ,Sl.nil pL,al _,al _,jL⟩,fun hx=>Nat.lt_irrefl _ (b _ hx)⟩ (Upd.hnew No h _ _)
theorem sy{W:Nat→Prop}{h:ad}(e:∀x,W x→x<h.size){K:Option Addr→ad→Prop}(b:∀h' b',NodeAt W h' b' ⟨fun _=>none,fun _=>none⟩→Upd No h h'→K (some ⟨b',0,none⟩) h'):HC PG mX [] [.c .ptr] K h:=by
 refine FU ?_;unfold yB ME;have d:fm (fun _=>(none:Option Pr)) 32= []:=by simp[fm]
 have a:fm (fun _=>(none:Option (Option Addr))) 32= []:=by simp[fm]
 refine b _ _ ⟨⟨0,0,⟨none,0,0⟩,⟨none,0,0⟩,none,cJ h _ _,⟨by decide,by decide,fun c _=>by simp,fun c _=>by simp⟩,?_,?_,al _,al _,jL⟩,fun hx=>Nat.lt_irrefl _ (e _ hx)⟩ (Upd.hnew No h _ _)
 ·show Sl gC 2 W _ _ (fm (fun _=>none) 32)
  rw[d];exact Sl.nil hJ
 ·show Sl oJ 1 W _ _ (fm (fun _=>none) 32)
  rw[a];exact Sl.nil pL
end Go.Proofs
namespace Go.Proofs
open Go.Lift
def gG(p:Pr):List Pr→List Pr
 | []=> [p]
 |q::l=>if kl q.1 p.1 then q::gG p l else if q.1=p.1 then p::l else p::q::l
theorem fY(p q:Pr)(l:List Pr):gG p (q::l)=if kl q.1 p.1 then q::gG p l else if q.1=p.1 then p::l else p::q::l:=rfl
theorem KH(p:Pr):∀{l:List Pr},cB l→I0 l p=gG p l
 | [],_=>by simp[I0,gG,l9,bW]
 |q::l,d=>by
  have d:=ba.1 d;unfold gG;have a:l9 (q::l) p.1=if kl q.1 p.1 then l9 l p.1+1 else 0:=by
   unfold l9;rw[List.takeWhile_cons];by_cases h:kl q.1 p.1
   ·rw[if_pos (by simpa using h),if_pos h];rfl
   ·rw[if_neg (by simpa using h),if_neg h];rfl
  have c:bW (q::l) p.1=(decide (q.1=p.1)||bW l p.1):=by unfold bW;rw[List.any_cons]
  by_cases h:kl q.1 p.1
  ·have g:q.1≠p.1:=fun e=>by rw[e]at h;exact cA _ h
   rw[if_pos h,←KH p d.2];unfold I0;rw[c,a,if_pos h,decide_eq_false g,Bool.false_or];by_cases b:bW l p.1=true
   ·rw[if_pos b,if_pos b];rfl
   ·rw[if_neg b,if_neg b];rfl
  ·rw[if_neg h]
   unfold I0;rw[c,a,if_neg h];by_cases e:q.1=p.1
   ·rw[if_pos e,decide_eq_true e,Bool.true_or,if_pos rfl];rfl
   ·have i:=tW h e
    have b:bW l p.1=false:=by
     unfold bW;rw[List.any_eq_false];intro r j f;have f:=of_decide_eq_true f;have:=d.1 r j;rw[f]at this;exact cA _ (iP i this)
    rw[if_neg e,decide_eq_false e,b];rfl
theorem xC{p q:Pr}:∀{l:List Pr},q∈gG p l→q=p∨q∈l
 | [],h=>by simp[gG]at h;exact .inl h
 |r::l,h=>by
  unfold gG at h;split at h
  ·rcases ar.1 h with h|h
   ·exact .inr (h▸au ..)
   ·exact(xC h).imp id fun h=>aM _ h
  ·split at h
   ·rcases ar.1 h with h|h
    ·exact .inl h
    ·exact .inr (aM _ h)
   ·rcases ar.1 h with h|h
    ·exact .inl h
    ·exact .inr h
theorem yV(p:Pr):∀{l:List Pr},cB l→cB (gG p l)
 | [],_=>List.pairwise_singleton ..
 |q::l,a=>by
  have c:=a;have a:=ba.1 a;unfold gG;split
  ·rename_i h
   refine ba.2 ⟨fun r hm=>?_,yV p a.2⟩
   rcases xC hm with rfl|hm
   ·exact h
   ·exact a.1 r hm
  ·rename_i h
   split
   ·rename_i e
    exact ba.2 ⟨fun r hm=>e▸a.1 r hm,a.2⟩
   ·rename_i e
    have b:=tW h e;refine ba.2 ⟨fun r hm=>?_,c⟩
    rcases ar.1 hm with rfl|hm
    ·exact b
    ·exact iP b (a.1 r hm)
theorem B7(p:Pr)(g:ByteArray→Bool):∀{l:List Pr},cB l→(gG p l).filter (fun q=>g q.1)=if g p.1 then gG p (l.filter fun q=>g q.1)else l.filter fun q=>g q.1
 | [],_=>by
  unfold gG;rw[cl,List.filter_nil]
 |q::l,d=>by
  have k:=d;have d:=ba.1 d;have j:=B7 p g d.2;rw[fY];by_cases h:kl q.1 p.1
  ·rw[if_pos h,cl,cl,j]
   by_cases f:g q.1=true
   ·rw[if_pos f,if_pos f]
    split
    ·rw[fY,if_pos h]
    ·rfl
   ·rw[if_neg f,if_neg f]
  ·rw[if_neg h]
   by_cases e:q.1=p.1
   ·rw[if_pos e,cl,cl,e]
    by_cases a:g p.1=true
    ·rw[if_pos a,if_pos a,if_pos a,fY,if_neg h,if_pos e]
    ·rw[if_neg a,if_neg a,if_neg a]
   ·rw[if_neg e]
    have c:=tW h e;rw[cl];by_cases a:g p.1=true
    ·rw[if_pos a,if_pos a]
     have:∀r∈(q::l).filter (fun q=>g q.1),kl p.1 r.1:=fun r hm=>by
      rcases ar.1 (gA.1 hm).1 with rfl|hm
      ·exact c
      ·exact iP c (d.1 r hm)
     cases hf:(q::l).filter (fun q=>g q.1)with
     |nil=>rfl
     |cons r rs=>
      have b:=this r (by rw[hf];exact au ..);rw[fY,if_neg fun i=>cA _ (iP b i),if_neg fun e=>by rw[e]at b;exact cA _ b]
    ·rw[if_neg a,if_neg a]
theorem AZ{p:Pr}:∀{l:List Pr},cB l→p∈l→gG p l=l
 |q::l,a,hm=>by
  have a:=ba.1 a;unfold gG;rcases ar.1 hm with rfl|hm
  ·rw[if_neg (cA _),if_pos rfl]
  ·rw[if_pos (a.1 p hm),AZ a.2 hm]
def ck(x:Hs)(lev:Nat)(k:ByteArray):Nat:=((ko x k).toNat>>>(5*lev))%32
theorem xT(x:Hs)(lev:Nat)(k:ByteArray):ck x lev k<32:=nQ _ (by omega)
def part(x:Hs)(lev c:Nat)(l:List Pr):List Pr:=l.filter fun p=>decide (ck x lev p.1=c)
def TrieAt(W:Nat→Prop)(x:Hs)(h:ad):Nat→Nat→List Pr→Prop
 |0,b,l=>BuckAt W h b l
 |m+1,b,l=>∃s,NodeAt W h b s∧∀c,c<32→
  ((part x (12-m) c l= []∧s.p c=none∧s.k c=none)∨(∃p,part x (12-m) c l= [p]∧s.p c=some p∧s.k c=none)∨
   (2≤(part x (12-m) c l).length∧s.p c=none∧∃kb,s.k c=some (some ⟨kb,0,none⟩)∧TrieAt W x h m kb (part x (12-m) c l)))
theorem TrieAt.upd0{W:Nat→Prop}{x:Hs}{h d:ad}(k:Upd No h d):∀{m b:Nat} {l:List Pr},TrieAt W x h m b l→TrieAt W x d m b l
 |0,_,_,t=>BuckAt.upd t k fun _ h=>h.elim
 |m+1,_,_,⟨s,nd,hc⟩=>⟨s,nd.upd k fun _ h=>h.elim,fun c a=>(hc c a).imp id fun o=>o.imp id fun⟨e,j,f,i,g⟩=>⟨e,j,f,i,TrieAt.upd0 k g⟩⟩
theorem NodeAt.less{W W':Nat→Prop}{h:ad}{b:Nat}{s:Slots}(n:NodeAt W h b s)(hm:∀b,W' b→W b∨h.size≤b):NodeAt W' h b s:=by
 obtain⟨d,m,sp,sk,ow,a,g,f,e,j,i,c⟩:=n.ex;exact⟨⟨d,m,sp,sk,ow,a,g,f.less hm,e.less hm,j,i,c.less hm⟩,fun hx=>(hm _ hx).elim n.nw fun h=>by have:=aD a;omega⟩
theorem BuckAt.less{W W':Nat→Prop}{h:ad}{b:Nat}{l:List Pr}(n:BuckAt W h b l)(hm:∀b,W' b→W b∨h.size≤b):BuckAt W' h b l:=by
 obtain⟨sp,sk,ow,a,e,d,g,f,c⟩:=n.ex;exact⟨⟨sp,sk,ow,a,e.less hm,d.less hm,g,f,c.less hm⟩,fun hx=>(hm _ hx).elim n.nw fun h=>by have:=aD a;omega⟩
theorem TrieAt.less{W W':Nat→Prop}{x:Hs}{h:ad}(hm:∀b,W' b→W b∨h.size≤b):∀{m b:Nat} {l:List Pr},TrieAt W x h m b l→TrieAt W' x h m b l
 |0,_,_,t=>BuckAt.less t hm
 |m+1,_,_,⟨s,nd,hc⟩=>⟨s,nd.less hm,fun c a=>(hc c a).imp id fun o=>o.imp id fun⟨d,i,e,g,f⟩=>⟨d,i,e,g,TrieAt.less hm f⟩⟩
theorem TrieAt.updM{W M:Nat→Prop}{x:Hs}{h d:ad}(k:Upd M h d)(hm:∀b,M b→W b∨h.size≤b):∀{m b:Nat} {l:List Pr},TrieAt W x h m b l→TrieAt W x d m b l
 |0,_,_,t=>BuckAt.upd t k hm
 |m+1,_,_,⟨s,nd,hc⟩=>⟨s,nd.upd k hm,fun c a=>(hc c a).imp id fun o=>o.imp id fun⟨e,j,f,i,g⟩=>⟨e,j,f,i,TrieAt.updM k hm g⟩⟩
end Go.Proofs
namespace Go.Proofs
open Go.Lift
def By(h:ad)(w o:Option Addr):Prop:=(w=none∧o=none)∨∃b pl id lv,w=some ⟨b,0,none⟩∧h[b]? =some (.cells #[.pointer pl,.int .i64 id,.bool lv] nX (0,0))∧o=if lv then w else none
theorem By.upd{M:Nat→Prop}{h c:ad}{w o:Option Addr}(t:By h w o)(k:Upd M h c)(hm:∀b,w=some ⟨b,0,none⟩→M b→h.size≤b):By c w o:=by
 rcases t with t|⟨b,pl,id,lv,e,a,d⟩
 ·exact .inl t
 ·exact .inr ⟨b,pl,id,lv,e,k.get a (fun hM=>by have:=hm b e hM;have:=aD a;omega),d⟩
theorem By.upd0{h a:ad}{w o:Option Addr}(t:By h w o)(k:Upd No h a):By a w o:=t.upd k fun _ _ h=>h.elim
theorem By.tok{h:ad}{w o:Option Addr}(t:By h w o){a:Addr}(e:o=some a):w=some a:=by
 rcases t with⟨_,d⟩|⟨b,pl,id,lv,f,g,c⟩
 ·rw[d]at e;cases e
 ·rw[e]at c;split at c
  ·exact c.symm
  ·cases c
theorem By.plain{h:ad}{w o:Option Addr}(t:By h w o)(a:Addr)(e:w=some a):dQ h a:=by
 rcases t with⟨c,_⟩|⟨b,pl,id,lv,d,f,g⟩
 ·rw[c]at e;cases e
 ·rw[d]at e;cases e;exact⟨_,_,f,by simp⟩
theorem xF{h:ad}{w o:Option Addr}(t:By h w o){K:Bool→ad→Prop}(a:K o.isSome h):HC PG d8 [.pointer w] [.c .bool] K h:=by
 refine wO w ?_;unfold pW gT;rcases t with⟨rfl,rfl⟩|⟨b,pl,id,lv,rfl,c,rfl⟩
 ·exact aj.2 a
 ·refine ax.2 ⟨_,rfl,lv,dD (i:=2) c,?_⟩
  cases lv<;>exact a
theorem GN{h:ad}{w o:Option Addr}{b d n:Nat}{sp sk:SliceV}{j:Bool}{ow:Option Addr}(t:By h w o)(f:h[b]? =some (.cells (ff d n sp sk j ow) bE (0,0))) (g:∀a,ow=some a→dQ h a) {K:Bool→ad→Prop} (c:K (o.isSome&&(ow==w)) h):
  HC PG mW [.pointer (some ⟨b,0,none⟩),.pointer w] [.c .bool] K h:=by
 refine yj _ w ?_;unfold qQ iB;refine ax.2 (xF t ?_);cases o with
 |none=>exact aj.2 c
 |some a=>exact ax.2 ⟨_,rfl,ow,dD (i:=5) f,trivial,fun x y hx e=>⟨g x hx,t.plain y e⟩,c⟩
set_option maxRecDepth 4000 in
theorem Kz{W:Nat→Prop}{h:ad}{w o:Option Addr}{b d n:Nat}{sp sk:SliceV}{f:Bool}{ow:Option Addr}{M:List Pr}{lk:List (Option Addr)}(t:By h w o)(g:h[b]? =some (.cells (ff d n sp sk f ow) bE (0,0)))
  (hp:∀a,ow=some a→dQ h a) (P:(o.isSome&&(ow==w))=false) (X:Sl gC 2 W h sp M) (U:Sl oJ 1 W h sk lk) (hlp:M.length≤1000000000) (hlk:lk.length≤1000000000) {K:Option Addr→ad→Prop}
  (Q:∀m sp' sk' (A B:Nat→Prop),m[h.size]? =some (.cells (ff d n sp' sk' f o) bE (0,0))→OwnS gC 2 ay A m sp' M→OwnS oJ 1 bA B m sk' lk→(∀x,A x→h.size<x∧¬B x∧x<m.size)→(∀x,B x→h.size<x∧x<m.size)→Upd No h m→K (some ⟨h.size,0,none⟩) m):
  HC PG ey [.pointer (some ⟨b,0,none⟩),.pointer w] [.c .ptr] K h:=by
 refine tq _ w ?_;unfold oV iB bG nv cL tc gT gm ME Qe;refine GN t g hp ?_;rw[P];refine aj.2 ?_;have c:∀{h:ad} {b:Nat} {c:Array Value} {i:Nat},h[b]? =some (.cells c bE (0,0))→aK h ⟨b,0+i,none⟩=c[i]?:=fun g=>by rw[aB];exact aY g
 refine⟨_,rfl,_,c (i:=0) g,_,c (i:=1) g,sp,c (i:=2) g,sk,c (i:=3) g,_,c (i:=4) g,_,c (i:=5) g,?_⟩;have k1:=Upd.hnew No h [.int .u32 0,.int .u32 0,.slice none 0 0,.slice none 0 0,.bool false,.pointer none] bE;have b1:=cJ h [.int .u32 0,.int .u32 0,.slice none 0 0,.slice none 0 0,.bool false,.pointer none] bE;refine bL ?_;simp only[fy h];generalize hnew h [.int .u32 0,.int .u32 0,.slice none 0 0,.slice none 0 0,.bool false,.pointer none] bE=h1 at k1 b1
 have Z:gD h1 ⟨h.size,0,none⟩ 0 [.int .u32 (d:Int),.int .u32 (n:Int),.slice sp.a sp.len sp.cap,.slice sk.a sk.len sk.cap,.bool f,.pointer ow]=_:=ia _ h1 0 0 _ b1 (by simp);refine⟨.inr ⟨_,rfl,fun j hj=>by rw[bF];exact gS b1 (by simp at hj⊢;omega)⟩,bL ?_⟩
 rw[Z];have b2:=jh (o:=.cells (ff d n sp sk f ow) bE (0,0)) b1;have E:Upd No h _:=k1.trans (M':=(· =h.size)) (Upd.set h1 (.cells (ff d n sp sk f ow) bE (0,0)) rfl) fun x hx=>.inr (gJ hx.symm)
 have hz2:h.size<(h1.setIfInBounds h.size (.cells (ff d n sp sk f ow) bE (0,0))).size:=aD b2;have e2:(Obj.cells (List.take (0+0) [Value.int .u32 0,.int .u32 0,.slice none 0 0,.slice none 0 0,.bool false,.pointer none]++ [Value.int .u32 (d:Int),.int .u32 (n:Int),.slice sp.a sp.len sp.cap,.slice sk.a sk.len sk.cap,.bool f,.pointer ow]++List.drop (0+0+ [Value.int .u32 (d:Int),.int .u32 (n:Int),.slice sp.a sp.len sp.cap,.slice sk.a sk.len sk.cap,.bool f,.pointer ow].length) [Value.int .u32 0,.int .u32 0,.slice none 0 0,.slice none 0 0,.bool false,.pointer none]).toArray bE (0,0))=.cells (ff d n sp sk f ow) bE (0,0):=rfl
 rw[e2];generalize h1.setIfInBounds h.size (.cells (ff d n sp sk f ow) bE (0,0))=h2 at b2 E hz2;have z:=E.get0 g;refine⟨_,rfl,sp,c (i:=2) z,_,rfl,sk,c (i:=3) z,?_⟩;refine zl (X.upd E fun _ h=>h.elim) (by omega) fun C h3 ho3 q=>?_
 refine⟨c (i:=3) (q.get0 z),?_⟩;refine Eo ((U.upd E fun _ h=>h.elim).upd q fun _ h=>h.elim) (by omega) fun G h4 Y u=>?_
 have b4:=u.get0 (q.get0 b2);have I:=ho3.within.upd u fun _ _ h=>h
 have F:=Y.within;have z3:=q.size;have z4:=u.size;have L:∀{h:ad} {c:Array Value} {x i:Nat},h[x]? =some (.cells c bE (0,0))→i<c.size→Wr h ⟨x,0+i,none⟩:=fun g hi=>by rw[aB];exact gS g hi
 have J:∀{h:ad} {c c':Array Value} {x i:Nat} {v:Value} {k:ad→Prop},h[x]? =some (.cells c bE (0,0))→c.setIfInBounds i v=c'→(∀m,m[x]? =some (.cells c' bE (0,0))→Upd (· =x) h m→k m)→At (hset h ⟨x,i,none⟩ v) k:=fun g e Q=>sP g fun m R hu=>Q m (e▸R) hu
 refine⟨L (i:=2) b4 (show 2<6 by decide),J (i:=2) (c':=ff d n C sk f ow) b4 rfl fun h5 b5 V=>?_⟩
 refine⟨L (i:=3) b5 (show 3<6 by decide),J (i:=3) (c':=ff d n C G f ow) b5 rfl fun h6 b6 O=>?_⟩
 refine⟨L (i:=5) b6 (show 5<6 by decide),J (i:=5) (c':=ff d n C G f none) b6 rfl fun h7 S T=>?_⟩
 have p:=V.tr (O.tr T);have z7:=p.size;have D:Upd No h h7:=((E.tr q).tr u).trans p fun x hx=>.inr (gJ hx.symm)
 have t7:=t.upd0 D;have fin:∀{H:ad},H[h.size]? =some (.cells (ff d n C G f o) bE (0,0))→Upd (· =h.size) h7 H→K (some ⟨h.size,0,none⟩) H:=fun{H} N s=>by
  have y:=p.tr s;have z8:=s.size;exact Q _ C G (fun x=>h2.size≤x∧x<h3.size) (fun x=>h3.size≤x∧x<h4.size) N (I.upd y fun x hx e=>by have e:x=h.size:=e;omega) (F.upd y fun x hx e=>by have e:x=h.size:=e;omega) (fun x hx=>⟨by omega,by omega,by omega⟩) (fun x hx=>⟨by omega,by omega⟩) (D.trans s fun x hx=>.inr (gJ hx.symm))
 refine xF t7 ?_;cases ho:o with
 |none=>rw[ho]at fin;exact aj.2 (fin S (Upd.refl _ _))
 |some a=>
  rw[ho]at fin;rw[t.tok ho];refine ax.2 ⟨L (i:=5) S (show 5<6 by decide),J (i:=5) (c':=ff d n C G f (some a)) S rfl fun H N s=>fin N s⟩
theorem Ky{h:ad}{w o:Option Addr}{b d n:Nat}{sp sk:SliceV}{i:Bool}{ow:Option Addr}(t:By h w o)(f:h[b]? =some (.cells (ff d n sp sk i ow) bE (0,0))) (g:∀a,ow=some a→dQ h a) (c:(o.isSome&&(ow==w))=true) {K:Option Addr→ad→Prop} (e:K (some ⟨b,0,none⟩) h):
  HC PG ey [.pointer (some ⟨b,0,none⟩),.pointer w] [.c .ptr] K h:=by
 refine tq _ w ?_;unfold oV iB bG nv cL tc gT gm ME Qe;refine GN t f g ?_;rw[c];exact ax.2 e
def NodeO(o:Option Addr)(W:Nat→Prop)(h:ad)(b:Nat)(s:Slots)(S:Nat→Prop):Prop:=
 (NodeAt W h b s∧∀y,¬S y)∨(o.isSome=true∧∃d n sp sk,OwnN S h b d n sp sk s o)
theorem OwnN.mono{M M':Nat→Prop}{h:ad}{b d n:Nat}{sp sk:SliceV}{s:Slots}{ow:Option Addr}(o:OwnN M h b d n sp sk s ow)(hm:∀x,M x→M' x):OwnN M' h b d n sp sk s ow:=by
 obtain⟨A,B,f,e,a,c⟩:=o.ex;exact⟨o.blk,o.bits,⟨A,B,f,e,fun x hx=>⟨hm _ (a x hx).1,(a x hx).2⟩,fun x hx=>⟨hm _ (c x hx).1,(c x hx).2⟩⟩,hm _ o.mb⟩
theorem OwnN.within{M:Nat→Prop}{h:ad}{b d n:Nat}{sp sk:SliceV}{s:Slots}{ow:Option Addr}(o:OwnN M h b d n sp sk s ow):OwnN (fun x=>M x∧x<h.size) h b d n sp sk s ow:=by
 obtain⟨A,B,f,e,a,c⟩:=o.ex;exact⟨o.blk,o.bits,⟨A,B,f,e,fun x hx=>⟨⟨(a x hx).1,(a x hx).2.2.2⟩,(a x hx).2⟩,fun x hx=>⟨⟨(c x hx).1,(c x hx).2.2⟩,(c x hx).2⟩⟩,o.mb,aD o.blk⟩
theorem E3{W S:Nat→Prop}{h:ad}{w o:Option Addr}{b:Nat}{s:Slots}(i:NodeO o W h b s S)(t:By h w o)(H:∀a,o=some a→W a.block){K:Option Addr→ad→Prop}
  (D:∀m p d n sp sk,OwnN (fun y=>S y∨h.size≤y) m p d n sp sk s o→Upd No h m→K (some ⟨p,0,none⟩) m):
  HC PG ey [.pointer (some ⟨b,0,none⟩),.pointer w] [.c .ptr] K h:=by
 rcases i with⟨i,_⟩|⟨C,d,n,sp,sk,i⟩
 ·obtain⟨d,n,sp,sk,ow,G,bits,v,u,J,I,j⟩:=i.ex
  refine Kz t G (fun a e=>(j a e).2) ?_ v u (by have:=uc (g:=s.p);omega) (by have:=uc (g:=s.k);omega) fun m z q A B p L F c f k=>?_
  ·cases ho:o with
   |none=>rfl
   |some a=>
    have e:=t.tok ho;rw[Option.isSome_some,Bool.true_and,beq_eq_false_iff_ne];intro E;rw[e]at E;exact(j a E).1 (H a ho)
  ·exact D m h.size d n z q ⟨p,bits,⟨A,B,L,F,fun x hx=>⟨.inr (by have:=(c x hx).1;omega),(c x hx).2.1,by have:=(c x hx).1;omega,(c x hx).2.2⟩,fun x hx=>⟨.inr (by have:=(f x hx).1;omega),by have:=(f x hx).1;omega,(f x hx).2⟩⟩,.inr (al _)⟩ k
 ·refine Ky t i.blk (fun a e=>t.plain a (t.tok e)) ?_ (D h b d n sp sk (i.mono fun _ h=>.inl h) (Upd.refl _ _))
  obtain⟨a,e⟩:=dg.1 C;rw[C,e,t.tok e];simp
end Go.Proofs
namespace Go.Proofs
inductive Fo where
 |nil:Fo
 |cons (lab:List UInt8) (val:Option ByteArray) (kids rest:Fo):Fo
abbrev Bn:=List UInt8×Option ByteArray×Fo
def Fo.toL:Fo→List Bn
 | .nil=> []
 | .cons lab w kids rest=>(lab,w,kids)::rest.toL
theorem Fo.toL_cons(lab:List UInt8)(w:Option ByteArray)(b a:Fo):(Fo.cons lab w b a).toL=(lab,w,b)::a.toL:=rfl
def Fo.ofL:List Bn→Fo
 | []=>.nil
 |(lab,w,kids)::l=>.cons lab w kids (Fo.ofL l)
theorem Fo.to_of:∀l:List Bn,(Fo.ofL l).toL=l
 | []=>rfl
 |(_,_,_)::l=>by show _::(Fo.ofL l).toL=_;rw[Fo.to_of l]
theorem Fo.of_to:∀F:Fo,Fo.ofL F.toL=F
 | .nil=>rfl
 | .cons lab w kids rest=>by show Fo.cons lab w kids (Fo.ofL rest.toL)=_;rw[Fo.of_to rest]
def nu:Fo→List UInt8→ByteArray→Prop
 | .nil,_,_=>False
 | .cons lab w kids rest,k,v=>(∃r,k=lab++r∧((r= []∧w=some v)∨nu kids r v))∨nu rest k v
def oK(w:Option ByteArray)(F:Fo)(k:List UInt8)(v:ByteArray):Prop:=(k= []∧w=some v)∨nu F k v
def qk(n:Bn)(k:List UInt8)(v:ByteArray):Prop:=∃r,k=n.1++r∧oK n.2.1 n.2.2 r v
theorem fc:∀{F:Fo} {k:List UInt8} {v:ByteArray},nu F k v↔∃n∈F.toL,qk n k v
 | .nil,_,_=>by simp[nu,Fo.toL]
 | .cons lab w kids rest,k,v=>by
  rw[Fo.toL_cons];unfold nu;rw[fc (F:=rest)];constructor
  ·rintro(h|⟨n,a,h⟩)
   ·exact⟨_,au ..,h⟩
   ·exact⟨n,aM _ a,h⟩
  ·rintro⟨n,a,h⟩
   rcases ar.1 a with rfl|a
   ·exact .inl h
   ·exact .inr ⟨n,a,h⟩
def hd(k:List UInt8):Nat:=(k.headD 0).toNat
theorem mP{a b:List UInt8}(h:a≠[]):hd (a++b)=hd a:=by
 cases a with
 |nil=>exact absurd rfl h
 |cons x a=>rfl
theorem P5(a:List UInt8):hd a<256:=UInt8.toNat_lt _
def eH:Fo→Prop
 | .nil=>True
 | .cons lab w kids rest=>lab≠[]∧(w.isSome∨2≤kids.toL.length)∧eH kids∧(∀n∈rest.toL,hd lab<hd n.1)∧eH rest
def HK(n:Bn):Prop:=n.1≠[]∧(n.2.1.isSome∨2≤n.2.2.toL.length)∧eH n.2.2
theorem dS:∀{F:Fo},eH F↔F.toL.Pairwise (fun m n=>hd m.1<hd n.1)∧∀n∈F.toL,HK n
 | .nil=>by simp[eH,Fo.toL]
 | .cons lab w kids rest=>by
  rw[Fo.toL_cons,ba];show(lab≠[]∧(w.isSome∨2≤kids.toL.length)∧eH kids∧(∀n∈rest.toL,hd lab<hd n.1)∧eH rest)↔_
  rw[dS (F:=rest)];constructor
  ·rintro⟨e,g,f,c,d,b⟩
   refine⟨⟨c,d⟩,fun n a=>?_⟩
   rcases ar.1 a with rfl|a
   ·exact⟨e,g,f⟩
   ·exact b n a
  ·rintro⟨⟨c,d⟩,b⟩
   have:=b _ (au ..);exact⟨this.1,this.2.1,this.2.2,c,d,fun n a=>b n (aM _ a)⟩
theorem lL:∀{F:Fo},eH F→∀n∈F.toL,∃r v,oK n.2.1 n.2.2 r v
 | .nil,_,n,a=>by simp[Fo.toL]at a
 | .cons lab w kids rest,h,n,a=>by
  rcases ar.1 a with rfl|a
  ·rcases h.2.1 with d|b
   ·obtain⟨v,hv⟩:=dg.1 d
    exact⟨[],v,.inl ⟨rfl,hv⟩⟩
   ·have c:=lL h.2.2.1
    have⟨m,hm⟩:∃m,m∈kids.toL:=by
     cases hl:kids.toL with
     |nil=>rw[hl]at b;simp at b
     |cons m l=>exact⟨m,au ..⟩
    obtain⟨r,v,e⟩:=c m hm;exact⟨m.1++r,v,.inr (fc.2 ⟨m,hm,r,rfl,e⟩)⟩
  ·exact lL h.2.2.2.2 n a
theorem mO{F:Fo}(h:eH F){k:List UInt8}{v:ByteArray}(hi:nu F k v):k≠[]:=by
 obtain⟨n,a,r,rfl,_⟩:=fc.1 hi;have:=((dS.1 h).2 n a).1;intro e;exact this (fE.1 e).1
theorem oO{F:Fo}(h:eH F){k:List UInt8}{v:ByteArray}(hi:nu F k v):∃n∈F.toL,hd n.1=hd k∧qk n k v:=by
 obtain⟨n,a,r,e,b⟩:=fc.1 hi;exact⟨n,a,by rw[e,mP ((dS.1 h).2 n a).1],r,e,b⟩
theorem uY{F:Fo}(h:eH F){m n:Bn}(hm:m∈F.toL)(f:n∈F.toL)(e:hd m.1=hd n.1):m=n:=by
 have c:=(dS.1 h).1;revert hm f;generalize F.toL=l at*;clear h;induction l with
 |nil=>intro hm;simp at hm
 |cons a l ih=>
  have c:=ba.1 c;intro hm f;rcases ar.1 hm with i|d
  ·rcases ar.1 f with g|b
   ·rw[i,g]
   ·have:=c.1 n b;rw[←i]at this;omega
  ·rcases ar.1 f with g|b
   ·have:=c.1 m d;rw[←g]at this;omega
   ·exact ih c.2 d b
def Br(P:List UInt8→ByteArray→Prop):Prop:=(∃v,P [] v)∨∃j k u v,P j u∧P k v∧j≠[]∧k≠[]∧hd j≠hd k
theorem Cn{w:Option ByteArray}{F:Fo}(h:eH F):(w.isSome∨2≤F.toL.length)↔Br (oK w F):=by
 constructor
 ·rintro(A|y)
  ·obtain⟨v,hv⟩:=dg.1 A
   exact .inl ⟨v,.inl ⟨rfl,hv⟩⟩
  ·right
   have c:=lL h;have hc:=dS.1 h;match hL:F.toL,y with
   |a::b::l,_=>
    have f:a∈F.toL:=by rw[hL];simp
    have g:b∈F.toL:=by rw[hL];simp
    obtain⟨r,v,C⟩:=c a f;obtain⟨s,u,c⟩:=c b g;have o:=(hc.2 a f).1;have q:=(hc.2 b g).1;have:=hc.1;rw[hL]at this;have D:=(ba.1 this).1 b (au ..);refine⟨a.1++r,b.1++s,v,u,.inr (fc.2 ⟨a,f,r,rfl,C⟩),.inr (fc.2 ⟨b,g,s,rfl,c⟩),?_,?_,?_⟩
    ·intro e;exact o (fE.1 e).1
    ·intro e;exact q (fE.1 e).1
    ·rw[mP o,mP q];omega
 ·rintro(⟨v,hv⟩|⟨j,k,u,v,i,d,t,nk,z⟩)
  ·rcases hv with⟨_,hv⟩|hv
   ·left;rw[hv];rfl
   ·exact absurd rfl (mO h hv)
  ·right
   rcases i with⟨e,_⟩|i
   ·exact absurd e t
   rcases d with⟨e,_⟩|d
   ·exact absurd e nk
   obtain⟨m,hm,B,_⟩:=oO h i;obtain⟨n,p,x,_⟩:=oO h d;match hL:F.toL with
   | []=>rw[hL]at hm;simp at hm
   | [a]=>
    rw[hL]at hm p;rw[aq.1 hm]at B;rw[aq.1 p]at x;omega
   |a::b::l=>simp
end Go.Proofs
namespace Go.Proofs
theorem KI{m n:Bn}(i:Br (oK m.2.1 m.2.2))(h:∀k v,qk m k v→qk n k v):∃t,m.1=n.1++t:=by
 rcases i with⟨v,hv⟩|⟨j,k,u,v,o,g,p,nk,b⟩
 ·obtain⟨r,e,_⟩:=h m.1 v ⟨[],(bJ _).symm,hv⟩
  exact⟨r,e⟩
 ·obtain⟨r,e,_⟩:=h (m.1++j) u ⟨j,rfl,o⟩
  obtain⟨s,f,_⟩:=h (m.1++k) v ⟨k,rfl,g⟩;rcases List.append_eq_append_iff.1 e with⟨a,c,d⟩|⟨a,c,d⟩
  ·rw[c,ao]at f
   have f:=dX f;cases a with
   |nil=>exact⟨[],by rw[c];simp⟩
   |cons x a=>
    rw[d]at b;rw[f]at b;exact absurd rfl b
  ·exact⟨a,c⟩
theorem Jo:∀{F F':Fo},eH F→eH F'→(∀k v,nu F k v↔nu F' k v)→F=F'
 | .nil,.nil,_,_,_=>rfl
 | .nil,.cons lab w b c,_,h,he=>by
  obtain⟨r,v,j⟩:=lL h _ (au ..);exact((he _ v).2 (fc.2 ⟨_,au ..,r,rfl,j⟩)).elim
 | .cons lab w b c,.nil,h,_,he=>by
  obtain⟨r,v,j⟩:=lL h _ (au ..);exact((he _ v).1 (fc.2 ⟨_,au ..,r,rfl,j⟩)).elim
 | .cons lab w b c,.cons d w' a f,h,g,he=>by
  have A:∀{lab w b c} {F:Fo},eH (.cons lab w b c)→eH F→(∀k v,nu F k v→nu (.cons lab w b c) k v)→∀n∈F.toL,hd lab≤hd n.1:=by
   intro lab w b c F h C hi n i;obtain⟨r,v,j⟩:=lL C n i;obtain⟨m,hm,e,_⟩:=oO h (hi _ v (fc.2 ⟨n,i,r,rfl,j⟩));rw[mP ((dS.1 C).2 n i).1]at e;rcases ar.1 hm with rfl|hm
   ·simp only at e;omega
   ·have:=h.2.2.2.1 m hm;omega
  have J:=A h g (fun k v=>(he k v).2) _ (au ..)
  have M:=A g h (fun k v=>(he k v).1) _ (au ..)
  simp only at J M;have p:hd lab=hd d:=by omega
  have x:∀{lab w b c d w' a f},eH (.cons lab w b c)→eH (.cons d w' a f)→hd lab=hd d→(∀k v,nu (.cons lab w b c) k v→nu (.cons d w' a f) k v)→(∀k v,qk (lab,w,b) k v→qk (d,w',a) k v)∧(∀k v,nu c k v→nu f k v):=by
   intro lab w b c d w' a f h g p hi;refine⟨fun k v o=>?_,fun k v o=>?_⟩
   ·obtain⟨n,i,e,j⟩:=oO g (hi k v (fc.2 ⟨_,au ..,o⟩))
    obtain⟨r,rfl,_⟩:=o;rw[mP h.1]at e;rw[←uY g i (au ..) (by simp only;omega)];exact j
   ·obtain⟨m,hm,P,_⟩:=oO h.2.2.2.2 o
    have:=h.2.2.2.1 m hm;obtain⟨n,i,e,j⟩:=oO g (hi k v (Or.inr o));rcases ar.1 i with rfl|i
    ·simp only at e;omega
    ·exact fc.2 ⟨n,i,j⟩
  have⟨I,L⟩:=x h g p fun k v=>(he k v).1
  have⟨E,O⟩:=x g h p.symm fun k v=>(he k v).2
  have q:c=f:=Jo h.2.2.2.2 g.2.2.2.2 fun k v=>⟨L k v,O k v⟩
  obtain⟨t,B⟩:=KI (m:=(lab,w,b)) (n:=(d,w',a)) ((Cn h.2.2.1).1 h.2.1) I;obtain⟨Q,u⟩:=KI (m:=(d,w',a)) (n:=(lab,w,b)) ((Cn g.2.2.1).1 g.2.1) E;simp only at B u;have z:lab=d:=by
   have:t= []:=by
    have K:=congrArg fP B;have N:=congrArg fP u;rw[ae]at K N;exact List.length_eq_zero_iff.1 (by omega)
   rw[B,this,bJ]
  subst z;have y:∀{w b w' a},(∀k v,qk (lab,w,b) k v→qk (lab,w',a) k v)→∀k v,oK w b k v→oK w' a k v:=by
   intro w b w' a i k v o;obtain⟨r,e,j⟩:=i (lab++k) v ⟨k,rfl,o⟩;rw[dX e];exact j
  have i1:=y I;have H:=y E;have ew:w=w':=by
   have D:∀{w b w' a},eH a→(∀k v,oK w b k v→oK w' a k v)→∀v,w=some v→w'=some v:=by
    intro w b w' a hc hi v hv;rcases hi [] v (.inl ⟨rfl,hv⟩)with⟨_,h⟩|h
    ·exact h
    ·exact absurd rfl (mO hc h)
   exact Option.ext fun v=>⟨D g.2.2.1 i1 v,D h.2.2.1 H v⟩
  have G:∀{w b w' a},eH b→(∀k v,oK w b k v→oK w' a k v)→∀k v,nu b k v→nu a k v:=by
   intro w b w' a hc hi k v o;rcases hi k v (.inr o)with⟨e,_⟩|h
   ·exact absurd e (mO hc o)
   ·exact h
  have s:b=a:=Jo h.2.2.1 g.2.2.1 fun k v=>⟨G h.2.2.1 i1 k v,G g.2.2.1 H k v⟩
  rw[ew,s,q]
def rv(P a:List UInt8→ByteArray→Prop)(k:List UInt8)(v:ByteArray):Prop:=∀k' v',a k' v'↔(k'=k∧v'=v)∨(k'≠k∧P k' v')
theorem DS{w:Option ByteArray}{F:Fo}(h:eH F)(v:ByteArray):rv (oK w F) (oK (some v) F) [] v:=by
 intro k' a;unfold oK;constructor
 ·rintro(⟨e,f⟩|hi)
  ·exact .inl ⟨e,(bm.inj f).symm⟩
  ·exact .inr ⟨mO h hi,.inr hi⟩
 ·rintro(⟨e,f⟩|⟨e,⟨f,_⟩|hi⟩)
  ·exact .inl ⟨e,by rw[f]⟩
  ·exact absurd f e
  ·exact .inr hi
theorem yZ{w:Option ByteArray}{F F':Fo}{k:List UInt8}{v:ByteArray}(b:k≠[])(h:rv (nu F) (nu F') k v):rv (oK w F) (oK w F') k v:=by
 intro k' a;unfold oK;rw[h k' a];constructor
 ·rintro(⟨e,f⟩|hi|hi)
  ·exact .inr ⟨fun e'=>b (e'.symm.trans e),.inl ⟨e,f⟩⟩
  ·exact .inl hi
  ·exact .inr ⟨hi.1,.inr hi.2⟩
 ·rintro(hi|⟨e,hi|hi⟩)
  ·exact .inr (.inl hi)
  ·exact .inl hi
  ·exact .inr (.inr ⟨e,hi⟩)
theorem LG{F:Fo}{k:List UInt8}{v:ByteArray}{i:Nat}(h:eH F)(w:k≠[])(hi:∀j (d:j<F.toL.length),j<i→hd F.toL[j].1<hd k)(g:∀j (d:j<F.toL.length),i≤j→hd k<hd F.toL[j].1):eH (.ofL (F.toL.take i++(k,some v,.nil)::F.toL.drop i))∧rv (nu F) (nu (.ofL (F.toL.take i++(k,some v,.nil)::F.toL.drop i))) k v:=by
 have hc:=dS.1 h;have u:∀n∈F.toL.take i,hd n.1<hd k:=fun n c=>by
  obtain⟨j,d,e⟩:=cj c;rw[aG]at d;rw[←e,List.getElem_take];exact hi j (by omega) (by omega)
 have x:∀n∈F.toL.drop i,hd k<hd n.1:=fun n c=>by
  obtain⟨j,d,e⟩:=cj c;rw[List.length_drop]at d;rw[←e,List.getElem_drop];exact g _ (by omega) (by omega)
 have mem:∀n,n∈F.toL.take i++(k,some v,.nil)::F.toL.drop i↔n=(k,some v,Fo.nil)∨n∈F.toL:=fun n=>by
  conv=>rhs;rw[←aN i F.toL]
  simp only[List.mem_append,ar];exact⟨fun h=>h.elim (fun h=>.inr (.inl h)) fun h=>h.elim .inl fun h=>.inr (.inr h),fun h=>h.elim (fun h=>.inr (.inl h)) fun h=>h.elim .inl fun h=>.inr (.inr h)⟩
 refine⟨dS.2 ⟨?_,?_⟩,fun k' y=>?_⟩
 ·rw[Fo.to_of]
  have m:=hc.1;rw[←aN i F.toL,cS]at m;refine cS.2 ⟨m.1,ba.2 ⟨x,m.2.1⟩,fun a s b p=>?_⟩
  rcases ar.1 p with rfl|p
  ·exact u a s
  ·exact m.2.2 a s b p
 ·rw[Fo.to_of]
  intro n c;rcases(mem n).1 c with rfl|c
  ·exact⟨w,.inl rfl,trivial⟩
  ·exact hc.2 n c
 ·rw[fc,fc,Fo.to_of]
  constructor
  ·rintro⟨n,c,r,e,t⟩
   rcases(mem n).1 c with rfl|c
   ·rcases t with⟨rfl,f⟩|f
    ·exact .inl ⟨by rw[e];exact bJ _,(bm.inj f).symm⟩
    ·exact f.elim
   ·right
    refine⟨fun e'=>?_,n,c,r,e,t⟩
    have z:hd k=hd n.1:=by rw[←e',e,mP (hc.2 n c).1]
    obtain⟨j,d,q⟩:=cj c;rcases bD j i with o|o
    ·have:=hi j d o;rw[q]at this;omega
    ·have:=g j d o;rw[q]at this;omega
  ·rintro(⟨rfl,rfl⟩|⟨_,n,c,h⟩)
   ·exact⟨(k',some y,.nil),(mem _).2 (.inl rfl),[],(bJ _).symm,.inl ⟨rfl,rfl⟩⟩
   ·exact⟨n,(mem _).2 (.inr c),h⟩
theorem ki{α:Type}{l:List α}{i:Nat}(hi:i<l.length){a x:α}(d:∀j (c:j<l.length),j≠i→l[j]≠l[i]):x∈l.set i a↔x=a∨(x∈l∧x≠l[i]):=by
 constructor
 ·intro h
  obtain⟨j,c,e⟩:=cj h;rw[List.length_set]at c;rw[List.getElem_set]at e;split at e
  ·exact .inl e.symm
  ·rename_i b
   exact .inr ⟨by rw[←e];exact aP c,by rw[←e];exact d j c fun e=>b e.symm⟩
 ·rintro(rfl|⟨h,b⟩)
  ·exact lD (i:=i) (h:=by simpa using hi) (by simp)
  ·obtain⟨j,c,e⟩:=cj h
   have:i≠j:=by rintro rfl;exact b e.symm
   exact lD (i:=j) (h:=by simpa using c) (by rw[List.getElem_set_ne this];exact e)
theorem K2{F:Fo}{i:Nat}{m:Bn}(h:eH F)(hi:i<F.toL.length)(hm:HK m)(e:hd m.1=hd F.toL[i].1):eH (.ofL (F.toL.set i m)):=by
 have hc:=dS.1 h;rw[dS,Fo.to_of];refine⟨?_,fun n g=>?_⟩
 ·rw[cy]at hc⊢
  intro a b d f c;rw[List.length_set]at d f;rw[List.getElem_set,List.getElem_set];split
  ·rename_i ea;subst ea
   rw[if_neg (by omega),e];exact hc.1 _ _ d f c
  ·split
   ·rename_i eb;subst eb
    rw[e];exact hc.1 _ _ d f c
   ·exact hc.1 _ _ d f c
 ·rcases List.mem_or_eq_of_mem_set g with g|rfl
  ·exact hc.2 n g
  ·exact hm
theorem su{F:Fo}(h:eH F){i:Nat}(hi:i<F.toL.length)(j:Nat)(c:j<F.toL.length)(b:j≠i):F.toL[j]≠F.toL[i]:=by
 have hc:=(dS.1 h).1;rw[cy]at hc;intro e;rcases Nat.lt_or_gt_of_ne b with a|a
 ·have:=hc j i c hi a;rw[e]at this;omega
 ·have:=hc i j hi c a;rw[e]at this;omega
theorem GD{F:Fo}{i:Nat}{m:Bn}{k:List UInt8}{v:ByteArray}(h:eH F)(hi:i<F.toL.length)(ek:hd F.toL[i].1=hd k)(f:rv (qk F.toL[i]) (qk m) k v):rv (nu F) (nu (.ofL (F.toL.set i m))) k v:=by
 intro k' g;have hc:=dS.1 h;rw[fc,fc,Fo.to_of];constructor
 ·rintro⟨n,b,c⟩
  rcases(ki hi (su h hi)).1 b with rfl|⟨b,d⟩
  ·rcases(f k' g).1 c with a|⟨a,j⟩
   ·exact .inl a
   ·exact .inr ⟨a,_,aP hi,j⟩
  ·refine .inr ⟨fun e=>d ?_,n,b,c⟩
   obtain⟨r,e',_⟩:=c;refine uY h b (aP hi) ?_;rw[ek,←e,e',mP (hc.2 n b).1]
 ·rintro(a|⟨a,n,b,c⟩)
  ·exact⟨m,(ki hi (su h hi)).2 (.inl rfl),(f k' g).2 (.inl a)⟩
  ·by_cases e:n=F.toL[i]
   ·exact⟨m,(ki hi (su h hi)).2 (.inl rfl),(f k' g).2 (.inr ⟨a,by rw[←e];exact c⟩)⟩
   ·exact⟨n,(ki hi (su h hi)).2 (.inr ⟨b,e⟩),c⟩
theorem LF{lab r:List UInt8}{w w':Option ByteArray}{F F':Fo}{v:ByteArray}(h:rv (oK w F) (oK w' F') r v):rv (qk (lab,w,F)) (qk (lab,w',F')) (lab++r) v:=by
 intro k' b;constructor
 ·rintro⟨s,e,a⟩
  rcases(h s b).1 a with⟨rfl,rfl⟩|⟨c,d⟩
  ·exact .inl ⟨e,rfl⟩
  ·exact .inr ⟨fun e'=>c (dX (e.symm.trans e')),s,e,d⟩
 ·rintro(⟨rfl,rfl⟩|⟨c,s,e,a⟩)
  ·exact⟨r,rfl,(h r b).2 (.inl ⟨rfl,rfl⟩)⟩
  ·exact⟨s,e,(h s b).2 (.inr ⟨fun e'=>c (by rw[e,e']),a⟩)⟩
def cm:List UInt8→List UInt8→Nat
 |a::x,b::y=>if a=b then cm x y+1 else 0
 |_,_=>0
theorem KZ:∀(x y:List UInt8),cm x y≤x.length∧cm x y≤y.length
 | [],_=>by simp[cm]
 |_::_,[]=>by simp[cm]
 |a::x,b::y=>by unfold cm;have:=KZ x y;split<;>simp<;>omega
theorem KW:∀(x y:List UInt8),x.take (cm x y)=y.take (cm x y)
 | [],_=>by simp[cm]
 |_::_,[]=>by simp[cm]
 |a::x,b::y=>by
  unfold cm;split
  ·rename_i e;rw[dq,dq,KW x y,e]
  ·simp
theorem Fy:∀(x y:List UInt8),cm x y<x.length→cm x y<y.length→hd (x.drop (cm x y))≠hd (y.drop (cm x y))
 | [],_=>by simp[cm]
 |_::_,[]=>by simp[cm]
 |a::x,b::y=>by
  unfold cm;split
  ·rename_i e
   intro d c;rw[aL]at d c;rw[lF,lF];exact Fy x y (by omega) (by omega)
  ·rename_i e
   intro _ _ h;exact e (jI.1 h)
theorem Oa{x y:List UInt8}(hx:x≠[])(c:y≠[])(h:hd x=hd y):0<cm x y:=by
 match x,y,hx,c with
 |a::x,b::y,_,_=>
  unfold cm;rw[if_pos (show a=b from jI.1 h)]
  omega
theorem D8{lab:List UInt8}{w:Option ByteArray}{F:Fo}(c:Nat):∀k v,qk (lab.take c,none,.cons (lab.drop c) w F .nil) k v↔qk (lab,w,F) k v:=by
 intro k v;constructor
 ·rintro⟨r,e,⟨_,h⟩|(⟨s,rfl,h⟩|h)⟩
  ·cases h
  ·exact⟨s,by rw[e];simp only;rw[←ao,aN],h⟩
  ·exact h.elim
 ·rintro⟨s,e,h⟩
  exact⟨lab.drop c++s,by rw[e];simp only;rw[←ao,aN],.inr (.inl ⟨s,rfl,h⟩)⟩
theorem Oh{lab r:List UInt8}{w w':Option ByteArray}{F F':Fo}{v:ByteArray}(b:lab≠[])(f:w.isSome∨2≤F.toL.length)(i:eH F)(a:r≠[]→hd r≠hd lab)(h:rv (oK none (.cons lab w F .nil)) (oK w' F') r v):Br (oK w' F'):=by
 by_cases e:r= []
 ·subst e
  exact .inl ⟨v,(h [] v).2 (.inl ⟨rfl,rfl⟩)⟩
 ·have hc:eH (.cons lab w F .nil):=⟨b,f,i,fun n g=>by simp[Fo.toL]at g,trivial⟩
  obtain⟨s,u,d⟩:=lL hc _ (au ..);simp only at d;have c:hd (lab++s)=hd lab:=mP b;refine .inr ⟨r,lab++s,v,u,(h r v).2 (.inl ⟨rfl,rfl⟩),(h _ u).2 (.inr ⟨fun e'=>a e (by rw[←e',c]),.inr (.inl ⟨s,rfl,d⟩)⟩),e,fun e'=>b (fE.1 e').1,by rw[c];exact a e⟩
theorem PN{P f:List UInt8→ByteArray→Prop}{k:List UInt8}{v:ByteArray}(d:Br P)(h:rv P f k v):Br f:=by
 have keep:∀j u,P j u→∃c,f j c:=fun j u g=>by
  by_cases e:j=k
  ·exact⟨v,(h j v).2 (.inl ⟨e,rfl⟩)⟩
  ·exact⟨u,(h j u).2 (.inr ⟨e,g⟩)⟩
 rcases d with⟨u,o⟩|⟨j,k',u,c,g,i,r⟩
 ·obtain⟨c,n⟩:=keep [] u o
  exact .inl ⟨c,n⟩
 ·obtain⟨a,m⟩:=keep j u g
  obtain⟨b,d⟩:=keep k' c i;exact .inr ⟨j,k',a,b,m,d,r⟩
end Go.Proofs
namespace Go.Proofs
open Go.Lift
theorem Rd(a b:Nat):(ah (IntKind.bits .u64) (a:Int)&&&ah (IntKind.bits .u64) (b:Int)).toNat=(a%18446744073709551616)&&&(b%18446744073709551616):=by
 simp[IntKind.bits,BitVec.toNat_and,BitVec.toNat_ofInt];rfl
theorem Sc{hv:Int}(c:0≤hv∧hv<18446744073709551616){lev:Nat}(g:lev<13){h:ad}{K:Int→ad→Prop}(b:K (((hv.toNat>>>(5*lev))%32:Nat):Int) h):HC PG kB [.int .u64 hv,.int .i64 lev] [.c (.int .i64)] K h:=by
 refine JQ hv lev ?_;unfold CP;refine Join.plain (aH (fun h=>by omega) fun _=>?_)
 rw[decide_eq_false (by omega)];refine aj.2 ?_;have d:IntKind.wrap .i64 (5*(lev:Int))=((5*lev:Nat):Int):=by rw[nq (by omega)];omega
 rw[d];have f:min (((5*lev:Nat):Int)).toNat (IntKind.bits .u64)=5*lev:=by rw[aE];exact aZ (by show 5*lev≤64;omega)
 rw[f];obtain⟨n,rfl⟩:=Int.eq_ofNat_of_zero_le c.1;rw[aE]at b;simp only[Bd];rw[kq];have a:n>>>(5*lev)<18446744073709551616:=Nat.lt_of_le_of_lt (Nat.shiftRight_le _ _) (by omega);have e:=Rd (n>>>(5*lev)) 31;rw[Nat.mod_eq_of_lt a,show((31:Nat):Int)=(31:Int)from rfl,show 31%18446744073709551616=2^5-1 from rfl,Nat.and_two_pow_sub_one_eq_mod]at e
 rw[e];have hm:n>>>(5*lev)%2^5<32:=nQ _ (by omega);rw[Go.IntWalk.u64_in _ (by omega),nq (by omega)];exact⟨by omega,b⟩
theorem Ob{x:Hs}{k:ByteArray}{lev:Nat}(a:lev<13){h:ad}{K:Int→ad→Prop}(b:K (ck x lev k:Int) h):HC PG kB [.int .u64 (ko x k),.int .i64 lev] [.c (.int .i64)] K h:=Sc (Aa x k) a b
theorem GK{x:Hs}{lev c:Nat}{l:List Pr}(h:∀p∈l,ck x lev p.1=c):part x lev c l=l:=List.filter_eq_self.2 fun p a=>decide_eq_true (h p a)
theorem Kv{x:Hs}{lev c:Nat}{l:List Pr}(h:∀p∈l,ck x lev p.1≠c):part x lev c l= []:=List.filter_eq_nil_iff.2 fun p a=>by simpa using h p a
theorem BM{x:Hs}{lev c:Nat}{p:Pr}{l:List Pr}(a:cB l):part x lev c (gG p l)=if ck x lev p.1=c then gG p (part x lev c l)else part x lev c l:=by
 have:=B7 p (fun k=>decide (ck x lev k=c)) a
 unfold part;rw[this];by_cases h:ck x lev p.1=c
 ·rw[if_pos h,if_pos (decide_eq_true h)]
 ·rw[if_neg h,if_neg (by simpa using h)]
theorem Ki{p q:Pr}(h:p.1≠q.1):(gG q [p]).length=2:=by
 rw[fY];by_cases a:kl p.1 q.1
 ·rw[if_pos a];rfl
 ·rw[if_neg a,if_neg h];rfl
theorem KB{p q r:Pr}(h:r∈gG q [p]):r=p∨r=q:=(xC h).symm.imp (fun h=>aq.1 h) id
theorem fH{β:Type}{g:Nat→Option β}{i c:Nat}{x:Option β}(h:c≠i):upd g i x c=g c:=by unfold upd;rw[if_neg h]
end Go.Proofs
namespace Go.Proofs
open Go.Lift
noncomputable instance memDec (p:Pr) (l:List Pr):Decidable (p∈l):=Classical.propDecidable _
theorem Ij{l:List Pr}(b:cB l){k v w:ByteArray}(a:(k,v)∈l)(c:(k,w)∈l):v=w:=by
 induction l with
 |nil=>cases a
 |cons q l ih=>
  have b:=ba.1 b;rcases ar.1 a with e|a<;>rcases ar.1 c with d|c
  ·exact(Prod.mk.inj (e.trans d.symm)).2
  ·have:=b.1 _ c;rw[←e]at this;exact absurd this (cA _)
  ·have:=b.1 _ a;rw[←d]at this;exact absurd this (cA _)
  ·exact ih b.2 a c
theorem lK{x:Hs}{lev c:Nat}{l:List Pr}{p:Pr}:p∈part x lev c l↔p∈l∧ck x lev p.1=c:=by unfold part;rw[gA,decide_eq_true_iff]
theorem Bm{x:Hs}{lev:Nat}{l:List Pr}{k:ByteArray}:bW (part x lev (ck x lev k) l) k=bW l k:=by
 unfold bW;rw[l3,bV,bV];constructor
 ·rintro⟨p,a,e⟩;exact⟨p,(lK.1 a).1,e⟩
 ·rintro⟨p,a,e⟩;exact⟨p,lK.2 ⟨a,by rw[of_decide_eq_true e]⟩,e⟩
theorem pI{x:Hs}{lev c:Nat}{l:List Pr}(a:cB l):cB (part x lev c l):=a.sublist List.filter_sublist
theorem jA{x:Hs}{lev c:Nat}{l:List Pr}:(part x lev c l).length≤l.length:=List.length_filter_le ..
def SlotIs(W:Nat→Prop)(x:Hs)(h:ad)(m:Nat)(s:Slots)(c:Nat)(l:List Pr):Prop:=
 (l= []∧s.p c=none∧s.k c=none)∨(∃p,l= [p]∧s.p c=some p∧s.k c=none)∨(2≤l.length∧s.p c=none∧∃kb,s.k c=some (some ⟨kb,0,none⟩)∧TrieAt W x h m kb l)
theorem SlotIs.upd0{W:Nat→Prop}{x:Hs}{h a:ad}{m:Nat}{s:Slots}{c:Nat}{l:List Pr}(k:Upd No h a)(t:SlotIs W x h m s c l):SlotIs W x a m s c l:=t.imp id fun o=>o.imp id fun⟨b,g,d,f,e⟩=>⟨b,g,d,f,TrieAt.upd0 k e⟩
theorem GX(p:Pr):∀{l:List Pr},l.length≤(gG p l).length
 | []=>aV _
 |q::l=>by
  rw[fY];split
  ·have:=GX p (l:=l);simp only[aL];omega
  ·split<;>simp
theorem iU{a b:ByteArray}:(a.toList==b.toList)=decide (a=b):=by
 rw[l3,beq_iff_eq,decide_eq_true_iff,zm]
end Go.Proofs
namespace Go.Proofs
open Go.Lift
theorem MS{W:Nat→Prop}{x:Hs}{h:ad}{m b:Nat}(a:NodeAt W h b ⟨fun _=>none,fun _=>none⟩):TrieAt W x h (m+1) b []:=⟨_,a,fun _ _=>.inl ⟨rfl,rfl,rfl⟩⟩
def RootAt(W:Nat→Prop)(x:Hs)(h:ad)(r:Option Addr)(l:List Pr):Prop:=(r=none∧l= [])∨∃b,r=some ⟨b,0,none⟩∧TrieAt W x h 13 b l
theorem RootAt.upd0{W:Nat→Prop}{x:Hs}{h a:ad}{r:Option Addr}{l:List Pr}(k:Upd No h a)(t:RootAt W x h r l):RootAt W x a r l:=t.imp id fun⟨b,e,t⟩=>⟨b,e,TrieAt.upd0 k t⟩
theorem dT{h:ad}{b:Nat}{t:TypeId}{c vs:List Value}(a:h[b]? =some (.cells c.toArray t (0,0))) (d:vs.length=c.length) {k:ad→Prop}
  (f:∀h',h'[b]? =some (.cells vs.toArray t (0,0))→Upd (· =b) h h'→k h'):rK h (some ⟨b,0,none⟩) 0 vs∧At (gD h ⟨b,0,none⟩ 0 vs) k:=by
 have e:=ia vs h 0 0 c a (by omega);refine⟨.inr ⟨_,rfl,fun j g=>by rw[bF];exact gS a (by rw[cH];omega)⟩,bL ?_⟩
 rw[e];refine f _ ?_ (Upd.set h _ rfl);rw[jh a];congr 3
 simp[d]
end Go.Proofs
namespace Go.Proofs
open Go.Lift
abbrev mE(b:UInt8):List Value:= [.int .u8 (b.toNat:Int)]
theorem pU(b:UInt8):(mE b).length=1∧0<1:=⟨rfl,Nat.one_pos⟩
theorem xw:∀xs:List UInt8,bS (xs.flatMap mE)=true
 | []=>rfl
 |x::xs=>by rw[aU];exact kP rfl (xw xs)
theorem uw(s:ByteArray):cX s=s.data.toList.flatMap mE:=by
 unfold cX;generalize s.data.toList=l;induction l with
 |nil=>rfl
 |cons b l ih=>rw[List.map_cons,aU,ih];rfl
theorem rJ{M:Nat→Prop}{h:ad}{c:SliceV}{out:List UInt8}{v:Int}{b:UInt8}(hv:v=(b.toNat:Int)){K:SliceV→ad→Prop}(g:OwnS mE 1 bX M h c out)(hM:∀b,h.size≤b→M b)(j:out.length+1≤140737488355328)
  (f:∀s' a,OwnS mE 1 bX M a s' (out++ [b])→Upd M h a→K s' a):
  ∃xs,SRow (hnew h [.int .u8 v] bX) (some (aA h)) (1*1) xs∧AppP (some [.int .u8 0]) 1 1 bX c.a c.len c.cap 1 xs (hnew h [.int .u8 v] bX) K:=by
 subst hv;have k:=Upd.hnew No h [.int .u8 (b.toNat:Int)] bX;have e:OwnS mE 1 bX (fun _=>True) (hnew h [.int .u8 (b.toNat:Int)] bX) ⟨some (aA h),1,1⟩ [b]:=⟨rfl,pU,al _,.inr ⟨h.size,[],rfl,trivial,cJ ..,rfl⟩⟩
 refine⟨_,(e.sl (W:=No) fun _ _ _ h=>h).srow,?_⟩
 refine AppP.own (ys:= [b]) (g.upd k fun _ _ h=>h) rfl rfl rfl rfl (by omega) (by simp only[aO];omega) (hM _ (by rw[jM];omega)) fun s' a d i=>?_
 exact f s' a d ((Upd.hnew M h _ _).tr i)
def km(n k:Nat):List UInt8:=(List.range k).map fun i=>dH (n>>>(8*i))
theorem uQ(n k:Nat):km n (k+1)=km n k++ [dH (n>>>(8*k))]:=by unfold km;rw[fO,List.map_append];rfl
theorem cQ(n k:Nat):(km n k).length=k:=by simp[km]
theorem IJ{M:Nat→Prop}{h:ad}{s:SliceV}{xs:List UInt8}(q:OwnS mE 1 bX M h s xs)(hM:∀b,h.size≤b→M b){n k:Nat}(A:n<18446744073709551616)(y:k≤8)(C:xs.length+k≤140737488355328){K:SliceV→ad→Prop}
  (w:∀s' c,OwnS mE 1 bX M c s' (xs++km n k)→Upd M h c→K s' c):HC PG kz [.slice s.a s.len s.cap,.int .u64 n,.int .i64 k] [.c .slice] K h:=by
 refine Al s n k ?_;unfold uD;refine LoopP.ghost (fun(i:Nat) (t:SliceV×Int) c=>t.2=(i:Int)∧i≤k∧OwnS mE 1 bX M c t.1 (xs++km n i)∧Upd M h c) (fun i=>k-i) 0 ⟨rfl,aV _,by simpa[km]using q,Upd.refl _ _⟩ ?_
 rintro I i ⟨B,ti⟩ c ⟨o,hi,d,m⟩ v;simp only at o d;subst o;refine aH (fun a=>?_) fun j=>?_
 ·have a:i<k:=by have:(i:Int)<(k:Int):=a;omega
  have p:IntKind.wrap .i64 (8*(i:Int))=((8*i:Nat):Int):=by rw[nq (by omega)];omega
  have x:min (((8*i:Nat):Int)).toNat (IntKind.bits .u64)=8*i:=by rw[aE];exact aZ (by show 8*i≤64;omega)
  refine Join.plain ?_;simp only[Bd];rw[p,x,kq];refine⟨by omega,bL ?_⟩;refine rJ (b:=dH (n>>>(8*i))) ?_ d (fun b u=>hM b (aX m.size u)) (by rw[ae,cQ];omega) fun z D g f=>?_
  ·rw[IntKind.wrap_u8];simp
  ·rw[ci a (by omega)]
   refine v (i+1) _ _ ⟨rfl,a,?_,m.tr f⟩ (by omega);rw[uQ,←ao];exact g
 ·have e:i=k:=by have:¬(i:Int)<(k:Int):=j;omega
  subst e;exact w _ _ d m
end Go.Proofs
namespace Go.Proofs
open Go Go.Lift
theorem Hj{α:Type}{f:α→List Value}{j a:Nat}{t:TypeId}{W:Nat→Prop}{h:ad}{d:Option Addr}{sl q n:Nat}{xs ys:List α}{e z:List Value}{K:SliceV→ad→Prop}
  (m:Sl f j W h ⟨d,sl,q⟩ xs)(p:n=ys.length)(k:e=ys.flatMap f)(hz:z.length=j)(v:0<a)(g:q<sl+n)(i:(xs.length+ys.length)*a≤140737488355328)
  (s:∀s' h',OwnS f j t (fun b=>h.size≤b) h' s' (xs++ys)→Upd No h h'→K s' h'):AppP (some z) j a t d sl q n e h K:=by
 have c:sl=xs.length:=m.len;subst p k;refine⟨fun w=>by omega,fun _=>?_⟩
 refine⟨xs.flatMap f,z,m.srow,rfl,v,Go.growslice_fits g (by rw[c];exact i),fun u o=>?_⟩
 refine s _ _ ⟨by simp[c],m.ne,o,.inr ⟨h.size,df (u-(sl+ys.length)) z,rfl,al _,?_,?_⟩⟩ (Upd.hnew No h _ _)
 ·rw[cJ,bj]
 ·rw[j3,hz]
theorem Px{h:ad}{s:SliceV}{xs:List UInt8}(x:Sl mE 1 No h s xs)(hc:s.cap=s.len){n k:Nat}(D:k≤8)(z:0<k)(G:xs.length+k≤140737488355328){K:SliceV→ad→Prop}
  (B:∀s' d,OwnS mE 1 bX (fun b=>h.size≤b) d s' (xs++km n k)→Upd No h d→K s' d):HC PG kz [.slice s.a s.len s.cap,.int .u64 n,.int .i64 k] [.c .slice] K h:=by
 refine Al s n k ?_;unfold uD;refine LoopP.ghost (fun(i:Nat) (t:SliceV×Int) d=>t.2=(i:Int)∧i≤k∧((i=0∧t.1=s∧d=h)∨OwnS mE 1 bX (fun b=>h.size≤b) d t.1 (xs++km n i))∧Upd No h d) (fun i=>k-i) 0 ⟨rfl,aV _,.inl ⟨rfl,rfl,rfl⟩,Upd.refl _ _⟩ ?_
 rintro I i ⟨F,ti⟩ d ⟨q,hi,a,p⟩ v;simp only at q a;subst q;refine aH (fun c=>?_) fun o=>?_
 ·have c:i<k:=by have:(i:Int)<(k:Int):=c;omega
  have w:IntKind.wrap .i64 (8*(i:Int))=((8*i:Nat):Int):=by rw[nq (by omega)];omega
  have C:min (((8*i:Nat):Int)).toNat (IntKind.bits .u64)=8*i:=by rw[aE];exact aZ (by show 8*i≤64;omega)
  refine Join.plain ?_;simp only[Bd];rw[w,C,kq];refine⟨by omega,bL ?_⟩;have u:IntKind.wrap .u8 ((n>>>(8*i):Nat):Int)=((dH (n>>>(8*i))).toNat:Int):=by rw[IntKind.wrap_u8];simp
  rcases a with⟨rfl,rfl,rfl⟩|a
  ·rw[u]
   have k1:=Upd.hnew No d [.int .u8 ((dH (n>>>(8*0))).toNat:Int)] bX;have A:OwnS mE 1 bX (fun _=>True) (hnew d [.int .u8 ((dH (n>>>(8*0))).toNat:Int)] bX) ⟨some (aA d),1,1⟩ [dH (n>>>(8*0))]:=⟨rfl,pU,al _,.inr ⟨d.size,[],rfl,trivial,cJ ..,rfl⟩⟩
   refine⟨_,(A.sl (W:=No) fun _ _ _ h=>h).srow,?_⟩
   refine Hj (ys:= [dH (n>>>(8*0))]) (x.upd k1 fun _ h=>h.elim) rfl rfl rfl (by omega) (by omega) (by simp only[aO];omega) fun y E g f=>?_
   rw[ci c (by omega)];refine v 1 _ _ ⟨rfl,c,.inr ?_,k1.tr f⟩ (by omega);exact g.more fun b j=>aX k1.size j
  ·refine rJ u a (fun b j=>aX p.size j) (by rw[ae,cQ];omega) fun y E g f=>?_
   rw[ci c (by omega)];refine v (i+1) _ _ ⟨rfl,c,.inr ?_,p.trans f fun b j=>.inr j⟩ (by omega)
   rw[uQ,←ao];exact g
 ·have m:i=k:=by have:¬(i:Int)<(k:Int):=o;omega
  subst m;rcases a with⟨e,_⟩|a
  ·omega
  ·exact B _ _ a p
def lH(s:ByteArray):List UInt8:=km s.size 2++s.data.toList
theorem AO{W:Nat→Prop}{h:ad}{s:SliceV}{xs:List UInt8}(j:Sl mE 1 W h s xs)(hc:s.len≤s.cap)(b:ByteArray)(u:b.size≤1000000)(v:xs.length+2+b.size≤140737488355328){K:SliceV→ad→Prop}
  (o:∀s' h',OwnS mE 1 bX (fun x=>h.size≤x) h' s' (xs++lH b)→Upd No h h'→K s' h'):HC PG kR [.slice s.a s.len s.cap,.string b] [.c .slice] K h:=by
 refine FK s b ?_;unfold yq;have i:=j.len;refine⟨by omega,by omega,?_⟩
 simp only[aE];have f:Sl mE 1 No h ⟨aW s.a 0 s.len 1,s.len-0,s.len-0⟩ xs:=by
  have:=Sl.sub (j.less (W':=No) fun _ h=>h.elim) (l:=0) (hi:=s.len) (m:=s.len) (c:=s.len-0) (aV _) (by omega) (al _)
  rw[List.drop_zero,bp (by omega)]at this;exact this
 have ew:IntKind.wrap .u64 (b.size:Int)=(b.size:Int):=Go.IntWalk.u64_in _ (by omega);rw[ew];refine Px f rfl (n:=b.size) (k:=2) (by omega) (by omega) (by omega) fun t w e a=>?_
 refine AppP.own (ys:=b.data.toList) e (by simp) (uw b) (by rw[uw];exact xw _) rfl (by omega) ?_ a.size fun q p g d=>?_
 ·simp only[ae,cQ]
  have:b.data.toList.length=b.size:=by simp
  omega
 ·refine o q p ?_ (a.trans d fun x hx=>.inr hx)
  rw[lH,←ao];exact g
end Go.Proofs
namespace Go.Proofs
open Go Go.Lift
def zX(p:Pr):List UInt8:=lH p.1++lH p.2
def iM(l:List Pr):List UInt8:=l.flatMap zX
theorem gN(b:ByteArray):(lH b).length=2+b.size:=by simp[lH,cQ]
def Fit(l:List Pr):Prop:=∀p∈l,p.1.size≤10000∧p.2.size≤10000
theorem LN{p:Pr}(h:p.1.size≤10000∧p.2.size≤10000):(zX p).length≤20004:=by
 unfold zX;rw[ae,gN,gN];omega
theorem kg:∀{l:List Pr},Fit l→(iM l).length≤l.length*20004
 | [],_=>by simp[iM]
 |p::l,h=>by
  have c:=LN (h p (au ..));have b:=kg (l:=l) fun q a=>h q (aM _ a)
  unfold iM at*;rw[aU,ae,aL];omega
theorem zW{l:List Pr}{i:Nat}(hi:i<l.length):iM (l.take (i+1))=iM (l.take i)++zX l[i]:=by
 unfold iM;rw[List.take_succ_eq_append_getElem hi,bj,aU,List.flatMap_nil,bJ]
theorem Bw{M W:Nat→Prop}{h:ad}{s sp:SliceV}{xs:List UInt8}{l:List Pr}(J:OwnS mE 1 bX M h s xs)(hM:∀b,h.size≤b→M b)(D:Sl gC 2 W h sp l)(L:∀x,M x→x<h.size→W x)(G:Fit l)(U:l.length≤1000000)(Y:xs.length+l.length*20004≤140737488355328){K:SliceV→ad→Prop}
  (P:∀s' d,OwnS mE 1 bX M d s' (xs++iM l)→Upd M h d→K s' d):HC PG oa [.slice s.a s.len s.cap,.slice sp.a sp.len sp.cap] [.c .slice] K h:=by
 refine Dc s sp ?_;unfold vK dz az nv mC jO yO bI;have E:=D.len;have A:∀b,M b→W b∨h.size≤b:=fun b o=>by
  rcases bD b h.size with hx|hx
  ·exact .inl (L b o hx)
  ·exact .inr hx
 refine LoopP.ghost (fun(i:Nat) (t:SliceV×Int) d=>t.2=(i:Int)∧i≤l.length∧OwnS mE 1 bX M d t.1 (xs++iM (l.take i))∧Upd M h d) (fun i=>l.length-i) 0 ⟨rfl,aV _,by simpa[iM]using J,Upd.refl _ _⟩ ?_
 rintro I i ⟨V,ti⟩ d ⟨C,hi,f,n⟩ O;simp only at C f;subst C;refine aH (fun c=>?_) fun w=>?_
 ·have c:i<l.length:=by have:(i:Int)<(sp.len:Int):=c;omega
  obtain⟨a,S,_,hv⟩:=(D.upd n A).at (ag c);have N:=G l[i] (aP c);have y:=kg (l:=l.take i) fun q Q=>G q (List.mem_of_mem_take Q)
  rw[aG,aZ hi]at y;have k1:=Upd.hnew No d [.string (⟨#[]⟩:ByteArray),.string (⟨#[]⟩:ByteArray)] ay;have b1:=cJ d [.string (⟨#[]⟩:ByteArray),.string (⟨#[]⟩:ByteArray)] ay;refine⟨by simp only;omega,a,S,l[i].1,hv 0 _ rfl,l[i].2,hv 1 _ rfl,bL ?_⟩;simp only[fy d];generalize hnew d [.string (⟨#[]⟩:ByteArray),.string (⟨#[]⟩:ByteArray)] ay=h1 at k1 b1
  have B:h1[d.size]? =some (.cells #[.string HT.1,.string HT.2] ay (0,0)):=b1;refine zV (p:=l[i]) B fun T b2 u=>?_
  have e:Upd No d T:=k1.trans u fun x hx=>.inr (gJ hx.symm)
  have j:=f.upd e fun _ _ h=>h
  refine⟨l[i].1,by rw[bF,aY b2];rfl,l[i].2,by rw[bF,aY b2];rfl,?_⟩
  have F:i*20004+20004≤l.length*20004:=by rw[←Nat.succ_mul];exact Nat.mul_le_mul_right _ c
  refine AO (W:=No) (j.sl fun _ _ _ h=>h) j.cap l[i].1 (by omega) (by rw[ae];omega) fun X Z m g=>⟨by rw[bF,aY (g.get0 b2)];rfl,?_⟩
  refine AO (W:=No) (m.sl fun _ _ _ h=>h) m.cap l[i].2 (by omega) (by rw[ae,ae,gN];omega) fun s4 R z v=>?_
  have k:Upd M h R:=n.tr ((e.tr (g.tr v)).wide);rw[ci c (by omega)];refine O (i+1) _ _ ⟨rfl,c,?_,k⟩ (by omega);rw[zW c,zX,←ao,←ao];exact z.more fun b o=>hM b (aX (n.tr ((e.tr g).wide)).size o)
 ·have H:i=l.length:=by have:¬(i:Int)<(sp.len:Int):=w;omega
  rw[bp (by omega)]at f;exact P _ _ f n
end Go.Proofs
namespace Go.Proofs
open Go Go.Lift
def gY(q:Nat→Bool):Nat→Nat
 |0=>0
 |n+1=>gY q n+(if q n then 2^n else 0)
theorem kC(q:Nat→Bool):∀n,gY q n<2^n
 |0=>by simp[gY]
 |n+1=>by
  have:=kC q n;unfold gY;rw[lj];split<;>omega
theorem zo(q:Nat→Bool)(c:Nat):∀n,(gY q n).testBit c=(decide (c<n)&&q c)
 |0=>by simp[gY]
 |n+1=>by
  have b:=kC q n;have d:=zo q c n;unfold gY;by_cases a:q n=true
  ·rw[if_pos a,Nat.add_comm]
   rcases Nat.lt_trichotomy c n with h|h|h
   ·rw[Nat.testBit_two_pow_add_gt h,d,decide_eq_true h,decide_eq_true (by omega)]
   ·subst h
    rw[Nat.testBit_two_pow_add_eq,fC b,decide_eq_true (by omega),a];rfl
   ·have f:2^n+gY q n<2^c:=cg (by rw[lj];omega:2^n+gY q n<2^(n+1)) (d9 (by omega) h)
    rw[fC f,decide_eq_false (by omega)];rfl
  ·rw[if_neg a,cN,d]
   by_cases h:c<n
   ·rw[decide_eq_true h,decide_eq_true (by omega)]
   ·by_cases e:c=n
    ·subst e;have:q c=false:=by simpa using a
     rw[this];simp
    ·rw[decide_eq_false h,decide_eq_false (by omega)]
theorem Er{d:Nat}{q:Nat→Bool}(hd:d<4294967296)(h:∀c,c<32→d.testBit c=q c):d=gY q 32:=by
 refine Nat.eq_of_testBit_eq fun c=>?_
 rw[zo];by_cases hc:c<32
 ·rw[h c hc,decide_eq_true hc];rfl
 ·rw[decide_eq_false hc,fC (cg hd (d9 (n:=2) (by omega) (show 32≤c by omega)))];rfl
end Go.Proofs
namespace Go.Proofs
open Go Go.Lift
def fX(l:List Pr):Option Pr:=match l with| [p]=>some p|_=>none
def dN(l:List Pr):Option (List Pr):=if 2≤l.length then some l else none
def fi(x:Hs)(lev:Nat)(l:List Pr):List Pr:=fm (fun c=>fX (part x lev c l)) 32
def iC(x:Hs)(lev:Nat)(l:List Pr):List (List Pr):=fm (fun c=>dN (part x lev c l)) 32
def eB(x:Hs):Nat→List Pr→List UInt8
 |0,l=>1::(km l.length 2++iM l)
 |m+1,l=>0::(km (gY (fun c=>(fX (part x (12-m) c l)).isSome) 32) 4++(km (gY (fun c=>(dN (part x (12-m) c l)).isSome) 32) 4++(iM (fi x (12-m) l)++(iC x (12-m) l).flatMap (eB x m))))
theorem Bu{W:Nat→Prop}{x:Hs}{h:ad}{m:Nat}{s:Slots}{c:Nat}{l:List Pr}(t:SlotIs W x h m s c l):s.p c=fX l∧(s.k c).isSome=(dN l).isSome:=by
 rcases t with⟨rfl,e,d⟩|⟨p,rfl,e,d⟩|⟨f,e,g,d,_⟩
 ·rw[e,d];exact⟨rfl,rfl⟩
 ·rw[e,d];exact⟨rfl,rfl⟩
 ·rw[e,d]
  refine⟨?_,by simp[dN,f]⟩
  match l,f with
  |a::b::l,_=>rfl
def KidsAt(W:Nat→Prop)(x:Hs)(h:ad)(m:Nat):List (Option Addr)→List (List Pr)→Prop
 | [],[]=>True
 |k::ks,l::ls=>(∃kb,k=some ⟨kb,0,none⟩∧TrieAt W x h m kb l)∧KidsAt W x h m ks ls
 |_,_=>False
theorem KidsAt.app{W:Nat→Prop}{x:Hs}{h:ad}{m:Nat}:∀{ks ks':List (Option Addr)} {ls ls':List (List Pr)},KidsAt W x h m ks ls→KidsAt W x h m ks' ls'→KidsAt W x h m (ks++ks') (ls++ls')
 | [],_,[],_,_,q=>q
 |_::_,_,_::_,_,q,q'=>⟨q.1,KidsAt.app q.2 q'⟩
 | [],_,_::_,_,q,_=>q.elim
 |_::_,_,[],_,q,_=>q.elim
theorem fz{β:Type}(g:Nat→Option β)(n:Nat):fm g (n+1)=fm g n++(g n).toList:=by
 unfold fm;rw[fO,List.filterMap_append];cases h:g n<;>simp[h]
theorem IR{W:Nat→Prop}{x:Hs}{h:ad}{m lev:Nat}{s:Slots}{l:List Pr}:∀n,(∀c,c<n→SlotIs W x h m s c (part x lev c l))→KidsAt W x h m (fm s.k n) (fm (fun c=>dN (part x lev c l)) n)
 |0,_=>trivial
 |n+1,hs=>by
  rw[fz,fz];refine KidsAt.app (IR n fun c hc=>hs c (by omega)) ?_
  rcases hs n (by omega)with⟨b,_,a⟩|⟨p,b,_,a⟩|⟨b,_,e,a,d⟩
  ·rw[a,b];exact trivial
  ·rw[a,b];exact trivial
  ·rw[a]
   have:dN (part x lev n l)=some (part x lev n l):=by unfold dN;rw[if_pos b]
   simp only[this];exact⟨⟨e,rfl,d⟩,trivial⟩
theorem AQ{W:Nat→Prop}{x:Hs}{h:ad}{m lev:Nat}{s:Slots}{l:List Pr}(a:∀c,c<32→SlotIs W x h m s c (part x lev c l)):fm s.p 32=fi x lev l:=
 RY _ fun c hc=>(Bu (a c (List.mem_range.1 hc))).1
end Go.Proofs
