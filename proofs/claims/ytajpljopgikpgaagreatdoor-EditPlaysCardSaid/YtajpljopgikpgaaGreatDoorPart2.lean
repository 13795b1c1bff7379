/- A part of the proof that the named laws of this program answer true, whatever the input. -/
import Derived.Test.YtajpljopgikpgaaGreatDoorPart1
open BitVec renaming ofInt→aw
open Bool renaming eq_iff_iff→pf
open Int renaming toNat_natCast→aX
open List renaming length_take→aP,flatMap_cons→ba,flatMap_append→bN,length_append→ad,size_toArray→df,append_assoc→az,drop_left'→cR,getElem?_eq_getElem→ag,getElem_mem→aY,pairwise_cons→bA,mem_cons→aB,mem_cons_self→aC,mem_cons_of_mem→aV,filter_cons→cP,mem_filter→eP,append_eq_nil_iff→gX,mem_singleton→au,append_nil→bB,append_cancel_left→eW,length→eL,getElem_of_mem→bV,take_append_drop→aS,pairwise_append→cE,length_set→cQ,mem_of_getElem→oE,pairwise_iff_getElem→cJ,take_succ_cons→dH,length_cons→aH,drop_succ_cons→g6,any_eq_true→cL,length_singleton→aF,range_succ→ie,take_of_length_le→bJ
open Nat renaming zero_add→aU,min_eq_left→bP,add_zero→dd,le_of_eq→f6,le_refl→ao,mod_lt→nG,lt_or_ge→bO,zero_le→bj,le_trans→bv,pow_succ→oq,testBit_lt_two_pow→gU,lt_of_lt_of_le→bG,pow_le_pow_right→fM
open Option renaming isSome_iff_exists→eI,some→bQ
open UInt8 renaming toNat_inj→mw,ofNat→gF
namespace Go.Proofs
open Go.Lift
theorem wF{β:Type}{g:Nat→Option β}{i:Nat}(h:g i=none):upd g i none=g:=by
 funext j;unfold upd;split
 ·rename_i e;rw[e,h]
 ·rfl
theorem fh{h:af}{b:Nat}{c:Array Value}{t:TypeId}{i:Nat}(a:h[b]? =some (.cells c t (0,0))):aR h ⟨b,0+i,none⟩=c[i]?:=by rw[aU];exact bI a
theorem Xs{h:af}{b:Nat}{c:Array Value}{t:TypeId}{i:Nat}(a:h[b]? =some (.cells c t (0,0))) (hi:i<c.size):Wr h ⟨b,0+i,none⟩:=by rw[aU];exact jd a hi
theorem Jl{h:af}{b:Nat}{c c':Array Value}{t:TypeId}{i:Nat}{v:Value}{k:af→Prop}(f:h[b]? =some (.cells c t (0,0))) (e:c.setIfInBounds i v=c')
 (j:∀a,a[b]? =some (.cells c' t (0,0))→Upd (· =b) h a→k a):At (hset h ⟨b,i,none⟩ v) k:=xW f fun a d g=>j a (e▸d) g
theorem Mj{M:Nat→Prop}{h:af}{b d n:Nat}{sp sk:SliceV}{s:Slots}{ow:Option Addr}(o:OwnN M h b d n sp sk s ow){i:Nat}(hi:i<32){K:Unit→af→Prop}
  (hk:∀u E H sp' sk',OwnN M u b E H sp' sk' ⟨upd s.p i none,upd s.k i none⟩ ow→Upd M h u→K () u):HC PG kF [.pointer (some ⟨b,0,none⟩),.int .i64 i] [] K h:=by
 obtain⟨A,B,Y,Z,a,m⟩:=o.ex;have bits:=o.bits;refine Dn _ i ?_;unfold vF cz aK Nc iX pi;have ew:∀k:Nat,k≤100→IntKind.wrap .i64 ((k:Int)+1)=((k+1:Nat):Int):=fun k hk=>by rw[jj (by omega)];omega
 have hc1:=BJ i d;have hc2:=BJ i n;have N:∀x,A x→M x∨h.size≤x:=fun x hx=>.inl (a x hx).1
 refine Join.intro (fun _ u=>∃sp',u[b]? =some (.cells (gj d n sp' sk false ow) cj (0,0))∧OwnS fe 2 ay A u sp' (fm (upd s.p i none) 32)∧OwnS rG 1 bZ B u sk (fm s.k 32)∧Upd M h u) (fun R F=>?_) ?_
 ·refine⟨_,rfl,_,fh (i:=0) o.blk,Ej bits.d32 hi ?_⟩
  rw[bits.dp i hi];cases hp:s.p i with
  |none=>exact aj.2 (F _ _ ⟨sp,o.blk,by rw[wF hp];exact Y,Z,Upd.refl _ _⟩)
  |some y=>
   refine aA.2 ⟨_,rfl,_,fh (i:=0) o.blk,rE bits.d32 hi ⟨_,rfl,sp,fh (i:=2) o.blk,?_⟩⟩;rw[ew _ (by omega)];refine QG Y (KU hi bits.dp hp) (by have:=yi (g:=s.p);omega) fun s2 W v f=>?_
   rw[←V6 hi bits.dp hp]at v;have b2:=f.get o.blk fun T=>(a b T).2.2.1 rfl
   refine⟨_,rfl,Xs (i:=2) b2 (show 2<6 by decide),Jl (i:=2) (c':=gj d n s2 sk false ow) b2 rfl fun X b3 j=>?_⟩
   refine F _ _ ⟨s2,b3,v.upd j fun x hx e=>(a x hx).2.2.1 e,(Z.upd f fun x hx Q=>(a x Q).2.1 hx).upd j fun x hx e=>(m x hx).2.1 e,(f.mono N).tr (j.mono fun x e=>.inl (e▸o.mb))⟩
 rintro _ h1 ⟨q,b1,C,D,G⟩;refine Join.intro (fun _ u=>∃sk',u[b]? =some (.cells (gj d n q sk' false ow) cj (0,0))∧OwnS fe 2 ay A u q (fm (upd s.p i none) 32)∧OwnS rG 1 bZ B u sk' (fm (upd s.k i none) 32)∧Upd M h1 u) (fun R F=>?_) ?_
 ·refine⟨_,rfl,_,fh (i:=1) b1,Ej bits.n32 hi ?_⟩
  rw[bits.nk i hi];cases hp:s.k i with
  |none=>exact aj.2 (F _ _ ⟨sk,b1,C,by rw[wF hp];exact D,Upd.refl _ _⟩)
  |some y=>
   refine aA.2 ⟨_,rfl,_,fh (i:=1) b1,rE bits.n32 hi ⟨_,rfl,sk,fh (i:=3) b1,?_⟩⟩;rw[ew _ (by omega)];refine QH D (KU hi bits.nk hp) (by have:=yi (g:=s.k);omega) fun s2 W v f=>?_
   rw[←V6 hi bits.nk hp]at v;have b2:=f.get b1 fun T=>(m b T).2.1 rfl
   refine⟨_,rfl,Xs (i:=3) b2 (show 3<6 by decide),Jl (i:=3) (c':=gj d n q s2 false ow) b2 rfl fun X b3 j=>?_⟩
   refine F _ _ ⟨s2,b3,(C.upd f fun x hx Q=>(a x hx).2.1 Q).upd j fun x hx e=>(a x hx).2.2.1 e,v.upd j fun x hx e=>(m x hx).2.1 e,(f.mono fun x hx=>.inl (m x hx).1).tr (j.mono fun x e=>.inl (e▸o.mb))⟩
 rintro _ W ⟨w,b2,O,L,f⟩;refine⟨_,rfl,_,fh (i:=0) b2,_,rfl,_,fh (i:=1) b2,?_⟩;refine GE bits.d32 hi fun E V I=>⟨fh (i:=1) b2,?_⟩
 refine GE bits.n32 hi fun H S P=>?_
 refine⟨_,rfl,Xs (i:=0) b2 (show 0<6 by decide),Jl (i:=0) (c':=gj E n q w false ow) b2 rfl fun X b3 j=>?_⟩
 refine⟨_,rfl,Xs (i:=1) b3 (show 1<6 by decide),Jl (i:=1) (c':=gj E H q w false ow) b3 rfl fun h4 b4 J=>?_⟩
 have p:=j.tr J;have z:=(G.tr (f.tr (p.mono (M':=M) fun x e=>.inl (e▸o.mb)))).size
 refine hk h4 E H q w ⟨b4,⟨V,S,fun c hc=>?_,fun c hc=>?_⟩,⟨A,B,O.upd p fun x hx e=>(a x hx).2.2.1 e,L.upd p fun x hx e=>(m x hx).2.1 e,fun x hx=>⟨(a x hx).1,(a x hx).2.1,(a x hx).2.2.1,by have:=(a x hx).2.2.2;omega⟩,fun x hx=>⟨(m x hx).1,(m x hx).2.1,by have:=(m x hx).2.2;omega⟩⟩,o.mb⟩ (G.tr (f.tr (p.mono fun x e=>.inl (e▸o.mb))))
 ·rw[I,bits.dp c hc];simp only[upd];split<;>simp[*]
 ·rw[P,bits.nk c hc];simp only[upd];split<;>simp[*]
end Go.Proofs
namespace Go.Proofs
open Go.Lift
theorem OwnS.setAt{α:Type}{f:α→List Value}{sz:Nat}{t:TypeId}{M:Nat→Prop}{h:af}{s:SliceV}{xs:List α}(m:OwnS f sz t M h s xs){k:Nat}(n:k<xs.length)(x:α):
  ∃a,s.a=some a∧M a.block∧vo h (some (adr a (k*sz))) 0 (f x)∧OwnS f sz t M (g8 h (adr a (k*sz)) 0 (f x)) s (xs.take k++x::xs.drop (k+1))∧Upd (· =a.block) h (g8 h (adr a (k*sz)) 0 (f x)):=by
 have i:∀x,(f x).length=sz∧0<sz:=m.ne;have q:=m.len;have g:=m.cap;rcases m.blk with F|⟨b,d,v,u,hc,y⟩
 ·omega
 have o:((xs.take k).flatMap f).length=k*sz:=by rw[l0 i,aP,bP (by omega)]
 have z:xs.flatMap f=(xs.take k).flatMap f++(f xs[k]++(xs.drop (k+1)).flatMap f):=by
  rw[←ba,←List.drop_eq_getElem_cons n];exact BH xs k
 rw[z]at hc;have C:=(i xs[k]).1;have E:=(i x).1;have c:(xs.take k++x::xs.drop (k+1)).flatMap f=(xs.take k).flatMap f++(f x++(xs.drop (k+1)).flatMap f):=by rw[bN,ba]
 generalize (xs.take k).flatMap f=A at o hc c;generalize (xs.drop (k+1)).flatMap f=B at hc c;generalize f xs[k]=X at C hc;have w:k*sz+0+(f x).length≤(A++(X++B)++d).length:=by simp only[ad];omega
 have p:adr ⟨b,0,none⟩ (k*sz)=⟨b,k*sz,none⟩:=by rw[cd,aU]
 refine⟨⟨b,0,none⟩,v,u,?_,?_,?_⟩
 ·rw[p]
  refine .inr ⟨_,rfl,fun j D=>?_⟩
  rw[cd];exact jd hc (by rw[df];omega)
 ·rw[p,jH (f x) h 0 (k*sz) _ hc w]
  refine⟨by simp;omega,i,g,.inr ⟨b,d,v,u,?_,?_⟩⟩
  ·rw[jw hc,c]
   congr 3
   rw[dd,az A,List.take_left' o,←List.drop_drop,cR o,az X,cR (by omega)];simp only[az]
  ·exact y
 ·rw[p,jH (f x) h 0 (k*sz) _ hc w]
  exact Upd.set h _ rfl
theorem OwnN.node{M W:Nat→Prop}{h:af}{b d n:Nat}{sp sk:SliceV}{s:Slots}{ow:Option Addr}(o:OwnN M h b d n sp sk s ow)(c:∀x,M x→¬W x)(a:OwOk W h ow:=by exact mA):NodeAt W h b s:=by
 obtain⟨A,B,g,f,j,i⟩:=o.ex;exact⟨⟨d,n,sp,sk,ow,o.blk,o.bits,g.sl fun x hx _=>c _ (j x hx).1,f.sl fun x hx _=>c _ (i x hx).1,g.cap,f.cap,a⟩,c _ o.mb⟩
theorem HH{W:Nat→Prop}{h:af}{b:Nat}{s:Slots}(c:NodeAt W h b s){i:Nat}(hi:i<32){K:Bool→af→Prop}(a:K true h):HC PG kG [.pointer (some ⟨b,0,none⟩),.int .i64 i] [.c .bool] K h:=by
 obtain⟨d,n,sp,sk,ow,f,_⟩:=c.ex;refine Dp _ i ?_;unfold vG dZ;refine aA.2 ⟨_,rfl,_,fh (i:=4) f,aA.2 ?_⟩;refine aM (fun _=>?_) fun h=>absurd (Int.natCast_nonneg i) h
 rw[decide_eq_true (by omega)];exact a
theorem RG{β:Type}{g:Nat→Option β}{i:Nat}{x y:Option β}:upd (upd g i x) i y=upd g i y:=by
 funext j;unfold upd;split<;>rfl
theorem ik{β:Type}{g:Nat→Option β}{i:Nat}{x:Option β}:upd g i x i=x:=by simp[upd]
end Go.Proofs
namespace Go.Proofs
open Go.Lift
end Go.Proofs
namespace Go.Proofs
open Go.Lift
theorem Ml{h:af}{b d n:Nat}{sp sk:SliceV}{f:Bool}{ow:Option Addr}(c:h[b]? =some (.cells (gj d n sp sk f ow) cj (0,0))) {K:Int→af→Prop} (a:K (d:Int) h):HC PG lq [.pointer (some ⟨b,0,none⟩)] [.c (.int .u32)] K h:=by
 refine EN _ ?_;unfold xh iX;exact aj.2 ⟨_,rfl,_,fh (i:=0) c,a⟩
theorem CG{h:af}{b d n:Nat}{sp sk:SliceV}{f:Bool}{ow:Option Addr}(c:h[b]? =some (.cells (gj d n sp sk f ow) cj (0,0))) {K:Int→af→Prop} (a:K (n:Int) h):HC PG gS [.pointer (some ⟨b,0,none⟩)] [.c (.int .u32)] K h:=by
 refine Dr _ ?_;unfold vI iX;exact aj.2 ⟨_,rfl,_,fh (i:=1) c,a⟩
theorem g7{h:af}{b d n:Nat}{sp sk:SliceV}{a:Bool}{ow:Option Addr}(f:h[b]? =some (.cells (gj d n sp sk a ow) cj (0,0))) {K:Bool→af→Prop} (c:K a h):HC PG eA [.pointer (some ⟨b,0,none⟩)] [.c .bool] K h:=by
 refine zy _ ?_;unfold sr dZ;exact aA.2 ⟨_,rfl,_,fh (i:=4) f,c⟩
def Ek(o:Option Pr):Pr:=o.getD (⟨#[]⟩,⟨#[]⟩)
theorem Fb{h:af}{b:Nat}{q p:Pr}(a:h[b]? =some (.cells #[.string q.1,.string q.2] ay (0,0))) {k:af→Prop}
  (c:∀h',h'[b]? =some (.cells #[.string p.1,.string p.2] ay (0,0))→Upd (· =b) h h'→k h'):vo h (some ⟨b,0,none⟩) 0 [.string p.1,.string p.2]∧At (g8 h ⟨b,0,none⟩ 0 [.string p.1,.string p.2]) k:=by
 have e:=jH [.string p.1,.string p.2] h 0 0 [.string q.1,.string q.2] a (by simp);refine⟨.inr ⟨_,rfl,fun j d=>by rw[cd];exact jd a (by simp at d⊢;omega)⟩,ce ?_⟩
 rw[e];refine c _ ?_ (Upd.set h _ rfl);rw[jw a];rfl
theorem CI{W:Nat→Prop}{h:af}{b:Nat}{s:Slots}(q:NodeAt W h b s){i:Nat}(hi:i<32){K:Pr×Bool→af→Prop}(m:∀h',Upd No h h'→K (Ek (s.p i),(s.p i).isSome) h'):
  HC PG jJ [.pointer (some ⟨b,0,none⟩),.int .i64 i] [.agg [.str,.str],.c .bool] K h:=by
 refine EL _ i ?_;unfold xf cS bo aD eX jm aK lf iX pi;obtain⟨d,n,sp,sk,ow,v,bits,k,C,A,z⟩:=q.ex;have k1:=Upd.hnew No h [.string (⟨#[]⟩:ByteArray),.string (⟨#[]⟩:ByteArray)] ay;have b1:=dq h [.string (⟨#[]⟩:ByteArray),.string (⟨#[]⟩:ByteArray)] ay;refine ce ?_;simp only[fX h];generalize hnew h [.string (⟨#[]⟩:ByteArray),.string (⟨#[]⟩:ByteArray)] ay=h1 at k1 b1
 have c:=k1.get0 v;have j:h1[h.size]? =some (.cells #[.string Ln.1,.string Ln.2] ay (0,0)):=b1;refine Ml c (Ej bits.d32 hi ?_);rw[bits.dp i hi];cases hp:s.p i with
 |none=>
  rw[hp]at m;refine aA.2 (Fb (p:=Ln) j fun B b2 f=>⟨_,by rw[cd,bI b2];rfl,_,by rw[cd,bI b2];rfl,m _ (k1.trans f fun x hx=>.inr (f6 hx.symm))⟩)
 |some y=>
  rw[hp]at m;refine aj.2 ⟨_,rfl,sp,fh (i:=2) c,_,rfl,_,fh (i:=0) c,rE bits.d32 hi ⟨fh (i:=2) c,?_⟩⟩;have u:=KU hi bits.dp hp;have g:=k.upd k1 fun _ h=>h.elim
  obtain⟨a,w,_,hv⟩:=g.at (V7 hi bits.dp hp);have o:=k.len;refine⟨by omega,a,w,y.1,hv 0 _ rfl,y.2,hv 1 _ rfl,?_⟩;refine Fb (p:=y) j fun B b2 f=>⟨_,by rw[cd,bI b2];rfl,_,by rw[cd,bI b2];rfl,m _ (k1.trans f fun x hx=>.inr (f6 hx.symm))⟩
theorem CJ{W:Nat→Prop}{h:af}{b:Nat}{s:Slots}(k:NodeAt W h b s){i:Nat}(hi:i<32){K:Option Addr×Bool→af→Prop}(g:K ((s.k i).getD none,(s.k i).isSome) h):
  HC PG jg [.pointer (some ⟨b,0,none⟩),.int .i64 i] [.c .ptr,.c .bool] K h:=by
 refine F8 _ i ?_;unfold yz bH cS aK iX pi;obtain⟨d,n,sp,sk,ow,f,bits,u,c,q,p⟩:=k.ex;refine CG f (Ej bits.n32 hi ?_);rw[bits.nk i hi];cases hp:s.k i with
 |none=>rw[hp]at g;exact aA.2 g
 |some y=>
  rw[hp]at g;refine aj.2 ⟨_,rfl,sk,fh (i:=3) f,_,rfl,_,fh (i:=1) f,rE bits.n32 hi ⟨fh (i:=3) f,?_⟩⟩;have m:=KU hi bits.nk hp;obtain⟨a,o,_,hv⟩:=c.at (V7 hi bits.nk hp);have j:=c.len;exact⟨by omega,a,o,y,hv 0 _ rfl,g⟩
theorem qd{W:Nat→Prop}{h:af}{b d n:Nat}{sp sk:SliceV}{g:Bool}{ow:Option Addr}{l:List Pr}(a:h[b]? =some (.cells (gj d n sp sk g ow) cj (0,0))) (f:Sl fe 2 W h sp l) (j:l.length≤1000000000) {K:SliceV→af→Prop}
  (c:∀s' h',OwnS fe 2 ay (fun x=>h.size≤x) h' s' l→Upd No h h'→K s' h'):HC PG fB [.pointer (some ⟨b,0,none⟩)] [.c .slice] K h:=by
 refine vq _ ?_;unfold qx aK;exact aj.2 ⟨_,rfl,sp,fh (i:=2) a,Ah f (by omega) c⟩
theorem Gs{W:Nat→Prop}{h:af}{b d n:Nat}{sp sk:SliceV}{g:Bool}{ow:Option Addr}{l:List (Option Addr)}(a:h[b]? =some (.cells (gj d n sp sk g ow) cj (0,0))) (f:Sl rG 1 W h sk l) (j:l.length≤1000000000) {K:SliceV→af→Prop}
  (c:∀s' h',OwnS rG 1 bZ (fun x=>h.size≤x) h' s' l→Upd No h h'→K s' h'):HC PG ll [.pointer (some ⟨b,0,none⟩)] [.c .slice] K h:=by
 refine wS _ ?_;unfold rk aK;exact aj.2 ⟨_,rfl,sk,fh (i:=3) a,K6 f (by omega) c⟩
structure BuckAt(W:Nat→Prop)(h:af)(b:Nat)(l:List Pr):Prop where
 ex:∃sp sk ow,h[b]? =some (.cells (gj 0 0 sp sk true ow) cj (0,0))∧Sl fe 2 W h sp l∧Sl rG 1 W h sk []∧sp.len≤sp.cap∧sk.len≤sk.cap∧OwOk W h ow
 nw:¬W b
theorem BuckAt.upd{W M:Nat→Prop}{h c:af}{b:Nat}{l:List Pr}(n:BuckAt W h b l)(k:Upd M h c)(hm:∀b,M b→W b∨h.size≤b):BuckAt W c b l:=by
 obtain⟨sp,sk,ow,a,m,i,j,g,f⟩:=n.ex;exact⟨⟨sp,sk,ow,k.get a (fun d=>(hm _ d).elim n.nw fun h=>by have:=aL a;omega),m.upd k hm,i.upd k hm,j,g,f.upd k hm⟩,n.nw⟩
theorem VV{W:Nat→Prop}{h:af}{b:Nat}{l:List Pr}(A:BuckAt W h b l)(o:cA l)(p:l.length≤1000000000)(k:ByteArray){K:ByteArray×Bool→af→Prop}
  (i:∀h' v,Upd No h h'→(cI l k=true→(k,v)∈l)→(cI l k=false→v=⟨#[]⟩)→K (v,cI l k) h'):HC PG ri [.pointer (some ⟨b,0,none⟩),.string k] [.c .str,.c .bool] K h:=by
 refine Rm _ k ?_;unfold IU cS bo Cl;obtain⟨sp,sk,ow,s,j,w,q,y⟩:=A.ex;refine qd s j p fun s1 z m g=>?_
 have d:Sl fe 2 No z s1 l:=m.sl fun _ _ _ h=>h
 refine Mc d o p k fun B c=>?_
 cases ht:cI l k with
 |false=>rw[ht]at i;exact aA.2 (i _ _ (g.tr c) (fun h=>by cases h) fun _=>rfl)
 |true=>
  rw[ht]at i;obtain⟨f,e⟩:=LW o ht;obtain⟨a,u,_,hv⟩:=(d.upd c fun _ h=>h.elim).at (ag f)
  have n:=d.len;refine aj.2 ⟨by simp only;omega,a,u,_,hv 1 _ rfl,i _ _ (g.tr c) (fun _=>?_) fun h=>by cases h⟩
  have:(k,l[pp l k].2)=l[pp l k]:=Prod.ext e.symm rfl;rw[this];exact aY f
theorem YY{W:Nat→Prop}{h:af}{b:Nat}{l:List Pr}(j:BuckAt W h b l)(c:cA l)(d:l.length≤1000000000)(k:ByteArray){K:ByteArray×Bool→af→Prop}
 (f:∀a v,Upd No h a→(cI l k=true→(k,v)∈l)→K (v,cI l k) a):HC PG ri [.pointer (some ⟨b,0,none⟩),.string k] [.c .str,.c .bool] K h:=VV j c d k fun a v i g _=>f a v i g
end Go.Proofs
namespace Go.Proofs
open Go.Lift
theorem Ug{W:Nat→Prop}{h:af}(b:∀x,W x→x<h.size){K:Option Addr→af→Prop}(a:∀h' b',BuckAt W h' b' []→Upd No h h'→K (some ⟨b',0,none⟩) h'):HC PG wi [] [.c .ptr] K h:=by
 refine JE ?_;unfold A7;exact a _ _ ⟨⟨⟨none,0,0⟩,⟨none,0,0⟩,none,dq h _ _,Sl.nil jx,Sl.nil sG,ao _,ao _,mA⟩,fun hx=>Nat.lt_irrefl _ (b _ hx)⟩ (Upd.hnew No h _ _)
theorem tD{W:Nat→Prop}{h:af}(d:∀x,W x→x<h.size){K:Option Addr→af→Prop}(b:∀h' b',NodeAt W h' b' ⟨fun _=>none,fun _=>none⟩→Upd No h h'→K (some ⟨b',0,none⟩) h'):HC PG qm [] [.c .ptr] K h:=by
 refine MM ?_;unfold DL UN;have a:fm (fun _=>(none:Option Pr)) 32= []:=by simp[fm]
 have f:fm (fun _=>(none:Option (Option Addr))) 32= []:=by simp[fm]
 refine b _ _ ⟨⟨0,0,⟨none,0,0⟩,⟨none,0,0⟩,none,dq h _ _,⟨by decide,by decide,fun c _=>by simp,fun c _=>by simp⟩,?_,?_,ao _,ao _,mA⟩,fun hx=>Nat.lt_irrefl _ (d _ hx)⟩ (Upd.hnew No h _ _)
 ·show Sl fe 2 W _ _ (fm (fun _=>none) 32)
  rw[a];exact Sl.nil jx
 ·show Sl rG 1 W _ _ (fm (fun _=>none) 32)
  rw[f];exact Sl.nil sG
end Go.Proofs
namespace Go.Proofs
open Go.Lift
def iV(p:Pr):List Pr→List Pr
 | []=> [p]
 |q::l=>if kl q.1 p.1 then q::iV p l else if q.1=p.1 then p::l else p::q::l
theorem iv(p q:Pr)(l:List Pr):iV p (q::l)=if kl q.1 p.1 then q::iV p l else if q.1=p.1 then p::l else p::q::l:=rfl
theorem Sg(p:Pr):∀{l:List Pr},cA l→Qr l p=iV p l
 | [],_=>by simp[Qr,iV,pp,cI]
 |q::l,d=>by
  have d:=bA.1 d;unfold iV;have a:pp (q::l) p.1=if kl q.1 p.1 then pp l p.1+1 else 0:=by
   unfold pp;rw[List.takeWhile_cons];by_cases h:kl q.1 p.1
   ·rw[if_pos (by simpa using h),if_pos h];rfl
   ·rw[if_neg (by simpa using h),if_neg h];rfl
  have c:cI (q::l) p.1=(decide (q.1=p.1)||cI l p.1):=by unfold cI;rw[List.any_cons]
  by_cases h:kl q.1 p.1
  ·have g:q.1≠p.1:=fun e=>by rw[e]at h;exact cM _ h
   rw[if_pos h,←Sg p d.2];unfold Qr;rw[c,a,if_pos h,decide_eq_false g,Bool.false_or];by_cases b:cI l p.1=true
   ·rw[if_pos b,if_pos b];rfl
   ·rw[if_neg b,if_neg b];rfl
  ·rw[if_neg h]
   unfold Qr;rw[c,a,if_neg h];by_cases e:q.1=p.1
   ·rw[if_pos e,decide_eq_true e,Bool.true_or,if_pos rfl];rfl
   ·have i:=sH h e
    have b:cI l p.1=false:=by
     unfold cI;rw[List.any_eq_false];intro r f j;have j:=of_decide_eq_true j;have:=d.1 r f;rw[j]at this;exact cM _ (jo i this)
    rw[if_neg e,decide_eq_false e,b];rfl
theorem CM{p q:Pr}:∀{l:List Pr},q∈iV p l→q=p∨q∈l
 | [],h=>by simp[iV]at h;exact .inl h
 |r::l,h=>by
  unfold iV at h;split at h
  ·rcases aB.1 h with h|h
   ·exact .inr (h▸aC ..)
   ·exact(CM h).imp id fun h=>aV _ h
  ·split at h
   ·rcases aB.1 h with h|h
    ·exact .inl h
    ·exact .inr (aV _ h)
   ·rcases aB.1 h with h|h
    ·exact .inl h
    ·exact .inr h
theorem zR(p:Pr):∀{l:List Pr},cA l→cA (iV p l)
 | [],_=>List.pairwise_singleton ..
 |q::l,a=>by
  have c:=a;have a:=bA.1 a;unfold iV;split
  ·rename_i h
   refine bA.2 ⟨fun r hm=>?_,zR p a.2⟩
   rcases CM hm with rfl|hm
   ·exact h
   ·exact a.1 r hm
  ·rename_i h
   split
   ·rename_i e
    exact bA.2 ⟨fun r hm=>e▸a.1 r hm,a.2⟩
   ·rename_i e
    have b:=sH h e;refine bA.2 ⟨fun r hm=>?_,c⟩
    rcases aB.1 hm with rfl|hm
    ·exact b
    ·exact jo b (a.1 r hm)
theorem HL(p:Pr)(g:ByteArray→Bool):∀{l:List Pr},cA l→(iV p l).filter (fun q=>g q.1)=if g p.1 then iV p (l.filter fun q=>g q.1)else l.filter fun q=>g q.1
 | [],_=>by
  unfold iV;rw[cP,List.filter_nil]
 |q::l,c=>by
  have i:=c;have c:=bA.1 c;have j:=HL p g c.2;rw[iv];by_cases h:kl q.1 p.1
  ·rw[if_pos h,cP,cP,j]
   by_cases f:g q.1=true
   ·rw[if_pos f,if_pos f]
    split
    ·rw[iv,if_pos h]
    ·rfl
   ·rw[if_neg f,if_neg f]
  ·rw[if_neg h]
   by_cases e:q.1=p.1
   ·rw[if_pos e,cP,cP,e]
    by_cases a:g p.1=true
    ·rw[if_pos a,if_pos a,if_pos a,iv,if_neg h,if_pos e]
    ·rw[if_neg a,if_neg a,if_neg a]
   ·rw[if_neg e]
    have d:=sH h e;rw[cP];by_cases a:g p.1=true
    ·rw[if_pos a,if_pos a]
     have:∀r∈(q::l).filter (fun q=>g q.1),kl p.1 r.1:=fun r hm=>by
      rcases aB.1 (eP.1 hm).1 with rfl|hm
      ·exact d
      ·exact jo d (c.1 r hm)
     cases hf:(q::l).filter (fun q=>g q.1)with
     |nil=>rfl
     |cons r rs=>
      have b:=this r (by rw[hf];exact aC ..);rw[iv,if_neg fun k=>cM _ (jo b k),if_neg fun e=>by rw[e]at b;exact cM _ b]
    ·rw[if_neg a,if_neg a]
theorem Gt{p:Pr}:∀{l:List Pr},cA l→p∈l→iV p l=l
 |q::l,a,hm=>by
  have a:=bA.1 a;unfold iV;rcases aB.1 hm with rfl|hm
  ·rw[if_neg (cM _),if_pos rfl]
  ·rw[if_pos (a.1 p hm),Gt a.2 hm]
def ck(x:Hs)(lev:Nat)(k:ByteArray):Nat:=((nr x k).toNat>>>(5*lev))%32
theorem zq(x:Hs)(lev:Nat)(k:ByteArray):ck x lev k<32:=nG _ (by omega)
def part(x:Hs)(lev c:Nat)(l:List Pr):List Pr:=l.filter fun p=>decide (ck x lev p.1=c)
def TrieAt(W:Nat→Prop)(x:Hs)(h:af):Nat→Nat→List Pr→Prop
 |0,b,l=>BuckAt W h b l
 |m+1,b,l=>∃s,NodeAt W h b s∧∀c,c<32→
  ((part x (12-m) c l= []∧s.p c=none∧s.k c=none)∨(∃p,part x (12-m) c l= [p]∧s.p c=some p∧s.k c=none)∨
   (2≤(part x (12-m) c l).length∧s.p c=none∧∃kb,s.k c=some (some ⟨kb,0,none⟩)∧TrieAt W x h m kb (part x (12-m) c l)))
theorem TrieAt.upd0{W:Nat→Prop}{x:Hs}{h d:af}(k:Upd No h d):∀{m b:Nat} {l:List Pr},TrieAt W x h m b l→TrieAt W x d m b l
 |0,_,_,t=>BuckAt.upd t k fun _ h=>h.elim
 |m+1,_,_,⟨s,nd,hc⟩=>⟨s,nd.upd k fun _ h=>h.elim,fun c a=>(hc c a).imp id fun o=>o.imp id fun⟨g,f,n,j,i⟩=>⟨g,f,n,j,TrieAt.upd0 k i⟩⟩
theorem NodeAt.less{W W':Nat→Prop}{h:af}{b:Nat}{s:Slots}(n:NodeAt W h b s)(hm:∀b,W' b→W b∨h.size≤b):NodeAt W' h b s:=by
 obtain⟨d,m,sp,sk,ow,a,g,k,i,j,f,c⟩:=n.ex;exact⟨⟨d,m,sp,sk,ow,a,g,k.less hm,i.less hm,j,f,c.less hm⟩,fun hx=>(hm _ hx).elim n.nw fun h=>by have:=aL a;omega⟩
theorem BuckAt.less{W W':Nat→Prop}{h:af}{b:Nat}{l:List Pr}(n:BuckAt W h b l)(hm:∀b,W' b→W b∨h.size≤b):BuckAt W' h b l:=by
 obtain⟨sp,sk,ow,a,i,f,g,d,c⟩:=n.ex;exact⟨⟨sp,sk,ow,a,i.less hm,f.less hm,g,d,c.less hm⟩,fun hx=>(hm _ hx).elim n.nw fun h=>by have:=aL a;omega⟩
theorem TrieAt.less{W W':Nat→Prop}{x:Hs}{h:af}(hm:∀b,W' b→W b∨h.size≤b):∀{m b:Nat} {l:List Pr},TrieAt W x h m b l→TrieAt W' x h m b l
 |0,_,_,t=>BuckAt.less t hm
 |m+1,_,_,⟨s,nd,hc⟩=>⟨s,nd.less hm,fun c a=>(hc c a).imp id fun o=>o.imp id fun⟨f,d,j,i,g⟩=>⟨f,d,j,i,TrieAt.less hm g⟩⟩
theorem TrieAt.updM{W M:Nat→Prop}{x:Hs}{h d:af}(k:Upd M h d)(hm:∀b,M b→W b∨h.size≤b):∀{m b:Nat} {l:List Pr},TrieAt W x h m b l→TrieAt W x d m b l
 |0,_,_,t=>BuckAt.upd t k hm
 |m+1,_,_,⟨s,nd,hc⟩=>⟨s,nd.upd k hm,fun c a=>(hc c a).imp id fun o=>o.imp id fun⟨g,f,n,j,i⟩=>⟨g,f,n,j,TrieAt.updM k hm i⟩⟩
end Go.Proofs
namespace Go.Proofs
open Go.Lift
def By(h:af)(w o:Option Addr):Prop:=(w=none∧o=none)∨∃b pl id lv,w=some ⟨b,0,none⟩∧h[b]? =some (.cells #[.pointer pl,.int .i64 id,.bool lv] rA (0,0))∧o=if lv then w else none
theorem By.upd{M:Nat→Prop}{h c:af}{w o:Option Addr}(t:By h w o)(k:Upd M h c)(hm:∀b,w=some ⟨b,0,none⟩→M b→h.size≤b):By c w o:=by
 rcases t with t|⟨b,pl,id,lv,e,a,d⟩
 ·exact .inl t
 ·exact .inr ⟨b,pl,id,lv,e,k.get a (fun hM=>by have:=hm b e hM;have:=aL a;omega),d⟩
theorem By.upd0{h a:af}{w o:Option Addr}(t:By h w o)(k:Upd No h a):By a w o:=t.upd k fun _ _ h=>h.elim
theorem By.tok{h:af}{w o:Option Addr}(t:By h w o){a:Addr}(e:o=some a):w=some a:=by
 rcases t with⟨_,d⟩|⟨b,pl,id,lv,f,g,c⟩
 ·rw[d]at e;cases e
 ·rw[e]at c;split at c
  ·exact c.symm
  ·cases c
theorem By.plain{h:af}{w o:Option Addr}(t:By h w o)(a:Addr)(e:w=some a):fA h a:=by
 rcases t with⟨f,_⟩|⟨b,pl,id,lv,c,d,g⟩
 ·rw[f]at e;cases e
 ·rw[c]at e;cases e;exact⟨_,_,d,by simp⟩
theorem CP{h:af}{w o:Option Addr}(t:By h w o){K:Bool→af→Prop}(a:K o.isSome h):HC PG fK [.pointer w] [.c .bool] K h:=by
 refine BO w ?_;unfold uv dZ;rcases t with⟨rfl,rfl⟩|⟨b,pl,id,lv,rfl,c,rfl⟩
 ·exact aj.2 a
 ·refine aA.2 ⟨_,rfl,lv,fh (i:=2) c,?_⟩
  cases lv<;>exact a
theorem NT{h:af}{w o:Option Addr}{b d n:Nat}{sp sk:SliceV}{j:Bool}{ow:Option Addr}(t:By h w o)(f:h[b]? =some (.cells (gj d n sp sk j ow) cj (0,0))) (g:∀a,ow=some a→fA h a) {K:Bool→af→Prop} (c:K (o.isSome&&(ow==w)) h):
  HC PG ql [.pointer (some ⟨b,0,none⟩),.pointer w] [.c .bool] K h:=by
 refine Dq _ w ?_;unfold vH eH;refine aA.2 (CP t ?_);cases o with
 |none=>exact aj.2 c
 |some a=>exact aA.2 ⟨_,rfl,ow,fh (i:=5) f,trivial,fun x y hx k=>⟨g x hx,t.plain y k⟩,c⟩
set_option maxRecDepth 4000 in
theorem RW{W:Nat→Prop}{h:af}{w o:Option Addr}{b d n:Nat}{sp sk:SliceV}{f:Bool}{ow:Option Addr}{M:List Pr}{lk:List (Option Addr)}(t:By h w o)(g:h[b]? =some (.cells (gj d n sp sk f ow) cj (0,0)))
  (hp:∀a,ow=some a→fA h a) (P:(o.isSome&&(ow==w))=false) (T:Sl fe 2 W h sp M) (X:Sl rG 1 W h sk lk) (hlp:M.length≤1000000000) (hlk:lk.length≤1000000000) {K:Option Addr→af→Prop}
  (hk:∀m sp' sk' (A B:Nat→Prop),m[h.size]? =some (.cells (gj d n sp' sk' f o) cj (0,0))→OwnS fe 2 ay A m sp' M→OwnS rG 1 bZ B m sk' lk→(∀x,A x→h.size<x∧¬B x∧x<m.size)→(∀x,B x→h.size<x∧x<m.size)→Upd No h m→K (some ⟨h.size,0,none⟩) m):
  HC PG fT [.pointer (some ⟨b,0,none⟩),.pointer w] [.c .ptr] K h:=by
 refine yp _ w ?_;unfold sR nv cz eH uP aK dZ iX UN Za;refine NT t g hp ?_;rw[P];refine aj.2 ?_;have c:∀{h:af} {b:Nat} {c:Array Value} {i:Nat},h[b]? =some (.cells c cj (0,0))→aR h ⟨b,0+i,none⟩=c[i]?:=fun g=>by rw[aU];exact bI g
 refine⟨_,rfl,_,c (i:=0) g,_,c (i:=1) g,sp,c (i:=2) g,sk,c (i:=3) g,_,c (i:=4) g,_,c (i:=5) g,?_⟩;have k1:=Upd.hnew No h [.int .u32 0,.int .u32 0,.slice none 0 0,.slice none 0 0,.bool false,.pointer none] cj;have b1:=dq h [.int .u32 0,.int .u32 0,.slice none 0 0,.slice none 0 0,.bool false,.pointer none] cj;refine ce ?_;simp only[fX h];generalize hnew h [.int .u32 0,.int .u32 0,.slice none 0 0,.slice none 0 0,.bool false,.pointer none] cj=h1 at k1 b1
 have hs1:g8 h1 ⟨h.size,0,none⟩ 0 [.int .u32 (d:Int),.int .u32 (n:Int),.slice sp.a sp.len sp.cap,.slice sk.a sk.len sk.cap,.bool f,.pointer ow]=_:=jH _ h1 0 0 _ b1 (by simp);refine⟨.inr ⟨_,rfl,fun j hj=>by rw[cd];exact jd b1 (by simp at hj⊢;omega)⟩,ce ?_⟩
 rw[hs1];have b2:=jw (o:=.cells (gj d n sp sk f ow) cj (0,0)) b1;have F:Upd No h _:=k1.trans (M':=(· =h.size)) (Upd.set h1 (.cells (gj d n sp sk f ow) cj (0,0)) rfl) fun x hx=>.inr (f6 hx.symm)
 have Y:h.size<(h1.setIfInBounds h.size (.cells (gj d n sp sk f ow) cj (0,0))).size:=aL b2;have e2:(Obj.cells (List.take (0+0) [Value.int .u32 0,.int .u32 0,.slice none 0 0,.slice none 0 0,.bool false,.pointer none]++ [Value.int .u32 (d:Int),.int .u32 (n:Int),.slice sp.a sp.len sp.cap,.slice sk.a sk.len sk.cap,.bool f,.pointer ow]++List.drop (0+0+ [Value.int .u32 (d:Int),.int .u32 (n:Int),.slice sp.a sp.len sp.cap,.slice sk.a sk.len sk.cap,.bool f,.pointer ow].length) [Value.int .u32 0,.int .u32 0,.slice none 0 0,.slice none 0 0,.bool false,.pointer none]).toArray cj (0,0))=.cells (gj d n sp sk f ow) cj (0,0):=rfl
 rw[e2];generalize h1.setIfInBounds h.size (.cells (gj d n sp sk f ow) cj (0,0))=h2 at b2 F Y;have z:=F.get0 g;refine⟨_,rfl,sp,c (i:=2) z,_,rfl,sk,c (i:=3) z,?_⟩;refine Ah (T.upd F fun _ h=>h.elim) (by omega) fun s3 h3 S p=>?_
 refine⟨c (i:=3) (p.get0 z),?_⟩;refine K6 ((X.upd F fun _ h=>h.elim).upd p fun _ h=>h.elim) (by omega) fun H h4 Q u=>?_
 have b4:=u.get0 (p.get0 b2);have E:=S.within.upd u fun _ _ h=>h
 have G:=Q.within;have z3:=p.size;have z4:=u.size;have J:∀{h:af} {c:Array Value} {x i:Nat},h[x]? =some (.cells c cj (0,0))→i<c.size→Wr h ⟨x,0+i,none⟩:=fun g hi=>by rw[aU];exact jd g hi
 have I:∀{h:af} {c c':Array Value} {x i:Nat} {v:Value} {k:af→Prop},h[x]? =some (.cells c cj (0,0))→c.setIfInBounds i v=c'→(∀m,m[x]? =some (.cells c' cj (0,0))→Upd (· =x) h m→k m)→At (hset h ⟨x,i,none⟩ v) k:=fun g e hk=>xW g fun m Z hu=>hk m (e▸Z) hu
 refine⟨J (i:=2) b4 (show 2<6 by decide),I (i:=2) (c':=gj d n s3 sk f ow) b4 rfl fun h5 b5 L=>?_⟩
 refine⟨J (i:=3) b5 (show 3<6 by decide),I (i:=3) (c':=gj d n s3 H f ow) b5 rfl fun h6 b6 R=>?_⟩
 refine⟨J (i:=5) b6 (show 5<6 by decide),I (i:=5) (c':=gj d n s3 H f none) b6 rfl fun h7 V N=>?_⟩
 have s:=L.tr (R.tr N);have z7:=s.size;have C:Upd No h h7:=((F.tr p).tr u).trans s fun x hx=>.inr (f6 hx.symm)
 have t7:=t.upd0 C;have fin:∀{D:af},D[h.size]? =some (.cells (gj d n s3 H f o) cj (0,0))→Upd (· =h.size) h7 D→K (some ⟨h.size,0,none⟩) D:=fun{D} O q=>by
  have y:=s.tr q;have z8:=q.size;exact hk _ s3 H (fun x=>h2.size≤x∧x<h3.size) (fun x=>h3.size≤x∧x<h4.size) O (E.upd y fun x hx e=>by have e:x=h.size:=e;omega) (G.upd y fun x hx e=>by have e:x=h.size:=e;omega) (fun x hx=>⟨by omega,by omega,by omega⟩) (fun x hx=>⟨by omega,by omega⟩) (C.trans q fun x hx=>.inr (f6 hx.symm))
 refine CP t7 ?_;cases ho:o with
 |none=>rw[ho]at fin;exact aj.2 (fin V (Upd.refl _ _))
 |some a=>
  rw[ho]at fin;rw[t.tok ho];refine aA.2 ⟨J (i:=5) V (show 5<6 by decide),I (i:=5) (c':=gj d n s3 H f (some a)) V rfl fun D O q=>fin O q⟩
theorem RV{h:af}{w o:Option Addr}{b d n:Nat}{sp sk:SliceV}{j:Bool}{ow:Option Addr}(t:By h w o)(f:h[b]? =some (.cells (gj d n sp sk j ow) cj (0,0))) (g:∀a,ow=some a→fA h a) (c:(o.isSome&&(ow==w))=true) {K:Option Addr→af→Prop} (i:K (some ⟨b,0,none⟩) h):
  HC PG fT [.pointer (some ⟨b,0,none⟩),.pointer w] [.c .ptr] K h:=by
 refine yp _ w ?_;unfold sR nv cz eH uP aK dZ iX UN Za;refine NT t f g ?_;rw[c];exact aA.2 i
def NodeO(o:Option Addr)(W:Nat→Prop)(h:af)(b:Nat)(s:Slots)(S:Nat→Prop):Prop:=
 (NodeAt W h b s∧∀y,¬S y)∨(o.isSome=true∧∃d n sp sk,OwnN S h b d n sp sk s o)
theorem OwnN.mono{M M':Nat→Prop}{h:af}{b d n:Nat}{sp sk:SliceV}{s:Slots}{ow:Option Addr}(o:OwnN M h b d n sp sk s ow)(hm:∀x,M x→M' x):OwnN M' h b d n sp sk s ow:=by
 obtain⟨A,B,g,f,c,a⟩:=o.ex;exact⟨o.blk,o.bits,⟨A,B,g,f,fun x hx=>⟨hm _ (c x hx).1,(c x hx).2⟩,fun x hx=>⟨hm _ (a x hx).1,(a x hx).2⟩⟩,hm _ o.mb⟩
theorem OwnN.within{M:Nat→Prop}{h:af}{b d n:Nat}{sp sk:SliceV}{s:Slots}{ow:Option Addr}(o:OwnN M h b d n sp sk s ow):OwnN (fun x=>M x∧x<h.size) h b d n sp sk s ow:=by
 obtain⟨A,B,g,f,c,a⟩:=o.ex;exact⟨o.blk,o.bits,⟨A,B,g,f,fun x hx=>⟨⟨(c x hx).1,(c x hx).2.2.2⟩,(c x hx).2⟩,fun x hx=>⟨⟨(a x hx).1,(a x hx).2.2⟩,(a x hx).2⟩⟩,o.mb,aL o.blk⟩
theorem LY{W S:Nat→Prop}{h:af}{w o:Option Addr}{b:Nat}{s:Slots}(i:NodeO o W h b s S)(t:By h w o)(I:∀a,o=some a→W a.block){K:Option Addr→af→Prop}
  (E:∀m p d n sp sk,OwnN (fun y=>S y∨h.size≤y) m p d n sp sk s o→Upd No h m→K (some ⟨p,0,none⟩) m):
  HC PG fT [.pointer (some ⟨b,0,none⟩),.pointer w] [.c .ptr] K h:=by
 rcases i with⟨i,_⟩|⟨D,d,n,sp,sk,i⟩
 ·obtain⟨d,n,sp,sk,ow,J,bits,u,z,H,F,j⟩:=i.ex
  refine RW t J (fun a e=>(j a e).2) ?_ u z (by have:=yi (g:=s.p);omega) (by have:=yi (g:=s.k);omega) fun m q v A B p G L c f k=>?_
  ·cases ho:o with
   |none=>rfl
   |some a=>
    have e:=t.tok ho;rw[Option.isSome_some,Bool.true_and,beq_eq_false_iff_ne];intro C;rw[e]at C;exact(j a C).1 (I a ho)
  ·exact E m h.size d n q v ⟨p,bits,⟨A,B,G,L,fun x hx=>⟨.inr (by have:=(c x hx).1;omega),(c x hx).2.1,by have:=(c x hx).1;omega,(c x hx).2.2⟩,fun x hx=>⟨.inr (by have:=(f x hx).1;omega),by have:=(f x hx).1;omega,(f x hx).2⟩⟩,.inr (ao _)⟩ k
 ·refine RV t i.blk (fun a e=>t.plain a (t.tok e)) ?_ (E h b d n sp sk (i.mono fun _ h=>.inl h) (Upd.refl _ _))
  obtain⟨a,e⟩:=eI.1 D;rw[D,e,t.tok e];simp
end Go.Proofs
namespace Go.Proofs
inductive Fo where
 |nil:Fo
 |cons (lab:List UInt8) (val:Option ByteArray) (kids rest:Fo):Fo
abbrev Bn:=List UInt8×Option ByteArray×Fo
def Fo.toL:Fo→List Bn
 | .nil=> []
 | .cons lab w kids rest=>(lab,w,kids)::rest.toL
theorem Fo.toL_cons(lab:List UInt8)(w:Option ByteArray)(a b:Fo):(Fo.cons lab w a b).toL=(lab,w,a)::b.toL:=rfl
def Fo.ofL:List Bn→Fo
 | []=>.nil
 |(lab,w,kids)::l=>.cons lab w kids (Fo.ofL l)
theorem Fo.to_of:∀l:List Bn,(Fo.ofL l).toL=l
 | []=>rfl
 |(_,_,_)::l=>by show _::(Fo.ofL l).toL=_;rw[Fo.to_of l]
theorem Fo.of_to:∀F:Fo,Fo.ofL F.toL=F
 | .nil=>rfl
 | .cons lab w kids rest=>by show Fo.cons lab w kids (Fo.ofL rest.toL)=_;rw[Fo.of_to rest]
def qt:Fo→List UInt8→ByteArray→Prop
 | .nil,_,_=>False
 | .cons lab w kids rest,k,v=>(∃r,k=lab++r∧((r= []∧w=some v)∨qt kids r v))∨qt rest k v
def rO(w:Option ByteArray)(F:Fo)(k:List UInt8)(v:ByteArray):Prop:=(k= []∧w=some v)∨qt F k v
def um(n:Bn)(k:List UInt8)(v:ByteArray):Prop:=∃r,k=n.1++r∧rO n.2.1 n.2.2 r v
theorem fY:∀{F:Fo} {k:List UInt8} {v:ByteArray},qt F k v↔∃n∈F.toL,um n k v
 | .nil,_,_=>by simp[qt,Fo.toL]
 | .cons lab w kids rest,k,v=>by
  rw[Fo.toL_cons];unfold qt;rw[fY (F:=rest)];constructor
  ·rintro(h|⟨n,a,h⟩)
   ·exact⟨_,aC ..,h⟩
   ·exact⟨n,aV _ a,h⟩
  ·rintro⟨n,a,h⟩
   rcases aB.1 a with rfl|a
   ·exact .inl h
   ·exact .inr ⟨n,a,h⟩
def hd(k:List UInt8):Nat:=(k.headD 0).toNat
theorem qf{a b:List UInt8}(h:a≠[]):hd (a++b)=hd a:=by
 cases a with
 |nil=>exact absurd rfl h
 |cons x a=>rfl
theorem YZ(a:List UInt8):hd a<256:=UInt8.toNat_lt _
def fU:Fo→Prop
 | .nil=>True
 | .cons lab w kids rest=>lab≠[]∧(w.isSome∨2≤kids.toL.length)∧fU kids∧(∀n∈rest.toL,hd lab<hd n.1)∧fU rest
def O2(n:Bn):Prop:=n.1≠[]∧(n.2.1.isSome∨2≤n.2.2.toL.length)∧fU n.2.2
theorem fi:∀{F:Fo},fU F↔F.toL.Pairwise (fun m n=>hd m.1<hd n.1)∧∀n∈F.toL,O2 n
 | .nil=>by simp[fU,Fo.toL]
 | .cons lab w kids rest=>by
  rw[Fo.toL_cons,bA];show(lab≠[]∧(w.isSome∨2≤kids.toL.length)∧fU kids∧(∀n∈rest.toL,hd lab<hd n.1)∧fU rest)↔_
  rw[fi (F:=rest)];constructor
  ·rintro⟨g,f,i,c,d,b⟩
   refine⟨⟨c,d⟩,fun n a=>?_⟩
   rcases aB.1 a with rfl|a
   ·exact⟨g,f,i⟩
   ·exact b n a
  ·rintro⟨⟨c,d⟩,b⟩
   have:=b _ (aC ..);exact⟨this.1,this.2.1,this.2.2,c,d,fun n a=>b n (aV _ a)⟩
theorem nq:∀{F:Fo},fU F→∀n∈F.toL,∃r v,rO n.2.1 n.2.2 r v
 | .nil,_,n,a=>by simp[Fo.toL]at a
 | .cons lab w kids rest,h,n,a=>by
  rcases aB.1 a with rfl|a
  ·rcases h.2.1 with f|b
   ·obtain⟨v,hv⟩:=eI.1 f
    exact⟨[],v,.inl ⟨rfl,hv⟩⟩
   ·have d:=nq h.2.2.1
    have⟨m,hm⟩:∃m,m∈kids.toL:=by
     cases hl:kids.toL with
     |nil=>rw[hl]at b;simp at b
     |cons m l=>exact⟨m,aC ..⟩
    obtain⟨r,v,c⟩:=d m hm;exact⟨m.1++r,v,.inr (fY.2 ⟨m,hm,r,rfl,c⟩)⟩
  ·exact nq h.2.2.2.2 n a
theorem pq{F:Fo}(h:fU F){k:List UInt8}{v:ByteArray}(hi:qt F k v):k≠[]:=by
 obtain⟨n,a,r,rfl,_⟩:=fY.1 hi;have:=((fi.1 h).2 n a).1;intro e;exact this (gX.1 e).1
theorem qe{F:Fo}(h:fU F){k:List UInt8}{v:ByteArray}(hi:qt F k v):∃n∈F.toL,hd n.1=hd k∧um n k v:=by
 obtain⟨n,a,r,e,b⟩:=fY.1 hi;exact⟨n,a,by rw[e,qf ((fi.1 h).2 n a).1],r,e,b⟩
theorem xV{F:Fo}(h:fU F){m n:Bn}(hm:m∈F.toL)(f:n∈F.toL)(e:hd m.1=hd n.1):m=n:=by
 have d:=(fi.1 h).1;revert hm f;generalize F.toL=l at*;clear h;induction l with
 |nil=>intro hm;simp at hm
 |cons a l ih=>
  have d:=bA.1 d;intro hm f;rcases aB.1 hm with i|c
  ·rcases aB.1 f with g|b
   ·rw[i,g]
   ·have:=d.1 n b;rw[←i]at this;omega
  ·rcases aB.1 f with g|b
   ·have:=d.1 m c;rw[←g]at this;omega
   ·exact ih d.2 c b
def Br(P:List UInt8→ByteArray→Prop):Prop:=(∃v,P [] v)∨∃j k u v,P j u∧P k v∧j≠[]∧k≠[]∧hd j≠hd k
theorem H7{w:Option ByteArray}{F:Fo}(h:fU F):(w.isSome∨2≤F.toL.length)↔Br (rO w F):=by
 constructor
 ·rintro(E|C)
  ·obtain⟨v,hv⟩:=eI.1 E
   exact .inl ⟨v,.inl ⟨rfl,hv⟩⟩
  ·right
   have c:=nq h;have hc:=fi.1 h;match hL:F.toL,C with
   |a::b::l,_=>
    have g:a∈F.toL:=by rw[hL];simp
    have d:b∈F.toL:=by rw[hL];simp
    obtain⟨r,v,z⟩:=c a g;obtain⟨s,u,c⟩:=c b d;have q:=(hc.2 a g).1;have p:=(hc.2 b d).1;have:=hc.1;rw[hL]at this;have G:=(bA.1 this).1 b (aC ..);refine⟨a.1++r,b.1++s,v,u,.inr (fY.2 ⟨a,g,r,rfl,z⟩),.inr (fY.2 ⟨b,d,s,rfl,c⟩),?_,?_,?_⟩
    ·intro e;exact q (gX.1 e).1
    ·intro e;exact p (gX.1 e).1
    ·rw[qf q,qf p];omega
 ·rintro(⟨v,hv⟩|⟨j,k,u,v,f,i,y,nk,D⟩)
  ·rcases hv with⟨_,hv⟩|hv
   ·left;rw[hv];rfl
   ·exact absurd rfl (pq h hv)
  ·right
   rcases f with⟨e,_⟩|f
   ·exact absurd e y
   rcases i with⟨e,_⟩|i
   ·exact absurd e nk
   obtain⟨m,hm,B,_⟩:=qe h f;obtain⟨n,o,A,_⟩:=qe h i;match hL:F.toL with
   | []=>rw[hL]at hm;simp at hm
   | [a]=>
    rw[hL]at hm o;rw[au.1 hm]at B;rw[au.1 o]at A;omega
   |a::b::l=>simp
end Go.Proofs
namespace Go.Proofs
theorem Sh{m n:Bn}(g:Br (rO m.2.1 m.2.2))(h:∀k v,um m k v→um n k v):∃t,m.1=n.1++t:=by
 rcases g with⟨v,hv⟩|⟨j,k,u,v,i,o,p,nk,b⟩
 ·obtain⟨r,e,_⟩:=h m.1 v ⟨[],(bB _).symm,hv⟩
  exact⟨r,e⟩
 ·obtain⟨r,e,_⟩:=h (m.1++j) u ⟨j,rfl,i⟩
  obtain⟨s,f,_⟩:=h (m.1++k) v ⟨k,rfl,o⟩;rcases List.append_eq_append_iff.1 e with⟨a,c,d⟩|⟨a,c,d⟩
  ·rw[c,az]at f
   have f:=eW f;cases a with
   |nil=>exact⟨[],by rw[c];simp⟩
   |cons x a=>
    rw[d]at b;rw[f]at b;exact absurd rfl b
  ·exact⟨a,c⟩
theorem QK:∀{F F':Fo},fU F→fU F'→(∀k v,qt F k v↔qt F' k v)→F=F'
 | .nil,.nil,_,_,_=>rfl
 | .nil,.cons lab w b c,_,h,he=>by
  obtain⟨r,v,i⟩:=nq h _ (aC ..);exact((he _ v).2 (fY.2 ⟨_,aC ..,r,rfl,i⟩)).elim
 | .cons lab w b c,.nil,h,_,he=>by
  obtain⟨r,v,i⟩:=nq h _ (aC ..);exact((he _ v).1 (fY.2 ⟨_,aC ..,r,rfl,i⟩)).elim
 | .cons lab w b c,.cons d w' a f,h,g,he=>by
  have z:∀{lab w b c} {F:Fo},fU (.cons lab w b c)→fU F→(∀k v,qt F k v→qt (.cons lab w b c) k v)→∀n∈F.toL,hd lab≤hd n.1:=by
   intro lab w b c F h E hi n j;obtain⟨r,v,i⟩:=nq E n j;obtain⟨m,hm,e,_⟩:=qe h (hi _ v (fY.2 ⟨n,j,r,rfl,i⟩));rw[qf ((fi.1 E).2 n j).1]at e;rcases aB.1 hm with rfl|hm
   ·simp only at e;omega
   ·have:=h.2.2.2.1 m hm;omega
  have O:=z h g (fun k v=>(he k v).2) _ (aC ..)
  have L:=z g h (fun k v=>(he k v).1) _ (aC ..)
  simp only at O L;have s:hd lab=hd d:=by omega
  have u:∀{lab w b c d w' a f},fU (.cons lab w b c)→fU (.cons d w' a f)→hd lab=hd d→(∀k v,qt (.cons lab w b c) k v→qt (.cons d w' a f) k v)→(∀k v,um (lab,w,b) k v→um (d,w',a) k v)∧(∀k v,qt c k v→qt f k v):=by
   intro lab w b c d w' a f h g s hi;refine⟨fun k v o=>?_,fun k v o=>?_⟩
   ·obtain⟨n,j,e,i⟩:=qe g (hi k v (fY.2 ⟨_,aC ..,o⟩))
    obtain⟨r,rfl,_⟩:=o;rw[qf h.1]at e;rw[←xV g j (aC ..) (by simp only;omega)];exact i
   ·obtain⟨m,hm,Q,_⟩:=qe h.2.2.2.2 o
    have:=h.2.2.2.1 m hm;obtain⟨n,j,e,i⟩:=qe g (hi k v (Or.inr o));rcases aB.1 j with rfl|j
    ·simp only at e;omega
    ·exact fY.2 ⟨n,j,i⟩
  have⟨H,P⟩:=u h g s fun k v=>(he k v).1
  have⟨D,N⟩:=u g h s.symm fun k v=>(he k v).2
  have p:c=f:=QK h.2.2.2.2 g.2.2.2.2 fun k v=>⟨P k v,N k v⟩
  obtain⟨t,C⟩:=Sh (m:=(lab,w,b)) (n:=(d,w',a)) ((H7 h.2.2.1).1 h.2.1) H;obtain⟨R,B⟩:=Sh (m:=(d,w',a)) (n:=(lab,w,b)) ((H7 g.2.2.1).1 g.2.1) D;simp only at C B;have A:lab=d:=by
   have:t= []:=by
    have M:=congrArg eL C;have K:=congrArg eL B;rw[ad]at M K;exact List.length_eq_zero_iff.1 (by omega)
   rw[C,this,bB]
  subst A;have y:∀{w b w' a},(∀k v,um (lab,w,b) k v→um (lab,w',a) k v)→∀k v,rO w b k v→rO w' a k v:=by
   intro w b w' a j k v o;obtain⟨r,e,i⟩:=j (lab++k) v ⟨k,rfl,o⟩;rw[eW e];exact i
  have i1:=y H;have J:=y D;have ew:w=w':=by
   have G:∀{w b w' a},fU a→(∀k v,rO w b k v→rO w' a k v)→∀v,w=some v→w'=some v:=by
    intro w b w' a hc hi v hv;rcases hi [] v (.inl ⟨rfl,hv⟩)with⟨_,h⟩|h
    ·exact h
    ·exact absurd rfl (pq hc h)
   exact Option.ext fun v=>⟨G g.2.2.1 i1 v,G h.2.2.1 J v⟩
  have I:∀{w b w' a},fU b→(∀k v,rO w b k v→rO w' a k v)→∀k v,qt b k v→qt a k v:=by
   intro w b w' a hc hi k v o;rcases hi k v (.inr o)with⟨e,_⟩|h
   ·exact absurd e (pq hc o)
   ·exact h
  have q:b=a:=QK h.2.2.1 g.2.2.1 fun k v=>⟨I h.2.2.1 i1 k v,I g.2.2.1 J k v⟩
  rw[ew,q,p]
def wq(P a:List UInt8→ByteArray→Prop)(k:List UInt8)(v:ByteArray):Prop:=∀k' v',a k' v'↔(k'=k∧v'=v)∨(k'≠k∧P k' v')
theorem Kq{w:Option ByteArray}{F:Fo}(h:fU F)(v:ByteArray):wq (rO w F) (rO (some v) F) [] v:=by
 intro k' a;unfold rO;constructor
 ·rintro(⟨e,f⟩|hi)
  ·exact .inl ⟨e,(bQ.inj f).symm⟩
  ·exact .inr ⟨pq h hi,.inr hi⟩
 ·rintro(⟨e,f⟩|⟨e,⟨f,_⟩|hi⟩)
  ·exact .inl ⟨e,by rw[f]⟩
  ·exact absurd f e
  ·exact .inr hi
theorem Ec{w:Option ByteArray}{F F':Fo}{k:List UInt8}{v:ByteArray}(a:k≠[])(h:wq (qt F) (qt F') k v):wq (rO w F) (rO w F') k v:=by
 intro k' b;unfold rO;rw[h k' b];constructor
 ·rintro(⟨e,f⟩|hi|hi)
  ·exact .inr ⟨fun e'=>a (e'.symm.trans e),.inl ⟨e,f⟩⟩
  ·exact .inl hi
  ·exact .inr ⟨hi.1,.inr hi.2⟩
 ·rintro(hi|⟨e,hi|hi⟩)
  ·exact .inr (.inl hi)
  ·exact .inl hi
  ·exact .inr (.inr ⟨e,hi⟩)
theorem TB{F:Fo}{k:List UInt8}{v:ByteArray}{i:Nat}(h:fU F)(z:k≠[])(hi:∀j (d:j<F.toL.length),j<i→hd F.toL[j].1<hd k)(g:∀j (d:j<F.toL.length),i≤j→hd k<hd F.toL[j].1):fU (.ofL (F.toL.take i++(k,some v,.nil)::F.toL.drop i))∧wq (qt F) (qt (.ofL (F.toL.take i++(k,some v,.nil)::F.toL.drop i))) k v:=by
 have hc:=fi.1 h;have w:∀n∈F.toL.take i,hd n.1<hd k:=fun n c=>by
  obtain⟨j,d,e⟩:=bV c;rw[aP]at d;rw[←e,List.getElem_take];exact hi j (by omega) (by omega)
 have y:∀n∈F.toL.drop i,hd k<hd n.1:=fun n c=>by
  obtain⟨j,d,e⟩:=bV c;rw[List.length_drop]at d;rw[←e,List.getElem_drop];exact g _ (by omega) (by omega)
 have mem:∀n,n∈F.toL.take i++(k,some v,.nil)::F.toL.drop i↔n=(k,some v,Fo.nil)∨n∈F.toL:=fun n=>by
  conv=>rhs;rw[←aS i F.toL]
  simp only[List.mem_append,aB];exact⟨fun h=>h.elim (fun h=>.inr (.inl h)) fun h=>h.elim .inl fun h=>.inr (.inr h),fun h=>h.elim (fun h=>.inr (.inl h)) fun h=>h.elim .inl fun h=>.inr (.inr h)⟩
 refine⟨fi.2 ⟨?_,?_⟩,fun k' A=>?_⟩
 ·rw[Fo.to_of]
  have m:=hc.1;rw[←aS i F.toL,cE]at m;refine cE.2 ⟨m.1,bA.2 ⟨y,m.2.1⟩,fun a s b o=>?_⟩
  rcases aB.1 o with rfl|o
  ·exact w a s
  ·exact m.2.2 a s b o
 ·rw[Fo.to_of]
  intro n c;rcases(mem n).1 c with rfl|c
  ·exact⟨z,.inl rfl,trivial⟩
  ·exact hc.2 n c
 ·rw[fY,fY,Fo.to_of]
  constructor
  ·rintro⟨n,c,r,e,q⟩
   rcases(mem n).1 c with rfl|c
   ·rcases q with⟨rfl,f⟩|f
    ·exact .inl ⟨by rw[e];exact bB _,(bQ.inj f).symm⟩
    ·exact f.elim
   ·right
    refine⟨fun e'=>?_,n,c,r,e,q⟩
    have B:hd k=hd n.1:=by rw[←e',e,qf (hc.2 n c).1]
    obtain⟨j,d,u⟩:=bV c;rcases bO j i with p|p
    ·have:=hi j d p;rw[u]at this;omega
    ·have:=g j d p;rw[u]at this;omega
  ·rintro(⟨rfl,rfl⟩|⟨_,n,c,h⟩)
   ·exact⟨(k',some A,.nil),(mem _).2 (.inl rfl),[],(bB _).symm,.inl ⟨rfl,rfl⟩⟩
   ·exact⟨n,(mem _).2 (.inr c),h⟩
theorem ni{α:Type}{l:List α}{i:Nat}(hi:i<l.length){a x:α}(d:∀j (c:j<l.length),j≠i→l[j]≠l[i]):x∈l.set i a↔x=a∨(x∈l∧x≠l[i]):=by
 constructor
 ·intro h
  obtain⟨j,c,e⟩:=bV h;rw[cQ]at c;rw[List.getElem_set]at e;split at e
  ·exact .inl e.symm
  ·rename_i b
   exact .inr ⟨by rw[←e];exact aY c,by rw[←e];exact d j c fun e=>b e.symm⟩
 ·rintro(rfl|⟨h,b⟩)
  ·exact oE (i:=i) (h:=by simpa using hi) (by simp)
  ·obtain⟨j,c,e⟩:=bV h
   have:i≠j:=by rintro rfl;exact b e.symm
   exact oE (i:=j) (h:=by simpa using c) (by rw[List.getElem_set_ne this];exact e)
theorem SE{F:Fo}{i:Nat}{m:Bn}(h:fU F)(hi:i<F.toL.length)(hm:O2 m)(e:hd m.1=hd F.toL[i].1):fU (.ofL (F.toL.set i m)):=by
 have hc:=fi.1 h;rw[fi,Fo.to_of];refine⟨?_,fun n g=>?_⟩
 ·rw[cJ]at hc⊢
  intro a b f d c;rw[cQ]at f d;rw[List.getElem_set,List.getElem_set];split
  ·rename_i ea;subst ea
   rw[if_neg (by omega),e];exact hc.1 _ _ f d c
  ·split
   ·rename_i eb;subst eb
    rw[e];exact hc.1 _ _ f d c
   ·exact hc.1 _ _ f d c
 ·rcases List.mem_or_eq_of_mem_set g with g|rfl
  ·exact hc.2 n g
  ·exact hm
theorem xB{F:Fo}(h:fU F){i:Nat}(hi:i<F.toL.length)(j:Nat)(c:j<F.toL.length)(a:j≠i):F.toL[j]≠F.toL[i]:=by
 have hc:=(fi.1 h).1;rw[cJ]at hc;intro e;rcases Nat.lt_or_gt_of_ne a with b|b
 ·have:=hc j i c hi b;rw[e]at this;omega
 ·have:=hc i j hi c b;rw[e]at this;omega
theorem NJ{F:Fo}{i:Nat}{m:Bn}{k:List UInt8}{v:ByteArray}(h:fU F)(hi:i<F.toL.length)(ek:hd F.toL[i].1=hd k)(d:wq (um F.toL[i]) (um m) k v):wq (qt F) (qt (.ofL (F.toL.set i m))) k v:=by
 intro k' g;have hc:=fi.1 h;rw[fY,fY,Fo.to_of];constructor
 ·rintro⟨n,a,c⟩
  rcases(ni hi (xB h hi)).1 a with rfl|⟨a,f⟩
  ·rcases(d k' g).1 c with b|⟨b,j⟩
   ·exact .inl b
   ·exact .inr ⟨b,_,aY hi,j⟩
  ·refine .inr ⟨fun e=>f ?_,n,a,c⟩
   obtain⟨r,e',_⟩:=c;refine xV h a (aY hi) ?_;rw[ek,←e,e',qf (hc.2 n a).1]
 ·rintro(b|⟨b,n,a,c⟩)
  ·exact⟨m,(ni hi (xB h hi)).2 (.inl rfl),(d k' g).2 (.inl b)⟩
  ·by_cases e:n=F.toL[i]
   ·exact⟨m,(ni hi (xB h hi)).2 (.inl rfl),(d k' g).2 (.inr ⟨b,by rw[←e];exact c⟩)⟩
   ·exact⟨n,(ni hi (xB h hi)).2 (.inr ⟨a,e⟩),c⟩
theorem TA{lab r:List UInt8}{w w':Option ByteArray}{F F':Fo}{v:ByteArray}(h:wq (rO w F) (rO w' F') r v):wq (um (lab,w,F)) (um (lab,w',F')) (lab++r) v:=by
 intro k' b;constructor
 ·rintro⟨s,e,a⟩
  rcases(h s b).1 a with⟨rfl,rfl⟩|⟨c,d⟩
  ·exact .inl ⟨e,rfl⟩
  ·exact .inr ⟨fun e'=>c (eW (e.symm.trans e')),s,e,d⟩
 ·rintro(⟨rfl,rfl⟩|⟨c,s,e,a⟩)
  ·exact⟨r,rfl,(h r b).2 (.inl ⟨rfl,rfl⟩)⟩
  ·exact⟨s,e,(h s b).2 (.inr ⟨fun e'=>c (by rw[e,e']),a⟩)⟩
def cm:List UInt8→List UInt8→Nat
 |a::x,b::y=>if a=b then cm x y+1 else 0
 |_,_=>0
theorem SD:∀(x y:List UInt8),cm x y≤x.length∧cm x y≤y.length
 | [],_=>by simp[cm]
 |_::_,[]=>by simp[cm]
 |a::x,b::y=>by unfold cm;have:=SD x y;split<;>simp<;>omega
theorem SB:∀(x y:List UInt8),x.take (cm x y)=y.take (cm x y)
 | [],_=>by simp[cm]
 |_::_,[]=>by simp[cm]
 |a::x,b::y=>by
  unfold cm;split
  ·rename_i e;rw[dH,dH,SB x y,e]
  ·simp
theorem Mq:∀(x y:List UInt8),cm x y<x.length→cm x y<y.length→hd (x.drop (cm x y))≠hd (y.drop (cm x y))
 | [],_=>by simp[cm]
 |_::_,[]=>by simp[cm]
 |a::x,b::y=>by
  unfold cm;split
  ·rename_i e
   intro d c;rw[aH]at d c;rw[g6,g6];exact Mq x y (by omega) (by omega)
  ·rename_i e
   intro _ _ h;exact e (mw.1 h)
theorem WL{x y:List UInt8}(hx:x≠[])(c:y≠[])(h:hd x=hd y):0<cm x y:=by
 match x,y,hx,c with
 |a::x,b::y,_,_=>
  unfold cm;rw[if_pos (show a=b from mw.1 h)]
  omega
theorem KM{lab:List UInt8}{w:Option ByteArray}{F:Fo}(c:Nat):∀k v,um (lab.take c,none,.cons (lab.drop c) w F .nil) k v↔um (lab,w,F) k v:=by
 intro k v;constructor
 ·rintro⟨r,e,⟨_,h⟩|(⟨s,rfl,h⟩|h)⟩
  ·cases h
  ·exact⟨s,by rw[e];simp only;rw[←az,aS],h⟩
  ·exact h.elim
 ·rintro⟨s,e,h⟩
  exact⟨lab.drop c++s,by rw[e];simp only;rw[←az,aS],.inr (.inl ⟨s,rfl,h⟩)⟩
theorem WS{lab r:List UInt8}{w w':Option ByteArray}{F F':Fo}{v:ByteArray}(b:lab≠[])(f:w.isSome∨2≤F.toL.length)(i:fU F)(a:r≠[]→hd r≠hd lab)(h:wq (rO none (.cons lab w F .nil)) (rO w' F') r v):Br (rO w' F'):=by
 by_cases e:r= []
 ·subst e
  exact .inl ⟨v,(h [] v).2 (.inl ⟨rfl,rfl⟩)⟩
 ·have hc:fU (.cons lab w F .nil):=⟨b,f,i,fun n g=>by simp[Fo.toL]at g,trivial⟩
  obtain⟨s,u,c⟩:=nq hc _ (aC ..);simp only at c;have d:hd (lab++s)=hd lab:=qf b;refine .inr ⟨r,lab++s,v,u,(h r v).2 (.inl ⟨rfl,rfl⟩),(h _ u).2 (.inr ⟨fun e'=>a e (by rw[←e',d]),.inr (.inl ⟨s,rfl,c⟩)⟩),e,fun e'=>b (gX.1 e').1,by rw[d];exact a e⟩
theorem YE{P g:List UInt8→ByteArray→Prop}{k:List UInt8}{v:ByteArray}(d:Br P)(h:wq P g k v):Br g:=by
 have keep:∀j u,P j u→∃c,g j c:=fun j u f=>by
  by_cases e:j=k
  ·exact⟨v,(h j v).2 (.inl ⟨e,rfl⟩)⟩
  ·exact⟨u,(h j u).2 (.inr ⟨e,f⟩)⟩
 rcases d with⟨u,m⟩|⟨j,k',u,c,f,n,r⟩
 ·obtain⟨c,o⟩:=keep [] u m
  exact .inl ⟨c,o⟩
 ·obtain⟨a,i⟩:=keep j u f
  obtain⟨b,d⟩:=keep k' c n;exact .inr ⟨j,k',a,b,i,d,r⟩
end Go.Proofs
namespace Go.Proofs
open Go.Lift
theorem aaf(a b:Nat):(aw (IntKind.bits .u64) (a:Int)&&&aw (IntKind.bits .u64) (b:Int)).toNat=(a%18446744073709551616)&&&(b%18446744073709551616):=by
 simp[IntKind.bits,BitVec.toNat_and,BitVec.toNat_ofInt];rfl
theorem abd{hv:Int}(d:0≤hv∧hv<18446744073709551616){lev:Nat}(g:lev<13){h:af}{K:Int→af→Prop}(b:K (((hv.toNat>>>(5*lev))%32:Nat):Int) h):HC PG lZ [.int .u64 hv,.int .i64 lev] [.c (.int .i64)] K h:=by
 refine Rl hv lev ?_;unfold IT;refine Join.plain (aM (fun h=>by omega) fun _=>?_)
 rw[decide_eq_false (by omega)];refine aj.2 ?_;have f:IntKind.wrap .i64 (5*(lev:Int))=((5*lev:Nat):Int):=by rw[jj (by omega)];omega
 rw[f];have c:min (((5*lev:Nat):Int)).toNat (IntKind.bits .u64)=5*lev:=by rw[aX];exact bP (by show 5*lev≤64;omega)
 rw[c];obtain⟨n,rfl⟩:=Int.eq_ofNat_of_zero_le d.1;rw[aX]at b;simp only[Bd];rw[nx];have a:n>>>(5*lev)<18446744073709551616:=Nat.lt_of_le_of_lt (Nat.shiftRight_le _ _) (by omega);have e:=aaf (n>>>(5*lev)) 31;rw[Nat.mod_eq_of_lt a,show((31:Nat):Int)=(31:Int)from rfl,show 31%18446744073709551616=2^5-1 from rfl,Nat.and_two_pow_sub_one_eq_mod]at e
 rw[e];have hm:n>>>(5*lev)%2^5<32:=nG _ (by omega);rw[Go.IntWalk.u64_in _ (by omega),jj (by omega)];exact⟨by omega,b⟩
theorem Ud{x:Hs}{k:ByteArray}{lev:Nat}(b:lev<13){h:af}{K:Int→af→Prop}(a:K (ck x lev k:Int) h):HC PG lZ [.int .u64 (nr x k),.int .i64 lev] [.c (.int .i64)] K h:=abd (Fj x k) b a
theorem NQ{x:Hs}{lev c:Nat}{l:List Pr}(h:∀p∈l,ck x lev p.1=c):part x lev c l=l:=List.filter_eq_self.2 fun p a=>decide_eq_true (h p a)
theorem RS{x:Hs}{lev c:Nat}{l:List Pr}(h:∀p∈l,ck x lev p.1≠c):part x lev c l= []:=List.filter_eq_nil_iff.2 fun p a=>by simpa using h p a
theorem Hl{x:Hs}{lev c:Nat}{p:Pr}{l:List Pr}(a:cA l):part x lev c (iV p l)=if ck x lev p.1=c then iV p (part x lev c l)else part x lev c l:=by
 have:=HL p (fun k=>decide (ck x lev k=c)) a
 unfold part;rw[this];by_cases h:ck x lev p.1=c
 ·rw[if_pos h,if_pos (decide_eq_true h)]
 ·rw[if_neg h,if_neg (by simpa using h)]
theorem RH{p q:Pr}(h:p.1≠q.1):(iV q [p]).length=2:=by
 rw[iv];by_cases a:kl p.1 q.1
 ·rw[if_pos a];rfl
 ·rw[if_neg a,if_neg h];rfl
theorem R0{p q r:Pr}(h:r∈iV q [p]):r=p∨r=q:=(CM h).symm.imp (fun h=>au.1 h) id
theorem gY{β:Type}{g:Nat→Option β}{i c:Nat}{x:Option β}(h:c≠i):upd g i x c=g c:=by unfold upd;rw[if_neg h]
end Go.Proofs
namespace Go.Proofs
open Go.Lift
noncomputable instance memDec (p:Pr) (l:List Pr):Decidable (p∈l):=Classical.propDecidable _
theorem Hf{l:List Pr}(a:cA l){k v w:ByteArray}(b:(k,v)∈l)(c:(k,w)∈l):v=w:=by
 induction l with
 |nil=>cases b
 |cons q l ih=>
  have a:=bA.1 a;rcases aB.1 b with d|b<;>rcases aB.1 c with f|c
  ·exact(Prod.mk.inj (d.trans f.symm)).2
  ·have:=a.1 _ c;rw[←d]at this;exact absurd this (cM _)
  ·have:=a.1 _ b;rw[←f]at this;exact absurd this (cM _)
  ·exact ih a.2 b c
theorem mh{x:Hs}{lev c:Nat}{l:List Pr}{p:Pr}:p∈part x lev c l↔p∈l∧ck x lev p.1=c:=by unfold part;rw[eP,decide_eq_true_iff]
theorem GQ{x:Hs}{lev:Nat}{l:List Pr}{k:ByteArray}:cI (part x lev (ck x lev k) l) k=cI l k:=by
 unfold cI;rw[pf,cL,cL];constructor
 ·rintro⟨p,a,e⟩;exact⟨p,(mh.1 a).1,e⟩
 ·rintro⟨p,a,e⟩;exact⟨p,mh.2 ⟨a,by rw[of_decide_eq_true e]⟩,e⟩
theorem qV{x:Hs}{lev c:Nat}{l:List Pr}(a:cA l):cA (part x lev c l):=a.sublist List.filter_sublist
theorem kz{x:Hs}{lev c:Nat}{l:List Pr}:(part x lev c l).length≤l.length:=List.length_filter_le ..
def SlotIs(W:Nat→Prop)(x:Hs)(h:af)(m:Nat)(s:Slots)(c:Nat)(l:List Pr):Prop:=
 (l= []∧s.p c=none∧s.k c=none)∨(∃p,l= [p]∧s.p c=some p∧s.k c=none)∨(2≤l.length∧s.p c=none∧∃kb,s.k c=some (some ⟨kb,0,none⟩)∧TrieAt W x h m kb l)
theorem SlotIs.upd0{W:Nat→Prop}{x:Hs}{h a:af}{m:Nat}{s:Slots}{c:Nat}{l:List Pr}(k:Upd No h a)(t:SlotIs W x h m s c l):SlotIs W x a m s c l:=t.imp id fun o=>o.imp id fun⟨d,b,i,g,f⟩=>⟨d,b,i,g,TrieAt.upd0 k f⟩
theorem N8(p:Pr):∀{l:List Pr},l.length≤(iV p l).length
 | []=>bj _
 |q::l=>by
  rw[iv];split
  ·have:=N8 p (l:=l);simp only[aH];omega
  ·split<;>simp
theorem jq{a b:ByteArray}:(a.toList==b.toList)=decide (a=b):=by
 rw[pf,beq_iff_eq,decide_eq_true_iff,Ey]
end Go.Proofs
namespace Go.Proofs
open Go.Lift
theorem Nf{W:Nat→Prop}{x:Hs}{h:af}{m b:Nat}(a:NodeAt W h b ⟨fun _=>none,fun _=>none⟩):TrieAt W x h (m+1) b []:=⟨_,a,fun _ _=>.inl ⟨rfl,rfl,rfl⟩⟩
def RootAt(W:Nat→Prop)(x:Hs)(h:af)(r:Option Addr)(l:List Pr):Prop:=(r=none∧l= [])∨∃b,r=some ⟨b,0,none⟩∧TrieAt W x h 13 b l
theorem RootAt.upd0{W:Nat→Prop}{x:Hs}{h a:af}{r:Option Addr}{l:List Pr}(k:Upd No h a)(t:RootAt W x h r l):RootAt W x a r l:=t.imp id fun⟨b,e,t⟩=>⟨b,e,TrieAt.upd0 k t⟩
theorem XO{W:Nat→Prop}{x:Hs}{h:af}{r:Option Addr}{l:List Pr}(t:RootAt W x h r l)(g:∀y,W y→y<h.size){K:Option Addr→af→Prop}(c:∀a b,TrieAt W x a 13 b l→Upd No h a→(r=some ⟨b,0,none⟩∨r=none)→K (some ⟨b,0,none⟩) a):HC PG kI [.pointer r] [.c .ptr] K h:=by
 refine DB r ?_;unfold yc;rcases t with⟨rfl,rfl⟩|⟨b,rfl,t⟩
 ·refine aA.2 (AP ?_)
  unfold wz;exact tD g fun a b d f=>c a b (Nf d) f (.inr rfl)
 ·exact aj.2 (c h b t (Upd.refl _ _) (.inl rfl))
theorem cW{h:af}{b:Nat}{t:TypeId}{c vs:List Value}(a:h[b]? =some (.cells c.toArray t (0,0))) (f:vs.length=c.length) {k:af→Prop}
  (d:∀h',h'[b]? =some (.cells vs.toArray t (0,0))→Upd (· =b) h h'→k h'):vo h (some ⟨b,0,none⟩) 0 vs∧At (g8 h ⟨b,0,none⟩ 0 vs) k:=by
 have e:=jH vs h 0 0 c a (by omega);refine⟨.inr ⟨_,rfl,fun j g=>by rw[cd];exact jd a (by rw[df];omega)⟩,ce ?_⟩
 rw[e];refine d _ ?_ (Upd.set h _ rfl);rw[jw a];congr 3
 simp[f]
end Go.Proofs
namespace Go.Proofs
open Go.Lift
abbrev pW(b:UInt8):List Value:= [.int .u8 (b.toNat:Int)]
theorem sO(b:UInt8):(pW b).length=1∧0<1:=⟨rfl,Nat.one_pos⟩
theorem CD:∀xs:List UInt8,cH (xs.flatMap pW)=true
 | []=>rfl
 |x::xs=>by rw[ba];exact kA rfl (CD xs)
theorem vn(s:ByteArray):eC s=s.data.toList.flatMap pW:=by
 unfold eC;generalize s.data.toList=l;induction l with
 |nil=>rfl
 |cons b l ih=>rw[List.map_cons,ba,ih];rfl
theorem wQ{M:Nat→Prop}{h:af}{c:SliceV}{out:List UInt8}{v:Int}{b:UInt8}(hv:v=(b.toNat:Int)){K:SliceV→af→Prop}(j:OwnS pW 1 cK M h c out)(hM:∀b,h.size≤b→M b)(m:out.length+1≤140737488355328)
  (g:∀s' a,OwnS pW 1 cK M a s' (out++ [b])→Upd M h a→K s' a):
  ∃xs,SRow (hnew h [.int .u8 v] cK) (some (aI h)) (1*1) xs∧AppP (some [.int .u8 0]) 1 1 cK c.a c.len c.cap 1 xs (hnew h [.int .u8 v] cK) K:=by
 subst hv;have k:=Upd.hnew No h [.int .u8 (b.toNat:Int)] cK;have i:OwnS pW 1 cK (fun _=>True) (hnew h [.int .u8 (b.toNat:Int)] cK) ⟨some (aI h),1,1⟩ [b]:=⟨rfl,sO,ao _,.inr ⟨h.size,[],rfl,trivial,dq ..,rfl⟩⟩
 refine⟨_,(i.sl (W:=No) fun _ _ _ h=>h).srow,?_⟩
 refine AppP.own (ys:= [b]) (j.upd k fun _ _ h=>h) rfl rfl rfl rfl (by omega) (by simp only[aF];omega) (hM _ (by rw[ki];omega)) fun s' a d f=>?_
 exact g s' a d ((Upd.hnew M h _ _).tr f)
def np(n k:Nat):List UInt8:=(List.range k).map fun i=>gF (n>>>(8*i))
theorem zY(n k:Nat):np n (k+1)=np n k++ [gF (n>>>(8*k))]:=by unfold np;rw[ie,List.map_append];rfl
theorem dM(n k:Nat):(np n k).length=k:=by simp[np]
theorem Qb{M:Nat→Prop}{h:af}{s:SliceV}{xs:List UInt8}(A:OwnS pW 1 cK M h s xs)(hM:∀b,h.size≤b→M b){n k:Nat}(E:n<18446744073709551616)(v:k≤8)(C:xs.length+k≤140737488355328){K:SliceV→af→Prop}
  (z:∀s' d,OwnS pW 1 cK M d s' (xs++np n k)→Upd M h d→K s' d):HC PG ny [.slice s.a s.len s.cap,.int .u64 n,.int .i64 k] [.c .slice] K h:=by
 refine FA s n k ?_;unfold zE;refine LoopP.ghost (fun(i:Nat) (t:SliceV×Int) d=>t.2=(i:Int)∧i≤k∧OwnS pW 1 cK M d t.1 (xs++np n i)∧Upd M h d) (fun i=>k-i) 0 ⟨rfl,bj _,by simpa[np]using A,Upd.refl _ _⟩ ?_
 rintro I i ⟨B,ti⟩ d ⟨p,hi,c,f⟩ q;simp only at p c;subst p;refine aM (fun a=>?_) fun m=>?_
 ·have a:i<k:=by have:(i:Int)<(k:Int):=a;omega
  have u:IntKind.wrap .i64 (8*(i:Int))=((8*i:Nat):Int):=by rw[jj (by omega)];omega
  have w:min (((8*i:Nat):Int)).toNat (IntKind.bits .u64)=8*i:=by rw[aX];exact bP (by show 8*i≤64;omega)
  refine Join.plain ?_;simp only[Bd];rw[u,w,nx];refine⟨by omega,ce ?_⟩;refine wQ (b:=gF (n>>>(8*i))) ?_ c (fun b y=>hM b (bv f.size y)) (by rw[ad,dM];omega) fun s2 D g o=>?_
  ·rw[IntKind.wrap_u8];simp
  ·rw[cO a (by omega)]
   refine q (i+1) _ _ ⟨rfl,a,?_,f.tr o⟩ (by omega);rw[zY,←az];exact g
 ·have j:i=k:=by have:¬(i:Int)<(k:Int):=m;omega
  subst j;exact z _ _ c f
end Go.Proofs
namespace Go.Proofs
open Go Go.Lift
theorem OE{α:Type}{f:α→List Value}{sz a:Nat}{t:TypeId}{W:Nat→Prop}{h:af}{d:Option Addr}{sl q k:Nat}{xs ys:List α}{g z:List Value}{K:SliceV→af→Prop}
  (p:Sl f sz W h ⟨d,sl,q⟩ xs)(m:k=ys.length)(n:g=ys.flatMap f)(hz:z.length=sz)(s:0<a)(j:q<sl+k)(i:(xs.length+ys.length)*a≤140737488355328)
  (w:∀s' h',OwnS f sz t (fun b=>h.size≤b) h' s' (xs++ys)→Upd No h h'→K s' h'):AppP (some z) sz a t d sl q k g h K:=by
 have c:sl=xs.length:=p.len;subst m n;refine⟨fun v=>by omega,fun _=>?_⟩
 refine⟨xs.flatMap f,z,p.srow,rfl,s,Go.growslice_fits j (by rw[c];exact i),fun u o=>?_⟩
 refine w _ _ ⟨by simp[c],p.ne,o,.inr ⟨h.size,eh (u-(sl+ys.length)) z,rfl,ao _,?_,?_⟩⟩ (Upd.hnew No h _ _)
 ·rw[dq,bN]
 ·rw[mX,hz]
theorem Yj{h:af}{s:SliceV}{xs:List UInt8}(D:Sl pW 1 No h s xs)(hc:s.cap=s.len){n k:Nat}(B:k≤8)(w:0<k)(G:xs.length+k≤140737488355328){K:SliceV→af→Prop}
  (E:∀s' d,OwnS pW 1 cK (fun b=>h.size≤b) d s' (xs++np n k)→Upd No h d→K s' d):HC PG ny [.slice s.a s.len s.cap,.int .u64 n,.int .i64 k] [.c .slice] K h:=by
 refine FA s n k ?_;unfold zE;refine LoopP.ghost (fun(i:Nat) (t:SliceV×Int) d=>t.2=(i:Int)∧i≤k∧((i=0∧t.1=s∧d=h)∨OwnS pW 1 cK (fun b=>h.size≤b) d t.1 (xs++np n i))∧Upd No h d) (fun i=>k-i) 0 ⟨rfl,bj _,.inl ⟨rfl,rfl,rfl⟩,Upd.refl _ _⟩ ?_
 rintro I i ⟨F,ti⟩ d ⟨v,hi,a,m⟩ q;simp only at v a;subst v;refine aM (fun c=>?_) fun p=>?_
 ·have c:i<k:=by have:(i:Int)<(k:Int):=c;omega
  have A:IntKind.wrap .i64 (8*(i:Int))=((8*i:Nat):Int):=by rw[jj (by omega)];omega
  have C:min (((8*i:Nat):Int)).toNat (IntKind.bits .u64)=8*i:=by rw[aX];exact bP (by show 8*i≤64;omega)
  refine Join.plain ?_;simp only[Bd];rw[A,C,nx];refine⟨by omega,ce ?_⟩;have u:IntKind.wrap .u8 ((n>>>(8*i):Nat):Int)=((gF (n>>>(8*i))).toNat:Int):=by rw[IntKind.wrap_u8];simp
  rcases a with⟨rfl,rfl,rfl⟩|a
  ·rw[u]
   have k1:=Upd.hnew No d [.int .u8 ((gF (n>>>(8*0))).toNat:Int)] cK;have z:OwnS pW 1 cK (fun _=>True) (hnew d [.int .u8 ((gF (n>>>(8*0))).toNat:Int)] cK) ⟨some (aI d),1,1⟩ [gF (n>>>(8*0))]:=⟨rfl,sO,ao _,.inr ⟨d.size,[],rfl,trivial,dq ..,rfl⟩⟩
   refine⟨_,(z.sl (W:=No) fun _ _ _ h=>h).srow,?_⟩
   refine OE (ys:= [gF (n>>>(8*0))]) (D.upd k1 fun _ h=>h.elim) rfl rfl rfl (by omega) (by omega) (by simp only[aF];omega) fun s2 y f g=>?_
   rw[cO c (by omega)];refine q 1 _ _ ⟨rfl,c,.inr ?_,k1.tr g⟩ (by omega);exact f.more fun b j=>bv k1.size j
  ·refine wQ u a (fun b j=>bv m.size j) (by rw[ad,dM];omega) fun s2 y f g=>?_
   rw[cO c (by omega)];refine q (i+1) _ _ ⟨rfl,c,.inr ?_,m.trans g fun b j=>.inr j⟩ (by omega)
   rw[zY,←az];exact f
 ·have o:i=k:=by have:¬(i:Int)<(k:Int):=p;omega
  subst o;rcases a with⟨e,_⟩|a
  ·omega
  ·exact E _ _ a m
def oH(s:ByteArray):List UInt8:=np s.size 2++s.data.toList
theorem Gg{W:Nat→Prop}{h:af}{s:SliceV}{xs:List UInt8}(o:Sl pW 1 W h s xs)(hc:s.len≤s.cap)(b:ByteArray)(u:b.size≤1000000)(v:xs.length+2+b.size≤140737488355328){K:SliceV→af→Prop}
  (p:∀s' h',OwnS pW 1 cK (fun x=>h.size≤x) h' s' (xs++oH b)→Upd No h h'→K s' h'):HC PG nT [.slice s.a s.len s.cap,.string b] [.c .slice] K h:=by
 refine ME s b ?_;unfold DD;have j:=o.len;refine⟨by omega,by omega,?_⟩
 simp only[aX];have f:Sl pW 1 No h ⟨bq s.a 0 s.len 1,s.len-0,s.len-0⟩ xs:=by
  have:=Sl.sub (o.less (W':=No) fun _ h=>h.elim) (l:=0) (hi:=s.len) (m:=s.len) (c:=s.len-0) (bj _) (by omega) (ao _)
  rw[List.drop_zero,bJ (by omega)]at this;exact this
 have ew:IntKind.wrap .u64 (b.size:Int)=(b.size:Int):=Go.IntWalk.u64_in _ (by omega);rw[ew];refine Yj f rfl (n:=b.size) (k:=2) (by omega) (by omega) (by omega) fun s2 w d a=>?_
 refine AppP.own (ys:=b.data.toList) d (by simp) (vn b) (by rw[vn];exact CD _) rfl (by omega) ?_ a.size fun s3 q i g=>?_
 ·simp only[ad,dM]
  have:b.data.toList.length=b.size:=by simp
  omega
 ·refine p s3 q ?_ (a.trans g fun x hx=>.inr hx)
  rw[oH,←az];exact i
end Go.Proofs
namespace Go.Proofs
open Go Go.Lift
def Ff(p:Pr):List UInt8:=oH p.1++oH p.2
def lj(l:List Pr):List UInt8:=l.flatMap Ff
theorem jG(b:ByteArray):(oH b).length=2+b.size:=by simp[oH,dM]
def Fit(l:List Pr):Prop:=∀p∈l,p.1.size≤10000∧p.2.size≤10000
theorem TH{p:Pr}(h:p.1.size≤10000∧p.2.size≤10000):(Ff p).length≤20004:=by
 unfold Ff;rw[ad,jG,jG];omega
theorem nh:∀{l:List Pr},Fit l→(lj l).length≤l.length*20004
 | [],_=>by simp[lj]
 |p::l,h=>by
  have c:=TH (h p (aC ..));have b:=nh (l:=l) fun q a=>h q (aV _ a)
  unfold lj at*;rw[ba,ad,aH];omega
theorem Fe{l:List Pr}{i:Nat}(hi:i<l.length):lj (l.take (i+1))=lj (l.take i)++Ff l[i]:=by
 unfold lj;rw[List.take_succ_eq_append_getElem hi,bN,ba,List.flatMap_nil,bB]
theorem GZ{M W:Nat→Prop}{h:af}{s sp:SliceV}{xs:List UInt8}{l:List Pr}(V:OwnS pW 1 cK M h s xs)(hM:∀b,h.size≤b→M b)(E:Sl fe 2 W h sp l)(O:∀x,M x→x<h.size→W x)(H:Fit l)(hn:l.length≤1000000)(Y:xs.length+l.length*20004≤140737488355328){K:SliceV→af→Prop}
  (Q:∀s' d,OwnS pW 1 cK M d s' (xs++lj l)→Upd M h d→K s' d):HC PG rJ [.slice s.a s.len s.cap,.slice sp.a sp.len sp.cap] [.c .slice] K h:=by
 refine Jv s sp ?_;unfold AU cS bo aD nv Cl jm lf;have D:=E.len;have y:∀b,M b→W b∨h.size≤b:=fun b z=>by
  rcases bO b h.size with hx|hx
  ·exact .inl (O b z hx)
  ·exact .inr hx
 refine LoopP.ghost (fun(i:Nat) (t:SliceV×Int) d=>t.2=(i:Int)∧i≤l.length∧OwnS pW 1 cK M d t.1 (xs++lj (l.take i))∧Upd M h d) (fun i=>l.length-i) 0 ⟨rfl,bj _,by simpa[lj]using V,Upd.refl _ _⟩ ?_
 rintro I i ⟨X,ti⟩ d ⟨G,hi,g,o⟩ L;simp only at G g;subst G;refine aM (fun c=>?_) fun A=>?_
 ·have c:i<l.length:=by have:(i:Int)<(sp.len:Int):=c;omega
  obtain⟨a,P,_,hv⟩:=(E.upd o y).at (ag c);have N:=H l[i] (aY c);have w:=nh (l:=l.take i) fun q R=>H q (List.mem_of_mem_take R)
  rw[aP,bP hi]at w;have k1:=Upd.hnew No d [.string (⟨#[]⟩:ByteArray),.string (⟨#[]⟩:ByteArray)] ay;have b1:=dq d [.string (⟨#[]⟩:ByteArray),.string (⟨#[]⟩:ByteArray)] ay;refine⟨by simp only;omega,a,P,l[i].1,hv 0 _ rfl,l[i].2,hv 1 _ rfl,ce ?_⟩;simp only[fX d];generalize hnew d [.string (⟨#[]⟩:ByteArray),.string (⟨#[]⟩:ByteArray)] ay=h1 at k1 b1
  have B:h1[d.size]? =some (.cells #[.string Ln.1,.string Ln.2] ay (0,0)):=b1;refine Fb (p:=l[i]) B fun J b2 C=>?_
  have f:Upd No d J:=k1.trans C fun x hx=>.inr (f6 hx.symm)
  have m:=g.upd f fun _ _ h=>h
  refine⟨l[i].1,by rw[cd,bI b2];rfl,l[i].2,by rw[cd,bI b2];rfl,?_⟩
  have F:i*20004+20004≤l.length*20004:=by rw[←Nat.succ_mul];exact Nat.mul_le_mul_right _ c
  refine Gg (W:=No) (m.sl fun _ _ _ h=>h) m.cap l[i].1 (by omega) (by rw[ad];omega) fun s3 Z k j=>⟨by rw[cd,bI (j.get0 b2)];rfl,?_⟩
  refine Gg (W:=No) (k.sl fun _ _ _ h=>h) k.cap l[i].2 (by omega) (by rw[ad,ad,jG];omega) fun s4 S v u=>?_
  have n:Upd M h S:=o.tr ((f.tr (j.tr u)).wide);rw[cO c (by omega)];refine L (i+1) _ _ ⟨rfl,c,?_,n⟩ (by omega);rw[Fe c,Ff,←az,←az];exact v.more fun b z=>hM b (bv (o.tr ((f.tr j).wide)).size z)
 ·have T:i=l.length:=by have:¬(i:Int)<(sp.len:Int):=A;omega
  rw[bJ (by omega)]at g;exact Q _ _ g o
end Go.Proofs
namespace Go.Proofs
open Go Go.Lift
def jU(q:Nat→Bool):Nat→Nat
 |0=>0
 |n+1=>jU q n+(if q n then 2^n else 0)
theorem nB(q:Nat→Bool):∀n,jU q n<2^n
 |0=>by simp[jU]
 |n+1=>by
  have:=nB q n;unfold jU;rw[oq];split<;>omega
theorem EA(q:Nat→Bool)(c:Nat):∀n,(jU q n).testBit c=(decide (c<n)&&q c)
 |0=>by simp[jU]
 |n+1=>by
  have b:=nB q n;have d:=EA q c n;unfold jU;by_cases a:q n=true
  ·rw[if_pos a,Nat.add_comm]
   rcases Nat.lt_trichotomy c n with h|h|h
   ·rw[Nat.testBit_two_pow_add_gt h,d,decide_eq_true h,decide_eq_true (by omega)]
   ·subst h
    rw[Nat.testBit_two_pow_add_eq,gU b,decide_eq_true (by omega),a];rfl
   ·have f:2^n+jU q n<2^c:=bG (by rw[oq];omega:2^n+jU q n<2^(n+1)) (fM (by omega) h)
    rw[gU f,decide_eq_false (by omega)];rfl
  ·rw[if_neg a,dd,d]
   by_cases h:c<n
   ·rw[decide_eq_true h,decide_eq_true (by omega)]
   ·by_cases e:c=n
    ·subst e;have:q c=false:=by simpa using a
     rw[this];simp
    ·rw[decide_eq_false h,decide_eq_false (by omega)]
theorem K8{d:Nat}{q:Nat→Bool}(hd:d<4294967296)(h:∀c,c<32→d.testBit c=q c):d=jU q 32:=by
 refine Nat.eq_of_testBit_eq fun c=>?_
 rw[EA];by_cases hc:c<32
 ·rw[h c hc,decide_eq_true hc];rfl
 ·rw[decide_eq_false hc,gU (bG hd (fM (n:=2) (by omega) (show 32≤c by omega)))];rfl
end Go.Proofs
namespace Go.Proofs
open Go Go.Lift
def il(l:List Pr):Option Pr:=match l with| [p]=>some p|_=>none
def fu(l:List Pr):Option (List Pr):=if 2≤l.length then some l else none
def gi(x:Hs)(lev:Nat)(l:List Pr):List Pr:=fm (fun c=>il (part x lev c l)) 32
def jn(x:Hs)(lev:Nat)(l:List Pr):List (List Pr):=fm (fun c=>fu (part x lev c l)) 32
def fW(x:Hs):Nat→List Pr→List UInt8
 |0,l=>1::(np l.length 2++lj l)
 |m+1,l=>0::(np (jU (fun c=>(il (part x (12-m) c l)).isSome) 32) 4++(np (jU (fun c=>(fu (part x (12-m) c l)).isSome) 32) 4++(lj (gi x (12-m) l)++(jn x (12-m) l).flatMap (fW x m))))
theorem GX{W:Nat→Prop}{x:Hs}{h:af}{m:Nat}{s:Slots}{c:Nat}{l:List Pr}(t:SlotIs W x h m s c l):s.p c=il l∧(s.k c).isSome=(fu l).isSome:=by
 rcases t with⟨rfl,f,d⟩|⟨p,rfl,f,d⟩|⟨g,f,i,d,_⟩
 ·rw[f,d];exact⟨rfl,rfl⟩
 ·rw[f,d];exact⟨rfl,rfl⟩
 ·rw[f,d]
  refine⟨?_,by simp[fu,g]⟩
  match l,g with
  |a::b::l,_=>rfl
def KidsAt(W:Nat→Prop)(x:Hs)(h:af)(m:Nat):List (Option Addr)→List (List Pr)→Prop
 | [],[]=>True
 |k::ks,l::ls=>(∃kb,k=some ⟨kb,0,none⟩∧TrieAt W x h m kb l)∧KidsAt W x h m ks ls
 |_,_=>False
theorem KidsAt.app{W:Nat→Prop}{x:Hs}{h:af}{m:Nat}:∀{ks ks':List (Option Addr)} {ls ls':List (List Pr)},KidsAt W x h m ks ls→KidsAt W x h m ks' ls'→KidsAt W x h m (ks++ks') (ls++ls')
 | [],_,[],_,_,q=>q
 |_::_,_,_::_,_,q,q'=>⟨q.1,KidsAt.app q.2 q'⟩
 | [],_,_::_,_,q,_=>q.elim
 |_::_,_,[],_,q,_=>q.elim
theorem gP{β:Type}(g:Nat→Option β)(n:Nat):fm g (n+1)=fm g n++(g n).toList:=by
 unfold fm;rw[ie,List.filterMap_append];cases h:g n<;>simp[h]
theorem L5{W:Nat→Prop}{x:Hs}{h:af}{m lev:Nat}{s:Slots}{l:List Pr}:∀n,(∀c,c<n→SlotIs W x h m s c (part x lev c l))→KidsAt W x h m (fm s.k n) (fm (fun c=>fu (part x lev c l)) n)
 |0,_=>trivial
 |n+1,hs=>by
  rw[gP,gP];refine KidsAt.app (L5 n fun c hc=>hs c (by omega)) ?_
  rcases hs n (by omega)with⟨b,_,a⟩|⟨p,b,_,a⟩|⟨b,_,f,a,d⟩
  ·rw[a,b];exact trivial
  ·rw[a,b];exact trivial
  ·rw[a]
   have:fu (part x lev n l)=some (part x lev n l):=by unfold fu;rw[if_pos b]
   simp only[this];exact⟨⟨f,rfl,d⟩,trivial⟩
theorem Cu{W:Nat→Prop}{x:Hs}{h:af}{m lev:Nat}{s:Slots}{l:List Pr}(a:∀c,c<32→SlotIs W x h m s c (part x lev c l)):fm s.p 32=gi x lev l:=
 aa3 _ fun c hc=>(GX (a c (List.mem_range.1 hc))).1
end Go.Proofs
