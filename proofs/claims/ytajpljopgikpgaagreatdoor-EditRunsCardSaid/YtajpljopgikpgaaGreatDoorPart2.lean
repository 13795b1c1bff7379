/- A part of the proof that the named laws of this program answer true, whatever the input. -/
import Derived.Test.YtajpljopgikpgaaGreatDoorPart1
open BitVec renaming ofInt→ah
open Bool renaming eq_iff_iff→mO
open Int renaming toNat_natCast→aH
open List renaming length_take→aI,flatMap_cons→aX,flatMap_append→bA,length_append→ae,size_toArray→cP,append_assoc→ar,drop_left'→cq,getElem?_eq_getElem→af,getElem_mem→aP,pairwise_cons→bq,mem_cons→au,mem_cons_self→az,mem_cons_of_mem→aR,filter_cons→cC,mem_filter→gR,append_eq_nil_iff→fW,mem_singleton→aq,append_nil→bP,append_cancel_left→ez,length→ga,getElem_of_mem→cB,take_append_drop→aV,pairwise_append→db,mem_of_getElem→ml,pairwise_iff_getElem→cI,take_succ_cons→dw,length_cons→aN,drop_succ_cons→ja,any_eq_true→ci,length_singleton→aK,range_succ→f9,take_of_length_le→bB
open Nat renaming zero_add→aE,min_eq_left→bm,add_zero→cZ,le_of_eq→g5,le_refl→ao,mod_lt→na,lt_or_ge→bH,zero_le→aU,le_trans→ba,pow_succ→lY,testBit_lt_two_pow→fV,lt_of_lt_of_le→bR,pow_le_pow_right→eI
open Option renaming isSome_iff_exists→dI,some→bv
open UInt8 renaming toNat_inj→km,ofNat→fH
namespace Go.Proofs
open Go.Lift
theorem sI{β:Type}{g:Nat→Option β}{i:Nat}(h:g i=none):upd g i none=g:=by
 funext j;unfold upd;split
 ·rename_i e;rw[e,h]
 ·rfl
theorem dT{h:ad}{b:Nat}{c:Array Value}{t:TypeId}{i:Nat}(a:h[b]? =some (.cells c t (0,0))):aM h ⟨b,0+i,none⟩=c[i]?:=by rw[aE];exact bj a
theorem Qh{h:ad}{b:Nat}{c:Array Value}{t:TypeId}{i:Nat}(a:h[b]? =some (.cells c t (0,0))) (hi:i<c.size):Wr h ⟨b,0+i,none⟩:=by rw[aE];exact ia a hi
theorem Ee{h:ad}{b:Nat}{c c':Array Value}{t:TypeId}{i:Nat}{v:Value}{k:ad→Prop}(j:h[b]? =some (.cells c t (0,0))) (e:c.setIfInBounds i v=c')
 (g:∀a,a[b]? =some (.cells c' t (0,0))→Upd (· =b) h a→k a):At (hset h ⟨b,i,none⟩ v) k:=ui j fun a d f=>g a (e▸d) f
theorem GD{M:Nat→Prop}{h:ad}{b d n:Nat}{sp sk:SliceV}{s:Slots}{ow:Option Addr}(o:OwnN M h b d n sp sk s ow){i:Nat}(hi:i<32){K:Unit→ad→Prop}
  (X:∀q E G sp' sk',OwnN M q b E G sp' sk' ⟨upd s.p i none,upd s.k i none⟩ ow→Upd M h q→K () q):HC PG iJ [.pointer (some ⟨b,0,none⟩),.int .i64 i] [] K h:=by
 obtain⟨A,B,Z,W,a,m⟩:=o.ex;have bits:=o.bits;refine zg _ i ?_;unfold rL bD cV Hm gF mQ;have ew:∀k:Nat,k≤100→IntKind.wrap .i64 ((k:Int)+1)=((k+1:Nat):Int):=fun k X=>by rw[oq (by omega)];omega
 have hc1:=xJ i d;have hc2:=xJ i n;have J:∀x,A x→M x∨h.size≤x:=fun x hx=>.inl (a x hx).1
 refine Join.intro (fun _ q=>∃sp',q[b]? =some (.cells (fy d n sp' sk false ow) bK (0,0))∧OwnS fP 2 aw A q sp' (fm (upd s.p i none) 32)∧OwnS px 1 bG B q sk (fm s.k 32)∧Upd M h q) (fun R w=>?_) ?_
 ·refine⟨_,rfl,_,dT (i:=0) o.blk,Ai bits.d32 hi ?_⟩
  rw[bits.dp i hi];cases hp:s.p i with
  |none=>exact aj.2 (w _ _ ⟨sp,o.blk,by rw[sI hp];exact Z,W,Upd.refl _ _⟩)
  |some y=>
   refine aA.2 ⟨_,rfl,_,dT (i:=0) o.blk,oX bits.d32 hi ⟨_,rfl,sp,dT (i:=2) o.blk,?_⟩⟩;rw[ew _ (by omega)];refine KH Z (Fq hi bits.dp hp) (by have:=vi (g:=s.p);omega) fun s2 V u f=>?_
   rw[←O9 hi bits.dp hp]at u;have b2:=f.get o.blk fun O=>(a b O).2.2.1 rfl
   refine⟨_,rfl,Qh (i:=2) b2 (show 2<6 by decide),Ee (i:=2) (c':=fy d n s2 sk false ow) b2 rfl fun Y b3 j=>?_⟩
   refine w _ _ ⟨s2,b3,u.upd j fun x hx e=>(a x hx).2.2.1 e,(W.upd f fun x hx S=>(a x S).2.1 hx).upd j fun x hx e=>(m x hx).2.1 e,(f.mono J).tr (j.mono fun x e=>.inl (e▸o.mb))⟩
 rintro _ h1 ⟨t,b1,F,D,C⟩;refine Join.intro (fun _ q=>∃sk',q[b]? =some (.cells (fy d n t sk' false ow) bK (0,0))∧OwnS fP 2 aw A q t (fm (upd s.p i none) 32)∧OwnS px 1 bG B q sk' (fm (upd s.k i none) 32)∧Upd M h1 q) (fun R w=>?_) ?_
 ·refine⟨_,rfl,_,dT (i:=1) b1,Ai bits.n32 hi ?_⟩
  rw[bits.nk i hi];cases hp:s.k i with
  |none=>exact aj.2 (w _ _ ⟨sk,b1,F,by rw[sI hp];exact D,Upd.refl _ _⟩)
  |some y=>
   refine aA.2 ⟨_,rfl,_,dT (i:=1) b1,oX bits.n32 hi ⟨_,rfl,sk,dT (i:=3) b1,?_⟩⟩;rw[ew _ (by omega)];refine KI D (Fq hi bits.nk hp) (by have:=vi (g:=s.k);omega) fun s2 V u f=>?_
   rw[←O9 hi bits.nk hp]at u;have b2:=f.get b1 fun O=>(m b O).2.1 rfl
   refine⟨_,rfl,Qh (i:=3) b2 (show 3<6 by decide),Ee (i:=3) (c':=fy d n t s2 false ow) b2 rfl fun Y b3 j=>?_⟩
   refine w _ _ ⟨s2,b3,(F.upd f fun x hx S=>(a x hx).2.1 S).upd j fun x hx e=>(a x hx).2.2.1 e,u.upd j fun x hx e=>(m x hx).2.1 e,(f.mono fun x hx=>.inl (m x hx).1).tr (j.mono fun x e=>.inl (e▸o.mb))⟩
 rintro _ V ⟨v,b2,T,Q,f⟩;refine⟨_,rfl,_,dT (i:=0) b2,_,rfl,_,dT (i:=1) b2,?_⟩;refine Cf bits.d32 hi fun E L N=>⟨dT (i:=1) b2,?_⟩
 refine Cf bits.n32 hi fun G I H=>?_
 refine⟨_,rfl,Qh (i:=0) b2 (show 0<6 by decide),Ee (i:=0) (c':=fy E n t v false ow) b2 rfl fun Y b3 j=>?_⟩
 refine⟨_,rfl,Qh (i:=1) b3 (show 1<6 by decide),Ee (i:=1) (c':=fy E G t v false ow) b3 rfl fun h4 b4 P=>?_⟩
 have p:=j.tr P;have z:=(C.tr (f.tr (p.mono (M':=M) fun x e=>.inl (e▸o.mb)))).size
 refine X h4 E G t v ⟨b4,⟨L,I,fun c hc=>?_,fun c hc=>?_⟩,⟨A,B,T.upd p fun x hx e=>(a x hx).2.2.1 e,Q.upd p fun x hx e=>(m x hx).2.1 e,fun x hx=>⟨(a x hx).1,(a x hx).2.1,(a x hx).2.2.1,by have:=(a x hx).2.2.2;omega⟩,fun x hx=>⟨(m x hx).1,(m x hx).2.1,by have:=(m x hx).2.2;omega⟩⟩,o.mb⟩ (C.tr (f.tr (p.mono fun x e=>.inl (e▸o.mb))))
 ·rw[N,bits.dp c hc];simp only[upd];split<;>simp[*]
 ·rw[H,bits.nk c hc];simp only[upd];split<;>simp[*]
end Go.Proofs
namespace Go.Proofs
open Go.Lift
theorem OwnS.setAt{α:Type}{f:α→List Value}{c:Nat}{t:TypeId}{M:Nat→Prop}{h:ad}{s:SliceV}{xs:List α}(m:OwnS f c t M h s xs){k:Nat}(o:k<xs.length)(x:α):
  ∃a,s.a=some a∧M a.block∧sS h (some (adr a (k*c))) 0 (f x)∧OwnS f c t M (gT h (adr a (k*c)) 0 (f x)) s (xs.take k++x::xs.drop (k+1))∧Upd (· =a.block) h (gT h (adr a (k*c)) 0 (f x)):=by
 have i:∀x,(f x).length=c∧0<c:=m.ne;have w:=m.len;have g:=m.cap;rcases m.blk with F|⟨b,e,q,v,hc,z⟩
 ·omega
 have n:((xs.take k).flatMap f).length=k*c:=by rw[jR i,aI,bm (by omega)]
 have y:xs.flatMap f=(xs.take k).flatMap f++(f xs[k]++(xs.drop (k+1)).flatMap f):=by
  rw[←aX,←List.drop_eq_getElem_cons o];exact xI xs k
 rw[y]at hc;have C:=(i xs[k]).1;have D:=(i x).1;have d:(xs.take k++x::xs.drop (k+1)).flatMap f=(xs.take k).flatMap f++(f x++(xs.drop (k+1)).flatMap f):=by rw[bA,aX]
 generalize (xs.take k).flatMap f=A at n hc d;generalize (xs.drop (k+1)).flatMap f=B at hc d;generalize f xs[k]=X at C hc;have u:k*c+0+(f x).length≤(A++(X++B)++e).length:=by simp only[ae];omega
 have p:adr ⟨b,0,none⟩ (k*c)=⟨b,k*c,none⟩:=by rw[bL,aE]
 refine⟨⟨b,0,none⟩,q,v,?_,?_,?_⟩
 ·rw[p]
  refine .inr ⟨_,rfl,fun j E=>?_⟩
  rw[bL];exact ia hc (by rw[cP];omega)
 ·rw[p,iB (f x) h 0 (k*c) _ hc u]
  refine⟨by simp;omega,i,g,.inr ⟨b,e,q,v,?_,?_⟩⟩
  ·rw[jL hc,d]
   congr 3
   rw[cZ,ar A,List.take_left' n,←List.drop_drop,cq n,ar X,cq (by omega)];simp only[ar]
  ·exact z
 ·rw[p,iB (f x) h 0 (k*c) _ hc u]
  exact Upd.set h _ rfl
theorem OwnN.node{M W:Nat→Prop}{h:ad}{b d n:Nat}{sp sk:SliceV}{s:Slots}{ow:Option Addr}(o:OwnN M h b d n sp sk s ow)(a:∀x,M x→¬W x)(c:OwOk W h ow:=by exact kz):NodeAt W h b s:=by
 obtain⟨A,B,e,f,i,g⟩:=o.ex;exact⟨⟨d,n,sp,sk,ow,o.blk,o.bits,e.sl fun x hx _=>a _ (i x hx).1,f.sl fun x hx _=>a _ (g x hx).1,e.cap,f.cap,c⟩,a _ o.mb⟩
theorem C2{W:Nat→Prop}{h:ad}{b:Nat}{s:Slots}(e:NodeAt W h b s){i:Nat}(hi:i<32){K:Bool→ad→Prop}(c:K true h):HC PG iK [.pointer (some ⟨b,0,none⟩),.int .i64 i] [.c .bool] K h:=by
 obtain⟨d,n,sp,sk,ow,a,_⟩:=e.ex;refine zh _ i ?_;unfold rM ie;refine aA.2 ⟨_,rfl,_,dT (i:=4) a,aA.2 ?_⟩;refine aG (fun _=>?_) fun h=>absurd (Int.natCast_nonneg i) h
 rw[decide_eq_true (by omega)];exact c
theorem LH{β:Type}{g:Nat→Option β}{i:Nat}{x y:Option β}:upd (upd g i x) i y=upd g i y:=by
 funext j;unfold upd;split<;>rfl
theorem gg{β:Type}{g:Nat→Option β}{i:Nat}{x:Option β}:upd g i x i=x:=by simp[upd]
end Go.Proofs
namespace Go.Proofs
open Go.Lift
end Go.Proofs
namespace Go.Proofs
open Go.Lift
theorem GE{h:ad}{b d n:Nat}{sp sk:SliceV}{c:Bool}{ow:Option Addr}(a:h[b]? =some (.cells (fy d n sp sk c ow) bK (0,0))) {K:Int→ad→Prop} (e:K (d:Int) h):HC PG jl [.pointer (some ⟨b,0,none⟩)] [.c (.int .u32)] K h:=by
 refine AM _ ?_;unfold tx gF;exact aj.2 ⟨_,rfl,_,dT (i:=0) a,e⟩
theorem yA{h:ad}{b d n:Nat}{sp sk:SliceV}{c:Bool}{ow:Option Addr}(a:h[b]? =some (.cells (fy d n sp sk c ow) bK (0,0))) {K:Int→ad→Prop} (e:K (n:Int) h):HC PG fT [.pointer (some ⟨b,0,none⟩)] [.c (.int .u32)] K h:=by
 refine zk _ ?_;unfold rP gF;exact aj.2 ⟨_,rfl,_,dT (i:=1) a,e⟩
theorem g7{h:ad}{b d n:Nat}{sp sk:SliceV}{a:Bool}{ow:Option Addr}(c:h[b]? =some (.cells (fy d n sp sk a ow) bK (0,0))) {K:Bool→ad→Prop} (e:K a h):HC PG dU [.pointer (some ⟨b,0,none⟩)] [.c .bool] K h:=by
 refine vC _ ?_;unfold pq ie;exact aA.2 ⟨_,rfl,_,dT (i:=4) c,e⟩
def Aj(o:Option Pr):Pr:=o.getD (⟨#[]⟩,⟨#[]⟩)
theorem A8{h:ad}{b:Nat}{q p:Pr}(a:h[b]? =some (.cells #[.string q.1,.string q.2] aw (0,0))) {k:ad→Prop}
  (d:∀h',h'[b]? =some (.cells #[.string p.1,.string p.2] aw (0,0))→Upd (· =b) h h'→k h'):sS h (some ⟨b,0,none⟩) 0 [.string p.1,.string p.2]∧At (gT h ⟨b,0,none⟩ 0 [.string p.1,.string p.2]) k:=by
 have e:=iB [.string p.1,.string p.2] h 0 0 [.string q.1,.string q.2] a (by simp);refine⟨.inr ⟨_,rfl,fun j c=>by rw[bL];exact ia a (by simp at c⊢;omega)⟩,bT ?_⟩
 rw[e];refine d _ ?_ (Upd.set h _ rfl);rw[jL a];rfl
theorem CT{W:Nat→Prop}{h:ad}{b:Nat}{s:Slots}(q:NodeAt W h b s){i:Nat}(hi:i<32){K:Pr×Bool→ad→Prop}(k:∀h',Upd No h h'→K (Aj (s.p i),(s.p i).isSome) h'):
  HC PG jj [.pointer (some ⟨b,0,none⟩),.int .i64 i] [.agg [.str,.str],.c .bool] K h:=by
 refine AI _ i ?_;unfold tl dK bM aB bD eO mo jw gF mQ;obtain⟨d,n,sp,sk,ow,v,bits,g,u,o,w⟩:=q.ex;have k1:=Upd.hnew No h [.string (⟨#[]⟩:ByteArray),.string (⟨#[]⟩:ByteArray)] aw;have b1:=cW h [.string (⟨#[]⟩:ByteArray),.string (⟨#[]⟩:ByteArray)] aw;refine bT ?_;simp only[fR h];generalize hnew h [.string (⟨#[]⟩:ByteArray),.string (⟨#[]⟩:ByteArray)] aw=h1 at k1 b1
 have c:=k1.get0 v;have f:h1[h.size]? =some (.cells #[.string Jj.1,.string Jj.2] aw (0,0)):=b1;refine GE c (Ai bits.d32 hi ?_);rw[bits.dp i hi];cases hp:s.p i with
 |none=>
  rw[hp]at k;refine aA.2 (A8 (p:=Jj) f fun A b2 e=>⟨_,by rw[bL,bj b2];rfl,_,by rw[bL,bj b2];rfl,k _ (k1.trans e fun x hx=>.inr (g5 hx.symm))⟩)
 |some y=>
  rw[hp]at k;refine aj.2 ⟨_,rfl,sp,dT (i:=2) c,_,rfl,_,dT (i:=0) c,oX bits.d32 hi ⟨dT (i:=2) c,?_⟩⟩;have z:=Fq hi bits.dp hp;have j:=g.upd k1 fun _ h=>h.elim
  obtain⟨a,t,_,hv⟩:=j.at (Pa hi bits.dp hp);have m:=g.len;refine⟨by omega,a,t,y.1,hv 0 _ rfl,y.2,hv 1 _ rfl,?_⟩;refine A8 (p:=y) f fun A b2 e=>⟨_,by rw[bL,bj b2];rfl,_,by rw[bL,bj b2];rfl,k _ (k1.trans e fun x hx=>.inr (g5 hx.symm))⟩
theorem Gr{W:Nat→Prop}{h:ad}{b:Nat}{s:Slots}(j:NodeAt W h b s){i:Nat}(hi:i<32){K:Option Addr×Bool→ad→Prop}(e:K ((s.k i).getD none,(s.k i).isSome) h):
  HC PG iC [.pointer (some ⟨b,0,none⟩),.int .i64 i] [.c .ptr,.c .bool] K h:=by
 refine BP _ i ?_;unfold uH bQ dK bD gF mQ;obtain⟨d,n,sp,sk,ow,f,bits,p,c,k,o⟩:=j.ex;refine yA f (Ai bits.n32 hi ?_);rw[bits.nk i hi];cases hp:s.k i with
 |none=>rw[hp]at e;exact aA.2 e
 |some y=>
  rw[hp]at e;refine aj.2 ⟨_,rfl,sk,dT (i:=3) f,_,rfl,_,dT (i:=1) f,oX bits.n32 hi ⟨dT (i:=3) f,?_⟩⟩;have q:=Fq hi bits.nk hp;obtain⟨a,m,_,hv⟩:=c.at (Pa hi bits.nk hp);have g:=c.len;exact⟨by omega,a,m,y,hv 0 _ rfl,e⟩
theorem pf{W:Nat→Prop}{h:ad}{b d n:Nat}{sp sk:SliceV}{a:Bool}{ow:Option Addr}{l:List Pr}(e:h[b]? =some (.cells (fy d n sp sk a ow) bK (0,0))) (f:Sl fP 2 W h sp l) (g:l.length≤1000000000) {K:SliceV→ad→Prop}
  (c:∀s' h',OwnS fP 2 aw (fun x=>h.size≤x) h' s' l→Upd No h h'→K s' h'):HC PG eZ [.pointer (some ⟨b,0,none⟩)] [.c .slice] K h:=by
 refine zi _ ?_;unfold rN bD;exact aj.2 ⟨_,rfl,sp,dT (i:=2) e,Av f (by omega) c⟩
theorem Gu{W:Nat→Prop}{h:ad}{b d n:Nat}{sp sk:SliceV}{a:Bool}{ow:Option Addr}{l:List (Option Addr)}(e:h[b]? =some (.cells (fy d n sp sk a ow) bK (0,0))) (f:Sl px 1 W h sk l) (g:l.length≤1000000000) {K:SliceV→ad→Prop}
  (c:∀s' h',OwnS px 1 bG (fun x=>h.size≤x) h' s' l→Upd No h h'→K s' h'):HC PG lL [.pointer (some ⟨b,0,none⟩)] [.c .slice] K h:=by
 refine AJ _ ?_;unfold tq bD;exact aj.2 ⟨_,rfl,sk,dT (i:=3) e,FB f (by omega) c⟩
structure BuckAt(W:Nat→Prop)(h:ad)(b:Nat)(l:List Pr):Prop where
 ex:∃sp sk ow,h[b]? =some (.cells (fy 0 0 sp sk true ow) bK (0,0))∧Sl fP 2 W h sp l∧Sl px 1 W h sk []∧sp.len≤sp.cap∧sk.len≤sk.cap∧OwOk W h ow
 nw:¬W b
theorem BuckAt.upd{W M:Nat→Prop}{h a:ad}{b:Nat}{l:List Pr}(n:BuckAt W h b l)(k:Upd M h a)(hm:∀b,M b→W b∨h.size≤b):BuckAt W a b l:=by
 obtain⟨sp,sk,ow,c,g,d,j,f,i⟩:=n.ex;exact⟨⟨sp,sk,ow,k.get c (fun e=>(hm _ e).elim n.nw fun h=>by have:=aD c;omega),g.upd k hm,d.upd k hm,j,f,i.upd k hm⟩,n.nw⟩
theorem Sz{W:Nat→Prop}{h:ad}{b:Nat}{l:List Pr}(y:BuckAt W h b l)(o:cu l)(n:l.length≤1000000000)(k:ByteArray){K:ByteArray×Bool→ad→Prop}
  (i:∀h' v,Upd No h h'→(cj l k=true→(k,v)∈l)→(cj l k=false→v=⟨#[]⟩)→K (v,cj l k) h'):HC PG qA [.pointer (some ⟨b,0,none⟩),.string k] [.c .str,.c .bool] K h:=by
 refine Lm _ k ?_;unfold D0 dK bM zR;obtain⟨sp,sk,ow,u,m,t,s,x⟩:=y.ex;refine pf u m n fun s1 w j f=>?_
 have c:Sl fP 2 No w s1 l:=j.sl fun _ _ _ h=>h
 refine GA c o n k fun z d=>?_
 cases ht:cj l k with
 |false=>rw[ht]at i;exact aA.2 (i _ _ (f.tr d) (fun h=>by cases h) fun _=>rfl)
 |true=>
  rw[ht]at i;obtain⟨g,e⟩:=Gh o ht;obtain⟨a,q,_,hv⟩:=(c.upd d fun _ h=>h.elim).at (af g)
  have p:=c.len;refine aj.2 ⟨by simp only;omega,a,q,_,hv 1 _ rfl,i _ _ (f.tr d) (fun _=>?_) fun h=>by cases h⟩
  have:(k,l[mW l k].2)=l[mW l k]:=Prod.ext e.symm rfl;rw[this];exact aP g
theorem RA{W:Nat→Prop}{h:ad}{b:Nat}{l:List Pr}(f:BuckAt W h b l)(d:cu l)(c:l.length≤1000000000)(k:ByteArray){K:ByteArray×Bool→ad→Prop}
 (e:∀a v,Upd No h a→(cj l k=true→(k,v)∈l)→K (v,cj l k) a):HC PG qA [.pointer (some ⟨b,0,none⟩),.string k] [.c .str,.c .bool] K h:=Sz f d c k fun a v g i _=>e a v g i
end Go.Proofs
namespace Go.Proofs
open Go.Lift
theorem ND{W:Nat→Prop}{h:ad}(a:∀x,W x→x<h.size){K:Option Addr→ad→Prop}(b:∀h' b',BuckAt W h' b' []→Upd No h h'→K (some ⟨b',0,none⟩) h'):HC PG sy [] [.c .ptr] K h:=by
 refine Ev ?_;unfold w9;exact b _ _ ⟨⟨⟨none,0,0⟩,⟨none,0,0⟩,none,cW h _ _,Sl.nil gX,Sl.nil qt,ao _,ao _,kz⟩,fun hx=>Nat.lt_irrefl _ (a _ hx)⟩ (Upd.hnew No h _ _)
theorem tN{W:Nat→Prop}{h:ad}(a:∀x,W x→x<h.size){K:Option Addr→ad→Prop}(d:∀h' b',NodeAt W h' b' ⟨fun _=>none,fun _=>none⟩→Upd No h h'→K (some ⟨b',0,none⟩) h'):HC PG nQ [] [.c .ptr] K h:=by
 refine G2 ?_;unfold zF N1;have e:fm (fun _=>(none:Option Pr)) 32= []:=by simp[fm]
 have b:fm (fun _=>(none:Option (Option Addr))) 32= []:=by simp[fm]
 refine d _ _ ⟨⟨0,0,⟨none,0,0⟩,⟨none,0,0⟩,none,cW h _ _,⟨by decide,by decide,fun c _=>by simp,fun c _=>by simp⟩,?_,?_,ao _,ao _,kz⟩,fun hx=>Nat.lt_irrefl _ (a _ hx)⟩ (Upd.hnew No h _ _)
 ·show Sl fP 2 W _ _ (fm (fun _=>none) 32)
  rw[e];exact Sl.nil gX
 ·show Sl px 1 W _ _ (fm (fun _=>none) 32)
  rw[b];exact Sl.nil qt
end Go.Proofs
namespace Go.Proofs
open Go.Lift
def gY(p:Pr):List Pr→List Pr
 | []=> [p]
 |q::l=>if kl q.1 p.1 then q::gY p l else if q.1=p.1 then p::l else p::q::l
theorem gm(p q:Pr)(l:List Pr):gY p (q::l)=if kl q.1 p.1 then q::gY p l else if q.1=p.1 then p::l else p::q::l:=rfl
theorem L6(p:Pr):∀{l:List Pr},cu l→Kr l p=gY p l
 | [],_=>by simp[Kr,gY,mW,cj]
 |q::l,d=>by
  have d:=bq.1 d;unfold gY;have a:mW (q::l) p.1=if kl q.1 p.1 then mW l p.1+1 else 0:=by
   unfold mW;rw[List.takeWhile_cons];by_cases h:kl q.1 p.1
   ·rw[if_pos (by simpa using h),if_pos h];rfl
   ·rw[if_neg (by simpa using h),if_neg h];rfl
  have c:cj (q::l) p.1=(decide (q.1=p.1)||cj l p.1):=by unfold cj;rw[List.any_cons]
  by_cases h:kl q.1 p.1
  ·have f:q.1≠p.1:=fun e=>by rw[e]at h;exact cJ _ h
   rw[if_pos h,←L6 p d.2];unfold Kr;rw[c,a,if_pos h,decide_eq_false f,Bool.false_or];by_cases b:cj l p.1=true
   ·rw[if_pos b,if_pos b];rfl
   ·rw[if_neg b,if_neg b];rfl
  ·rw[if_neg h]
   unfold Kr;rw[c,a,if_neg h];by_cases e:q.1=p.1
   ·rw[if_pos e,decide_eq_true e,Bool.true_or,if_pos rfl];rfl
   ·have g:=u0 h e
    have b:cj l p.1=false:=by
     unfold cj;rw[List.any_eq_false];intro r i j;have j:=of_decide_eq_true j;have:=d.1 r i;rw[j]at this;exact cJ _ (jh g this)
    rw[if_neg e,decide_eq_false e,b];rfl
theorem yD{p q:Pr}:∀{l:List Pr},q∈gY p l→q=p∨q∈l
 | [],h=>by simp[gY]at h;exact .inl h
 |r::l,h=>by
  unfold gY at h;split at h
  ·rcases au.1 h with h|h
   ·exact .inr (h▸az ..)
   ·exact(yD h).imp id fun h=>aR _ h
  ·split at h
   ·rcases au.1 h with h|h
    ·exact .inl h
    ·exact .inr (aR _ h)
   ·rcases au.1 h with h|h
    ·exact .inl h
    ·exact .inr h
theorem zZ(p:Pr):∀{l:List Pr},cu l→cu (gY p l)
 | [],_=>List.pairwise_singleton ..
 |q::l,a=>by
  have c:=a;have a:=bq.1 a;unfold gY;split
  ·rename_i h
   refine bq.2 ⟨fun r hm=>?_,zZ p a.2⟩
   rcases yD hm with rfl|hm
   ·exact h
   ·exact a.1 r hm
  ·rename_i h
   split
   ·rename_i e
    exact bq.2 ⟨fun r hm=>e▸a.1 r hm,a.2⟩
   ·rename_i e
    have b:=u0 h e;refine bq.2 ⟨fun r hm=>?_,c⟩
    rcases au.1 hm with rfl|hm
    ·exact b
    ·exact jh b (a.1 r hm)
theorem C8(p:Pr)(g:ByteArray→Bool):∀{l:List Pr},cu l→(gY p l).filter (fun q=>g q.1)=if g p.1 then gY p (l.filter fun q=>g q.1)else l.filter fun q=>g q.1
 | [],_=>by
  unfold gY;rw[cC,List.filter_nil]
 |q::l,c=>by
  have j:=c;have c:=bq.1 c;have i:=C8 p g c.2;rw[gm];by_cases h:kl q.1 p.1
  ·rw[if_pos h,cC,cC,i]
   by_cases f:g q.1=true
   ·rw[if_pos f,if_pos f]
    split
    ·rw[gm,if_pos h]
    ·rfl
   ·rw[if_neg f,if_neg f]
  ·rw[if_neg h]
   by_cases e:q.1=p.1
   ·rw[if_pos e,cC,cC,e]
    by_cases a:g p.1=true
    ·rw[if_pos a,if_pos a,if_pos a,gm,if_neg h,if_pos e]
    ·rw[if_neg a,if_neg a,if_neg a]
   ·rw[if_neg e]
    have d:=u0 h e;rw[cC];by_cases a:g p.1=true
    ·rw[if_pos a,if_pos a]
     have:∀r∈(q::l).filter (fun q=>g q.1),kl p.1 r.1:=fun r hm=>by
      rcases au.1 (gR.1 hm).1 with rfl|hm
      ·exact d
      ·exact jh d (c.1 r hm)
     cases hf:(q::l).filter (fun q=>g q.1)with
     |nil=>rfl
     |cons r rs=>
      have b:=this r (by rw[hf];exact az ..);rw[gm,if_neg fun k=>cJ _ (jh b k),if_neg fun e=>by rw[e]at b;exact cJ _ b]
    ·rw[if_neg a,if_neg a]
theorem B7{p:Pr}:∀{l:List Pr},cu l→p∈l→gY p l=l
 |q::l,a,hm=>by
  have a:=bq.1 a;unfold gY;rcases au.1 hm with rfl|hm
  ·rw[if_neg (cJ _),if_pos rfl]
  ·rw[if_pos (a.1 p hm),B7 a.2 hm]
def ck(x:Hs)(lev:Nat)(k:ByteArray):Nat:=((kX x k).toNat>>>(5*lev))%32
theorem yU(x:Hs)(lev:Nat)(k:ByteArray):ck x lev k<32:=na _ (by omega)
def part(x:Hs)(lev c:Nat)(l:List Pr):List Pr:=l.filter fun p=>decide (ck x lev p.1=c)
def TrieAt(W:Nat→Prop)(x:Hs)(h:ad):Nat→Nat→List Pr→Prop
 |0,b,l=>BuckAt W h b l
 |m+1,b,l=>∃s,NodeAt W h b s∧∀c,c<32→
  ((part x (12-m) c l= []∧s.p c=none∧s.k c=none)∨(∃p,part x (12-m) c l= [p]∧s.p c=some p∧s.k c=none)∨
   (2≤(part x (12-m) c l).length∧s.p c=none∧∃kb,s.k c=some (some ⟨kb,0,none⟩)∧TrieAt W x h m kb (part x (12-m) c l)))
theorem TrieAt.upd0{W:Nat→Prop}{x:Hs}{h d:ad}(k:Upd No h d):∀{m b:Nat} {l:List Pr},TrieAt W x h m b l→TrieAt W x d m b l
 |0,_,_,t=>BuckAt.upd t k fun _ h=>h.elim
 |m+1,_,_,⟨s,nd,hc⟩=>⟨s,nd.upd k fun _ h=>h.elim,fun c a=>(hc c a).imp id fun o=>o.imp id fun⟨g,i,j,f,e⟩=>⟨g,i,j,f,TrieAt.upd0 k e⟩⟩
theorem NodeAt.less{W W':Nat→Prop}{h:ad}{b:Nat}{s:Slots}(n:NodeAt W h b s)(hm:∀b,W' b→W b∨h.size≤b):NodeAt W' h b s:=by
 obtain⟨d,m,sp,sk,ow,a,j,f,c,i,e,g⟩:=n.ex;exact⟨⟨d,m,sp,sk,ow,a,j,f.less hm,c.less hm,i,e,g.less hm⟩,fun hx=>(hm _ hx).elim n.nw fun h=>by have:=aD a;omega⟩
theorem BuckAt.less{W W':Nat→Prop}{h:ad}{b:Nat}{l:List Pr}(n:BuckAt W h b l)(hm:∀b,W' b→W b∨h.size≤b):BuckAt W' h b l:=by
 obtain⟨sp,sk,ow,a,e,c,g,d,f⟩:=n.ex;exact⟨⟨sp,sk,ow,a,e.less hm,c.less hm,g,d,f.less hm⟩,fun hx=>(hm _ hx).elim n.nw fun h=>by have:=aD a;omega⟩
theorem TrieAt.less{W W':Nat→Prop}{x:Hs}{h:ad}(hm:∀b,W' b→W b∨h.size≤b):∀{m b:Nat} {l:List Pr},TrieAt W x h m b l→TrieAt W' x h m b l
 |0,_,_,t=>BuckAt.less t hm
 |m+1,_,_,⟨s,nd,hc⟩=>⟨s,nd.less hm,fun c a=>(hc c a).imp id fun o=>o.imp id fun⟨f,g,i,e,d⟩=>⟨f,g,i,e,TrieAt.less hm d⟩⟩
theorem TrieAt.updM{W M:Nat→Prop}{x:Hs}{h d:ad}(k:Upd M h d)(hm:∀b,M b→W b∨h.size≤b):∀{m b:Nat} {l:List Pr},TrieAt W x h m b l→TrieAt W x d m b l
 |0,_,_,t=>BuckAt.upd t k hm
 |m+1,_,_,⟨s,nd,hc⟩=>⟨s,nd.upd k hm,fun c a=>(hc c a).imp id fun o=>o.imp id fun⟨g,i,j,f,e⟩=>⟨g,i,j,f,TrieAt.updM k hm e⟩⟩
end Go.Proofs
namespace Go.Proofs
open Go.Lift
def By(h:ad)(w o:Option Addr):Prop:=(w=none∧o=none)∨∃b pl id lv,w=some ⟨b,0,none⟩∧h[b]? =some (.cells #[.pointer pl,.int .i64 id,.bool lv] oU (0,0))∧o=if lv then w else none
theorem By.upd{M:Nat→Prop}{h a:ad}{w o:Option Addr}(t:By h w o)(k:Upd M h a)(hm:∀b,w=some ⟨b,0,none⟩→M b→h.size≤b):By a w o:=by
 rcases t with t|⟨b,pl,id,lv,e,c,d⟩
 ·exact .inl t
 ·exact .inr ⟨b,pl,id,lv,e,k.get c (fun hM=>by have:=hm b e hM;have:=aD c;omega),d⟩
theorem By.upd0{h a:ad}{w o:Option Addr}(t:By h w o)(k:Upd No h a):By a w o:=t.upd k fun _ _ h=>h.elim
theorem By.tok{h:ad}{w o:Option Addr}(t:By h w o){a:Addr}(e:o=some a):w=some a:=by
 rcases t with⟨_,d⟩|⟨b,pl,id,lv,g,f,c⟩
 ·rw[d]at e;cases e
 ·rw[e]at c;split at c
  ·exact c.symm
  ·cases c
theorem By.plain{h:ad}{w o:Option Addr}(t:By h w o)(a:Addr)(e:w=some a):d9 h a:=by
 rcases t with⟨f,_⟩|⟨b,pl,id,lv,d,c,g⟩
 ·rw[f]at e;cases e
 ·rw[d]at e;cases e;exact⟨_,_,c,by simp⟩
theorem yG{h:ad}{w o:Option Addr}(t:By h w o){K:Bool→ad→Prop}(a:K o.isSome h):HC PG eE [.pointer w] [.c .bool] K h:=by
 refine xO w ?_;unfold qF ie;rcases t with⟨rfl,rfl⟩|⟨b,pl,id,lv,rfl,c,rfl⟩
 ·exact aj.2 a
 ·refine aA.2 ⟨_,rfl,lv,dT (i:=2) c,?_⟩
  cases lv<;>exact a
theorem HX{h:ad}{w o:Option Addr}{b d n:Nat}{sp sk:SliceV}{e:Bool}{ow:Option Addr}(t:By h w o)(j:h[b]? =some (.cells (fy d n sp sk e ow) bK (0,0))) (f:∀a,ow=some a→d9 h a) {K:Bool→ad→Prop} (c:K (o.isSome&&(ow==w)) h):
  HC PG nP [.pointer (some ⟨b,0,none⟩),.pointer w] [.c .bool] K h:=by
 refine zj _ w ?_;unfold rO fE;refine aA.2 (yG t ?_);cases o with
 |none=>exact aj.2 c
 |some a=>exact aA.2 ⟨_,rfl,ow,dT (i:=5) j,trivial,fun x y hx g=>⟨f x hx,t.plain y g⟩,c⟩
set_option maxRecDepth 4000 in
theorem LZ{W:Nat→Prop}{h:ad}{w o:Option Addr}{b d n:Nat}{sp sk:SliceV}{f:Bool}{ow:Option Addr}{T:List Pr}{lk:List (Option Addr)}(t:By h w o)(g:h[b]? =some (.cells (fy d n sp sk f ow) bK (0,0)))
  (hp:∀a,ow=some a→d9 h a) (P:(o.isSome&&(ow==w))=false) (hsp:Sl fP 2 W h sp T) (Z:Sl px 1 W h sk lk) (hlp:T.length≤1000000000) (hlk:lk.length≤1000000000) {K:Option Addr→ad→Prop}
  (Q:∀m sp' sk' (A B:Nat→Prop),m[h.size]? =some (.cells (fy d n sp' sk' f o) bK (0,0))→OwnS fP 2 aw A m sp' T→OwnS px 1 bG B m sk' lk→(∀x,A x→h.size<x∧¬B x∧x<m.size)→(∀x,B x→h.size<x∧x<m.size)→Upd No h m→K (some ⟨h.size,0,none⟩) m):
  HC PG eM [.pointer (some ⟨b,0,none⟩),.pointer w] [.c .ptr] K h:=by
 refine uC _ w ?_;unfold pI fE bD cV nv uw ie gF N1 RJ;refine HX t g hp ?_;rw[P];refine aj.2 ?_;have c:∀{h:ad} {b:Nat} {c:Array Value} {i:Nat},h[b]? =some (.cells c bK (0,0))→aM h ⟨b,0+i,none⟩=c[i]?:=fun g=>by rw[aE];exact bj g
 refine⟨_,rfl,_,c (i:=0) g,_,c (i:=1) g,sp,c (i:=2) g,sk,c (i:=3) g,_,c (i:=4) g,_,c (i:=5) g,?_⟩;have k1:=Upd.hnew No h [.int .u32 0,.int .u32 0,.slice none 0 0,.slice none 0 0,.bool false,.pointer none] bK;have b1:=cW h [.int .u32 0,.int .u32 0,.slice none 0 0,.slice none 0 0,.bool false,.pointer none] bK;refine bT ?_;simp only[fR h];generalize hnew h [.int .u32 0,.int .u32 0,.slice none 0 0,.slice none 0 0,.bool false,.pointer none] bK=h1 at k1 b1
 have N:gT h1 ⟨h.size,0,none⟩ 0 [.int .u32 (d:Int),.int .u32 (n:Int),.slice sp.a sp.len sp.cap,.slice sk.a sk.len sk.cap,.bool f,.pointer ow]=_:=iB _ h1 0 0 _ b1 (by simp);refine⟨.inr ⟨_,rfl,fun j hj=>by rw[bL];exact ia b1 (by simp at hj⊢;omega)⟩,bT ?_⟩
 rw[N];have b2:=jL (o:=.cells (fy d n sp sk f ow) bK (0,0)) b1;have E:Upd No h _:=k1.trans (M':=(· =h.size)) (Upd.set h1 (.cells (fy d n sp sk f ow) bK (0,0)) rfl) fun x hx=>.inr (g5 hx.symm)
 have R:h.size<(h1.setIfInBounds h.size (.cells (fy d n sp sk f ow) bK (0,0))).size:=aD b2;have e2:(Obj.cells (List.take (0+0) [Value.int .u32 0,.int .u32 0,.slice none 0 0,.slice none 0 0,.bool false,.pointer none]++ [Value.int .u32 (d:Int),.int .u32 (n:Int),.slice sp.a sp.len sp.cap,.slice sk.a sk.len sk.cap,.bool f,.pointer ow]++List.drop (0+0+ [Value.int .u32 (d:Int),.int .u32 (n:Int),.slice sp.a sp.len sp.cap,.slice sk.a sk.len sk.cap,.bool f,.pointer ow].length) [Value.int .u32 0,.int .u32 0,.slice none 0 0,.slice none 0 0,.bool false,.pointer none]).toArray bK (0,0))=.cells (fy d n sp sk f ow) bK (0,0):=rfl
 rw[e2];generalize h1.setIfInBounds h.size (.cells (fy d n sp sk f ow) bK (0,0))=h2 at b2 E R;have z:=E.get0 g;refine⟨_,rfl,sp,c (i:=2) z,_,rfl,sk,c (i:=3) z,?_⟩;refine Av (hsp.upd E fun _ h=>h.elim) (by omega) fun s3 h3 V p=>?_
 refine⟨c (i:=3) (p.get0 z),?_⟩;refine FB ((Z.upd E fun _ h=>h.elim).upd p fun _ h=>h.elim) (by omega) fun G h4 M u=>?_
 have b4:=u.get0 (p.get0 b2);have C:=V.within.upd u fun _ _ h=>h
 have F:=M.within;have z3:=p.size;have z4:=u.size;have J:∀{h:ad} {c:Array Value} {x i:Nat},h[x]? =some (.cells c bK (0,0))→i<c.size→Wr h ⟨x,0+i,none⟩:=fun g hi=>by rw[aE];exact ia g hi
 have I:∀{h:ad} {c c':Array Value} {x i:Nat} {v:Value} {k:ad→Prop},h[x]? =some (.cells c bK (0,0))→c.setIfInBounds i v=c'→(∀m,m[x]? =some (.cells c' bK (0,0))→Upd (· =x) h m→k m)→At (hset h ⟨x,i,none⟩ v) k:=fun g e Q=>ui g fun m hb' hu=>Q m (e▸hb') hu
 refine⟨J (i:=2) b4 (show 2<6 by decide),I (i:=2) (c':=fy d n s3 sk f ow) b4 rfl fun h5 b5 L=>?_⟩
 refine⟨J (i:=3) b5 (show 3<6 by decide),I (i:=3) (c':=fy d n s3 G f ow) b5 rfl fun h6 b6 O=>?_⟩
 refine⟨J (i:=5) b6 (show 5<6 by decide),I (i:=5) (c':=fy d n s3 G f none) b6 rfl fun h7 Y X=>?_⟩
 have s:=L.tr (O.tr X);have z7:=s.size;have D:Upd No h h7:=((E.tr p).tr u).trans s fun x hx=>.inr (g5 hx.symm)
 have t7:=t.upd0 D;have fin:∀{H:ad},H[h.size]? =some (.cells (fy d n s3 G f o) bK (0,0))→Upd (· =h.size) h7 H→K (some ⟨h.size,0,none⟩) H:=fun{H} S q=>by
  have y:=s.tr q;have z8:=q.size;exact Q _ s3 G (fun x=>h2.size≤x∧x<h3.size) (fun x=>h3.size≤x∧x<h4.size) S (C.upd y fun x hx e=>by have e:x=h.size:=e;omega) (F.upd y fun x hx e=>by have e:x=h.size:=e;omega) (fun x hx=>⟨by omega,by omega,by omega⟩) (fun x hx=>⟨by omega,by omega⟩) (D.trans q fun x hx=>.inr (g5 hx.symm))
 refine yG t7 ?_;cases ho:o with
 |none=>rw[ho]at fin;exact aj.2 (fin Y (Upd.refl _ _))
 |some a=>
  rw[ho]at fin;rw[t.tok ho];refine aA.2 ⟨J (i:=5) Y (show 5<6 by decide),I (i:=5) (c':=fy d n s3 G f (some a)) Y rfl fun H S q=>fin S q⟩
theorem LY{h:ad}{w o:Option Addr}{b d n:Nat}{sp sk:SliceV}{e:Bool}{ow:Option Addr}(t:By h w o)(i:h[b]? =some (.cells (fy d n sp sk e ow) bK (0,0))) (f:∀a,ow=some a→d9 h a) (c:(o.isSome&&(ow==w))=true) {K:Option Addr→ad→Prop} (g:K (some ⟨b,0,none⟩) h):
  HC PG eM [.pointer (some ⟨b,0,none⟩),.pointer w] [.c .ptr] K h:=by
 refine uC _ w ?_;unfold pI fE bD cV nv uw ie gF N1 RJ;refine HX t i f ?_;rw[c];exact aA.2 g
def NodeO(o:Option Addr)(W:Nat→Prop)(h:ad)(b:Nat)(s:Slots)(S:Nat→Prop):Prop:=
 (NodeAt W h b s∧∀y,¬S y)∨(o.isSome=true∧∃d n sp sk,OwnN S h b d n sp sk s o)
theorem OwnN.mono{M M':Nat→Prop}{h:ad}{b d n:Nat}{sp sk:SliceV}{s:Slots}{ow:Option Addr}(o:OwnN M h b d n sp sk s ow)(hm:∀x,M x→M' x):OwnN M' h b d n sp sk s ow:=by
 obtain⟨A,B,e,f,c,a⟩:=o.ex;exact⟨o.blk,o.bits,⟨A,B,e,f,fun x hx=>⟨hm _ (c x hx).1,(c x hx).2⟩,fun x hx=>⟨hm _ (a x hx).1,(a x hx).2⟩⟩,hm _ o.mb⟩
theorem OwnN.within{M:Nat→Prop}{h:ad}{b d n:Nat}{sp sk:SliceV}{s:Slots}{ow:Option Addr}(o:OwnN M h b d n sp sk s ow):OwnN (fun x=>M x∧x<h.size) h b d n sp sk s ow:=by
 obtain⟨A,B,e,f,c,a⟩:=o.ex;exact⟨o.blk,o.bits,⟨A,B,e,f,fun x hx=>⟨⟨(c x hx).1,(c x hx).2.2.2⟩,(c x hx).2⟩,fun x hx=>⟨⟨(a x hx).1,(a x hx).2.2⟩,(a x hx).2⟩⟩,o.mb,aD o.blk⟩
theorem Gj{W S:Nat→Prop}{h:ad}{w o:Option Addr}{b:Nat}{s:Slots}(i:NodeO o W h b s S)(t:By h w o)(H:∀a,o=some a→W a.block){K:Option Addr→ad→Prop}
  (D:∀j p d n sp sk,OwnN (fun y=>S y∨h.size≤y) j p d n sp sk s o→Upd No h j→K (some ⟨p,0,none⟩) j):
  HC PG eM [.pointer (some ⟨b,0,none⟩),.pointer w] [.c .ptr] K h:=by
 rcases i with⟨i,_⟩|⟨E,d,n,sp,sk,i⟩
 ·obtain⟨d,n,sp,sk,ow,J,bits,v,u,G,L,m⟩:=i.ex
  refine LZ t J (fun a e=>(m a e).2) ?_ v u (by have:=vi (g:=s.p);omega) (by have:=vi (g:=s.k);omega) fun j z q A B p I F c f k=>?_
  ·cases ho:o with
   |none=>rfl
   |some a=>
    have e:=t.tok ho;rw[Option.isSome_some,Bool.true_and,beq_eq_false_iff_ne];intro C;rw[e]at C;exact(m a C).1 (H a ho)
  ·exact D j h.size d n z q ⟨p,bits,⟨A,B,I,F,fun x hx=>⟨.inr (by have:=(c x hx).1;omega),(c x hx).2.1,by have:=(c x hx).1;omega,(c x hx).2.2⟩,fun x hx=>⟨.inr (by have:=(f x hx).1;omega),by have:=(f x hx).1;omega,(f x hx).2⟩⟩,.inr (ao _)⟩ k
 ·refine LY t i.blk (fun a e=>t.plain a (t.tok e)) ?_ (D h b d n sp sk (i.mono fun _ h=>.inl h) (Upd.refl _ _))
  obtain⟨a,e⟩:=dI.1 E;rw[E,e,t.tok e];simp
end Go.Proofs
namespace Go.Proofs
inductive Fo where
 |nil:Fo
 |cons (lab:List UInt8) (val:Option ByteArray) (kids rest:Fo):Fo
abbrev Bn:=List UInt8×Option ByteArray×Fo
def Fo.toL:Fo→List Bn
 | .nil=> []
 | .cons lab w kids rest=>(lab,w,kids)::rest.toL
theorem Fo.toL_cons(lab:List UInt8)(w:Option ByteArray)(a b:Fo):(Fo.cons lab w a b).toL=(lab,w,a)::b.toL:=rfl
def Fo.ofL:List Bn→Fo
 | []=>.nil
 |(lab,w,kids)::l=>.cons lab w kids (Fo.ofL l)
theorem Fo.to_of:∀l:List Bn,(Fo.ofL l).toL=l
 | []=>rfl
 |(_,_,_)::l=>by show _::(Fo.ofL l).toL=_;rw[Fo.to_of l]
theorem Fo.of_to:∀F:Fo,Fo.ofL F.toL=F
 | .nil=>rfl
 | .cons lab w kids rest=>by show Fo.cons lab w kids (Fo.ofL rest.toL)=_;rw[Fo.of_to rest]
def ox:Fo→List UInt8→ByteArray→Prop
 | .nil,_,_=>False
 | .cons lab w kids rest,k,v=>(∃r,k=lab++r∧((r= []∧w=some v)∨ox kids r v))∨ox rest k v
def py(w:Option ByteArray)(F:Fo)(k:List UInt8)(v:ByteArray):Prop:=(k= []∧w=some v)∨ox F k v
def qW(n:Bn)(k:List UInt8)(v:ByteArray):Prop:=∃r,k=n.1++r∧py n.2.1 n.2.2 r v
theorem fw:∀{F:Fo} {k:List UInt8} {v:ByteArray},ox F k v↔∃n∈F.toL,qW n k v
 | .nil,_,_=>by simp[ox,Fo.toL]
 | .cons lab w kids rest,k,v=>by
  rw[Fo.toL_cons];unfold ox;rw[fw (F:=rest)];constructor
  ·rintro(h|⟨n,a,h⟩)
   ·exact⟨_,az ..,h⟩
   ·exact⟨n,aR _ a,h⟩
  ·rintro⟨n,a,h⟩
   rcases au.1 a with rfl|a
   ·exact .inl h
   ·exact .inr ⟨n,a,h⟩
def hd(k:List UInt8):Nat:=(k.headD 0).toNat
theorem nI{a b:List UInt8}(h:a≠[]):hd (a++b)=hd a:=by
 cases a with
 |nil=>exact absurd rfl h
 |cons x a=>rfl
theorem RB(a:List UInt8):hd a<256:=UInt8.toNat_lt _
def eW:Fo→Prop
 | .nil=>True
 | .cons lab w kids rest=>lab≠[]∧(w.isSome∨2≤kids.toL.length)∧eW kids∧(∀n∈rest.toL,hd lab<hd n.1)∧eW rest
def Ja(n:Bn):Prop:=n.1≠[]∧(n.2.1.isSome∨2≤n.2.2.toL.length)∧eW n.2.2
theorem eg:∀{F:Fo},eW F↔F.toL.Pairwise (fun m n=>hd m.1<hd n.1)∧∀n∈F.toL,Ja n
 | .nil=>by simp[eW,Fo.toL]
 | .cons lab w kids rest=>by
  rw[Fo.toL_cons,bq];show(lab≠[]∧(w.isSome∨2≤kids.toL.length)∧eW kids∧(∀n∈rest.toL,hd lab<hd n.1)∧eW rest)↔_
  rw[eg (F:=rest)];constructor
  ·rintro⟨f,g,e,c,d,b⟩
   refine⟨⟨c,d⟩,fun n a=>?_⟩
   rcases au.1 a with rfl|a
   ·exact⟨f,g,e⟩
   ·exact b n a
  ·rintro⟨⟨c,d⟩,b⟩
   have:=b _ (az ..);exact⟨this.1,this.2.1,this.2.2,c,d,fun n a=>b n (aR _ a)⟩
theorem mz:∀{F:Fo},eW F→∀n∈F.toL,∃r v,py n.2.1 n.2.2 r v
 | .nil,_,n,a=>by simp[Fo.toL]at a
 | .cons lab w kids rest,h,n,a=>by
  rcases au.1 a with rfl|a
  ·rcases h.2.1 with e|b
   ·obtain⟨v,hv⟩:=dI.1 e
    exact⟨[],v,.inl ⟨rfl,hv⟩⟩
   ·have d:=mz h.2.2.1
    have⟨m,hm⟩:∃m,m∈kids.toL:=by
     cases hl:kids.toL with
     |nil=>rw[hl]at b;simp at b
     |cons m l=>exact⟨m,az ..⟩
    obtain⟨r,v,c⟩:=d m hm;exact⟨m.1++r,v,.inr (fw.2 ⟨m,hm,r,rfl,c⟩)⟩
  ·exact mz h.2.2.2.2 n a
theorem nH{F:Fo}(h:eW F){k:List UInt8}{v:ByteArray}(hi:ox F k v):k≠[]:=by
 obtain⟨n,a,r,rfl,_⟩:=fw.1 hi;have:=((eg.1 h).2 n a).1;intro e;exact this (fW.1 e).1
theorem pD{F:Fo}(h:eW F){k:List UInt8}{v:ByteArray}(hi:ox F k v):∃n∈F.toL,hd n.1=hd k∧qW n k v:=by
 obtain⟨n,a,r,e,b⟩:=fw.1 hi;exact⟨n,a,by rw[e,nI ((eg.1 h).2 n a).1],r,e,b⟩
theorem wc{F:Fo}(h:eW F){m n:Bn}(hm:m∈F.toL)(f:n∈F.toL)(e:hd m.1=hd n.1):m=n:=by
 have c:=(eg.1 h).1;revert hm f;generalize F.toL=l at*;clear h;induction l with
 |nil=>intro hm;simp at hm
 |cons a l ih=>
  have c:=bq.1 c;intro hm f;rcases au.1 hm with i|d
  ·rcases au.1 f with g|b
   ·rw[i,g]
   ·have:=c.1 n b;rw[←i]at this;omega
  ·rcases au.1 f with g|b
   ·have:=c.1 m d;rw[←g]at this;omega
   ·exact ih c.2 d b
def Br(P:List UInt8→ByteArray→Prop):Prop:=(∃v,P [] v)∨∃j k u v,P j u∧P k v∧j≠[]∧k≠[]∧hd j≠hd k
theorem Ds{w:Option ByteArray}{F:Fo}(h:eW F):(w.isSome∨2≤F.toL.length)↔Br (py w F):=by
 constructor
 ·rintro(B|C)
  ·obtain⟨v,hv⟩:=dI.1 B
   exact .inl ⟨v,.inl ⟨rfl,hv⟩⟩
  ·right
   have c:=mz h;have hc:=eg.1 h;match hL:F.toL,C with
   |a::b::l,_=>
    have d:a∈F.toL:=by rw[hL];simp
    have i:b∈F.toL:=by rw[hL];simp
    obtain⟨r,v,y⟩:=c a d;obtain⟨s,u,c⟩:=c b i;have p:=(hc.2 a d).1;have q:=(hc.2 b i).1;have:=hc.1;rw[hL]at this;have D:=(bq.1 this).1 b (az ..);refine⟨a.1++r,b.1++s,v,u,.inr (fw.2 ⟨a,d,r,rfl,y⟩),.inr (fw.2 ⟨b,i,s,rfl,c⟩),?_,?_,?_⟩
    ·intro e;exact p (fW.1 e).1
    ·intro e;exact q (fW.1 e).1
    ·rw[nI p,nI q];omega
 ·rintro(⟨v,hv⟩|⟨j,k,u,v,f,g,x,nk,t⟩)
  ·rcases hv with⟨_,hv⟩|hv
   ·left;rw[hv];rfl
   ·exact absurd rfl (nH h hv)
  ·right
   rcases f with⟨e,_⟩|f
   ·exact absurd e x
   rcases g with⟨e,_⟩|g
   ·exact absurd e nk
   obtain⟨m,hm,A,_⟩:=pD h f;obtain⟨n,o,z,_⟩:=pD h g;match hL:F.toL with
   | []=>rw[hL]at hm;simp at hm
   | [a]=>
    rw[hL]at hm o;rw[aq.1 hm]at A;rw[aq.1 o]at z;omega
   |a::b::l=>simp
end Go.Proofs
namespace Go.Proofs
theorem L7{m n:Bn}(g:Br (py m.2.1 m.2.2))(h:∀k v,qW m k v→qW n k v):∃t,m.1=n.1++t:=by
 rcases g with⟨v,hv⟩|⟨j,k,u,v,i,o,p,nk,b⟩
 ·obtain⟨r,e,_⟩:=h m.1 v ⟨[],(bP _).symm,hv⟩
  exact⟨r,e⟩
 ·obtain⟨r,e,_⟩:=h (m.1++j) u ⟨j,rfl,i⟩
  obtain⟨s,f,_⟩:=h (m.1++k) v ⟨k,rfl,o⟩;rcases List.append_eq_append_iff.1 e with⟨a,c,d⟩|⟨a,c,d⟩
  ·rw[c,ar]at f
   have f:=ez f;cases a with
   |nil=>exact⟨[],by rw[c];simp⟩
   |cons x a=>
    rw[d]at b;rw[f]at b;exact absurd rfl b
  ·exact⟨a,c⟩
theorem KL:∀{F F':Fo},eW F→eW F'→(∀k v,ox F k v↔ox F' k v)→F=F'
 | .nil,.nil,_,_,_=>rfl
 | .nil,.cons lab w b c,_,h,he=>by
  obtain⟨r,v,j⟩:=mz h _ (az ..);exact((he _ v).2 (fw.2 ⟨_,az ..,r,rfl,j⟩)).elim
 | .cons lab w b c,.nil,h,_,he=>by
  obtain⟨r,v,j⟩:=mz h _ (az ..);exact((he _ v).1 (fw.2 ⟨_,az ..,r,rfl,j⟩)).elim
 | .cons lab w b c,.cons d w' a f,h,g,he=>by
  have A:∀{lab w b c} {F:Fo},eW (.cons lab w b c)→eW F→(∀k v,ox F k v→ox (.cons lab w b c) k v)→∀n∈F.toL,hd lab≤hd n.1:=by
   intro lab w b c F h E hi n i;obtain⟨r,v,j⟩:=mz E n i;obtain⟨m,hm,e,_⟩:=pD h (hi _ v (fw.2 ⟨n,i,r,rfl,j⟩));rw[nI ((eg.1 E).2 n i).1]at e;rcases au.1 hm with rfl|hm
   ·simp only at e;omega
   ·have:=h.2.2.2.1 m hm;omega
  have O:=A h g (fun k v=>(he k v).2) _ (az ..)
  have M:=A g h (fun k v=>(he k v).1) _ (az ..)
  simp only at O M;have q:hd lab=hd d:=by omega
  have z:∀{lab w b c d w' a f},eW (.cons lab w b c)→eW (.cons d w' a f)→hd lab=hd d→(∀k v,ox (.cons lab w b c) k v→ox (.cons d w' a f) k v)→(∀k v,qW (lab,w,b) k v→qW (d,w',a) k v)∧(∀k v,ox c k v→ox f k v):=by
   intro lab w b c d w' a f h g q hi;refine⟨fun k v o=>?_,fun k v o=>?_⟩
   ·obtain⟨n,i,e,j⟩:=pD g (hi k v (fw.2 ⟨_,az ..,o⟩))
    obtain⟨r,rfl,_⟩:=o;rw[nI h.1]at e;rw[←wc g i (az ..) (by simp only;omega)];exact j
   ·obtain⟨m,hm,Q,_⟩:=pD h.2.2.2.2 o
    have:=h.2.2.2.1 m hm;obtain⟨n,i,e,j⟩:=pD g (hi k v (Or.inr o));rcases au.1 i with rfl|i
    ·simp only at e;omega
    ·exact fw.2 ⟨n,i,j⟩
  have⟨I,K⟩:=z h g q fun k v=>(he k v).1
  have⟨C,J⟩:=z g h q.symm fun k v=>(he k v).2
  have p:c=f:=KL h.2.2.2.2 g.2.2.2.2 fun k v=>⟨K k v,J k v⟩
  obtain⟨t,B⟩:=L7 (m:=(lab,w,b)) (n:=(d,w',a)) ((Ds h.2.2.1).1 h.2.1) I;obtain⟨P,x⟩:=L7 (m:=(d,w',a)) (n:=(lab,w,b)) ((Ds g.2.2.1).1 g.2.1) C;simp only at B x;have u:lab=d:=by
   have:t= []:=by
    have N:=congrArg ga B;have L:=congrArg ga x;rw[ae]at N L;exact List.length_eq_zero_iff.1 (by omega)
   rw[B,this,bP]
  subst u;have y:∀{w b w' a},(∀k v,qW (lab,w,b) k v→qW (lab,w',a) k v)→∀k v,py w b k v→py w' a k v:=by
   intro w b w' a i k v o;obtain⟨r,e,j⟩:=i (lab++k) v ⟨k,rfl,o⟩;rw[ez e];exact j
  have i1:=y I;have H:=y C;have ew:w=w':=by
   have G:∀{w b w' a},eW a→(∀k v,py w b k v→py w' a k v)→∀v,w=some v→w'=some v:=by
    intro w b w' a hc hi v hv;rcases hi [] v (.inl ⟨rfl,hv⟩)with⟨_,h⟩|h
    ·exact h
    ·exact absurd rfl (nH hc h)
   exact Option.ext fun v=>⟨G g.2.2.1 i1 v,G h.2.2.1 H v⟩
  have D:∀{w b w' a},eW b→(∀k v,py w b k v→py w' a k v)→∀k v,ox b k v→ox a k v:=by
   intro w b w' a hc hi k v o;rcases hi k v (.inr o)with⟨e,_⟩|h
   ·exact absurd e (nH hc o)
   ·exact h
  have s:b=a:=KL h.2.2.1 g.2.2.1 fun k v=>⟨D h.2.2.1 i1 k v,D g.2.2.1 H k v⟩
  rw[ew,s,p]
def sC(P a:List UInt8→ByteArray→Prop)(k:List UInt8)(v:ByteArray):Prop:=∀k' v',a k' v'↔(k'=k∧v'=v)∨(k'≠k∧P k' v')
theorem E0{w:Option ByteArray}{F:Fo}(h:eW F)(v:ByteArray):sC (py w F) (py (some v) F) [] v:=by
 intro k' a;unfold py;constructor
 ·rintro(⟨e,f⟩|hi)
  ·exact .inl ⟨e,(bv.inj f).symm⟩
  ·exact .inr ⟨nH h hi,.inr hi⟩
 ·rintro(⟨e,f⟩|⟨e,⟨f,_⟩|hi⟩)
  ·exact .inl ⟨e,by rw[f]⟩
  ·exact absurd f e
  ·exact .inr hi
theorem Ad{w:Option ByteArray}{F F':Fo}{k:List UInt8}{v:ByteArray}(b:k≠[])(h:sC (ox F) (ox F') k v):sC (py w F) (py w F') k v:=by
 intro k' a;unfold py;rw[h k' a];constructor
 ·rintro(⟨e,f⟩|hi|hi)
  ·exact .inr ⟨fun e'=>b (e'.symm.trans e),.inl ⟨e,f⟩⟩
  ·exact .inl hi
  ·exact .inr ⟨hi.1,.inr hi.2⟩
 ·rintro(hi|⟨e,hi|hi⟩)
  ·exact .inr (.inl hi)
  ·exact .inl hi
  ·exact .inr (.inr ⟨e,hi⟩)
theorem M7{F:Fo}{k:List UInt8}{v:ByteArray}{i:Nat}(h:eW F)(w:k≠[])(hi:∀j (d:j<F.toL.length),j<i→hd F.toL[j].1<hd k)(g:∀j (d:j<F.toL.length),i≤j→hd k<hd F.toL[j].1):eW (.ofL (F.toL.take i++(k,some v,.nil)::F.toL.drop i))∧sC (ox F) (ox (.ofL (F.toL.take i++(k,some v,.nil)::F.toL.drop i))) k v:=by
 have hc:=eg.1 h;have y:∀n∈F.toL.take i,hd n.1<hd k:=fun n c=>by
  obtain⟨j,d,e⟩:=cB c;rw[aI]at d;rw[←e,List.getElem_take];exact hi j (by omega) (by omega)
 have u:∀n∈F.toL.drop i,hd k<hd n.1:=fun n c=>by
  obtain⟨j,d,e⟩:=cB c;rw[List.length_drop]at d;rw[←e,List.getElem_drop];exact g _ (by omega) (by omega)
 have mem:∀n,n∈F.toL.take i++(k,some v,.nil)::F.toL.drop i↔n=(k,some v,Fo.nil)∨n∈F.toL:=fun n=>by
  conv=>rhs;rw[←aV i F.toL]
  simp only[List.mem_append,au];exact⟨fun h=>h.elim (fun h=>.inr (.inl h)) fun h=>h.elim .inl fun h=>.inr (.inr h),fun h=>h.elim (fun h=>.inr (.inl h)) fun h=>h.elim .inl fun h=>.inr (.inr h)⟩
 refine⟨eg.2 ⟨?_,?_⟩,fun k' x=>?_⟩
 ·rw[Fo.to_of]
  have m:=hc.1;rw[←aV i F.toL,db]at m;refine db.2 ⟨m.1,bq.2 ⟨u,m.2.1⟩,fun a t b p=>?_⟩
  rcases au.1 p with rfl|p
  ·exact y a t
  ·exact m.2.2 a t b p
 ·rw[Fo.to_of]
  intro n c;rcases(mem n).1 c with rfl|c
  ·exact⟨w,.inl rfl,trivial⟩
  ·exact hc.2 n c
 ·rw[fw,fw,Fo.to_of]
  constructor
  ·rintro⟨n,c,r,e,s⟩
   rcases(mem n).1 c with rfl|c
   ·rcases s with⟨rfl,f⟩|f
    ·exact .inl ⟨by rw[e];exact bP _,(bv.inj f).symm⟩
    ·exact f.elim
   ·right
    refine⟨fun e'=>?_,n,c,r,e,s⟩
    have z:hd k=hd n.1:=by rw[←e',e,nI (hc.2 n c).1]
    obtain⟨j,d,q⟩:=cB c;rcases bH j i with o|o
    ·have:=hi j d o;rw[q]at this;omega
    ·have:=g j d o;rw[q]at this;omega
  ·rintro(⟨rfl,rfl⟩|⟨_,n,c,h⟩)
   ·exact⟨(k',some x,.nil),(mem _).2 (.inl rfl),[],(bP _).symm,.inl ⟨rfl,rfl⟩⟩
   ·exact⟨n,(mem _).2 (.inr c),h⟩
theorem kV{α:Type}{l:List α}{i:Nat}(hi:i<l.length){a x:α}(d:∀j (c:j<l.length),j≠i→l[j]≠l[i]):x∈l.set i a↔x=a∨(x∈l∧x≠l[i]):=by
 constructor
 ·intro h
  obtain⟨j,c,e⟩:=cB h;rw[List.length_set]at c;rw[List.getElem_set]at e;split at e
  ·exact .inl e.symm
  ·rename_i b
   exact .inr ⟨by rw[←e];exact aP c,by rw[←e];exact d j c fun e=>b e.symm⟩
 ·rintro(rfl|⟨h,b⟩)
  ·exact ml (i:=i) (h:=by simpa using hi) (by simp)
  ·obtain⟨j,c,e⟩:=cB h
   have:i≠j:=by rintro rfl;exact b e.symm
   exact ml (i:=j) (h:=by simpa using c) (by rw[List.getElem_set_ne this];exact e)
theorem Mq{F:Fo}{i:Nat}{m:Bn}(h:eW F)(hi:i<F.toL.length)(hm:Ja m)(e:hd m.1=hd F.toL[i].1):eW (.ofL (F.toL.set i m)):=by
 have hc:=eg.1 h;rw[eg,Fo.to_of];refine⟨?_,fun n g=>?_⟩
 ·rw[cI]at hc⊢
  intro a b d f c;rw[List.length_set]at d f;rw[List.getElem_set,List.getElem_set];split
  ·rename_i ea;subst ea
   rw[if_neg (by omega),e];exact hc.1 _ _ d f c
  ·split
   ·rename_i eb;subst eb
    rw[e];exact hc.1 _ _ d f c
   ·exact hc.1 _ _ d f c
 ·rcases List.mem_or_eq_of_mem_set g with g|rfl
  ·exact hc.2 n g
  ·exact hm
theorem tM{F:Fo}(h:eW F){i:Nat}(hi:i<F.toL.length)(j:Nat)(c:j<F.toL.length)(a:j≠i):F.toL[j]≠F.toL[i]:=by
 have hc:=(eg.1 h).1;rw[cI]at hc;intro e;rcases Nat.lt_or_gt_of_ne a with b|b
 ·have:=hc j i c hi b;rw[e]at this;omega
 ·have:=hc i j hi c b;rw[e]at this;omega
theorem HM{F:Fo}{i:Nat}{m:Bn}{k:List UInt8}{v:ByteArray}(h:eW F)(hi:i<F.toL.length)(ek:hd F.toL[i].1=hd k)(f:sC (qW F.toL[i]) (qW m) k v):sC (ox F) (ox (.ofL (F.toL.set i m))) k v:=by
 intro k' g;have hc:=eg.1 h;rw[fw,fw,Fo.to_of];constructor
 ·rintro⟨n,a,c⟩
  rcases(kV hi (tM h hi)).1 a with rfl|⟨a,d⟩
  ·rcases(f k' g).1 c with b|⟨b,j⟩
   ·exact .inl b
   ·exact .inr ⟨b,_,aP hi,j⟩
  ·refine .inr ⟨fun e=>d ?_,n,a,c⟩
   obtain⟨r,e',_⟩:=c;refine wc h a (aP hi) ?_;rw[ek,←e,e',nI (hc.2 n a).1]
 ·rintro(b|⟨b,n,a,c⟩)
  ·exact⟨m,(kV hi (tM h hi)).2 (.inl rfl),(f k' g).2 (.inl b)⟩
  ·by_cases e:n=F.toL[i]
   ·exact⟨m,(kV hi (tM h hi)).2 (.inl rfl),(f k' g).2 (.inr ⟨b,by rw[←e];exact c⟩)⟩
   ·exact⟨n,(kV hi (tM h hi)).2 (.inr ⟨a,e⟩),c⟩
theorem M6{lab r:List UInt8}{w w':Option ByteArray}{F F':Fo}{v:ByteArray}(h:sC (py w F) (py w' F') r v):sC (qW (lab,w,F)) (qW (lab,w',F')) (lab++r) v:=by
 intro k' a;constructor
 ·rintro⟨s,e,c⟩
  rcases(h s a).1 c with⟨rfl,rfl⟩|⟨b,d⟩
  ·exact .inl ⟨e,rfl⟩
  ·exact .inr ⟨fun e'=>b (ez (e.symm.trans e')),s,e,d⟩
 ·rintro(⟨rfl,rfl⟩|⟨b,s,e,c⟩)
  ·exact⟨r,rfl,(h r a).2 (.inl ⟨rfl,rfl⟩)⟩
  ·exact⟨s,e,(h s a).2 (.inr ⟨fun e'=>b (by rw[e,e']),c⟩)⟩
def cm:List UInt8→List UInt8→Nat
 |a::x,b::y=>if a=b then cm x y+1 else 0
 |_,_=>0
theorem Mp:∀(x y:List UInt8),cm x y≤x.length∧cm x y≤y.length
 | [],_=>by simp[cm]
 |_::_,[]=>by simp[cm]
 |a::x,b::y=>by unfold cm;have:=Mp x y;split<;>simp<;>omega
theorem Mm:∀(x y:List UInt8),x.take (cm x y)=y.take (cm x y)
 | [],_=>by simp[cm]
 |_::_,[]=>by simp[cm]
 |a::x,b::y=>by
  unfold cm;split
  ·rename_i e;rw[dw,dw,Mm x y,e]
  ·simp
theorem GI:∀(x y:List UInt8),cm x y<x.length→cm x y<y.length→hd (x.drop (cm x y))≠hd (y.drop (cm x y))
 | [],_=>by simp[cm]
 |_::_,[]=>by simp[cm]
 |a::x,b::y=>by
  unfold cm;split
  ·rename_i e
   intro c d;rw[aN]at c d;rw[ja,ja];exact GI x y (by omega) (by omega)
  ·rename_i e
   intro _ _ h;exact e (km.1 h)
theorem PC{x y:List UInt8}(hx:x≠[])(c:y≠[])(h:hd x=hd y):0<cm x y:=by
 match x,y,hx,c with
 |a::x,b::y,_,_=>
  unfold cm;rw[if_pos (show a=b from km.1 h)]
  omega
theorem Fh{lab:List UInt8}{w:Option ByteArray}{F:Fo}(c:Nat):∀k v,qW (lab.take c,none,.cons (lab.drop c) w F .nil) k v↔qW (lab,w,F) k v:=by
 intro k v;constructor
 ·rintro⟨r,e,⟨_,h⟩|(⟨s,rfl,h⟩|h)⟩
  ·cases h
  ·exact⟨s,by rw[e];simp only;rw[←ar,aV],h⟩
  ·exact h.elim
 ·rintro⟨s,e,h⟩
  exact⟨lab.drop c++s,by rw[e];simp only;rw[←ar,aV],.inr (.inl ⟨s,rfl,h⟩)⟩
theorem PM{lab r:List UInt8}{w w':Option ByteArray}{F F':Fo}{v:ByteArray}(b:lab≠[])(i:w.isSome∨2≤F.toL.length)(g:eW F)(a:r≠[]→hd r≠hd lab)(h:sC (py none (.cons lab w F .nil)) (py w' F') r v):Br (py w' F'):=by
 by_cases e:r= []
 ·subst e
  exact .inl ⟨v,(h [] v).2 (.inl ⟨rfl,rfl⟩)⟩
 ·have hc:eW (.cons lab w F .nil):=⟨b,i,g,fun n f=>by simp[Fo.toL]at f,trivial⟩
  obtain⟨s,u,d⟩:=mz hc _ (az ..);simp only at d;have c:hd (lab++s)=hd lab:=nI b;refine .inr ⟨r,lab++s,v,u,(h r v).2 (.inl ⟨rfl,rfl⟩),(h _ u).2 (.inr ⟨fun e'=>a e (by rw[←e',c]),.inr (.inl ⟨s,rfl,d⟩)⟩),e,fun e'=>b (fW.1 e').1,by rw[c];exact a e⟩
theorem Rf{P d:List UInt8→ByteArray→Prop}{k:List UInt8}{v:ByteArray}(g:Br P)(h:sC P d k v):Br d:=by
 have keep:∀j u,P j u→∃c,d j c:=fun j u f=>by
  by_cases e:j=k
  ·exact⟨v,(h j v).2 (.inl ⟨e,rfl⟩)⟩
  ·exact⟨u,(h j u).2 (.inr ⟨e,f⟩)⟩
 rcases g with⟨u,i⟩|⟨j,k',u,c,f,o,r⟩
 ·obtain⟨c,m⟩:=keep [] u i
  exact .inl ⟨c,m⟩
 ·obtain⟨a,n⟩:=keep j u f
  obtain⟨b,g⟩:=keep k' c o;exact .inr ⟨j,k',a,b,n,g,r⟩
end Go.Proofs
namespace Go.Proofs
open Go.Lift
theorem Tb(a b:Nat):(ah (IntKind.bits .u64) (a:Int)&&&ah (IntKind.bits .u64) (b:Int)).toNat=(a%18446744073709551616)&&&(b%18446744073709551616):=by
 simp[IntKind.bits,BitVec.toNat_and,BitVec.toNat_ofInt];rfl
theorem TY{hv:Int}(c:0≤hv∧hv<18446744073709551616){lev:Nat}(g:lev<13){h:ad}{K:Int→ad→Prop}(b:K (((hv.toNat>>>(5*lev))%32:Nat):Int) h):HC PG lh [.int .u64 hv,.int .i64 lev] [.c (.int .i64)] K h:=by
 refine Ll hv lev ?_;unfold DZ;refine Join.plain (aG (fun h=>by omega) fun _=>?_)
 rw[decide_eq_false (by omega)];refine aj.2 ?_;have d:IntKind.wrap .i64 (5*(lev:Int))=((5*lev:Nat):Int):=by rw[oq (by omega)];omega
 rw[d];have f:min (((5*lev:Nat):Int)).toNat (IntKind.bits .u64)=5*lev:=by rw[aH];exact bm (by show 5*lev≤64;omega)
 rw[f];obtain⟨n,rfl⟩:=Int.eq_ofNat_of_zero_le c.1;rw[aH]at b;simp only[Bd];rw[ld];have a:n>>>(5*lev)<18446744073709551616:=Nat.lt_of_le_of_lt (Nat.shiftRight_le _ _) (by omega);have e:=Tb (n>>>(5*lev)) 31;rw[Nat.mod_eq_of_lt a,show((31:Nat):Int)=(31:Int)from rfl,show 31%18446744073709551616=2^5-1 from rfl,Nat.and_two_pow_sub_one_eq_mod]at e
 rw[e];have hm:n>>>(5*lev)%2^5<32:=na _ (by omega);rw[Go.IntWalk.u64_in _ (by omega),oq (by omega)];exact⟨by omega,b⟩
theorem PE{x:Hs}{k:ByteArray}{lev:Nat}(b:lev<13){h:ad}{K:Int→ad→Prop}(a:K (ck x lev k:Int) h):HC PG lh [.int .u64 (kX x k),.int .i64 lev] [.c (.int .i64)] K h:=TY (Be x k) b a
theorem HT{x:Hs}{lev c:Nat}{l:List Pr}(h:∀p∈l,ck x lev p.1=c):part x lev c l=l:=List.filter_eq_self.2 fun p a=>decide_eq_true (h p a)
theorem LW{x:Hs}{lev c:Nat}{l:List Pr}(h:∀p∈l,ck x lev p.1≠c):part x lev c l= []:=List.filter_eq_nil_iff.2 fun p a=>by simpa using h p a
theorem CN{x:Hs}{lev c:Nat}{p:Pr}{l:List Pr}(a:cu l):part x lev c (gY p l)=if ck x lev p.1=c then gY p (part x lev c l)else part x lev c l:=by
 have:=C8 p (fun k=>decide (ck x lev k=c)) a
 unfold part;rw[this];by_cases h:ck x lev p.1=c
 ·rw[if_pos h,if_pos (decide_eq_true h)]
 ·rw[if_neg h,if_neg (by simpa using h)]
theorem LI{p q:Pr}(h:p.1≠q.1):(gY q [p]).length=2:=by
 rw[gm];by_cases a:kl p.1 q.1
 ·rw[if_pos a];rfl
 ·rw[if_neg a,if_neg h];rfl
theorem L1{p q r:Pr}(h:r∈gY q [p]):r=p∨r=q:=(yD h).symm.imp (fun h=>aq.1 h) id
theorem fY{β:Type}{g:Nat→Option β}{i c:Nat}{x:Option β}(h:c≠i):upd g i x c=g c:=by unfold upd;rw[if_neg h]
end Go.Proofs
namespace Go.Proofs
open Go.Lift
noncomputable instance memDec (p:Pr) (l:List Pr):Decidable (p∈l):=Classical.propDecidable _
theorem JE{l:List Pr}(a:cu l){k v w:ByteArray}(b:(k,v)∈l)(c:(k,w)∈l):v=w:=by
 induction l with
 |nil=>cases b
 |cons q l ih=>
  have a:=bq.1 a;rcases au.1 b with d|b<;>rcases au.1 c with e|c
  ·exact(Prod.mk.inj (d.trans e.symm)).2
  ·have:=a.1 _ c;rw[←d]at this;exact absurd this (cJ _)
  ·have:=a.1 _ b;rw[←e]at this;exact absurd this (cJ _)
  ·exact ih a.2 b c
theorem my{x:Hs}{lev c:Nat}{l:List Pr}{p:Pr}:p∈part x lev c l↔p∈l∧ck x lev p.1=c:=by unfold part;rw[gR,decide_eq_true_iff]
theorem Cp{x:Hs}{lev:Nat}{l:List Pr}{k:ByteArray}:cj (part x lev (ck x lev k) l) k=cj l k:=by
 unfold cj;rw[mO,ci,ci];constructor
 ·rintro⟨p,a,e⟩;exact⟨p,(my.1 a).1,e⟩
 ·rintro⟨p,a,e⟩;exact⟨p,my.2 ⟨a,by rw[of_decide_eq_true e]⟩,e⟩
theorem qq{x:Hs}{lev c:Nat}{l:List Pr}(a:cu l):cu (part x lev c l):=a.sublist List.filter_sublist
theorem j3{x:Hs}{lev c:Nat}{l:List Pr}:(part x lev c l).length≤l.length:=List.length_filter_le ..
def SlotIs(W:Nat→Prop)(x:Hs)(h:ad)(m:Nat)(s:Slots)(c:Nat)(l:List Pr):Prop:=
 (l= []∧s.p c=none∧s.k c=none)∨(∃p,l= [p]∧s.p c=some p∧s.k c=none)∨(2≤l.length∧s.p c=none∧∃kb,s.k c=some (some ⟨kb,0,none⟩)∧TrieAt W x h m kb l)
theorem SlotIs.upd0{W:Nat→Prop}{x:Hs}{h a:ad}{m:Nat}{s:Slots}{c:Nat}{l:List Pr}(k:Upd No h a)(t:SlotIs W x h m s c l):SlotIs W x a m s c l:=t.imp id fun o=>o.imp id fun⟨e,f,g,d,b⟩=>⟨e,f,g,d,TrieAt.upd0 k b⟩
theorem H8(p:Pr):∀{l:List Pr},l.length≤(gY p l).length
 | []=>aU _
 |q::l=>by
  rw[gm];split
  ·have:=H8 p (l:=l);simp only[aN];omega
  ·split<;>simp
theorem jp{a b:ByteArray}:(a.toList==b.toList)=decide (a=b):=by
 rw[mO,beq_iff_eq,decide_eq_true_iff,Aw]
end Go.Proofs
namespace Go.Proofs
open Go.Lift
theorem Og{W:Nat→Prop}{x:Hs}{h:ad}{m b:Nat}(a:NodeAt W h b ⟨fun _=>none,fun _=>none⟩):TrieAt W x h (m+1) b []:=⟨_,a,fun _ _=>.inl ⟨rfl,rfl,rfl⟩⟩
def RootAt(W:Nat→Prop)(x:Hs)(h:ad)(r:Option Addr)(l:List Pr):Prop:=(r=none∧l= [])∨∃b,r=some ⟨b,0,none⟩∧TrieAt W x h 13 b l
theorem RootAt.upd0{W:Nat→Prop}{x:Hs}{h a:ad}{r:Option Addr}{l:List Pr}(k:Upd No h a)(t:RootAt W x h r l):RootAt W x a r l:=t.imp id fun⟨b,e,t⟩=>⟨b,e,TrieAt.upd0 k t⟩
theorem dd{h:ad}{b:Nat}{t:TypeId}{c vs:List Value}(a:h[b]? =some (.cells c.toArray t (0,0))) (f:vs.length=c.length) {k:ad→Prop}
  (d:∀h',h'[b]? =some (.cells vs.toArray t (0,0))→Upd (· =b) h h'→k h'):sS h (some ⟨b,0,none⟩) 0 vs∧At (gT h ⟨b,0,none⟩ 0 vs) k:=by
 have e:=iB vs h 0 0 c a (by omega);refine⟨.inr ⟨_,rfl,fun j g=>by rw[bL];exact ia a (by rw[cP];omega)⟩,bT ?_⟩
 rw[e];refine d _ ?_ (Upd.set h _ rfl);rw[jL a];congr 3
 simp[f]
end Go.Proofs
namespace Go.Proofs
open Go.Lift
abbrev nq(b:UInt8):List Value:= [.int .u8 (b.toNat:Int)]
theorem pF(b:UInt8):(nq b).length=1∧0<1:=⟨rfl,Nat.one_pos⟩
theorem yx:∀xs:List UInt8,ce (xs.flatMap nq)=true
 | []=>rfl
 |x::xs=>by rw[aX];exact lH rfl (yx xs)
theorem rA(s:ByteArray):dD s=s.data.toList.flatMap nq:=by
 unfold dD;generalize s.data.toList=l;induction l with
 |nil=>rfl
 |cons b l ih=>rw[List.map_cons,aX,ih];rfl
theorem sR{M:Nat→Prop}{h:ad}{c:SliceV}{out:List UInt8}{v:Int}{b:UInt8}(hv:v=(b.toNat:Int)){K:SliceV→ad→Prop}(f:OwnS nq 1 cp M h c out)(hM:∀b,h.size≤b→M b)(j:out.length+1≤140737488355328)
  (g:∀s' a,OwnS nq 1 cp M a s' (out++ [b])→Upd M h a→K s' a):
  ∃xs,SRow (hnew h [.int .u8 v] cp) (some (aC h)) (1*1) xs∧AppP (some [.int .u8 0]) 1 1 cp c.a c.len c.cap 1 xs (hnew h [.int .u8 v] cp) K:=by
 subst hv;have k:=Upd.hnew No h [.int .u8 (b.toNat:Int)] cp;have i:OwnS nq 1 cp (fun _=>True) (hnew h [.int .u8 (b.toNat:Int)] cp) ⟨some (aC h),1,1⟩ [b]:=⟨rfl,pF,ao _,.inr ⟨h.size,[],rfl,trivial,cW ..,rfl⟩⟩
 refine⟨_,(i.sl (W:=No) fun _ _ _ h=>h).srow,?_⟩
 refine AppP.own (ys:= [b]) (f.upd k fun _ _ h=>h) rfl rfl rfl rfl (by omega) (by simp only[aK];omega) (hM _ (by rw[kA];omega)) fun s' a d e=>?_
 exact g s' a d ((Upd.hnew M h _ _).tr e)
def kW(n k:Nat):List UInt8:=(List.range k).map fun i=>fH (n>>>(8*i))
theorem vU(n k:Nat):kW n (k+1)=kW n k++ [fH (n>>>(8*k))]:=by unfold kW;rw[f9,List.map_append];rfl
theorem c7(n k:Nat):(kW n k).length=k:=by simp[kW]
theorem Kb{M:Nat→Prop}{h:ad}{s:SliceV}{xs:List UInt8}(v:OwnS nq 1 cp M h s xs)(hM:∀b,h.size≤b→M b){n k:Nat}(A:n<18446744073709551616)(q:k≤8)(C:xs.length+k≤140737488355328){K:SliceV→ad→Prop}
  (w:∀s' c,OwnS nq 1 cp M c s' (xs++kW n k)→Upd M h c→K s' c):HC PG lf [.slice s.a s.len s.cap,.int .u64 n,.int .i64 k] [.c .slice] K h:=by
 refine Bm s n k ?_;unfold vH;refine LoopP.ghost (fun(i:Nat) (t:SliceV×Int) c=>t.2=(i:Int)∧i≤k∧OwnS nq 1 cp M c t.1 (xs++kW n i)∧Upd M h c) (fun i=>k-i) 0 ⟨rfl,aU _,by simpa[kW]using v,Upd.refl _ _⟩ ?_
 rintro I i ⟨B,ti⟩ c ⟨o,hi,d,g⟩ u;simp only at o d;subst o;refine aG (fun a=>?_) fun m=>?_
 ·have a:i<k:=by have:(i:Int)<(k:Int):=a;omega
  have p:IntKind.wrap .i64 (8*(i:Int))=((8*i:Nat):Int):=by rw[oq (by omega)];omega
  have y:min (((8*i:Nat):Int)).toNat (IntKind.bits .u64)=8*i:=by rw[aH];exact bm (by show 8*i≤64;omega)
  refine Join.plain ?_;simp only[Bd];rw[p,y,ld];refine⟨by omega,bT ?_⟩;refine sR (b:=fH (n>>>(8*i))) ?_ d (fun b x=>hM b (ba g.size x)) (by rw[ae,c7];omega) fun s2 z e j=>?_
  ·rw[IntKind.wrap_u8];simp
  ·rw[cz a (by omega)]
   refine u (i+1) _ _ ⟨rfl,a,?_,g.tr j⟩ (by omega);rw[vU,←ar];exact e
 ·have f:i=k:=by have:¬(i:Int)<(k:Int):=m;omega
  subst f;exact w _ _ d g
end Go.Proofs
namespace Go.Proofs
open Go Go.Lift
theorem IB{α:Type}{f:α→List Value}{j a:Nat}{t:TypeId}{W:Nat→Prop}{h:ad}{d:Option Addr}{sl q m:Nat}{xs ys:List α}{e z:List Value}{K:SliceV→ad→Prop}
  (p:Sl f j W h ⟨d,sl,q⟩ xs)(n:m=ys.length)(o:e=ys.flatMap f)(hz:z.length=j)(v:0<a)(g:q<sl+m)(i:(xs.length+ys.length)*a≤140737488355328)
  (u:∀s' h',OwnS f j t (fun b=>h.size≤b) h' s' (xs++ys)→Upd No h h'→K s' h'):AppP (some z) j a t d sl q m e h K:=by
 have c:sl=xs.length:=p.len;subst n o;refine⟨fun s=>by omega,fun _=>?_⟩
 refine⟨xs.flatMap f,z,p.srow,rfl,v,Go.growslice_fits g (by rw[c];exact i),fun w k=>?_⟩
 refine u _ _ ⟨by simp[c],p.ne,k,.inr ⟨h.size,dy (w-(sl+ys.length)) z,rfl,ao _,?_,?_⟩⟩ (Upd.hnew No h _ _)
 ·rw[cW,bA]
 ·rw[kO,hz]
theorem QX{h:ad}{s:SliceV}{xs:List UInt8}(D:Sl nq 1 No h s xs)(hc:s.cap=s.len){n k:Nat}(y:k≤8)(z:0<k)(F:xs.length+k≤140737488355328){K:SliceV→ad→Prop}
  (A:∀s' d,OwnS nq 1 cp (fun b=>h.size≤b) d s' (xs++kW n k)→Upd No h d→K s' d):HC PG lf [.slice s.a s.len s.cap,.int .u64 n,.int .i64 k] [.c .slice] K h:=by
 refine Bm s n k ?_;unfold vH;refine LoopP.ghost (fun(i:Nat) (t:SliceV×Int) d=>t.2=(i:Int)∧i≤k∧((i=0∧t.1=s∧d=h)∨OwnS nq 1 cp (fun b=>h.size≤b) d t.1 (xs++kW n i))∧Upd No h d) (fun i=>k-i) 0 ⟨rfl,aU _,.inl ⟨rfl,rfl,rfl⟩,Upd.refl _ _⟩ ?_
 rintro I i ⟨E,ti⟩ d ⟨v,hi,a,o⟩ u;simp only at v a;subst v;refine aG (fun c=>?_) fun p=>?_
 ·have c:i<k:=by have:(i:Int)<(k:Int):=c;omega
  have w:IntKind.wrap .i64 (8*(i:Int))=((8*i:Nat):Int):=by rw[oq (by omega)];omega
  have B:min (((8*i:Nat):Int)).toNat (IntKind.bits .u64)=8*i:=by rw[aH];exact bm (by show 8*i≤64;omega)
  refine Join.plain ?_;simp only[Bd];rw[w,B,ld];refine⟨by omega,bT ?_⟩;have q:IntKind.wrap .u8 ((n>>>(8*i):Nat):Int)=((fH (n>>>(8*i))).toNat:Int):=by rw[IntKind.wrap_u8];simp
  rcases a with⟨rfl,rfl,rfl⟩|a
  ·rw[q]
   have k1:=Upd.hnew No d [.int .u8 ((fH (n>>>(8*0))).toNat:Int)] cp;have C:OwnS nq 1 cp (fun _=>True) (hnew d [.int .u8 ((fH (n>>>(8*0))).toNat:Int)] cp) ⟨some (aC d),1,1⟩ [fH (n>>>(8*0))]:=⟨rfl,pF,ao _,.inr ⟨d.size,[],rfl,trivial,cW ..,rfl⟩⟩
   refine⟨_,(C.sl (W:=No) fun _ _ _ h=>h).srow,?_⟩
   refine IB (ys:= [fH (n>>>(8*0))]) (D.upd k1 fun _ h=>h.elim) rfl rfl rfl (by omega) (by omega) (by simp only[aK];omega) fun s2 x f g=>?_
   rw[cz c (by omega)];refine u 1 _ _ ⟨rfl,c,.inr ?_,k1.tr g⟩ (by omega);exact f.more fun b j=>ba k1.size j
  ·refine sR q a (fun b j=>ba o.size j) (by rw[ae,c7];omega) fun s2 x f g=>?_
   rw[cz c (by omega)];refine u (i+1) _ _ ⟨rfl,c,.inr ?_,o.trans g fun b j=>.inr j⟩ (by omega)
   rw[vU,←ar];exact f
 ·have m:i=k:=by have:¬(i:Int)<(k:Int):=p;omega
  subst m;rcases a with⟨e,_⟩|a
  ·omega
  ·exact A _ _ a o
def mq(s:ByteArray):List UInt8:=kW s.size 2++s.data.toList
theorem BV{W:Nat→Prop}{h:ad}{s:SliceV}{xs:List UInt8}(j:Sl nq 1 W h s xs)(hc:s.len≤s.cap)(b:ByteArray)(t:b.size≤1000000)(q:xs.length+2+b.size≤140737488355328){K:SliceV→ad→Prop}
  (o:∀s' h',OwnS nq 1 cp (fun x=>h.size≤x) h' s' (xs++mq b)→Upd No h h'→K s' h'):HC PG lJ [.slice s.a s.len s.cap,.string b] [.c .slice] K h:=by
 refine GT s b ?_;unfold zu;have i:=j.len;refine⟨by omega,by omega,?_⟩
 simp only[aH];have d:Sl nq 1 No h ⟨bh s.a 0 s.len 1,s.len-0,s.len-0⟩ xs:=by
  have:=Sl.sub (j.less (W':=No) fun _ h=>h.elim) (l:=0) (hi:=s.len) (m:=s.len) (c:=s.len-0) (aU _) (by omega) (ao _)
  rw[List.drop_zero,bB (by omega)]at this;exact this
 have ew:IntKind.wrap .u64 (b.size:Int)=(b.size:Int):=Go.IntWalk.u64_in _ (by omega);rw[ew];refine QX d rfl (n:=b.size) (k:=2) (by omega) (by omega) (by omega) fun s2 u e a=>?_
 refine AppP.own (ys:=b.data.toList) e (by simp) (rA b) (by rw[rA];exact yx _) rfl (by omega) ?_ a.size fun s3 p g f=>?_
 ·simp only[ae,c7]
  have:b.data.toList.length=b.size:=by simp
  omega
 ·refine o s3 p ?_ (a.trans f fun x hx=>.inr hx)
  rw[mq,←ar];exact g
end Go.Proofs
namespace Go.Proofs
open Go Go.Lift
def Ba(p:Pr):List UInt8:=mq p.1++mq p.2
def jg(l:List Pr):List UInt8:=l.flatMap Ba
theorem hE(b:ByteArray):(mq b).length=2+b.size:=by simp[mq,c7]
def Fit(l:List Pr):Prop:=∀p∈l,p.1.size≤10000∧p.2.size≤10000
theorem Nf{p:Pr}(h:p.1.size≤10000∧p.2.size≤10000):(Ba p).length≤20004:=by
 unfold Ba;rw[ae,hE,hE];omega
theorem kU:∀{l:List Pr},Fit l→(jg l).length≤l.length*20004
 | [],_=>by simp[jg]
 |p::l,h=>by
  have b:=Nf (h p (az ..));have c:=kU (l:=l) fun q a=>h q (aR _ a)
  unfold jg at*;rw[aX,ae,aN];omega
theorem A9{l:List Pr}{i:Nat}(hi:i<l.length):jg (l.take (i+1))=jg (l.take i)++Ba l[i]:=by
 unfold jg;rw[List.take_succ_eq_append_getElem hi,bA,aX,List.flatMap_nil,bP]
theorem Cx{M W:Nat→Prop}{h:ad}{s sp:SliceV}{xs:List UInt8}{l:List Pr}(O:OwnS nq 1 cp M h s xs)(hM:∀b,h.size≤b→M b)(G:Sl fP 2 W h sp l)(Q:∀x,M x→x<h.size→W x)(C:Fit l)(V:l.length≤1000000)(hl:xs.length+l.length*20004≤140737488355328){K:SliceV→ad→Prop}
  (P:∀s' d,OwnS nq 1 cp M d s' (xs++jg l)→Upd M h d→K s' d):HC PG oY [.slice s.a s.len s.cap,.slice sp.a sp.len sp.cap] [.c .slice] K h:=by
 refine Em s sp ?_;unfold wV dK bM aB nv mo jw zR;have F:=G.len;have y:∀b,M b→W b∨h.size≤b:=fun b w=>by
  rcases bH b h.size with hx|hx
  ·exact .inl (Q b w hx)
  ·exact .inr hx
 refine LoopP.ghost (fun(i:Nat) (t:SliceV×Int) d=>t.2=(i:Int)∧i≤l.length∧OwnS nq 1 cp M d t.1 (xs++jg (l.take i))∧Upd M h d) (fun i=>l.length-i) 0 ⟨rfl,aU _,by simpa[jg]using O,Upd.refl _ _⟩ ?_
 rintro I i ⟨Y,ti⟩ d ⟨D,hi,f,n⟩ L;simp only at D f;subst D;refine aG (fun c=>?_) fun B=>?_
 ·have c:i<l.length:=by have:(i:Int)<(sp.len:Int):=c;omega
  obtain⟨a,N,_,hv⟩:=(G.upd n y).at (af c);have T:=C l[i] (aP c);have v:=kU (l:=l.take i) fun q R=>C q (List.mem_of_mem_take R)
  rw[aI,bm hi]at v;have k1:=Upd.hnew No d [.string (⟨#[]⟩:ByteArray),.string (⟨#[]⟩:ByteArray)] aw;have b1:=cW d [.string (⟨#[]⟩:ByteArray),.string (⟨#[]⟩:ByteArray)] aw;refine⟨by simp only;omega,a,N,l[i].1,hv 0 _ rfl,l[i].2,hv 1 _ rfl,bT ?_⟩;simp only[fR d];generalize hnew d [.string (⟨#[]⟩:ByteArray),.string (⟨#[]⟩:ByteArray)] aw=h1 at k1 b1
  have u:h1[d.size]? =some (.cells #[.string Jj.1,.string Jj.2] aw (0,0)):=b1;refine A8 (p:=l[i]) u fun J b2 z=>?_
  have e:Upd No d J:=k1.trans z fun x hx=>.inr (g5 hx.symm)
  have j:=f.upd e fun _ _ h=>h
  refine⟨l[i].1,by rw[bL,bj b2];rfl,l[i].2,by rw[bL,bj b2];rfl,?_⟩
  have E:i*20004+20004≤l.length*20004:=by rw[←Nat.succ_mul];exact Nat.mul_le_mul_right _ c
  refine BV (W:=No) (j.sl fun _ _ _ h=>h) j.cap l[i].1 (by omega) (by rw[ae];omega) fun s3 X m g=>⟨by rw[bL,bj (g.get0 b2)];rfl,?_⟩
  refine BV (W:=No) (m.sl fun _ _ _ h=>h) m.cap l[i].2 (by omega) (by rw[ae,ae,hE];omega) fun Z S o A=>?_
  have k:Upd M h S:=n.tr ((e.tr (g.tr A)).wide);rw[cz c (by omega)];refine L (i+1) _ _ ⟨rfl,c,?_,k⟩ (by omega);rw[A9 c,Ba,←ar,←ar];exact o.more fun b w=>hM b (ba (n.tr ((e.tr g).wide)).size w)
 ·have H:i=l.length:=by have:¬(i:Int)<(sp.len:Int):=B;omega
  rw[bB (by omega)]at f;exact P _ _ f n
end Go.Proofs
namespace Go.Proofs
open Go Go.Lift
def ij(q:Nat→Bool):Nat→Nat
 |0=>0
 |n+1=>ij q n+(if q n then 2^n else 0)
theorem li(q:Nat→Bool):∀n,ij q n<2^n
 |0=>by simp[ij]
 |n+1=>by
  have:=li q n;unfold ij;rw[lY];split<;>omega
theorem Ay(q:Nat→Bool)(c:Nat):∀n,(ij q n).testBit c=(decide (c<n)&&q c)
 |0=>by simp[ij]
 |n+1=>by
  have b:=li q n;have d:=Ay q c n;unfold ij;by_cases a:q n=true
  ·rw[if_pos a,Nat.add_comm]
   rcases Nat.lt_trichotomy c n with h|h|h
   ·rw[Nat.testBit_two_pow_add_gt h,d,decide_eq_true h,decide_eq_true (by omega)]
   ·subst h
    rw[Nat.testBit_two_pow_add_eq,fV b,decide_eq_true (by omega),a];rfl
   ·have f:2^n+ij q n<2^c:=bR (by rw[lY];omega:2^n+ij q n<2^(n+1)) (eI (by omega) h)
    rw[fV f,decide_eq_false (by omega)];rfl
  ·rw[if_neg a,cZ,d]
   by_cases h:c<n
   ·rw[decide_eq_true h,decide_eq_true (by omega)]
   ·by_cases e:c=n
    ·subst e;have:q c=false:=by simpa using a
     rw[this];simp
    ·rw[decide_eq_false h,decide_eq_false (by omega)]
theorem FE{d:Nat}{q:Nat→Bool}(hd:d<4294967296)(h:∀c,c<32→d.testBit c=q c):d=ij q 32:=by
 refine Nat.eq_of_testBit_eq fun c=>?_
 rw[Ay];by_cases hc:c<32
 ·rw[h c hc,decide_eq_true hc];rfl
 ·rw[decide_eq_false hc,fV (bR hd (eI (n:=2) (by omega) (show 32≤c by omega)))];rfl
end Go.Proofs
namespace Go.Proofs
open Go Go.Lift
def gk(l:List Pr):Option Pr:=match l with| [p]=>some p|_=>none
def dZ(l:List Pr):Option (List Pr):=if 2≤l.length then some l else none
def fC(x:Hs)(lev:Nat)(l:List Pr):List Pr:=fm (fun c=>gk (part x lev c l)) 32
def iV(x:Hs)(lev:Nat)(l:List Pr):List (List Pr):=fm (fun c=>dZ (part x lev c l)) 32
def eP(x:Hs):Nat→List Pr→List UInt8
 |0,l=>1::(kW l.length 2++jg l)
 |m+1,l=>0::(kW (ij (fun c=>(gk (part x (12-m) c l)).isSome) 32) 4++(kW (ij (fun c=>(dZ (part x (12-m) c l)).isSome) 32) 4++(jg (fC x (12-m) l)++(iV x (12-m) l).flatMap (eP x m))))
theorem Cv{W:Nat→Prop}{x:Hs}{h:ad}{m:Nat}{s:Slots}{c:Nat}{l:List Pr}(t:SlotIs W x h m s c l):s.p c=gk l∧(s.k c).isSome=(dZ l).isSome:=by
 rcases t with⟨rfl,d,e⟩|⟨p,rfl,d,e⟩|⟨f,d,g,e,_⟩
 ·rw[d,e];exact⟨rfl,rfl⟩
 ·rw[d,e];exact⟨rfl,rfl⟩
 ·rw[d,e]
  refine⟨?_,by simp[dZ,f]⟩
  match l,f with
  |a::b::l,_=>rfl
def KidsAt(W:Nat→Prop)(x:Hs)(h:ad)(m:Nat):List (Option Addr)→List (List Pr)→Prop
 | [],[]=>True
 |k::ks,l::ls=>(∃kb,k=some ⟨kb,0,none⟩∧TrieAt W x h m kb l)∧KidsAt W x h m ks ls
 |_,_=>False
theorem KidsAt.app{W:Nat→Prop}{x:Hs}{h:ad}{m:Nat}:∀{ks ks':List (Option Addr)} {ls ls':List (List Pr)},KidsAt W x h m ks ls→KidsAt W x h m ks' ls'→KidsAt W x h m (ks++ks') (ls++ls')
 | [],_,[],_,_,q=>q
 |_::_,_,_::_,_,q,q'=>⟨q.1,KidsAt.app q.2 q'⟩
 | [],_,_::_,_,q,_=>q.elim
 |_::_,_,[],_,q,_=>q.elim
theorem fS{β:Type}(g:Nat→Option β)(n:Nat):fm g (n+1)=fm g n++(g n).toList:=by
 unfold fm;rw[f9,List.filterMap_append];cases h:g n<;>simp[h]
theorem Kh{W:Nat→Prop}{x:Hs}{h:ad}{m lev:Nat}{s:Slots}{l:List Pr}:∀n,(∀c,c<n→SlotIs W x h m s c (part x lev c l))→KidsAt W x h m (fm s.k n) (fm (fun c=>dZ (part x lev c l)) n)
 |0,_=>trivial
 |n+1,hs=>by
  rw[fS,fS];refine KidsAt.app (Kh n fun c hc=>hs c (by omega)) ?_
  rcases hs n (by omega)with⟨a,_,b⟩|⟨p,a,_,b⟩|⟨a,_,d,b,e⟩
  ·rw[b,a];exact trivial
  ·rw[b,a];exact trivial
  ·rw[b]
   have:dZ (part x lev n l)=some (part x lev n l):=by unfold dZ;rw[if_pos a]
   simp only[this];exact⟨⟨d,rfl,e⟩,trivial⟩
theorem BX{W:Nat→Prop}{x:Hs}{h:ad}{m lev:Nat}{s:Slots}{l:List Pr}(a:∀c,c<32→SlotIs W x h m s c (part x lev c l)):fm s.p 32=fC x lev l:=
 TR _ fun c hc=>(Cv (a c (List.mem_range.1 hc))).1
end Go.Proofs
