/- A part of the proof that the named laws of this program answer true, whatever the input. -/
import Derived.Test.YtajpljopgikpgaaGreatPart1
open BitVec renaming ofInt→ad
open Bool renaming eq_iff_iff→jX
open Int renaming toNat_natCast→aK
open List renaming range→cp,mem_cons_self→aC,mem_cons_of_mem→aS,mem_range→gh,range_add→kP,filterMap_append→iZ,map_append→fQ,take_left'→bW,drop_left'→bH,drop_drop→cB,length_append→ae,length_take→aE,flatMap_cons→ba,size_toArray→bG,append_assoc→ay,getElem_mem→bO,pairwise_cons→aZ,mem_cons→ai,filter_cons→co,mem_filter→fP,append_eq_nil_iff→dX,mem_singleton→ag,getElem_of_mem→dd,take_append_drop→bc,pairwise_append→bQ,append_nil→cR,pairwise_iff_getElem→cH,take_succ_cons→gN,length_cons→aQ,any_eq_true→bE
open Nat renaming zero_add→ar,min_eq_left→aL,add_zero→dE,le_of_eq→eP,le_refl→av,mod_lt→mL
open Option renaming isSome_iff_exists→bS,some→aN
open UInt8 renaming toNat_inj→jV
namespace Go.Proofs
open Go.Lift
def fm{β:Type}(g:Nat→Option β)(n:Nat):List β:=(cp n).filterMap g
def upd{β:Type}(g:Nat→Option β)(i:Nat)(x:Option β)(j:Nat):Option β:=if j=i then x else g j
theorem Em{β:Type}{f g:Nat→Option β}:∀l:List Nat,(∀j∈l,f j=g j)→l.filterMap f=l.filterMap g
 | [],_=>rfl
 |j::l,h=>by
  rw[List.filterMap_cons,List.filterMap_cons,h j (aC ..),Em l fun k a=>h k (aS _ a)]
section
variable {β:Type} {g:Nat→Option β} {d:Nat}
theorem tf(hd:∀c,c<32→d.testBit c=(g c).isSome){i:Nat}(b:i≤32):(fm g i).length=mn i d:=by
 unfold fm mn;rw[List.length_filterMap_eq_countP];exact List.countP_congr fun j a=>by rw[hd j (by have:=gh.1 a;omega)]
theorem jE{i n:Nat}(b:i<n):fm g n=fm g i++((g i).toList++(cp (n-(i+1))).filterMap fun j=>g (i+1+j)):=by
 unfold fm;have e:n=i+(1+(n-(i+1))):=by omega
 rw[e,kP,iZ,kP];have a:i+(1+(n-(i+1)))-(i+1)=n-(i+1):=by omega
 rw[a];congr 1
 rw[fQ,iZ,List.map_map];congr 1
 rw[List.filterMap_map];refine Em _ fun j _=>?_
 show g (i+(1+j))=_
 rw[Nat.add_assoc]
theorem oN{i:Nat}{x:Option β}:fm (upd g i x) i=fm g i:=by
 unfold fm;refine Em _ fun j a=>?_
 have:=gh.1 a;unfold upd;rw[if_neg (by omega)]
theorem np{i m:Nat}{x:Option β}:((cp m).filterMap fun j=>upd g i x (i+1+j))=(cp m).filterMap fun j=>g (i+1+j):=by
 refine Em _ fun j _=>?_
 unfold upd;rw[if_neg (by omega)]
theorem Bk{i:Nat}(b:i<32)(hd:∀c,c<32→d.testBit c=(g c).isSome)(e:g i=none)(x:β):fm (upd g i (some x)) 32=(fm g 32).take (mn i d)++x::(fm g 32).drop (mn i d):=by
 have a:=tf hd (i:=i) (by omega);rw[jE (g:=upd g i (some x)) b,jE (g:=g) b,oN,np,e,bW a,bH a];simp[upd]
theorem Bj{i:Nat}(b:i<32)(hd:∀c,c<32→d.testBit c=(g c).isSome){y:β}(e:g i=some y)(x:β):fm (upd g i (some x)) 32=(fm g 32).take (mn i d)++x::(fm g 32).drop (mn i d+1):=by
 have a:=tf hd (i:=i) (by omega);rw[jE (g:=upd g i (some x)) b,jE (g:=g) b,oN,np,e,bW a,←cB,bH a];simp[upd]
theorem Bl{i:Nat}(b:i<32)(hd:∀c,c<32→d.testBit c=(g c).isSome){y:β}(e:g i=some y):fm (upd g i none) 32=(fm g 32).take (mn i d)++(fm g 32).drop (mn i d+1):=by
 have a:=tf hd (i:=i) (by omega);rw[jE (g:=upd g i none) b,jE (g:=g) b,oN,np,e,bW a,←cB,bH a];simp[upd]
theorem Bm{i:Nat}(e:i<32)(hd:∀c,c<32→d.testBit c=(g c).isSome){y:β}(b:g i=some y):(fm g 32)[mn i d]? =some y:=by
 have a:=tf hd (i:=i) (by omega);rw[jE (g:=g) e,b,List.getElem?_append_right (by omega),a,Nat.sub_self];rfl
theorem uM{i:Nat}(b:i<32)(hd:∀c,c<32→d.testBit c=(g c).isSome){y:β}(a:g i=some y):mn i d<(fm g 32).length:=(List.getElem?_eq_some_iff.1 (Bm b hd a)).1
theorem C0{i:Nat}(a:i<32)(hd:∀c,c<32→d.testBit c=(g c).isSome):mn i d≤(fm g 32).length:=by
 have b:=tf hd (i:=i) (by omega);rw[jE (g:=g) a,ae];omega
theorem tg:(fm g 32).length≤32:=by
 have:=List.length_filterMap_le g (cp 32);simpa[fm]using this
end
end Go.Proofs
namespace Go.Proofs
open Go.Lift
abbrev sv(s:SliceV):Value:=.slice s.a s.len s.cap
structure Slots where
 p:Nat→Option Pr
 k:Nat→Option (Option Addr)
def dw(d n:Nat)(sp sk:SliceV)(a:Bool)(ow:Option Addr):Array Value:= #[.int .u32 (d:Int),.int .u32 (n:Int),sv sp,sv sk,.bool a,.pointer ow]
structure BitsOf(d n:Nat)(s:Slots):Prop where
 d32:d<4294967296
 n32:n<4294967296
 dp:∀c,c<32→d.testBit c=(s.p c).isSome
 nk:∀c,c<32→n.testBit c=(s.k c).isSome
def OwOk(W:Nat→Prop)(h:ac)(ow:Option Addr):Prop:=∀a,ow=some a→¬W a.block∧cq h a
theorem OwOk.upd{W M:Nat→Prop}{h f:ac}{ow:Option Addr}(o:OwOk W h ow)(k:Upd M h f)(hm:∀b,M b→W b∨h.size≤b):OwOk W f ow:=fun a e=>by
 obtain⟨g,c,t,d,hz⟩:=o a e;exact⟨g,c,t,k.get d (fun i=>(hm _ i).elim g fun h=>by have:=aW d;omega),hz⟩
theorem OwOk.less{W W':Nat→Prop}{h:ac}{ow:Option Addr}(o:OwOk W h ow)(hm:∀b,W' b→W b∨h.size≤b):OwOk W' h ow:=fun a e=>by
 obtain⟨f,c,t,d,hz⟩:=o a e;exact⟨fun hx=>(hm _ hx).elim f fun h=>by have:=aW d;omega,c,t,d,hz⟩
theorem fT{W:Nat→Prop}{h:ac}:OwOk W h none:=fun _ e=>by cases e
structure NodeAt(W:Nat→Prop)(h:ac)(b:Nat)(s:Slots):Prop where
 ex:∃d n sp sk ow,h[b]? =some (.cells (dw d n sp sk false ow) aM (0,0))∧BitsOf d n s∧Sl hH 2 W h sp (fm s.p 32)∧Sl j4 1 W h sk (fm s.k 32)∧sp.len≤sp.cap∧sk.len≤sk.cap∧OwOk W h ow
 nw:¬W b
theorem NodeAt.upd{W M:Nat→Prop}{h c:ac}{b:Nat}{s:Slots}(n:NodeAt W h b s)(k:Upd M h c)(hm:∀b,M b→W b∨h.size≤b):NodeAt W c b s:=by
 obtain⟨d,m,sp,sk,ow,a,g,i,f,o,p,e⟩:=n.ex;exact⟨⟨d,m,sp,sk,ow,k.get a (fun j=>(hm _ j).elim n.nw fun h=>by have:=aW a;omega),g,i.upd k hm,f.upd k hm,o,p,e.upd k hm⟩,n.nw⟩
structure OwnN(M:Nat→Prop)(h:ac)(b d n:Nat)(sp sk:SliceV)(s:Slots)(ow:Option Addr):Prop where
 blk:h[b]? =some (.cells (dw d n sp sk false ow) aM (0,0))
 bits:BitsOf d n s
 ex:∃A B:Nat→Prop,OwnS hH 2 ah A h sp (fm s.p 32)∧OwnS j4 1 aJ B h sk (fm s.k 32)∧(∀x,A x→M x∧¬B x∧x≠b∧x<h.size)∧(∀x,B x→M x∧x≠b∧x<h.size)
 mb:M b
theorem OwnN.upd{M M':Nat→Prop}{h f:ac}{b d n:Nat}{sp sk:SliceV}{s:Slots}{ow:Option Addr}(o:OwnN M h b d n sp sk s ow)(k:Upd M' h f)(hm:∀x,M' x→¬M x):OwnN M f b d n sp sk s ow:=by
 obtain⟨A,B,j,g,a,c⟩:=o.ex;have z:=k.size;exact⟨k.get o.blk fun i=>hm _ i o.mb,o.bits,⟨A,B,j.upd k fun x hx e=>hm _ e (a x hx).1,g.upd k fun x hx e=>hm _ e (c x hx).1,fun x hx=>⟨(a x hx).1,(a x hx).2.1,(a x hx).2.2.1,by have:=(a x hx).2.2.2;omega⟩,fun x hx=>⟨(c x hx).1,(c x hx).2.1,by have:=(c x hx).2.2;omega⟩⟩,o.mb⟩
end Go.Proofs
namespace Go.Proofs
open Go.Lift
theorem lV{β:Type}{g:Nat→Option β}{i:Nat}(h:g i=none):upd g i none=g:=by
 funext j;unfold upd;split
 ·rename_i e;rw[e,h]
 ·rfl
theorem cr{h:ac}{b:Nat}{c:Array Value}{t:TypeId}{i:Nat}(a:h[b]? =some (.cells c t (0,0))):aP h ⟨b,0+i,none⟩=c[i]?:=by rw[ar];exact aH a
theorem Cu{h:ac}{b:Nat}{c:Array Value}{t:TypeId}{i:Nat}(a:h[b]? =some (.cells c t (0,0))) (d:i<c.size):Wr h ⟨b,0+i,none⟩:=by rw[ar];exact fq a d
theorem vp{h:ac}{b:Nat}{c c':Array Value}{t:TypeId}{i:Nat}{v:Value}{k:ac→Prop}(f:h[b]? =some (.cells c t (0,0))) (e:c.setIfInBounds i v=c')
 (g:∀a,a[b]? =some (.cells c' t (0,0))→Upd (· =b) h a→k a):At (hset h ⟨b,i,none⟩ v) k:=qK f fun a d j=>g a (e▸d) j
theorem zo{M:Nat→Prop}{h:ac}{b d n:Nat}{sp sk:SliceV}{s:Slots}{ow:Option Addr}(o:OwnN M h b d n sp sk s ow){i:Nat}(u:i<32){K:Unit→ac→Prop}
  (X:∀t F H sp' sk',OwnN M t b F H sp' sk' ⟨upd s.p i none,upd s.k i none⟩ ow→Upd M h t→K () t):HC PG fY [.pointer (some ⟨b,0,none⟩),.int .i64 i] [] K h:=by
 obtain⟨A,B,V,Z,a,m⟩:=o.ex;have bits:=o.bits;refine pX _ i ?_;unfold lz c5 ci dJ hE AF;have ew:∀k:Nat,k≤100→IntKind.wrap .i64 ((k:Int)+1)=((k+1:Nat):Int):=fun k X=>by rw[nT (by omega)];omega
 have hc1:=oY i d;have hc2:=oY i n;have P:∀x,A x→M x∨h.size≤x:=fun x hx=>.inl (a x hx).1
 refine Join.intro (fun _ t=>∃sp',t[b]? =some (.cells (dw d n sp' sk false ow) aM (0,0))∧OwnS hH 2 ah A t sp' (fm (upd s.p i none) 32)∧OwnS j4 1 aJ B t sk (fm s.k 32)∧Upd M h t) (fun R C=>?_) ?_
 ·refine⟨_,rfl,_,cr (i:=0) o.blk,qA bits.d32 u ?_⟩
  rw[bits.dp i u];cases hp:s.p i with
  |none=>exact al.2 (C _ _ ⟨sp,o.blk,by rw[lV hp];exact V,Z,Upd.refl _ _⟩)
  |some y=>
   refine ao.2 ⟨_,rfl,_,cr (i:=0) o.blk,jv bits.d32 u ⟨_,rfl,sp,cr (i:=2) o.blk,?_⟩⟩;rw[ew _ (by omega)];refine yw V (uM u bits.dp hp) (by have:=tg (g:=s.p);omega) fun s2 W v f=>?_
   rw[←Bl u bits.dp hp]at v;have b2:=f.get o.blk fun J=>(a b J).2.2.1 rfl
   refine⟨_,rfl,Cu (i:=2) b2 (show 2<6 by decide),vp (i:=2) (c':=dw d n s2 sk false ow) b2 rfl fun Y b3 j=>?_⟩
   refine C _ _ ⟨s2,b3,v.upd j fun x hx e=>(a x hx).2.2.1 e,(Z.upd f fun x hx N=>(a x N).2.1 hx).upd j fun x hx e=>(m x hx).2.1 e,(f.mono P).tr (j.mono fun x e=>.inl (e▸o.mb))⟩
 rintro _ h1 ⟨q,b1,D,G,E⟩;refine Join.intro (fun _ t=>∃sk',t[b]? =some (.cells (dw d n q sk' false ow) aM (0,0))∧OwnS hH 2 ah A t q (fm (upd s.p i none) 32)∧OwnS j4 1 aJ B t sk' (fm (upd s.k i none) 32)∧Upd M h1 t) (fun R C=>?_) ?_
 ·refine⟨_,rfl,_,cr (i:=1) b1,qA bits.n32 u ?_⟩
  rw[bits.nk i u];cases hp:s.k i with
  |none=>exact al.2 (C _ _ ⟨sk,b1,D,by rw[lV hp];exact G,Upd.refl _ _⟩)
  |some y=>
   refine ao.2 ⟨_,rfl,_,cr (i:=1) b1,jv bits.n32 u ⟨_,rfl,sk,cr (i:=3) b1,?_⟩⟩;rw[ew _ (by omega)];refine yx G (uM u bits.nk hp) (by have:=tg (g:=s.k);omega) fun s2 W v f=>?_
   rw[←Bl u bits.nk hp]at v;have b2:=f.get b1 fun J=>(m b J).2.1 rfl
   refine⟨_,rfl,Cu (i:=3) b2 (show 3<6 by decide),vp (i:=3) (c':=dw d n q s2 false ow) b2 rfl fun Y b3 j=>?_⟩
   refine C _ _ ⟨s2,b3,(D.upd f fun x hx N=>(a x hx).2.1 N).upd j fun x hx e=>(a x hx).2.2.1 e,v.upd j fun x hx e=>(m x hx).2.1 e,(f.mono fun x hx=>.inl (m x hx).1).tr (j.mono fun x e=>.inl (e▸o.mb))⟩
 rintro _ W ⟨w,b2,L,S,f⟩;refine⟨_,rfl,_,cr (i:=0) b2,_,rfl,_,cr (i:=1) b2,?_⟩;refine si bits.d32 u fun F Q U=>⟨cr (i:=1) b2,?_⟩
 refine si bits.n32 u fun H T O=>?_
 refine⟨_,rfl,Cu (i:=0) b2 (show 0<6 by decide),vp (i:=0) (c':=dw F n q w false ow) b2 rfl fun Y b3 j=>?_⟩
 refine⟨_,rfl,Cu (i:=1) b3 (show 1<6 by decide),vp (i:=1) (c':=dw F H q w false ow) b3 rfl fun h4 b4 I=>?_⟩
 have p:=j.tr I;have z:=(E.tr (f.tr (p.mono (M':=M) fun x e=>.inl (e▸o.mb)))).size
 refine X h4 F H q w ⟨b4,⟨Q,T,fun c hc=>?_,fun c hc=>?_⟩,⟨A,B,L.upd p fun x hx e=>(a x hx).2.2.1 e,S.upd p fun x hx e=>(m x hx).2.1 e,fun x hx=>⟨(a x hx).1,(a x hx).2.1,(a x hx).2.2.1,by have:=(a x hx).2.2.2;omega⟩,fun x hx=>⟨(m x hx).1,(m x hx).2.1,by have:=(m x hx).2.2;omega⟩⟩,o.mb⟩ (E.tr (f.tr (p.mono fun x e=>.inl (e▸o.mb))))
 ·rw[U,bits.dp c hc];simp only[upd];split<;>simp[*]
 ·rw[O,bits.nk c hc];simp only[upd];split<;>simp[*]
end Go.Proofs
namespace Go.Proofs
open Go.Lift
theorem OwnS.setAt{α:Type}{f:α→List Value}{c:Nat}{t:TypeId}{M:Nat→Prop}{h:ac}{s:SliceV}{xs:List α}(i:OwnS f c t M h s xs){k:Nat}(o:k<xs.length)(x:α):
  ∃a,s.a=some a∧M a.block∧nO h (some (adr a (k*c))) 0 (f x)∧OwnS f c t M (fX h (adr a (k*c)) 0 (f x)) s (xs.take k++x::xs.drop (k+1))∧Upd (· =a.block) h (fX h (adr a (k*c)) 0 (f x)):=by
 have m:∀x,(f x).length=c∧0<c:=i.ne;have v:=i.len;have g:=i.cap;rcases i.blk with F|⟨b,e,u,q,hc,y⟩
 ·omega
 have n:((xs.take k).flatMap f).length=k*c:=by rw[gw m,aE,aL (by omega)]
 have C:xs.flatMap f=(xs.take k).flatMap f++(f xs[k]++(xs.drop (k+1)).flatMap f):=by
  rw[←ba,←List.drop_eq_getElem_cons o];exact qF xs k
 rw[C]at hc;have z:=(m xs[k]).1;have E:=(m x).1;have d:(xs.take k++x::xs.drop (k+1)).flatMap f=(xs.take k).flatMap f++(f x++(xs.drop (k+1)).flatMap f):=by rw[List.flatMap_append,ba]
 generalize (xs.take k).flatMap f=A at n hc d;generalize (xs.drop (k+1)).flatMap f=B at hc d;generalize f xs[k]=X at z hc;have w:k*c+0+(f x).length≤(A++(X++B)++e).length:=by simp only[ae];omega
 have p:adr ⟨b,0,none⟩ (k*c)=⟨b,k*c,none⟩:=by rw[aX,ar]
 refine⟨⟨b,0,none⟩,u,q,?_,?_,?_⟩
 ·rw[p]
  refine .inr ⟨_,rfl,fun j D=>?_⟩
  rw[aX];exact fq hc (by rw[bG];omega)
 ·rw[p,eG (f x) h 0 (k*c) _ hc w]
  refine⟨by simp;omega,m,g,.inr ⟨b,e,u,q,?_,?_⟩⟩
  ·rw[gp hc,d]
   congr 3
   rw[dE,ay A,bW n,←cB,bH n,ay X,bH (by omega)];simp only[ay]
  ·exact y
 ·rw[p,eG (f x) h 0 (k*c) _ hc w]
  exact Upd.set h _ rfl
theorem OwnN.node{M W:Nat→Prop}{h:ac}{b d n:Nat}{sp sk:SliceV}{s:Slots}{ow:Option Addr}(o:OwnN M h b d n sp sk s ow)(a:∀x,M x→¬W x)(c:OwOk W h ow:=by exact fT):NodeAt W h b s:=by
 obtain⟨A,B,f,e,i,g⟩:=o.ex;exact⟨⟨d,n,sp,sk,ow,o.blk,o.bits,f.sl fun x hx _=>a _ (i x hx).1,e.sl fun x hx _=>a _ (g x hx).1,f.cap,e.cap,c⟩,a _ o.mb⟩
theorem wK{W:Nat→Prop}{h:ac}{b:Nat}{s:Slots}(e:NodeAt W h b s){i:Nat}(f:i<32){K:Bool→ac→Prop}(a:K true h):HC PG fZ [.pointer (some ⟨b,0,none⟩),.int .i64 i] [.c .bool] K h:=by
 obtain⟨d,n,sp,sk,ow,c,_⟩:=e.ex;refine pY _ i ?_;unfold lA iW;refine ao.2 ⟨_,rfl,_,cr (i:=4) c,ao.2 ?_⟩;refine bi (fun _=>?_) fun h=>absurd (Int.natCast_nonneg i) h
 rw[decide_eq_true (by omega)];exact a
theorem yW{β:Type}{g:Nat→Option β}{i:Nat}{x y:Option β}:upd (upd g i x) i y=upd g i y:=by
 funext j;unfold upd;split<;>rfl
theorem fE{β:Type}{g:Nat→Option β}{i:Nat}{x:Option β}:upd g i x i=x:=by simp[upd]
end Go.Proofs
namespace Go.Proofs
open Go.Lift
end Go.Proofs
namespace Go.Proofs
open Go.Lift
theorem CH{h:ac}{b d n:Nat}{sp sk:SliceV}{c:Bool}{ow:Option Addr}(a:h[b]? =some (.cells (dw d n sp sk c ow) aM (0,0))) {K:Int→ac→Prop} (e:K (d:Int) h):HC PG jj [.pointer (some ⟨b,0,none⟩)] [.c (.int .u32)] K h:=by
 refine qU _ ?_;unfold mc dJ;exact al.2 ⟨_,rfl,_,cr (i:=0) a,e⟩
theorem A8{h:ac}{b d n:Nat}{sp sk:SliceV}{c:Bool}{ow:Option Addr}(a:h[b]? =some (.cells (dw d n sp sk c ow) aM (0,0))) {K:Int→ac→Prop} (e:K (n:Int) h):HC PG iJ [.pointer (some ⟨b,0,none⟩)] [.c (.int .u32)] K h:=by
 refine p4 _ ?_;unfold lD dJ;exact al.2 ⟨_,rfl,_,cr (i:=1) a,e⟩
theorem nm{h:ac}{b d n:Nat}{sp sk:SliceV}{a:Bool}{ow:Option Addr}(c:h[b]? =some (.cells (dw d n sp sk a ow) aM (0,0))) {K:Bool→ac→Prop} (e:K a h):HC PG eM [.pointer (some ⟨b,0,none⟩)] [.c .bool] K h:=by
 refine nA _ ?_;unfold jI iW;exact ao.2 ⟨_,rfl,_,cr (i:=4) c,e⟩
def CD(o:Option Pr):Pr:=o.getD (⟨#[]⟩,⟨#[]⟩)
theorem AY{h:ac}{b:Nat}{q p:Pr}(a:h[b]? =some (.cells #[.string q.1,.string q.2] ah (0,0))) {k:ac→Prop}
  (d:∀h',h'[b]? =some (.cells #[.string p.1,.string p.2] ah (0,0))→Upd (· =b) h h'→k h'):nO h (some ⟨b,0,none⟩) 0 [.string p.1,.string p.2]∧At (fX h ⟨b,0,none⟩ 0 [.string p.1,.string p.2]) k:=by
 have e:=eG [.string p.1,.string p.2] h 0 0 [.string q.1,.string q.2] a (by simp);refine⟨.inr ⟨_,rfl,fun j c=>by rw[aX];exact fq a (by simp at c⊢;omega)⟩,bK ?_⟩
 rw[e];refine d _ ?_ (Upd.set h _ rfl);rw[gp a];rfl
theorem Bc{W:Nat→Prop}{h:ac}{b:Nat}{s:Slots}(w:NodeAt W h b s){i:Nat}(g:i<32){K:Pr×Bool→ac→Prop}(m:∀h',Upd No h h'→K (CD (s.p i),(s.p i).isSome) h'):
  HC PG jh [.pointer (some ⟨b,0,none⟩),.int .i64 i] [.agg [.str,.str],.c .bool] K h:=by
 refine qS _ i ?_;unfold l9 gg aw gn uY dZ sd ci dJ hE;obtain⟨d,n,sp,sk,ow,t,bits,j,A,B,u⟩:=w.ex;have k1:=Upd.hnew No h [.string (⟨#[]⟩:ByteArray),.string (⟨#[]⟩:ByteArray)] ah;have b1:=cf h [.string (⟨#[]⟩:ByteArray),.string (⟨#[]⟩:ByteArray)] ah;refine bK ?_;simp only[dK h];generalize hnew h [.string (⟨#[]⟩:ByteArray),.string (⟨#[]⟩:ByteArray)] ah=h1 at k1 b1
 have c:=k1.get0 t;have f:h1[h.size]? =some (.cells #[.string C4.1,.string C4.2] ah (0,0)):=b1;refine CH c (qA bits.d32 g ?_);rw[bits.dp i g];cases hp:s.p i with
 |none=>
  rw[hp]at m;refine ao.2 (AY (p:=C4) f fun q b2 e=>⟨_,by rw[aX,aH b2];rfl,_,by rw[aX,aH b2];rfl,m _ (k1.trans e fun x hx=>.inr (eP hx.symm))⟩)
 |some y=>
  rw[hp]at m;refine al.2 ⟨_,rfl,sp,cr (i:=2) c,_,rfl,_,cr (i:=0) c,jv bits.d32 g ⟨cr (i:=2) c,?_⟩⟩;have v:=uM g bits.dp hp;have k:=j.upd k1 fun _ h=>h.elim
  obtain⟨a,z,_,hv⟩:=k.at (Bm g bits.dp hp);have o:=j.len;refine⟨by omega,a,z,y.1,hv 0 _ rfl,y.2,hv 1 _ rfl,?_⟩;refine AY (p:=y) f fun q b2 e=>⟨_,by rw[aX,aH b2];rfl,_,by rw[aX,aH b2];rfl,m _ (k1.trans e fun x hx=>.inr (eP hx.symm))⟩
theorem Cw{W:Nat→Prop}{h:ac}{b:Nat}{s:Slots}(m:NodeAt W h b s){i:Nat}(c:i<32){K:Option Addr×Bool→ac→Prop}(f:K ((s.k i).getD none,(s.k i).isSome) h):
  HC PG jN [.pointer (some ⟨b,0,none⟩),.int .i64 i] [.c .ptr,.c .bool] K h:=by
 refine rP _ i ?_;unfold mS dT gg ci dJ hE;obtain⟨d,n,sp,sk,ow,g,bits,q,e,t,k⟩:=m.ex;refine A8 g (qA bits.n32 c ?_);rw[bits.nk i c];cases hp:s.k i with
 |none=>rw[hp]at f;exact ao.2 f
 |some y=>
  rw[hp]at f;refine al.2 ⟨_,rfl,sk,cr (i:=3) g,_,rfl,_,cr (i:=1) g,jv bits.n32 c ⟨cr (i:=3) g,?_⟩⟩;have o:=uM c bits.nk hp;obtain⟨a,p,_,hv⟩:=e.at (Bm c bits.nk hp);have j:=e.len;exact⟨by omega,a,p,y,hv 0 _ rfl,f⟩
theorem sR{W:Nat→Prop}{h:ac}{b d n:Nat}{sp sk:SliceV}{f:Bool}{ow:Option Addr}{l:List Pr}(a:h[b]? =some (.cells (dw d n sp sk f ow) aM (0,0))) (c:Sl hH 2 W h sp l) (g:l.length≤1000000000) {K:SliceV→ac→Prop}
  (e:∀s' h',OwnS hH 2 ah (fun x=>h.size≤x) h' s' l→Upd No h h'→K s' h'):HC PG f3 [.pointer (some ⟨b,0,none⟩)] [.c .slice] K h:=by
 refine pZ _ ?_;unfold lB ci;exact al.2 ⟨_,rfl,sp,cr (i:=2) a,uS c (by omega) e⟩
theorem zj{W:Nat→Prop}{h:ac}{b d n:Nat}{sp sk:SliceV}{f:Bool}{ow:Option Addr}{l:List (Option Addr)}(a:h[b]? =some (.cells (dw d n sp sk f ow) aM (0,0))) (c:Sl j4 1 W h sk l) (g:l.length≤1000000000) {K:SliceV→ac→Prop}
  (e:∀s' h',OwnS j4 1 aJ (fun x=>h.size≤x) h' s' l→Upd No h h'→K s' h'):HC PG ji [.pointer (some ⟨b,0,none⟩)] [.c .slice] K h:=by
 refine qT _ ?_;unfold ma ci;exact al.2 ⟨_,rfl,sk,cr (i:=3) a,uT c (by omega) e⟩
structure BuckAt(W:Nat→Prop)(h:ac)(b:Nat)(l:List Pr):Prop where
 ex:∃sp sk ow,h[b]? =some (.cells (dw 0 0 sp sk true ow) aM (0,0))∧Sl hH 2 W h sp l∧Sl j4 1 W h sk []∧sp.len≤sp.cap∧sk.len≤sk.cap∧OwOk W h ow
 nw:¬W b
theorem BuckAt.upd{W M:Nat→Prop}{h c:ac}{b:Nat}{l:List Pr}(n:BuckAt W h b l)(k:Upd M h c)(hm:∀b,M b→W b∨h.size≤b):BuckAt W c b l:=by
 obtain⟨sp,sk,ow,a,f,e,i,j,d⟩:=n.ex;exact⟨⟨sp,sk,ow,k.get a (fun g=>(hm _ g).elim n.nw fun h=>by have:=aW a;omega),f.upd k hm,e.upd k hm,i,j,d.upd k hm⟩,n.nw⟩
theorem Dv{W:Nat→Prop}{h:ac}{b:Nat}{l:List Pr}(x:BuckAt W h b l)(n:eO l)(o:l.length≤1000000000)(k:ByteArray){K:ByteArray×Bool→ac→Prop}
  (i:∀h' v,Upd No h h'→(cK l k=true→(k,v)∈l)→(cK l k=false→v=⟨#[]⟩)→K (v,cK l k) h'):HC PG mE [.pointer (some ⟨b,0,none⟩),.string k] [.c .str,.c .bool] K h:=by
 refine yK _ k ?_;unfold tS gg dZ AG;obtain⟨sp,sk,ow,q,j,w,s,y⟩:=x.ex;refine sR q j o fun s1 t m f=>?_
 have d:Sl hH 2 No t s1 l:=m.sl fun _ _ _ h=>h
 refine zn d n o k fun z c=>?_
 cases ht:cK l k with
 |false=>rw[ht]at i;exact ao.2 (i _ _ (f.tr c) (fun h=>by cases h) fun _=>rfl)
 |true=>
  rw[ht]at i;obtain⟨g,e⟩:=xS n ht;obtain⟨a,u,_,hv⟩:=(d.upd c fun _ h=>h.elim).at (List.getElem?_eq_getElem g)
  have p:=d.len;refine al.2 ⟨by simp only;omega,a,u,_,hv 1 _ rfl,i _ _ (f.tr c) (fun _=>?_) fun h=>by cases h⟩
  have:(k,l[mZ l k].2)=l[mZ l k]:=Prod.ext e.symm rfl;rw[this];exact bO g
theorem Ek{W:Nat→Prop}{h:ac}{b:Nat}{l:List Pr}(g:BuckAt W h b l)(f:eO l)(i:l.length≤1000000000)(k:ByteArray){K:ByteArray×Bool→ac→Prop}
 (d:∀a v,Upd No h a→(cK l k=true→(k,v)∈l)→K (v,cK l k) a):HC PG mE [.pointer (some ⟨b,0,none⟩),.string k] [.c .str,.c .bool] K h:=Dv g f i k fun a v e c _=>d a v e c
end Go.Proofs
namespace Go.Proofs
open Go.Lift
theorem Ao{W:Nat→Prop}{h:ac}(b:∀x,W x→x<h.size){K:Option Addr→ac→Prop}(a:∀h' b',BuckAt W h' b' []→Upd No h h'→K (some ⟨b',0,none⟩) h'):HC PG lO [] [.c .ptr] K h:=by
 refine ul ?_;unfold oy;exact a _ _ ⟨⟨⟨none,0,0⟩,⟨none,0,0⟩,none,cf h _ _,Sl.nil iz,Sl.nil kj,av _,av _,fT⟩,fun hx=>Nat.lt_irrefl _ (b _ hx)⟩ (Upd.hnew No h _ _)
theorem my{W:Nat→Prop}{h:ac}(d:∀x,W x→x<h.size){K:Option Addr→ac→Prop}(a:∀h' b',NodeAt W h' b' ⟨fun _=>none,fun _=>none⟩→Upd No h h'→K (some ⟨b',0,none⟩) h'):HC PG iK [] [.c .ptr] K h:=by
 refine vP ?_;unfold qd Ay;have e:fm (fun _=>(none:Option Pr)) 32= []:=by simp[fm]
 have b:fm (fun _=>(none:Option (Option Addr))) 32= []:=by simp[fm]
 refine a _ _ ⟨⟨0,0,⟨none,0,0⟩,⟨none,0,0⟩,none,cf h _ _,⟨by decide,by decide,fun c _=>by simp,fun c _=>by simp⟩,?_,?_,av _,av _,fT⟩,fun hx=>Nat.lt_irrefl _ (d _ hx)⟩ (Upd.hnew No h _ _)
 ·show Sl hH 2 W _ _ (fm (fun _=>none) 32)
  rw[e];exact Sl.nil iz
 ·show Sl j4 1 W _ _ (fm (fun _=>none) 32)
  rw[b];exact Sl.nil kj
end Go.Proofs
namespace Go.Proofs
open Go.Lift
def f9(p:Pr):List Pr→List Pr
 | []=> [p]
 |q::l=>if kl q.1 p.1 then q::f9 p l else if q.1=p.1 then p::l else p::q::l
theorem il(p q:Pr)(l:List Pr):f9 p (q::l)=if kl q.1 p.1 then q::f9 p l else if q.1=p.1 then p::l else p::q::l:=rfl
theorem zl(p:Pr):∀{l:List Pr},eO l→yk l p=f9 p l
 | [],_=>by simp[yk,f9,mZ,cK]
 |q::l,d=>by
  have d:=aZ.1 d;unfold f9;have a:mZ (q::l) p.1=if kl q.1 p.1 then mZ l p.1+1 else 0:=by
   unfold mZ;rw[List.takeWhile_cons];by_cases h:kl q.1 p.1
   ·rw[if_pos (by simpa using h),if_pos h];rfl
   ·rw[if_neg (by simpa using h),if_neg h];rfl
  have c:cK (q::l) p.1=(decide (q.1=p.1)||cK l p.1):=by unfold cK;rw[List.any_cons]
  by_cases h:kl q.1 p.1
  ·have g:q.1≠p.1:=fun e=>by rw[e]at h;exact dL _ h
   rw[if_pos h,←zl p d.2];unfold yk;rw[c,a,if_pos h,decide_eq_false g,Bool.false_or];by_cases b:cK l p.1=true
   ·rw[if_pos b,if_pos b];rfl
   ·rw[if_neg b,if_neg b];rfl
  ·rw[if_neg h]
   unfold yk;rw[c,a,if_neg h];by_cases e:q.1=p.1
   ·rw[if_pos e,decide_eq_true e,Bool.true_or,if_pos rfl];rfl
   ·have j:=vu h e
    have b:cK l p.1=false:=by
     unfold cK;rw[List.any_eq_false];intro r f i;have i:=of_decide_eq_true i;have:=d.1 r f;rw[i]at this;exact dL _ (km j this)
    rw[if_neg e,decide_eq_false e,b];rfl
theorem sV{p q:Pr}:∀{l:List Pr},q∈f9 p l→q=p∨q∈l
 | [],h=>by simp[f9]at h;exact .inl h
 |r::l,h=>by
  unfold f9 at h;split at h
  ·rcases ai.1 h with h|h
   ·exact .inr (h▸aC ..)
   ·exact(sV h).imp id fun h=>aS _ h
  ·split at h
   ·rcases ai.1 h with h|h
    ·exact .inl h
    ·exact .inr (aS _ h)
   ·rcases ai.1 h with h|h
    ·exact .inl h
    ·exact .inr h
theorem uA(p:Pr):∀{l:List Pr},eO l→eO (f9 p l)
 | [],_=>List.pairwise_singleton ..
 |q::l,a=>by
  have c:=a;have a:=aZ.1 a;unfold f9;split
  ·rename_i h
   refine aZ.2 ⟨fun r hm=>?_,uA p a.2⟩
   rcases sV hm with rfl|hm
   ·exact h
   ·exact a.1 r hm
  ·rename_i h
   split
   ·rename_i e
    exact aZ.2 ⟨fun r hm=>e▸a.1 r hm,a.2⟩
   ·rename_i e
    have b:=vu h e;refine aZ.2 ⟨fun r hm=>?_,c⟩
    rcases ai.1 hm with rfl|hm
    ·exact b
    ·exact km b (a.1 r hm)
theorem th(p:Pr)(g:ByteArray→Bool):∀{l:List Pr},eO l→(f9 p l).filter (fun q=>g q.1)=if g p.1 then f9 p (l.filter fun q=>g q.1)else l.filter fun q=>g q.1
 | [],_=>by
  unfold f9;rw[co,List.filter_nil]
 |q::l,c=>by
  have i:=c;have c:=aZ.1 c;have j:=th p g c.2;rw[il];by_cases h:kl q.1 p.1
  ·rw[if_pos h,co,co,j]
   by_cases f:g q.1=true
   ·rw[if_pos f,if_pos f]
    split
    ·rw[il,if_pos h]
    ·rfl
   ·rw[if_neg f,if_neg f]
  ·rw[if_neg h]
   by_cases e:q.1=p.1
   ·rw[if_pos e,co,co,e]
    by_cases a:g p.1=true
    ·rw[if_pos a,if_pos a,if_pos a,il,if_neg h,if_pos e]
    ·rw[if_neg a,if_neg a,if_neg a]
   ·rw[if_neg e]
    have d:=vu h e;rw[co];by_cases a:g p.1=true
    ·rw[if_pos a,if_pos a]
     have:∀r∈(q::l).filter (fun q=>g q.1),kl p.1 r.1:=fun r hm=>by
      rcases ai.1 (fP.1 hm).1 with rfl|hm
      ·exact d
      ·exact km d (c.1 r hm)
     cases hf:(q::l).filter (fun q=>g q.1)with
     |nil=>rfl
     |cons r rs=>
      have b:=this r (by rw[hf];exact aC ..);rw[il,if_neg fun k=>dL _ (km b k),if_neg fun e=>by rw[e]at b;exact dL _ b]
    ·rw[if_neg a,if_neg a]
theorem rZ{p:Pr}:∀{l:List Pr},eO l→p∈l→f9 p l=l
 |q::l,a,hm=>by
  have a:=aZ.1 a;unfold f9;rcases ai.1 hm with rfl|hm
  ·rw[if_neg (dL _),if_pos rfl]
  ·rw[if_pos (a.1 p hm),rZ a.2 hm]
def ck(x:Hs)(lev:Nat)(k:ByteArray):Nat:=((jY x k).toNat>>>(5*lev))%32
theorem zu(x:Hs)(lev:Nat)(k:ByteArray):ck x lev k<32:=mL _ (by omega)
def part(x:Hs)(lev c:Nat)(l:List Pr):List Pr:=l.filter fun p=>decide (ck x lev p.1=c)
def TrieAt(W:Nat→Prop)(x:Hs)(h:ac):Nat→Nat→List Pr→Prop
 |0,b,l=>BuckAt W h b l
 |m+1,b,l=>∃s,NodeAt W h b s∧∀c,c<32→
  ((part x (12-m) c l= []∧s.p c=none∧s.k c=none)∨(∃p,part x (12-m) c l= [p]∧s.p c=some p∧s.k c=none)∨
   (2≤(part x (12-m) c l).length∧s.p c=none∧∃kb,s.k c=some (some ⟨kb,0,none⟩)∧TrieAt W x h m kb (part x (12-m) c l)))
theorem TrieAt.upd0{W:Nat→Prop}{x:Hs}{h d:ac}(k:Upd No h d):∀{m b:Nat} {l:List Pr},TrieAt W x h m b l→TrieAt W x d m b l
 |0,_,_,t=>BuckAt.upd t k fun _ h=>h.elim
 |m+1,_,_,⟨s,nd,hc⟩=>⟨s,nd.upd k fun _ h=>h.elim,fun c a=>(hc c a).imp id fun o=>o.imp id fun⟨j,f,i,g,e⟩=>⟨j,f,i,g,TrieAt.upd0 k e⟩⟩
theorem NodeAt.less{W W':Nat→Prop}{h:ac}{b:Nat}{s:Slots}(n:NodeAt W h b s)(hm:∀b,W' b→W b∨h.size≤b):NodeAt W' h b s:=by
 obtain⟨d,m,sp,sk,ow,a,f,g,e,i,j,c⟩:=n.ex;exact⟨⟨d,m,sp,sk,ow,a,f,g.less hm,e.less hm,i,j,c.less hm⟩,fun hx=>(hm _ hx).elim n.nw fun h=>by have:=aW a;omega⟩
theorem BuckAt.less{W W':Nat→Prop}{h:ac}{b:Nat}{l:List Pr}(n:BuckAt W h b l)(hm:∀b,W' b→W b∨h.size≤b):BuckAt W' h b l:=by
 obtain⟨sp,sk,ow,a,e,d,f,g,c⟩:=n.ex;exact⟨⟨sp,sk,ow,a,e.less hm,d.less hm,f,g,c.less hm⟩,fun hx=>(hm _ hx).elim n.nw fun h=>by have:=aW a;omega⟩
theorem TrieAt.less{W W':Nat→Prop}{x:Hs}{h:ac}(hm:∀b,W' b→W b∨h.size≤b):∀{m b:Nat} {l:List Pr},TrieAt W x h m b l→TrieAt W' x h m b l
 |0,_,_,t=>BuckAt.less t hm
 |m+1,_,_,⟨s,nd,hc⟩=>⟨s,nd.less hm,fun c a=>(hc c a).imp id fun o=>o.imp id fun⟨i,e,g,f,d⟩=>⟨i,e,g,f,TrieAt.less hm d⟩⟩
theorem TrieAt.updM{W M:Nat→Prop}{x:Hs}{h d:ac}(k:Upd M h d)(hm:∀b,M b→W b∨h.size≤b):∀{m b:Nat} {l:List Pr},TrieAt W x h m b l→TrieAt W x d m b l
 |0,_,_,t=>BuckAt.upd t k hm
 |m+1,_,_,⟨s,nd,hc⟩=>⟨s,nd.upd k hm,fun c a=>(hc c a).imp id fun o=>o.imp id fun⟨j,f,i,g,e⟩=>⟨j,f,i,g,TrieAt.updM k hm e⟩⟩
end Go.Proofs
namespace Go.Proofs
open Go.Lift
def By(h:ac)(w o:Option Addr):Prop:=(w=none∧o=none)∨∃b pl id lv,w=some ⟨b,0,none⟩∧h[b]? =some (.cells #[.pointer pl,.int .i64 id,.bool lv] jt (0,0))∧o=if lv then w else none
theorem By.upd{M:Nat→Prop}{h c:ac}{w o:Option Addr}(t:By h w o)(k:Upd M h c)(hm:∀b,w=some ⟨b,0,none⟩→M b→h.size≤b):By c w o:=by
 rcases t with t|⟨b,g,id,lv,e,a,d⟩
 ·exact .inl t
 ·exact .inr ⟨b,g,id,lv,e,k.get a (fun f=>by have:=hm b e f;have:=aW a;omega),d⟩
theorem By.upd0{h a:ac}{w o:Option Addr}(t:By h w o)(k:Upd No h a):By a w o:=t.upd k fun _ _ h=>h.elim
theorem By.tok{h:ac}{w o:Option Addr}(t:By h w o){a:Addr}(e:o=some a):w=some a:=by
 rcases t with⟨_,d⟩|⟨b,i,id,lv,g,f,c⟩
 ·rw[d]at e;cases e
 ·rw[e]at c;split at c
  ·exact c.symm
  ·cases c
theorem By.plain{h:ac}{w o:Option Addr}(t:By h w o)(a:Addr)(e:w=some a):cq h a:=by
 rcases t with⟨f,_⟩|⟨b,i,id,lv,d,c,g⟩
 ·rw[f]at e;cases e
 ·rw[d]at e;cases e;exact⟨_,_,c,by simp⟩
theorem pB{h:ac}{w o:Option Addr}(t:By h w o){K:Bool→ac→Prop}(a:K o.isSome h):HC PG cA [.pointer w] [.c .bool] K h:=by
 refine o5 w ?_;unfold kE iW;rcases t with⟨rfl,rfl⟩|⟨b,d,id,lv,rfl,c,rfl⟩
 ·exact al.2 a
 ·refine ao.2 ⟨_,rfl,lv,cr (i:=2) c,?_⟩
  cases lv<;>exact a
theorem wC{h:ac}{w o:Option Addr}{b d n:Nat}{sp sk:SliceV}{j:Bool}{ow:Option Addr}(t:By h w o)(f:h[b]? =some (.cells (dw d n sp sk j ow) aM (0,0))) (g:∀a,ow=some a→cq h a) {K:Bool→ac→Prop} (c:K (o.isSome&&(ow==w)) h):
  HC PG iI [.pointer (some ⟨b,0,none⟩),.pointer w] [.c .bool] K h:=by
 refine p0 _ w ?_;unfold lC cL;refine ao.2 (pB t ?_);cases o with
 |none=>exact al.2 c
 |some a=>exact ao.2 ⟨_,rfl,ow,cr (i:=5) f,trivial,fun x y hx e=>⟨g x hx,t.plain y e⟩,c⟩
set_option maxRecDepth 4000 in
theorem y9{W:Nat→Prop}{h:ac}{w o:Option Addr}{b d n:Nat}{sp sk:SliceV}{f:Bool}{ow:Option Addr}{lp:List Pr}{lk:List (Option Addr)}(t:By h w o)(g:h[b]? =some (.cells (dw d n sp sk f ow) aM (0,0)))
  (hp:∀a,ow=some a→cq h a) (N:(o.isSome&&(ow==w))=false) (X:Sl hH 2 W h sp lp) (V:Sl j4 1 W h sk lk) (hlp:lp.length≤1000000000) (hlk:lk.length≤1000000000) {K:Option Addr→ac→Prop}
  (O:∀m sp' sk' (A B:Nat→Prop),m[h.size]? =some (.cells (dw d n sp' sk' f o) aM (0,0))→OwnS hH 2 ah A m sp' lp→OwnS j4 1 aJ B m sk' lk→(∀x,A x→h.size<x∧¬B x∧x<m.size)→(∀x,B x→h.size<x∧x<m.size)→Upd No h m→K (some ⟨h.size,0,none⟩) m):
  HC PG df [.pointer (some ⟨b,0,none⟩),.pointer w] [.c .ptr] K h:=by
 refine mQ _ w ?_;unfold jU nv c5 cL qg iW ci dJ Ay C6;refine wC t g hp ?_;rw[N];refine al.2 ?_;have c:∀{h:ac} {b:Nat} {c:Array Value} {i:Nat},h[b]? =some (.cells c aM (0,0))→aP h ⟨b,0+i,none⟩=c[i]?:=fun g=>by rw[ar];exact aH g
 refine⟨_,rfl,_,c (i:=0) g,_,c (i:=1) g,sp,c (i:=2) g,sk,c (i:=3) g,_,c (i:=4) g,_,c (i:=5) g,?_⟩;have k1:=Upd.hnew No h [.int .u32 0,.int .u32 0,.slice none 0 0,.slice none 0 0,.bool false,.pointer none] aM;have b1:=cf h [.int .u32 0,.int .u32 0,.slice none 0 0,.slice none 0 0,.bool false,.pointer none] aM;refine bK ?_;simp only[dK h];generalize hnew h [.int .u32 0,.int .u32 0,.slice none 0 0,.slice none 0 0,.bool false,.pointer none] aM=h1 at k1 b1
 have Q:fX h1 ⟨h.size,0,none⟩ 0 [.int .u32 (d:Int),.int .u32 (n:Int),.slice sp.a sp.len sp.cap,.slice sk.a sk.len sk.cap,.bool f,.pointer ow]=_:=eG _ h1 0 0 _ b1 (by simp);refine⟨.inr ⟨_,rfl,fun j hj=>by rw[aX];exact fq b1 (by simp at hj⊢;omega)⟩,bK ?_⟩
 rw[Q];have b2:=gp (o:=.cells (dw d n sp sk f ow) aM (0,0)) b1;have F:Upd No h _:=k1.trans (M':=(· =h.size)) (Upd.set h1 (.cells (dw d n sp sk f ow) aM (0,0)) rfl) fun x hx=>.inr (eP hx.symm)
 have M:h.size<(h1.setIfInBounds h.size (.cells (dw d n sp sk f ow) aM (0,0))).size:=aW b2;have e2:(Obj.cells (List.take (0+0) [Value.int .u32 0,.int .u32 0,.slice none 0 0,.slice none 0 0,.bool false,.pointer none]++ [Value.int .u32 (d:Int),.int .u32 (n:Int),.slice sp.a sp.len sp.cap,.slice sk.a sk.len sk.cap,.bool f,.pointer ow]++List.drop (0+0+ [Value.int .u32 (d:Int),.int .u32 (n:Int),.slice sp.a sp.len sp.cap,.slice sk.a sk.len sk.cap,.bool f,.pointer ow].length) [Value.int .u32 0,.int .u32 0,.slice none 0 0,.slice none 0 0,.bool false,.pointer none]).toArray aM (0,0))=.cells (dw d n sp sk f ow) aM (0,0):=rfl
 rw[e2];generalize h1.setIfInBounds h.size (.cells (dw d n sp sk f ow) aM (0,0))=h2 at b2 F M;have z:=F.get0 g;refine⟨_,rfl,sp,c (i:=2) z,_,rfl,sk,c (i:=3) z,?_⟩;refine uS (X.upd F fun _ h=>h.elim) (by omega) fun s3 h3 Y q=>?_
 refine⟨c (i:=3) (q.get0 z),?_⟩;refine uT ((V.upd F fun _ h=>h.elim).upd q fun _ h=>h.elim) (by omega) fun E h4 Z u=>?_
 have b4:=u.get0 (q.get0 b2);have C:=Y.within.upd u fun _ _ h=>h
 have G:=Z.within;have z3:=q.size;have z4:=u.size;have J:∀{h:ac} {c:Array Value} {x i:Nat},h[x]? =some (.cells c aM (0,0))→i<c.size→Wr h ⟨x,0+i,none⟩:=fun g hi=>by rw[ar];exact fq g hi
 have I:∀{h:ac} {c c':Array Value} {x i:Nat} {v:Value} {k:ac→Prop},h[x]? =some (.cells c aM (0,0))→c.setIfInBounds i v=c'→(∀m,m[x]? =some (.cells c' aM (0,0))→Upd (· =x) h m→k m)→At (hset h ⟨x,i,none⟩ v) k:=fun g e O=>qK g fun m R hu=>O m (e▸R) hu
 refine⟨J (i:=2) b4 (show 2<6 by decide),I (i:=2) (c':=dw d n s3 sk f ow) b4 rfl fun h5 b5 P=>?_⟩
 refine⟨J (i:=3) b5 (show 3<6 by decide),I (i:=3) (c':=dw d n s3 E f ow) b5 rfl fun h6 b6 S=>?_⟩
 refine⟨J (i:=5) b6 (show 5<6 by decide),I (i:=5) (c':=dw d n s3 E f none) b6 rfl fun h7 U T=>?_⟩
 have s:=P.tr (S.tr T);have z7:=s.size;have D:Upd No h h7:=((F.tr q).tr u).trans s fun x hx=>.inr (eP hx.symm)
 have t7:=t.upd0 D;have fin:∀{H:ac},H[h.size]? =some (.cells (dw d n s3 E f o) aM (0,0))→Upd (· =h.size) h7 H→K (some ⟨h.size,0,none⟩) H:=fun{H} L p=>by
  have y:=s.tr p;have z8:=p.size;exact O _ s3 E (fun x=>h2.size≤x∧x<h3.size) (fun x=>h3.size≤x∧x<h4.size) L (C.upd y fun x hx e=>by have e:x=h.size:=e;omega) (G.upd y fun x hx e=>by have e:x=h.size:=e;omega) (fun x hx=>⟨by omega,by omega,by omega⟩) (fun x hx=>⟨by omega,by omega⟩) (D.trans p fun x hx=>.inr (eP hx.symm))
 refine pB t7 ?_;cases ho:o with
 |none=>rw[ho]at fin;exact al.2 (fin U (Upd.refl _ _))
 |some a=>
  rw[ho]at fin;rw[t.tok ho];refine ao.2 ⟨J (i:=5) U (show 5<6 by decide),I (i:=5) (c':=dw d n s3 E f (some a)) U rfl fun H L p=>fin L p⟩
theorem y7{h:ac}{w o:Option Addr}{b d n:Nat}{sp sk:SliceV}{i:Bool}{ow:Option Addr}(t:By h w o)(e:h[b]? =some (.cells (dw d n sp sk i ow) aM (0,0))) (g:∀a,ow=some a→cq h a) (c:(o.isSome&&(ow==w))=true) {K:Option Addr→ac→Prop} (f:K (some ⟨b,0,none⟩) h):
  HC PG df [.pointer (some ⟨b,0,none⟩),.pointer w] [.c .ptr] K h:=by
 refine mQ _ w ?_;unfold jU nv c5 cL qg iW ci dJ Ay C6;refine wC t e g ?_;rw[c];exact ao.2 f
def NodeO(o:Option Addr)(W:Nat→Prop)(h:ac)(b:Nat)(s:Slots)(S:Nat→Prop):Prop:=
 (NodeAt W h b s∧∀y,¬S y)∨(o.isSome=true∧∃d n sp sk,OwnN S h b d n sp sk s o)
theorem OwnN.mono{M M':Nat→Prop}{h:ac}{b d n:Nat}{sp sk:SliceV}{s:Slots}{ow:Option Addr}(o:OwnN M h b d n sp sk s ow)(hm:∀x,M x→M' x):OwnN M' h b d n sp sk s ow:=by
 obtain⟨A,B,e,f,c,a⟩:=o.ex;exact⟨o.blk,o.bits,⟨A,B,e,f,fun x hx=>⟨hm _ (c x hx).1,(c x hx).2⟩,fun x hx=>⟨hm _ (a x hx).1,(a x hx).2⟩⟩,hm _ o.mb⟩
theorem OwnN.within{M:Nat→Prop}{h:ac}{b d n:Nat}{sp sk:SliceV}{s:Slots}{ow:Option Addr}(o:OwnN M h b d n sp sk s ow):OwnN (fun x=>M x∧x<h.size) h b d n sp sk s ow:=by
 obtain⟨A,B,e,f,c,a⟩:=o.ex;exact⟨o.blk,o.bits,⟨A,B,e,f,fun x hx=>⟨⟨(c x hx).1,(c x hx).2.2.2⟩,(c x hx).2⟩,fun x hx=>⟨⟨(a x hx).1,(a x hx).2.2⟩,(a x hx).2⟩⟩,o.mb,aW o.blk⟩
theorem y8{W S:Nat→Prop}{h:ac}{w o:Option Addr}{b:Nat}{s:Slots}(i:NodeO o W h b s S)(t:By h w o)(I:∀a,o=some a→W a.block){K:Option Addr→ac→Prop}
  (C:∀m p d n sp sk,OwnN (fun y=>S y∨h.size≤y) m p d n sp sk s o→Upd No h m→K (some ⟨p,0,none⟩) m):
  HC PG df [.pointer (some ⟨b,0,none⟩),.pointer w] [.c .ptr] K h:=by
 rcases i with⟨i,_⟩|⟨D,d,n,sp,sk,i⟩
 ·obtain⟨d,n,sp,sk,ow,G,bits,z,v,H,L,j⟩:=i.ex
  refine y9 t G (fun a e=>(j a e).2) ?_ z v (by have:=tg (g:=s.p);omega) (by have:=tg (g:=s.k);omega) fun m u q A B p F J c f k=>?_
  ·cases ho:o with
   |none=>rfl
   |some a=>
    have e:=t.tok ho;rw[Option.isSome_some,Bool.true_and,beq_eq_false_iff_ne];intro E;rw[e]at E;exact(j a E).1 (I a ho)
  ·exact C m h.size d n u q ⟨p,bits,⟨A,B,F,J,fun x hx=>⟨.inr (by have:=(c x hx).1;omega),(c x hx).2.1,by have:=(c x hx).1;omega,(c x hx).2.2⟩,fun x hx=>⟨.inr (by have:=(f x hx).1;omega),by have:=(f x hx).1;omega,(f x hx).2⟩⟩,.inr (av _)⟩ k
 ·refine y7 t i.blk (fun a e=>t.plain a (t.tok e)) ?_ (C h b d n sp sk (i.mono fun _ h=>.inl h) (Upd.refl _ _))
  obtain⟨a,e⟩:=bS.1 D;rw[D,e,t.tok e];simp
end Go.Proofs
namespace Go.Proofs
inductive Fo where
 |nil:Fo
 |cons (lab:List UInt8) (val:Option ByteArray) (kids rest:Fo):Fo
abbrev Bn:=List UInt8×Option ByteArray×Fo
def Fo.toL:Fo→List Bn
 | .nil=> []
 | .cons lab w kids rest=>(lab,w,kids)::rest.toL
theorem Fo.toL_cons(lab:List UInt8)(w:Option ByteArray)(b a:Fo):(Fo.cons lab w b a).toL=(lab,w,b)::a.toL:=rfl
def Fo.ofL:List Bn→Fo
 | []=>.nil
 |(lab,w,kids)::l=>.cons lab w kids (Fo.ofL l)
theorem Fo.to_of:∀l:List Bn,(Fo.ofL l).toL=l
 | []=>rfl
 |(_,_,_)::l=>by show _::(Fo.ofL l).toL=_;rw[Fo.to_of l]
theorem Fo.of_to:∀F:Fo,Fo.ofL F.toL=F
 | .nil=>rfl
 | .cons lab w kids rest=>by show Fo.cons lab w kids (Fo.ofL rest.toL)=_;rw[Fo.of_to rest]
def rx:Fo→List UInt8→ByteArray→Prop
 | .nil,_,_=>False
 | .cons lab w kids rest,k,v=>(∃r,k=lab++r∧((r= []∧w=some v)∨rx kids r v))∨rx rest k v
def rv(w:Option ByteArray)(F:Fo)(k:List UInt8)(v:ByteArray):Prop:=(k= []∧w=some v)∨rx F k v
def tW(n:Bn)(k:List UInt8)(v:ByteArray):Prop:=∃r,k=n.1++r∧rv n.2.1 n.2.2 r v
theorem g4:∀{F:Fo} {k:List UInt8} {v:ByteArray},rx F k v↔∃n∈F.toL,tW n k v
 | .nil,_,_=>by simp[rx,Fo.toL]
 | .cons lab w kids rest,k,v=>by
  rw[Fo.toL_cons];unfold rx;rw[g4 (F:=rest)];constructor
  ·rintro(h|⟨n,a,h⟩)
   ·exact⟨_,aC ..,h⟩
   ·exact⟨n,aS _ a,h⟩
  ·rintro⟨n,a,h⟩
   rcases ai.1 a with rfl|a
   ·exact .inl h
   ·exact .inr ⟨n,a,h⟩
def hd(k:List UInt8):Nat:=(k.headD 0).toNat
theorem nn{a b:List UInt8}(h:a≠[]):hd (a++b)=hd a:=by
 cases a with
 |nil=>exact absurd rfl h
 |cons x a=>rfl
theorem CZ(a:List UInt8):hd a<256:=UInt8.toNat_lt _
def fK:Fo→Prop
 | .nil=>True
 | .cons lab w kids rest=>lab≠[]∧(w.isSome∨2≤kids.toL.length)∧fK kids∧(∀n∈rest.toL,hd lab<hd n.1)∧fK rest
def CO(n:Bn):Prop:=n.1≠[]∧(n.2.1.isSome∨2≤n.2.2.toL.length)∧fK n.2.2
theorem eh:∀{F:Fo},fK F↔F.toL.Pairwise (fun m n=>hd m.1<hd n.1)∧∀n∈F.toL,CO n
 | .nil=>by simp[fK,Fo.toL]
 | .cons lab w kids rest=>by
  rw[Fo.toL_cons,aZ];show(lab≠[]∧(w.isSome∨2≤kids.toL.length)∧fK kids∧(∀n∈rest.toL,hd lab<hd n.1)∧fK rest)↔_
  rw[eh (F:=rest)];constructor
  ·rintro⟨g,e,f,c,d,b⟩
   refine⟨⟨c,d⟩,fun n a=>?_⟩
   rcases ai.1 a with rfl|a
   ·exact⟨g,e,f⟩
   ·exact b n a
  ·rintro⟨⟨c,d⟩,b⟩
   have:=b _ (aC ..);exact⟨this.1,this.2.1,this.2.2,c,d,fun n a=>b n (aS _ a)⟩
theorem pC:∀{F:Fo},fK F→∀n∈F.toL,∃r v,rv n.2.1 n.2.2 r v
 | .nil,_,n,a=>by simp[Fo.toL]at a
 | .cons lab w kids rest,h,n,a=>by
  rcases ai.1 a with rfl|a
  ·rcases h.2.1 with e|b
   ·obtain⟨v,hv⟩:=bS.1 e
    exact⟨[],v,.inl ⟨rfl,hv⟩⟩
   ·have c:=pC h.2.2.1
    have⟨m,hm⟩:∃m,m∈kids.toL:=by
     cases hl:kids.toL with
     |nil=>rw[hl]at b;simp at b
     |cons m l=>exact⟨m,aC ..⟩
    obtain⟨r,v,d⟩:=c m hm;exact⟨m.1++r,v,.inr (g4.2 ⟨m,hm,r,rfl,d⟩)⟩
  ·exact pC h.2.2.2.2 n a
theorem qy{F:Fo}(h:fK F){k:List UInt8}{v:ByteArray}(b:rx F k v):k≠[]:=by
 obtain⟨n,a,r,rfl,_⟩:=g4.1 b;have:=((eh.1 h).2 n a).1;intro e;exact this (dX.1 e).1
theorem qz{F:Fo}(h:fK F){k:List UInt8}{v:ByteArray}(c:rx F k v):∃n∈F.toL,hd n.1=hd k∧tW n k v:=by
 obtain⟨n,a,r,e,b⟩:=g4.1 c;exact⟨n,a,by rw[e,nn ((eh.1 h).2 n a).1],r,e,b⟩
theorem zv{F:Fo}(h:fK F){m n:Bn}(hm:m∈F.toL)(f:n∈F.toL)(e:hd m.1=hd n.1):m=n:=by
 have d:=(eh.1 h).1;revert hm f;generalize F.toL=l at*;clear h;induction l with
 |nil=>intro hm;simp at hm
 |cons a l ih=>
  have d:=aZ.1 d;intro hm f;rcases ai.1 hm with i|c
  ·rcases ai.1 f with g|b
   ·rw[i,g]
   ·have:=d.1 n b;rw[←i]at this;omega
  ·rcases ai.1 f with g|b
   ·have:=d.1 m c;rw[←g]at this;omega
   ·exact ih d.2 c b
def Br(P:List UInt8→ByteArray→Prop):Prop:=(∃v,P [] v)∨∃j k u v,P j u∧P k v∧j≠[]∧k≠[]∧hd j≠hd k
theorem BQ{w:Option ByteArray}{F:Fo}(h:fK F):(w.isSome∨2≤F.toL.length)↔Br (rv w F):=by
 constructor
 ·rintro(z|t)
  ·obtain⟨v,hv⟩:=bS.1 z
   exact .inl ⟨v,.inl ⟨rfl,hv⟩⟩
  ·right
   have c:=pC h;have hc:=eh.1 h;match hL:F.toL,t with
   |a::b::l,_=>
    have i:a∈F.toL:=by rw[hL];simp
    have f:b∈F.toL:=by rw[hL];simp
    obtain⟨r,v,x⟩:=c a i;obtain⟨s,u,c⟩:=c b f;have p:=(hc.2 a i).1;have o:=(hc.2 b f).1;have:=hc.1;rw[hL]at this;have D:=(aZ.1 this).1 b (aC ..);refine⟨a.1++r,b.1++s,v,u,.inr (g4.2 ⟨a,i,r,rfl,x⟩),.inr (g4.2 ⟨b,f,s,rfl,c⟩),?_,?_,?_⟩
    ·intro e;exact p (dX.1 e).1
    ·intro e;exact o (dX.1 e).1
    ·rw[nn p,nn o];omega
 ·rintro(⟨v,hv⟩|⟨j,k,u,v,d,g,B,nk,A⟩)
  ·rcases hv with⟨_,hv⟩|hv
   ·left;rw[hv];rfl
   ·exact absurd rfl (qy h hv)
  ·right
   rcases d with⟨e,_⟩|d
   ·exact absurd e B
   rcases g with⟨e,_⟩|g
   ·exact absurd e nk
   obtain⟨m,hm,y,_⟩:=qz h d;obtain⟨n,q,C,_⟩:=qz h g;match hL:F.toL with
   | []=>rw[hL]at hm;simp at hm
   | [a]=>
    rw[hL]at hm q;rw[ag.1 hm]at y;rw[ag.1 q]at C;omega
   |a::b::l=>simp
end Go.Proofs
namespace Go.Proofs
def lQ(P a:List UInt8→ByteArray→Prop)(k:List UInt8)(v:ByteArray):Prop:=∀k' v',a k' v'↔(k'=k∧v'=v)∨(k'≠k∧P k' v')
theorem uD{w:Option ByteArray}{F:Fo}(h:fK F)(v:ByteArray):lQ (rv w F) (rv (some v) F) [] v:=by
 intro k' b;unfold rv;constructor
 ·rintro(⟨e,f⟩|a)
  ·exact .inl ⟨e,(aN.inj f).symm⟩
  ·exact .inr ⟨qy h a,.inr a⟩
 ·rintro(⟨e,f⟩|⟨e,⟨f,_⟩|a⟩)
  ·exact .inl ⟨e,by rw[f]⟩
  ·exact absurd f e
  ·exact .inr a
theorem qu{w:Option ByteArray}{F b:Fo}{k:List UInt8}{v:ByteArray}(d:k≠[])(h:lQ (rx F) (rx b) k v):lQ (rv w F) (rv w b) k v:=by
 intro k' c;unfold rv;rw[h k' c];constructor
 ·rintro(⟨e,f⟩|a|a)
  ·exact .inr ⟨fun g=>d (g.symm.trans e),.inl ⟨e,f⟩⟩
  ·exact .inl a
  ·exact .inr ⟨a.1,.inr a.2⟩
 ·rintro(a|⟨e,a|a⟩)
  ·exact .inr (.inl a)
  ·exact .inl a
  ·exact .inr (.inr ⟨e,a⟩)
theorem zV{F:Fo}{k:List UInt8}{v:ByteArray}{i:Nat}(h:fK F)(z:k≠[])(t:∀j (d:j<F.toL.length),j<i→hd F.toL[j].1<hd k)(g:∀j (d:j<F.toL.length),i≤j→hd k<hd F.toL[j].1):fK (.ofL (F.toL.take i++(k,some v,.nil)::F.toL.drop i))∧lQ (rx F) (rx (.ofL (F.toL.take i++(k,some v,.nil)::F.toL.drop i))) k v:=by
 have hc:=eh.1 h;have w:∀n∈F.toL.take i,hd n.1<hd k:=fun n c=>by
  obtain⟨j,d,e⟩:=dd c;rw[aE]at d;rw[←e,List.getElem_take];exact t j (by omega) (by omega)
 have x:∀n∈F.toL.drop i,hd k<hd n.1:=fun n c=>by
  obtain⟨j,d,e⟩:=dd c;rw[List.length_drop]at d;rw[←e,List.getElem_drop];exact g _ (by omega) (by omega)
 have mem:∀n,n∈F.toL.take i++(k,some v,.nil)::F.toL.drop i↔n=(k,some v,Fo.nil)∨n∈F.toL:=fun n=>by
  conv=>rhs;rw[←bc i F.toL]
  simp only[List.mem_append,ai];exact⟨fun h=>h.elim (fun h=>.inr (.inl h)) fun h=>h.elim .inl fun h=>.inr (.inr h),fun h=>h.elim (fun h=>.inr (.inl h)) fun h=>h.elim .inl fun h=>.inr (.inr h)⟩
 refine⟨eh.2 ⟨?_,?_⟩,fun k' y=>?_⟩
 ·rw[Fo.to_of]
  have m:=hc.1;rw[←bc i F.toL,bQ]at m;refine bQ.2 ⟨m.1,aZ.2 ⟨x,m.2.1⟩,fun a u b o=>?_⟩
  rcases ai.1 o with rfl|o
  ·exact w a u
  ·exact m.2.2 a u b o
 ·rw[Fo.to_of]
  intro n c;rcases(mem n).1 c with rfl|c
  ·exact⟨z,.inl rfl,trivial⟩
  ·exact hc.2 n c
 ·rw[g4,g4,Fo.to_of]
  constructor
  ·rintro⟨n,c,r,e,s⟩
   rcases(mem n).1 c with rfl|c
   ·rcases s with⟨rfl,f⟩|f
    ·exact .inl ⟨by rw[e];exact cR _,(aN.inj f).symm⟩
    ·exact f.elim
   ·right
    refine⟨fun A=>?_,n,c,r,e,s⟩
    have B:hd k=hd n.1:=by rw[←A,e,nn (hc.2 n c).1]
    obtain⟨j,d,q⟩:=dd c;rcases Nat.lt_or_ge j i with p|p
    ·have:=t j d p;rw[q]at this;omega
    ·have:=g j d p;rw[q]at this;omega
  ·rintro(⟨rfl,rfl⟩|⟨_,n,c,h⟩)
   ·exact⟨(k',some y,.nil),(mem _).2 (.inl rfl),[],(cR _).symm,.inl ⟨rfl,rfl⟩⟩
   ·exact⟨n,(mem _).2 (.inr c),h⟩
theorem kX{α:Type}{l:List α}{i:Nat}(f:i<l.length){a x:α}(d:∀j (c:j<l.length),j≠i→l[j]≠l[i]):x∈l.set i a↔x=a∨(x∈l∧x≠l[i]):=by
 constructor
 ·intro h
  obtain⟨j,c,e⟩:=dd h;rw[List.length_set]at c;rw[List.getElem_set]at e;split at e
  ·exact .inl e.symm
  ·rename_i b
   exact .inr ⟨by rw[←e];exact bO c,by rw[←e];exact d j c fun e=>b e.symm⟩
 ·rintro(rfl|⟨h,b⟩)
  ·exact List.mem_of_getElem (i:=i) (h:=by simpa using f) (by simp)
  ·obtain⟨j,c,e⟩:=dd h
   have:i≠j:=by rintro rfl;exact b e.symm
   exact List.mem_of_getElem (i:=j) (h:=by simpa using c) (by rw[List.getElem_set_ne this];exact e)
theorem CI{F:Fo}{i:Nat}{m:Bn}(h:fK F)(j:i<F.toL.length)(hm:CO m)(e:hd m.1=hd F.toL[i].1):fK (.ofL (F.toL.set i m)):=by
 have hc:=eh.1 h;rw[eh,Fo.to_of];refine⟨?_,fun n g=>?_⟩
 ·rw[cH]at hc⊢
  intro a b f d c;rw[List.length_set]at f d;rw[List.getElem_set,List.getElem_set];split
  ·rename_i ea;subst ea
   rw[if_neg (by omega),e];exact hc.1 _ _ f d c
  ·split
   ·rename_i eb;subst eb
    rw[e];exact hc.1 _ _ f d c
   ·exact hc.1 _ _ f d c
 ·rcases List.mem_or_eq_of_mem_set g with g|rfl
  ·exact hc.2 n g
  ·exact hm
theorem vq{F:Fo}(h:fK F){i:Nat}(d:i<F.toL.length)(j:Nat)(c:j<F.toL.length)(b:j≠i):F.toL[j]≠F.toL[i]:=by
 have hc:=(eh.1 h).1;rw[cH]at hc;intro e;rcases Nat.lt_or_gt_of_ne b with a|a
 ·have:=hc j i c d a;rw[e]at this;omega
 ·have:=hc i j d c a;rw[e]at this;omega
theorem ws{F:Fo}{i:Nat}{m:Bn}{k:List UInt8}{v:ByteArray}(h:fK F)(a:i<F.toL.length)(ek:hd F.toL[i].1=hd k)(g:lQ (tW F.toL[i]) (tW m) k v):lQ (rx F) (rx (.ofL (F.toL.set i m))) k v:=by
 intro k' f;have hc:=eh.1 h;rw[g4,g4,Fo.to_of];constructor
 ·rintro⟨n,c,d⟩
  rcases(kX a (vq h a)).1 c with rfl|⟨c,j⟩
  ·rcases(g k' f).1 d with b|⟨b,o⟩
   ·exact .inl b
   ·exact .inr ⟨b,_,bO a,o⟩
  ·refine .inr ⟨fun e=>j ?_,n,c,d⟩
   obtain⟨r,p,_⟩:=d;refine zv h c (bO a) ?_;rw[ek,←e,p,nn (hc.2 n c).1]
 ·rintro(b|⟨b,n,c,d⟩)
  ·exact⟨m,(kX a (vq h a)).2 (.inl rfl),(g k' f).2 (.inl b)⟩
  ·by_cases e:n=F.toL[i]
   ·exact⟨m,(kX a (vq h a)).2 (.inl rfl),(g k' f).2 (.inr ⟨b,by rw[←e];exact d⟩)⟩
   ·exact⟨n,(kX a (vq h a)).2 (.inr ⟨c,e⟩),d⟩
theorem zU{lab r:List UInt8}{w w':Option ByteArray}{F f:Fo}{v:ByteArray}(h:lQ (rv w F) (rv w' f) r v):lQ (tW (lab,w,F)) (tW (lab,w',f)) (lab++r) v:=by
 intro k' a;constructor
 ·rintro⟨s,e,b⟩
  rcases(h s a).1 b with⟨rfl,rfl⟩|⟨c,g⟩
  ·exact .inl ⟨e,rfl⟩
  ·exact .inr ⟨fun d=>c (List.append_cancel_left (e.symm.trans d)),s,e,g⟩
 ·rintro(⟨rfl,rfl⟩|⟨c,s,e,b⟩)
  ·exact⟨r,rfl,(h r a).2 (.inl ⟨rfl,rfl⟩)⟩
  ·exact⟨s,e,(h s a).2 (.inr ⟨fun d=>c (by rw[e,d]),b⟩)⟩
def cm:List UInt8→List UInt8→Nat
 |a::x,b::y=>if a=b then cm x y+1 else 0
 |_,_=>0
theorem C2:∀(x y:List UInt8),cm x y≤x.length∧cm x y≤y.length
 | [],_=>by simp[cm]
 |_::_,[]=>by simp[cm]
 |a::x,b::y=>by unfold cm;have:=C2 x y;split<;>simp<;>omega
theorem zr:∀(x y:List UInt8),x.take (cm x y)=y.take (cm x y)
 | [],_=>by simp[cm]
 |_::_,[]=>by simp[cm]
 |a::x,b::y=>by
  unfold cm;split
  ·rename_i e;rw[gN,gN,zr x y,e]
  ·simp
theorem zs:∀(x y:List UInt8),cm x y<x.length→cm x y<y.length→hd (x.drop (cm x y))≠hd (y.drop (cm x y))
 | [],_=>by simp[cm]
 |_::_,[]=>by simp[cm]
 |a::x,b::y=>by
  unfold cm;split
  ·rename_i e
   intro c d;rw[aQ]at c d;rw[List.drop_succ_cons,List.drop_succ_cons];exact zs x y (by omega) (by omega)
  ·rename_i e
   intro _ _ h;exact e (jV.1 h)
theorem DL{x y:List UInt8}(hx:x≠[])(c:y≠[])(h:hd x=hd y):0<cm x y:=by
 match x,y,hx,c with
 |a::x,b::y,_,_=>
  unfold cm;rw[if_pos (show a=b from jV.1 h)]
  omega
theorem z9{lab:List UInt8}{w:Option ByteArray}{F:Fo}(c:Nat):∀k v,tW (lab.take c,none,.cons (lab.drop c) w F .nil) k v↔tW (lab,w,F) k v:=by
 intro k v;constructor
 ·rintro⟨r,e,⟨_,h⟩|(⟨s,rfl,h⟩|h)⟩
  ·cases h
  ·exact⟨s,by rw[e];simp only;rw[←ay,bc],h⟩
  ·exact h.elim
 ·rintro⟨s,e,h⟩
  exact⟨lab.drop c++s,by rw[e];simp only;rw[←ay,bc],.inr (.inl ⟨s,rfl,h⟩)⟩
theorem BP{lab r:List UInt8}{w w':Option ByteArray}{F d:Fo}{v:ByteArray}(b:lab≠[])(i:w.isSome∨2≤F.toL.length)(j:fK F)(a:r≠[]→hd r≠hd lab)(h:lQ (rv none (.cons lab w F .nil)) (rv w' d) r v):Br (rv w' d):=by
 by_cases e:r= []
 ·subst e
  exact .inl ⟨v,(h [] v).2 (.inl ⟨rfl,rfl⟩)⟩
 ·have hc:fK (.cons lab w F .nil):=⟨b,i,j,fun n k=>by simp[Fo.toL]at k,trivial⟩
  obtain⟨s,u,f⟩:=pC hc _ (aC ..);simp only at f;have g:hd (lab++s)=hd lab:=nn b;refine .inr ⟨r,lab++s,v,u,(h r v).2 (.inl ⟨rfl,rfl⟩),(h _ u).2 (.inr ⟨fun c=>a e (by rw[←c,g]),.inr (.inl ⟨s,rfl,f⟩)⟩),e,fun c=>b (dX.1 c).1,by rw[g];exact a e⟩
theorem CL{P g:List UInt8→ByteArray→Prop}{k:List UInt8}{v:ByteArray}(f:Br P)(h:lQ P g k v):Br g:=by
 have keep:∀j u,P j u→∃c,g j c:=fun j u d=>by
  by_cases e:j=k
  ·exact⟨v,(h j v).2 (.inl ⟨e,rfl⟩)⟩
  ·exact⟨u,(h j u).2 (.inr ⟨e,d⟩)⟩
 rcases f with⟨u,m⟩|⟨j,k',u,c,d,i,r⟩
 ·obtain⟨c,n⟩:=keep [] u m
  exact .inl ⟨c,n⟩
 ·obtain⟨a,o⟩:=keep j u d
  obtain⟨b,f⟩:=keep k' c i;exact .inr ⟨j,k',a,b,o,f,r⟩
end Go.Proofs
namespace Go.Proofs
open Go.Lift
theorem DT(a b:Nat):(ad (IntKind.bits .u64) (a:Int)&&&ad (IntKind.bits .u64) (b:Int)).toNat=(a%18446744073709551616)&&&(b%18446744073709551616):=by
 simp[IntKind.bits,BitVec.toNat_and,BitVec.toNat_ofInt];rfl
theorem Et{hv:Int}(c:0≤hv∧hv<18446744073709551616){lev:Nat}(g:lev<13){h:ac}{K:Int→ac→Prop}(b:K (((hv.toNat>>>(5*lev))%32:Nat):Int) h):HC PG jl [.int .u64 hv,.int .i64 lev] [.c (.int .i64)] K h:=by
 refine yJ hv lev ?_;unfold tR;refine Join.plain (bi (fun h=>by omega) fun _=>?_)
 rw[decide_eq_false (by omega)];refine al.2 ?_;have f:IntKind.wrap .i64 (5*(lev:Int))=((5*lev:Nat):Int):=by rw[nT (by omega)];omega
 rw[f];have d:min (((5*lev:Nat):Int)).toNat (IntKind.bits .u64)=5*lev:=by rw[aK];exact aL (by show 5*lev≤64;omega)
 rw[d];obtain⟨n,rfl⟩:=Int.eq_ofNat_of_zero_le c.1;rw[aK]at b;simp only[Bd];rw[kr];have a:n>>>(5*lev)<18446744073709551616:=Nat.lt_of_le_of_lt (Nat.shiftRight_le _ _) (by omega);have e:=DT (n>>>(5*lev)) 31;rw[Nat.mod_eq_of_lt a,show((31:Nat):Int)=(31:Int)from rfl,show 31%18446744073709551616=2^5-1 from rfl,Nat.and_two_pow_sub_one_eq_mod]at e
 rw[e];have hm:n>>>(5*lev)%2^5<32:=mL _ (by omega);rw[Go.IntWalk.u64_in _ (by omega),nT (by omega)];exact⟨by omega,b⟩
theorem DP{x:Hs}{k:ByteArray}{lev:Nat}(b:lev<13){h:ac}{K:Int→ac→Prop}(a:K (ck x lev k:Int) h):HC PG jl [.int .u64 (jY x k),.int .i64 lev] [.c (.int .i64)] K h:=Et (wM x k) b a
theorem wA{x:Hs}{lev c:Nat}{l:List Pr}(h:∀p∈l,ck x lev p.1=c):part x lev c l=l:=List.filter_eq_self.2 fun p a=>decide_eq_true (h p a)
theorem y6{x:Hs}{lev c:Nat}{l:List Pr}(h:∀p∈l,ck x lev p.1≠c):part x lev c l= []:=List.filter_eq_nil_iff.2 fun p a=>by simpa using h p a
theorem sQ{x:Hs}{lev c:Nat}{p:Pr}{l:List Pr}(a:eO l):part x lev c (f9 p l)=if ck x lev p.1=c then f9 p (part x lev c l)else part x lev c l:=by
 have:=th p (fun k=>decide (ck x lev k=c)) a
 unfold part;rw[this];by_cases h:ck x lev p.1=c
 ·rw[if_pos h,if_pos (decide_eq_true h)]
 ·rw[if_neg h,if_neg (by simpa using h)]
theorem yX{p q:Pr}(h:p.1≠q.1):(f9 q [p]).length=2:=by
 rw[il];by_cases a:kl p.1 q.1
 ·rw[if_pos a];rfl
 ·rw[if_neg a,if_neg h];rfl
theorem zd{p q r:Pr}(h:r∈f9 q [p]):r=p∨r=q:=(sV h).symm.imp (fun h=>ag.1 h) id
theorem fR{β:Type}{g:Nat→Option β}{i c:Nat}{x:Option β}(h:c≠i):upd g i x c=g c:=by unfold upd;rw[if_neg h]
end Go.Proofs
namespace Go.Proofs
open Go.Lift
noncomputable instance memDec (p:Pr) (l:List Pr):Decidable (p∈l):=Classical.propDecidable _
theorem xH{l:List Pr}(b:eO l){k v w:ByteArray}(a:(k,v)∈l)(c:(k,w)∈l):v=w:=by
 induction l with
 |nil=>cases a
 |cons q l ih=>
  have b:=aZ.1 b;rcases ai.1 a with d|a<;>rcases ai.1 c with e|c
  ·exact(Prod.mk.inj (d.trans e.symm)).2
  ·have:=b.1 _ c;rw[←d]at this;exact absurd this (dL _)
  ·have:=b.1 _ a;rw[←e]at this;exact absurd this (dL _)
  ·exact ih b.2 a c
theorem na{x:Hs}{lev c:Nat}{l:List Pr}{p:Pr}:p∈part x lev c l↔p∈l∧ck x lev p.1=c:=by unfold part;rw[fP,decide_eq_true_iff]
theorem xr{x:Hs}{lev:Nat}{l:List Pr}{k:ByteArray}:cK (part x lev (ck x lev k) l) k=cK l k:=by
 unfold cK;rw[jX,bE,bE];constructor
 ·rintro⟨p,a,e⟩;exact⟨p,(na.1 a).1,e⟩
 ·rintro⟨p,a,e⟩;exact⟨p,na.2 ⟨a,by rw[of_decide_eq_true e]⟩,e⟩
theorem xI{x:Hs}{lev c:Nat}{l:List Pr}(a:eO l):eO (part x lev c l):=a.sublist List.filter_sublist
theorem wz{x:Hs}{lev c:Nat}{l:List Pr}:(part x lev c l).length≤l.length:=List.length_filter_le ..
def SlotIs(W:Nat→Prop)(x:Hs)(h:ac)(m:Nat)(s:Slots)(c:Nat)(l:List Pr):Prop:=
 (l= []∧s.p c=none∧s.k c=none)∨(∃p,l= [p]∧s.p c=some p∧s.k c=none)∨(2≤l.length∧s.p c=none∧∃kb,s.k c=some (some ⟨kb,0,none⟩)∧TrieAt W x h m kb l)
theorem SlotIs.upd0{W:Nat→Prop}{x:Hs}{h a:ac}{m:Nat}{s:Slots}{c:Nat}{l:List Pr}(k:Upd No h a)(t:SlotIs W x h m s c l):SlotIs W x a m s c l:=t.imp id fun o=>o.imp id fun⟨g,d,f,e,b⟩=>⟨g,d,f,e,TrieAt.upd0 k b⟩
theorem wJ(p:Pr):∀{l:List Pr},l.length≤(f9 p l).length
 | []=>Nat.zero_le _
 |q::l=>by
  rw[il];split
  ·have:=wJ p (l:=l);simp only[aQ];omega
  ·split<;>simp
theorem kB{a b:ByteArray}:(a.toList==b.toList)=decide (a=b):=by
 rw[jX,beq_iff_eq,decide_eq_true_iff,qG]
end Go.Proofs
namespace Go.Proofs
open Go.Lift
theorem AK{W:Nat→Prop}{x:Hs}{h:ac}{m b:Nat}(a:NodeAt W h b ⟨fun _=>none,fun _=>none⟩):TrieAt W x h (m+1) b []:=⟨_,a,fun _ _=>.inl ⟨rfl,rfl,rfl⟩⟩
def RootAt(W:Nat→Prop)(x:Hs)(h:ac)(r:Option Addr)(l:List Pr):Prop:=(r=none∧l= [])∨∃b,r=some ⟨b,0,none⟩∧TrieAt W x h 13 b l
theorem RootAt.upd0{W:Nat→Prop}{x:Hs}{h a:ac}{r:Option Addr}{l:List Pr}(k:Upd No h a)(t:RootAt W x h r l):RootAt W x a r l:=t.imp id fun⟨b,e,t⟩=>⟨b,e,TrieAt.upd0 k t⟩
theorem fV{h:ac}{b:Nat}{t:TypeId}{c vs:List Value}(a:h[b]? =some (.cells c.toArray t (0,0))) (d:vs.length=c.length) {k:ac→Prop}
  (f:∀h',h'[b]? =some (.cells vs.toArray t (0,0))→Upd (· =b) h h'→k h'):nO h (some ⟨b,0,none⟩) 0 vs∧At (fX h ⟨b,0,none⟩ 0 vs) k:=by
 have e:=eG vs h 0 0 c a (by omega);refine⟨.inr ⟨_,rfl,fun j g=>by rw[aX];exact fq a (by rw[bG];omega)⟩,bK ?_⟩
 rw[e];refine f _ ?_ (Upd.set h _ rfl);rw[gp a];congr 3
 simp[d]
end Go.Proofs
namespace Go.Proofs
open Go.Lift
end Go.Proofs
namespace Go.Proofs
open Go Go.Lift
end Go.Proofs
namespace Go.Proofs
open Go Go.Lift
def Fit(l:List Pr):Prop:=∀p∈l,p.1.size≤10000∧p.2.size≤10000
end Go.Proofs
namespace Go.Proofs
open Go Go.Lift
end Go.Proofs
namespace Go.Proofs
open Go Go.Lift
def xy(l:List Pr):Option Pr:=match l with| [p]=>some p|_=>none
def rG(l:List Pr):Option (List Pr):=if 2≤l.length then some l else none
def uv(x:Hs)(lev:Nat)(l:List Pr):List Pr:=fm (fun c=>xy (part x lev c l)) 32
def pz(x:Hs)(lev:Nat)(l:List Pr):List (List Pr):=fm (fun c=>rG (part x lev c l)) 32
theorem Df{W:Nat→Prop}{x:Hs}{h:ac}{m:Nat}{s:Slots}{c:Nat}{l:List Pr}(t:SlotIs W x h m s c l):s.p c=xy l∧(s.k c).isSome=(rG l).isSome:=by
 rcases t with⟨rfl,d,e⟩|⟨p,rfl,d,e⟩|⟨f,d,g,e,_⟩
 ·rw[d,e];exact⟨rfl,rfl⟩
 ·rw[d,e];exact⟨rfl,rfl⟩
 ·rw[d,e]
  refine⟨?_,by simp[rG,f]⟩
  match l,f with
  |a::b::l,_=>rfl
def KidsAt(W:Nat→Prop)(x:Hs)(h:ac)(m:Nat):List (Option Addr)→List (List Pr)→Prop
 | [],[]=>True
 |k::ks,l::ls=>(∃kb,k=some ⟨kb,0,none⟩∧TrieAt W x h m kb l)∧KidsAt W x h m ks ls
 |_,_=>False
theorem KidsAt.app{W:Nat→Prop}{x:Hs}{h:ac}{m:Nat}:∀{ks ks':List (Option Addr)} {ls ls':List (List Pr)},KidsAt W x h m ks ls→KidsAt W x h m ks' ls'→KidsAt W x h m (ks++ks') (ls++ls')
 | [],_,[],_,_,q=>q
 |_::_,_,_::_,_,q,q'=>⟨q.1,KidsAt.app q.2 q'⟩
 | [],_,_::_,_,q,_=>q.elim
 |_::_,_,[],_,q,_=>q.elim
theorem r7{β:Type}(g:Nat→Option β)(n:Nat):fm g (n+1)=fm g n++(g n).toList:=by
 unfold fm;rw[List.range_succ,iZ];cases h:g n<;>simp[h]
theorem Bf{W:Nat→Prop}{x:Hs}{h:ac}{m lev:Nat}{s:Slots}{l:List Pr}:∀n,(∀c,c<n→SlotIs W x h m s c (part x lev c l))→KidsAt W x h m (fm s.k n) (fm (fun c=>rG (part x lev c l)) n)
 |0,_=>trivial
 |n+1,hs=>by
  rw[r7,r7];refine KidsAt.app (Bf n fun c hc=>hs c (by omega)) ?_
  rcases hs n (by omega)with⟨a,_,b⟩|⟨p,a,_,b⟩|⟨a,_,d,b,e⟩
  ·rw[b,a];exact trivial
  ·rw[b,a];exact trivial
  ·rw[b]
   have:rG (part x lev n l)=some (part x lev n l):=by unfold rG;rw[if_pos a]
   simp only[this];exact⟨⟨d,rfl,e⟩,trivial⟩
theorem Cl{W:Nat→Prop}{x:Hs}{h:ac}{m lev:Nat}{s:Slots}{l:List Pr}(a:∀c,c<32→SlotIs W x h m s c (part x lev c l)):fm s.p 32=uv x lev l:=
 Em _ fun c hc=>(Df (a c (gh.1 hc))).1
end Go.Proofs
namespace Go.Proofs
open Go Go.Lift
theorem qw(x:Hs)(lev:Nat)(l:List Pr):∀n,(((cp n).map fun c=>(part x lev c l).length).sum)=(l.filter fun p=>decide (ck x lev p.1<n)).length
 |0=>by
  have:(l.filter fun p=>decide (ck x lev p.1<0))= []:=List.filter_eq_nil_iff.2 fun p _=>by simp
  rw[this];rfl
 |n+1=>by
  rw[List.range_succ,fQ,List.sum_append,qw x lev l n];simp only[List.map_cons,List.map_nil,List.sum_cons,List.sum_nil,dE];unfold part;clear qw;induction l with
  |nil=>rfl
  |cons p l ih=>
   simp only[co,decide_eq_true_iff];split<;>split<;>split<;>first|omega|(simp only[aQ];omega)
end Go.Proofs
namespace Go.Proofs
open Go Go.Lift
theorem zZ{x:Hs}{lev:Nat}{l L:List Pr}(h:L∈pz x lev l):2≤L.length∧∃c,L=part x lev c l:=by
 unfold pz fm at h;obtain⟨c,_,hc⟩:=List.mem_filterMap.1 h;unfold rG at hc;split at hc
 ·cases hc;exact⟨by assumption,c,rfl⟩
 ·cases hc
theorem Fit.part{x:Hs}{lev c:Nat}{l:List Pr}(h:Fit l):Fit (part x lev c l):=fun p a=>h p (na.1 a).1
end Go.Proofs
namespace Go.Proofs
open Go Go.Lift
end Go.Proofs
namespace Go.Proofs
open Go Go.Lift
end Go.Proofs
