/- A part of the proof that the named laws of this program answer true, whatever the input. -/
import Derived.Test.YtajpljopgikpgaaGreatPart1
open BitVec renaming ofInt→ah
open Bool renaming eq_iff_iff→j5
open Int renaming toNat_natCast→aN
open List renaming length_take→aK,flatMap_cons→aJ,flatMap_append→be,length_append→af,size_toArray→co,append_assoc→ao,drop_left'→bN,getElem?_eq_getElem→aj,getElem_mem→bm,pairwise_cons→bh,mem_cons→ar,mem_cons_self→ax,mem_cons_of_mem→aI,filter_cons→cR,mem_filter→f8,append_eq_nil_iff→eh,mem_singleton→ai,append_nil→bO,append_cancel_left→dZ,length→gl,getElem_of_mem→cu,take_append_drop→bB,pairwise_append→cE,mem_of_getElem→jH,pairwise_iff_getElem→cX,take_succ_cons→fz,length_cons→aL,drop_succ_cons→gp,any_eq_true→bH,length_singleton→bd,take_of_length_le→bc
open Nat renaming zero_add→aC,min_eq_left→aW,add_zero→dN,le_of_eq→fC,le_refl→aw,mod_lt→nN,lt_or_ge→bP,zero_le→bD,le_trans→bp,testBit_lt_two_pow→eg,lt_of_lt_of_le→bv,pow_le_pow_right→gi
open Option renaming isSome_iff_exists→cI,some→bj
open UInt8 renaming toNat_inj→mJ,ofNat→eC
namespace Go.Proofs
open Go.Lift
abbrev sv(s:SliceV):Value:=.slice s.a s.len s.cap
structure Slots where
 p:Nat→Option Pr
 k:Nat→Option (Option Addr)
def dR(d n:Nat)(sp sk:SliceV)(a:Bool)(ow:Option Addr):Array Value:= #[.int .u32 (d:Int),.int .u32 (n:Int),sv sp,sv sk,.bool a,.pointer ow]
structure BitsOf(d n:Nat)(s:Slots):Prop where
 d32:d<4294967296
 n32:n<4294967296
 dp:∀c,c<32→d.testBit c=(s.p c).isSome
 nk:∀c,c<32→n.testBit c=(s.k c).isSome
def OwOk(W:Nat→Prop)(h:ae)(ow:Option Addr):Prop:=∀a,ow=some a→¬W a.block∧de h a
theorem OwOk.upd{W M:Nat→Prop}{h g:ae}{ow:Option Addr}(o:OwOk W h ow)(k:Upd M h g)(hm:∀b,M b→W b∨h.size≤b):OwOk W g ow:=fun a e=>by
 obtain⟨f,c,t,d,hz⟩:=o a e;exact⟨f,c,t,k.get d (fun hM=>(hm _ hM).elim f fun h=>by have:=aG d;omega),hz⟩
theorem OwOk.less{W W':Nat→Prop}{h:ae}{ow:Option Addr}(o:OwOk W h ow)(hm:∀b,W' b→W b∨h.size≤b):OwOk W' h ow:=fun a e=>by
 obtain⟨f,c,t,d,hz⟩:=o a e;exact⟨fun hx=>(hm _ hx).elim f fun h=>by have:=aG d;omega,c,t,d,hz⟩
theorem ia{W:Nat→Prop}{h:ae}:OwOk W h none:=fun _ e=>by cases e
structure NodeAt(W:Nat→Prop)(h:ae)(b:Nat)(s:Slots):Prop where
 ex:∃d n sp sk ow,h[b]? =some (.cells (dR d n sp sk false ow) ba (0,0))∧BitsOf d n s∧Sl gz 2 W h sp (fm s.p 32)∧Sl my 1 W h sk (fm s.k 32)∧sp.len≤sp.cap∧sk.len≤sk.cap∧OwOk W h ow
 nw:¬W b
theorem NodeAt.upd{W M:Nat→Prop}{h c:ae}{b:Nat}{s:Slots}(n:NodeAt W h b s)(k:Upd M h c)(hm:∀b,M b→W b∨h.size≤b):NodeAt W c b s:=by
 obtain⟨d,m,sp,sk,ow,a,i,f,e,g,p,o⟩:=n.ex;exact⟨⟨d,m,sp,sk,ow,k.get a (fun j=>(hm _ j).elim n.nw fun h=>by have:=aG a;omega),i,f.upd k hm,e.upd k hm,g,p,o.upd k hm⟩,n.nw⟩
structure OwnN(M:Nat→Prop)(h:ae)(b d n:Nat)(sp sk:SliceV)(s:Slots)(ow:Option Addr):Prop where
 blk:h[b]? =some (.cells (dR d n sp sk false ow) ba (0,0))
 bits:BitsOf d n s
 ex:∃A B:Nat→Prop,OwnS gz 2 al A h sp (fm s.p 32)∧OwnS my 1 aY B h sk (fm s.k 32)∧(∀x,A x→M x∧¬B x∧x≠b∧x<h.size)∧(∀x,B x→M x∧x≠b∧x<h.size)
 mb:M b
theorem OwnN.upd{M M':Nat→Prop}{h f:ae}{b d n:Nat}{sp sk:SliceV}{s:Slots}{ow:Option Addr}(o:OwnN M h b d n sp sk s ow)(k:Upd M' h f)(hm:∀x,M' x→¬M x):OwnN M f b d n sp sk s ow:=by
 obtain⟨A,B,g,i,a,c⟩:=o.ex;have z:=k.size;exact⟨k.get o.blk fun j=>hm _ j o.mb,o.bits,⟨A,B,g.upd k fun x hx e=>hm _ e (a x hx).1,i.upd k fun x hx e=>hm _ e (c x hx).1,fun x hx=>⟨(a x hx).1,(a x hx).2.1,(a x hx).2.2.1,by have:=(a x hx).2.2.2;omega⟩,fun x hx=>⟨(c x hx).1,(c x hx).2.1,by have:=(c x hx).2.2;omega⟩⟩,o.mb⟩
end Go.Proofs
namespace Go.Proofs
open Go.Lift
theorem pr{β:Type}{g:Nat→Option β}{i:Nat}(h:g i=none):upd g i none=g:=by
 funext j;unfold upd;split
 ·rename_i e;rw[e,h]
 ·rfl
theorem cV{h:ae}{b:Nat}{c:Array Value}{t:TypeId}{i:Nat}(a:h[b]? =some (.cells c t (0,0))):aQ h ⟨b,0+i,none⟩=c[i]?:=by rw[aC];exact aV a
theorem IE{h:ae}{b:Nat}{c:Array Value}{t:TypeId}{i:Nat}(a:h[b]? =some (.cells c t (0,0))) (hi:i<c.size):Wr h ⟨b,0+i,none⟩:=by rw[aC];exact gL a hi
theorem zg{h:ae}{b:Nat}{c c':Array Value}{t:TypeId}{i:Nat}{v:Value}{k:ae→Prop}(g:h[b]? =some (.cells c t (0,0))) (e:c.setIfInBounds i v=c')
 (j:∀a,a[b]? =some (.cells c' t (0,0))→Upd (· =b) h a→k a):At (hset h ⟨b,i,none⟩ v) k:=vI g fun a d f=>j a (e▸d) f
theorem Bk{M:Nat→Prop}{h:ae}{b d n:Nat}{sp sk:SliceV}{s:Slots}{ow:Option Addr}(o:OwnN M h b d n sp sk s ow){i:Nat}(hi:i<32){K:Unit→ae→Prop}
  (W:∀t E H sp' sk',OwnN M t b E H sp' sk' ⟨upd s.p i none,upd s.k i none⟩ ow→Upd M h t→K () t):HC PG ge [.pointer (some ⟨b,0,none⟩),.int .i64 i] [] K h:=by
 obtain⟨A,B,Z,X,a,m⟩:=o.ex;have bits:=o.bits;refine uC _ i ?_;unfold oK bL cZ BT fh j7;have ew:∀k:Nat,k≤100→IntKind.wrap .i64 ((k:Int)+1)=((k+1:Nat):Int):=fun k W=>by rw[nT (by omega)];omega
 have hc1:=tf i d;have hc2:=tf i n;have N:∀x,A x→M x∨h.size≤x:=fun x hx=>.inl (a x hx).1
 refine Join.intro (fun _ t=>∃sp',t[b]? =some (.cells (dR d n sp' sk false ow) ba (0,0))∧OwnS gz 2 al A t sp' (fm (upd s.p i none) 32)∧OwnS my 1 aY B t sk (fm s.k 32)∧Upd M h t) (fun R C=>?_) ?_
 ·refine⟨_,rfl,_,cV (i:=0) o.blk,vr bits.d32 hi ?_⟩
  rw[bits.dp i hi];cases hp:s.p i with
  |none=>exact ak.2 (C _ _ ⟨sp,o.blk,by rw[pr hp];exact Z,X,Upd.refl _ _⟩)
  |some y=>
   refine aA.2 ⟨_,rfl,_,cV (i:=0) o.blk,lZ bits.d32 hi ⟨_,rfl,sp,cV (i:=2) o.blk,?_⟩⟩;rw[ew _ (by omega)];refine El Z (Al hi bits.dp hp) (by have:=sf (g:=s.p);omega) fun D Y u f=>?_
   rw[←HL hi bits.dp hp]at u;have b2:=f.get o.blk fun I=>(a b I).2.2.1 rfl
   refine⟨_,rfl,IE (i:=2) b2 (show 2<6 by decide),zg (i:=2) (c':=dR d n D sk false ow) b2 rfl fun V b3 j=>?_⟩
   refine C _ _ ⟨D,b3,u.upd j fun x hx e=>(a x hx).2.2.1 e,(X.upd f fun x hx O=>(a x O).2.1 hx).upd j fun x hx e=>(m x hx).2.1 e,(f.mono N).tr (j.mono fun x e=>.inl (e▸o.mb))⟩
 rintro _ h1 ⟨q,b1,w,G,F⟩;refine Join.intro (fun _ t=>∃sk',t[b]? =some (.cells (dR d n q sk' false ow) ba (0,0))∧OwnS gz 2 al A t q (fm (upd s.p i none) 32)∧OwnS my 1 aY B t sk' (fm (upd s.k i none) 32)∧Upd M h1 t) (fun R C=>?_) ?_
 ·refine⟨_,rfl,_,cV (i:=1) b1,vr bits.n32 hi ?_⟩
  rw[bits.nk i hi];cases hp:s.k i with
  |none=>exact ak.2 (C _ _ ⟨sk,b1,w,by rw[pr hp];exact G,Upd.refl _ _⟩)
  |some y=>
   refine aA.2 ⟨_,rfl,_,cV (i:=1) b1,lZ bits.n32 hi ⟨_,rfl,sk,cV (i:=3) b1,?_⟩⟩;rw[ew _ (by omega)];refine Em G (Al hi bits.nk hp) (by have:=sf (g:=s.k);omega) fun D Y u f=>?_
   rw[←HL hi bits.nk hp]at u;have b2:=f.get b1 fun I=>(m b I).2.1 rfl
   refine⟨_,rfl,IE (i:=3) b2 (show 3<6 by decide),zg (i:=3) (c':=dR d n q D false ow) b2 rfl fun V b3 j=>?_⟩
   refine C _ _ ⟨D,b3,(w.upd f fun x hx O=>(a x hx).2.1 O).upd j fun x hx e=>(a x hx).2.2.1 e,u.upd j fun x hx e=>(m x hx).2.1 e,(f.mono fun x hx=>.inl (m x hx).1).tr (j.mono fun x e=>.inl (e▸o.mb))⟩
 rintro _ Y ⟨v,b2,P,J,f⟩;refine⟨_,rfl,_,cV (i:=0) b2,_,rfl,_,cV (i:=1) b2,?_⟩;refine xE bits.d32 hi fun E Q L=>⟨cV (i:=1) b2,?_⟩
 refine xE bits.n32 hi fun H T S=>?_
 refine⟨_,rfl,IE (i:=0) b2 (show 0<6 by decide),zg (i:=0) (c':=dR E n q v false ow) b2 rfl fun V b3 j=>?_⟩
 refine⟨_,rfl,IE (i:=1) b3 (show 1<6 by decide),zg (i:=1) (c':=dR E H q v false ow) b3 rfl fun h4 b4 U=>?_⟩
 have p:=j.tr U;have z:=(F.tr (f.tr (p.mono (M':=M) fun x e=>.inl (e▸o.mb)))).size
 refine W h4 E H q v ⟨b4,⟨Q,T,fun c hc=>?_,fun c hc=>?_⟩,⟨A,B,P.upd p fun x hx e=>(a x hx).2.2.1 e,J.upd p fun x hx e=>(m x hx).2.1 e,fun x hx=>⟨(a x hx).1,(a x hx).2.1,(a x hx).2.2.1,by have:=(a x hx).2.2.2;omega⟩,fun x hx=>⟨(m x hx).1,(m x hx).2.1,by have:=(m x hx).2.2;omega⟩⟩,o.mb⟩ (F.tr (f.tr (p.mono fun x e=>.inl (e▸o.mb))))
 ·rw[L,bits.dp c hc];simp only[upd];split<;>simp[*]
 ·rw[S,bits.nk c hc];simp only[upd];split<;>simp[*]
end Go.Proofs
namespace Go.Proofs
open Go.Lift
theorem OwnS.setAt{α:Type}{f:α→List Value}{c:Nat}{t:TypeId}{M:Nat→Prop}{h:ae}{s:SliceV}{xs:List α}(i:OwnS f c t M h s xs){k:Nat}(p:k<xs.length)(x:α):
  ∃a,s.a=some a∧M a.block∧ph h (some (adr a (k*c))) 0 (f x)∧OwnS f c t M (fi h (adr a (k*c)) 0 (f x)) s (xs.take k++x::xs.drop (k+1))∧Upd (· =a.block) h (fi h (adr a (k*c)) 0 (f x)):=by
 have m:∀x,(f x).length=c∧0<c:=i.ne;have w:=i.len;have g:=i.cap;rcases i.blk with D|⟨b,e,v,u,hc,z⟩
 ·omega
 have o:((xs.take k).flatMap f).length=k*c:=by rw[gQ m,aK,aW (by omega)]
 have y:xs.flatMap f=(xs.take k).flatMap f++(f xs[k]++(xs.drop (k+1)).flatMap f):=by
  rw[←aJ,←List.drop_eq_getElem_cons p];exact te xs k
 rw[y]at hc;have C:=(m xs[k]).1;have F:=(m x).1;have d:(xs.take k++x::xs.drop (k+1)).flatMap f=(xs.take k).flatMap f++(f x++(xs.drop (k+1)).flatMap f):=by rw[be,aJ]
 generalize (xs.take k).flatMap f=A at o hc d;generalize (xs.drop (k+1)).flatMap f=B at hc d;generalize f xs[k]=X at C hc;have q:k*c+0+(f x).length≤(A++(X++B)++e).length:=by simp only[af];omega
 have n:adr ⟨b,0,none⟩ (k*c)=⟨b,k*c,none⟩:=by rw[bC,aC]
 refine⟨⟨b,0,none⟩,v,u,?_,?_,?_⟩
 ·rw[n]
  refine .inr ⟨_,rfl,fun j E=>?_⟩
  rw[bC];exact gL hc (by rw[co];omega)
 ·rw[n,f7 (f x) h 0 (k*c) _ hc q]
  refine⟨by simp;omega,m,g,.inr ⟨b,e,v,u,?_,?_⟩⟩
  ·rw[iY hc,d]
   congr 3
   rw[dN,ao A,List.take_left' o,←List.drop_drop,bN o,ao X,bN (by omega)];simp only[ao]
  ·exact z
 ·rw[n,f7 (f x) h 0 (k*c) _ hc q]
  exact Upd.set h _ rfl
theorem OwnN.node{M W:Nat→Prop}{h:ae}{b d n:Nat}{sp sk:SliceV}{s:Slots}{ow:Option Addr}(o:OwnN M h b d n sp sk s ow)(a:∀x,M x→¬W x)(c:OwOk W h ow:=by exact ia):NodeAt W h b s:=by
 obtain⟨A,B,e,f,i,g⟩:=o.ex;exact⟨⟨d,n,sp,sk,ow,o.blk,o.bits,e.sl fun x hx _=>a _ (i x hx).1,f.sl fun x hx _=>a _ (g x hx).1,e.cap,f.cap,c⟩,a _ o.mb⟩
theorem yp{W:Nat→Prop}{h:ae}{b:Nat}{s:Slots}(c:NodeAt W h b s){i:Nat}(hi:i<32){K:Bool→ae→Prop}(e:K true h):HC PG gf [.pointer (some ⟨b,0,none⟩),.int .i64 i] [.c .bool] K h:=by
 obtain⟨d,n,sp,sk,ow,a,_⟩:=c.ex;refine uD _ i ?_;unfold oL ii;refine aA.2 ⟨_,rfl,_,cV (i:=4) a,aA.2 ?_⟩;refine bf (fun _=>?_) fun h=>absurd (Int.natCast_nonneg i) h
 rw[decide_eq_true (by omega)];exact e
theorem EV{β:Type}{g:Nat→Option β}{i:Nat}{x y:Option β}:upd (upd g i x) i y=upd g i y:=by
 funext j;unfold upd;split<;>rfl
theorem eJ{β:Type}{g:Nat→Option β}{i:Nat}{x:Option β}:upd g i x i=x:=by simp[upd]
end Go.Proofs
namespace Go.Proofs
open Go.Lift
end Go.Proofs
namespace Go.Proofs
open Go.Lift
theorem Fs{h:ae}{b d n:Nat}{sp sk:SliceV}{c:Bool}{ow:Option Addr}(a:h[b]? =some (.cells (dR d n sp sk c ow) ba (0,0))) {K:Int→ae→Prop} (e:K (d:Int) h):HC PG jj [.pointer (some ⟨b,0,none⟩)] [.c (.int .u32)] K h:=by
 refine vU _ ?_;unfold pP fh;exact ak.2 ⟨_,rfl,_,cV (i:=0) a,e⟩
theorem yf{h:ae}{b d n:Nat}{sp sk:SliceV}{c:Bool}{ow:Option Addr}(a:h[b]? =some (.cells (dR d n sp sk c ow) ba (0,0))) {K:Int→ae→Prop} (e:K (n:Int) h):HC PG gg [.pointer (some ⟨b,0,none⟩)] [.c (.int .u32)] K h:=by
 refine uG _ ?_;unfold oO fh;exact ak.2 ⟨_,rfl,_,cV (i:=1) a,e⟩
theorem gI{h:ae}{b d n:Nat}{sp sk:SliceV}{a:Bool}{ow:Option Addr}(c:h[b]? =some (.cells (dR d n sp sk a ow) ba (0,0))) {K:Bool→ae→Prop} (e:K a h):HC PG dq [.pointer (some ⟨b,0,none⟩)] [.c .bool] K h:=by
 refine rp _ ?_;unfold mr ii;exact aA.2 ⟨_,rfl,_,cV (i:=4) c,e⟩
def HG(o:Option Pr):Pr:=o.getD (⟨#[]⟩,⟨#[]⟩)
theorem wB{h:ae}{b:Nat}{q p:Pr}(a:h[b]? =some (.cells #[.string q.1,.string q.2] al (0,0))) {k:ae→Prop}
  (d:∀h',h'[b]? =some (.cells #[.string p.1,.string p.2] al (0,0))→Upd (· =b) h h'→k h'):ph h (some ⟨b,0,none⟩) 0 [.string p.1,.string p.2]∧At (fi h ⟨b,0,none⟩ 0 [.string p.1,.string p.2]) k:=by
 have e:=f7 [.string p.1,.string p.2] h 0 0 [.string q.1,.string q.2] a (by simp);refine⟨.inr ⟨_,rfl,fun j c=>by rw[bC];exact gL a (by simp at c⊢;omega)⟩,bG ?_⟩
 rw[e];refine d _ ?_ (Upd.set h _ rfl);rw[iY a];rfl
theorem Cx{W:Nat→Prop}{h:ae}{b:Nat}{s:Slots}(o:NodeAt W h b s){i:Nat}(hi:i<32){K:Pr×Bool→ae→Prop}(k:∀h',Upd No h h'→K (HG (s.p i),(s.p i).isSome) h'):
  HC PG jh [.pointer (some ⟨b,0,none⟩),.int .i64 i] [.agg [.str,.str],.c .bool] K h:=by
 refine vR _ i ?_;unfold pM f6 bQ aD bL fH qt oZ fh j7;obtain⟨d,n,sp,sk,ow,w,bits,g,u,q,A⟩:=o.ex;have k1:=Upd.hnew No h [.string (⟨#[]⟩:ByteArray),.string (⟨#[]⟩:ByteArray)] al;have b1:=ci h [.string (⟨#[]⟩:ByteArray),.string (⟨#[]⟩:ByteArray)] al;refine bG ?_;simp only[eZ h];generalize hnew h [.string (⟨#[]⟩:ByteArray),.string (⟨#[]⟩:ByteArray)] al=h1 at k1 b1
 have c:=k1.get0 w;have f:h1[h.size]? =some (.cells #[.string BJ.1,.string BJ.2] al (0,0)):=b1;refine Fs c (vr bits.d32 hi ?_);rw[bits.dp i hi];cases hp:s.p i with
 |none=>
  rw[hp]at k;refine aA.2 (wB (p:=BJ) f fun v b2 e=>⟨_,by rw[bC,aV b2];rfl,_,by rw[bC,aV b2];rfl,k _ (k1.trans e fun x hx=>.inr (fC hx.symm))⟩)
 |some y=>
  rw[hp]at k;refine ak.2 ⟨_,rfl,sp,cV (i:=2) c,_,rfl,_,cV (i:=0) c,lZ bits.d32 hi ⟨cV (i:=2) c,?_⟩⟩;have z:=Al hi bits.dp hp;have j:=g.upd k1 fun _ h=>h.elim
  obtain⟨a,t,_,hv⟩:=j.at (HM hi bits.dp hp);have m:=g.len;refine⟨by omega,a,t,y.1,hv 0 _ rfl,y.2,hv 1 _ rfl,?_⟩;refine wB (p:=y) f fun v b2 e=>⟨_,by rw[bC,aV b2];rfl,_,by rw[bC,aV b2];rfl,k _ (k1.trans e fun x hx=>.inr (fC hx.symm))⟩
theorem Fa{W:Nat→Prop}{h:ae}{b:Nat}{s:Slots}(j:NodeAt W h b s){i:Nat}(hi:i<32){K:Option Addr×Bool→ae→Prop}(f:K ((s.k i).getD none,(s.k i).isSome) h):
  HC PG jY [.pointer (some ⟨b,0,none⟩),.int .i64 i] [.c .ptr,.c .bool] K h:=by
 refine xb _ i ?_;unfold qF cG f6 bL fh j7;obtain⟨d,n,sp,sk,ow,e,bits,o,c,k,q⟩:=j.ex;refine yf e (vr bits.n32 hi ?_);rw[bits.nk i hi];cases hp:s.k i with
 |none=>rw[hp]at f;exact aA.2 f
 |some y=>
  rw[hp]at f;refine ak.2 ⟨_,rfl,sk,cV (i:=3) e,_,rfl,_,cV (i:=1) e,lZ bits.n32 hi ⟨cV (i:=3) e,?_⟩⟩;have p:=Al hi bits.nk hp;obtain⟨a,m,_,hv⟩:=c.at (HM hi bits.nk hp);have g:=c.len;exact⟨by omega,a,m,y,hv 0 _ rfl,f⟩
theorem px{W:Nat→Prop}{h:ae}{b d n:Nat}{sp sk:SliceV}{c:Bool}{ow:Option Addr}{l:List Pr}(e:h[b]? =some (.cells (dR d n sp sk c ow) ba (0,0))) (a:Sl gz 2 W h sp l) (g:l.length≤1000000000) {K:SliceV→ae→Prop}
  (f:∀s' h',OwnS gz 2 al (fun x=>h.size≤x) h' s' l→Upd No h h'→K s' h'):HC PG ee [.pointer (some ⟨b,0,none⟩)] [.c .slice] K h:=by
 refine uE _ ?_;unfold oM bL;exact ak.2 ⟨_,rfl,sp,cV (i:=2) e,vC a (by omega) f⟩
theorem Ba{W:Nat→Prop}{h:ae}{b d n:Nat}{sp sk:SliceV}{c:Bool}{ow:Option Addr}{l:List (Option Addr)}(e:h[b]? =some (.cells (dR d n sp sk c ow) ba (0,0))) (a:Sl my 1 W h sk l) (g:l.length≤1000000000) {K:SliceV→ae→Prop}
  (f:∀s' h',OwnS my 1 aY (fun x=>h.size≤x) h' s' l→Upd No h h'→K s' h'):HC PG ji [.pointer (some ⟨b,0,none⟩)] [.c .slice] K h:=by
 refine vS _ ?_;unfold pN bL;exact ak.2 ⟨_,rfl,sk,cV (i:=3) e,As a (by omega) f⟩
structure BuckAt(W:Nat→Prop)(h:ae)(b:Nat)(l:List Pr):Prop where
 ex:∃sp sk ow,h[b]? =some (.cells (dR 0 0 sp sk true ow) ba (0,0))∧Sl gz 2 W h sp l∧Sl my 1 W h sk []∧sp.len≤sp.cap∧sk.len≤sk.cap∧OwOk W h ow
 nw:¬W b
theorem BuckAt.upd{W M:Nat→Prop}{h c:ae}{b:Nat}{l:List Pr}(n:BuckAt W h b l)(k:Upd M h c)(hm:∀b,M b→W b∨h.size≤b):BuckAt W c b l:=by
 obtain⟨sp,sk,ow,a,e,d,f,j,i⟩:=n.ex;exact⟨⟨sp,sk,ow,k.get a (fun g=>(hm _ g).elim n.nw fun h=>by have:=aG a;omega),e.upd k hm,d.upd k hm,f,j,i.upd k hm⟩,n.nw⟩
theorem Km{W:Nat→Prop}{h:ae}{b:Nat}{l:List Pr}(z:BuckAt W h b l)(o:cq l)(n:l.length≤1000000000)(k:ByteArray){K:ByteArray×Bool→ae→Prop}
  (i:∀h' v,Upd No h h'→(bK l k=true→(k,v)∈l)→(bK l k=false→v=⟨#[]⟩)→K (v,bK l k) h'):HC PG nt [.pointer (some ⟨b,0,none⟩),.string k] [.c .str,.c .bool] K h:=by
 refine EH _ k ?_;unfold y3 f6 bQ qL;obtain⟨sp,sk,ow,s,j,x,y,t⟩:=z.ex;refine px s j n fun q u m f=>?_
 have c:Sl gz 2 No u q l:=m.sl fun _ _ _ h=>h
 refine Bf c o n k fun A d=>?_
 cases ht:bK l k with
 |false=>rw[ht]at i;exact aA.2 (i _ _ (f.tr d) (fun h=>by cases h) fun _=>rfl)
 |true=>
  rw[ht]at i;obtain⟨g,e⟩:=AW o ht;obtain⟨a,w,_,hv⟩:=(c.upd d fun _ h=>h.elim).at (aj g)
  have p:=c.len;refine ak.2 ⟨by simp only;omega,a,w,_,hv 1 _ rfl,i _ _ (f.tr d) (fun _=>?_) fun h=>by cases h⟩
  have:(k,l[kc l k].2)=l[kc l k]:=Prod.ext e.symm rfl;rw[this];exact bm g
theorem JE{W:Nat→Prop}{h:ae}{b:Nat}{l:List Pr}(d:BuckAt W h b l)(f:cq l)(e:l.length≤1000000000)(k:ByteArray){K:ByteArray×Bool→ae→Prop}
 (i:∀a v,Upd No h a→(bK l k=true→(k,v)∈l)→K (v,bK l k) a):HC PG nt [.pointer (some ⟨b,0,none⟩),.string k] [.c .str,.c .bool] K h:=Km d f e k fun a v c g _=>i a v c g
end Go.Proofs
namespace Go.Proofs
open Go.Lift
theorem Gw{W:Nat→Prop}{h:ae}(a:∀x,W x→x<h.size){K:Option Addr→ae→Prop}(b:∀h' b',BuckAt W h' b' []→Upd No h h'→K (some ⟨b',0,none⟩) h'):HC PG pc [] [.c .ptr] K h:=by
 refine zv ?_;unfold sy;exact b _ _ ⟨⟨⟨none,0,0⟩,⟨none,0,0⟩,none,ci h _ _,Sl.nil iI,Sl.nil ng,aw _,aw _,ia⟩,fun hx=>Nat.lt_irrefl _ (a _ hx)⟩ (Upd.hnew No h _ _)
theorem qc{W:Nat→Prop}{h:ae}(b:∀x,W x→x<h.size){K:Option Addr→ae→Prop}(e:∀h' b',NodeAt W h' b' ⟨fun _=>none,fun _=>none⟩→Upd No h h'→K (some ⟨b',0,none⟩) h'):HC PG kT [] [.c .ptr] K h:=by
 refine BE ?_;unfold uR GO;have d:fm (fun _=>(none:Option Pr)) 32= []:=by simp[fm]
 have a:fm (fun _=>(none:Option (Option Addr))) 32= []:=by simp[fm]
 refine e _ _ ⟨⟨0,0,⟨none,0,0⟩,⟨none,0,0⟩,none,ci h _ _,⟨by decide,by decide,fun c _=>by simp,fun c _=>by simp⟩,?_,?_,aw _,aw _,ia⟩,fun hx=>Nat.lt_irrefl _ (b _ hx)⟩ (Upd.hnew No h _ _)
 ·show Sl gz 2 W _ _ (fm (fun _=>none) 32)
  rw[d];exact Sl.nil iI
 ·show Sl my 1 W _ _ (fm (fun _=>none) 32)
  rw[a];exact Sl.nil ng
end Go.Proofs
namespace Go.Proofs
open Go.Lift
def ic(p:Pr):List Pr→List Pr
 | []=> [p]
 |q::l=>if kl q.1 p.1 then q::ic p l else if q.1=p.1 then p::l else p::q::l
theorem jc(p q:Pr)(l:List Pr):ic p (q::l)=if kl q.1 p.1 then q::ic p l else if q.1=p.1 then p::l else p::q::l:=rfl
theorem Fi(p:Pr):∀{l:List Pr},cq l→D7 l p=ic p l
 | [],_=>by simp[D7,ic,kc,bK]
 |q::l,d=>by
  have d:=bh.1 d;unfold ic;have a:kc (q::l) p.1=if kl q.1 p.1 then kc l p.1+1 else 0:=by
   unfold kc;rw[List.takeWhile_cons];by_cases h:kl q.1 p.1
   ·rw[if_pos (by simpa using h),if_pos h];rfl
   ·rw[if_neg (by simpa using h),if_neg h];rfl
  have c:bK (q::l) p.1=(decide (q.1=p.1)||bK l p.1):=by unfold bK;rw[List.any_cons]
  by_cases h:kl q.1 p.1
  ·have f:q.1≠p.1:=fun e=>by rw[e]at h;exact db _ h
   rw[if_pos h,←Fi p d.2];unfold D7;rw[c,a,if_pos h,decide_eq_false f,Bool.false_or];by_cases b:bK l p.1=true
   ·rw[if_pos b,if_pos b];rfl
   ·rw[if_neg b,if_neg b];rfl
  ·rw[if_neg h]
   unfold D7;rw[c,a,if_neg h];by_cases e:q.1=p.1
   ·rw[if_pos e,decide_eq_true e,Bool.true_or,if_pos rfl];rfl
   ·have g:=yk h e
    have b:bK l p.1=false:=by
     unfold bK;rw[List.any_eq_false];intro r j i;have i:=of_decide_eq_true i;have:=d.1 r j;rw[i]at this;exact db _ (kL g this)
    rw[if_neg e,decide_eq_false e,b];rfl
theorem ua{p q:Pr}:∀{l:List Pr},q∈ic p l→q=p∨q∈l
 | [],h=>by simp[ic]at h;exact .inl h
 |r::l,h=>by
  unfold ic at h;split at h
  ·rcases ar.1 h with h|h
   ·exact .inr (h▸ax ..)
   ·exact(ua h).imp id fun h=>aI _ h
  ·split at h
   ·rcases ar.1 h with h|h
    ·exact .inl h
    ·exact .inr (aI _ h)
   ·rcases ar.1 h with h|h
    ·exact .inl h
    ·exact .inr h
theorem vj(p:Pr):∀{l:List Pr},cq l→cq (ic p l)
 | [],_=>List.pairwise_singleton ..
 |q::l,a=>by
  have c:=a;have a:=bh.1 a;unfold ic;split
  ·rename_i h
   refine bh.2 ⟨fun r hm=>?_,vj p a.2⟩
   rcases ua hm with rfl|hm
   ·exact h
   ·exact a.1 r hm
  ·rename_i h
   split
   ·rename_i e
    exact bh.2 ⟨fun r hm=>e▸a.1 r hm,a.2⟩
   ·rename_i e
    have b:=yk h e;refine bh.2 ⟨fun r hm=>?_,c⟩
    rcases ar.1 hm with rfl|hm
    ·exact b
    ·exact kL b (a.1 r hm)
theorem yx(p:Pr)(g:ByteArray→Bool):∀{l:List Pr},cq l→(ic p l).filter (fun q=>g q.1)=if g p.1 then ic p (l.filter fun q=>g q.1)else l.filter fun q=>g q.1
 | [],_=>by
  unfold ic;rw[cR,List.filter_nil]
 |q::l,d=>by
  have j:=d;have d:=bh.1 d;have i:=yx p g d.2;rw[jc];by_cases h:kl q.1 p.1
  ·rw[if_pos h,cR,cR,i]
   by_cases f:g q.1=true
   ·rw[if_pos f,if_pos f]
    split
    ·rw[jc,if_pos h]
    ·rfl
   ·rw[if_neg f,if_neg f]
  ·rw[if_neg h]
   by_cases e:q.1=p.1
   ·rw[if_pos e,cR,cR,e]
    by_cases a:g p.1=true
    ·rw[if_pos a,if_pos a,if_pos a,jc,if_neg h,if_pos e]
    ·rw[if_neg a,if_neg a,if_neg a]
   ·rw[if_neg e]
    have c:=yk h e;rw[cR];by_cases a:g p.1=true
    ·rw[if_pos a,if_pos a]
     have:∀r∈(q::l).filter (fun q=>g q.1),kl p.1 r.1:=fun r hm=>by
      rcases ar.1 (f8.1 hm).1 with rfl|hm
      ·exact c
      ·exact kL c (d.1 r hm)
     cases hf:(q::l).filter (fun q=>g q.1)with
     |nil=>rfl
     |cons r rs=>
      have b:=this r (by rw[hf];exact ax ..);rw[jc,if_neg fun k=>db _ (kL b k),if_neg fun e=>by rw[e]at b;exact db _ b]
    ·rw[if_neg a,if_neg a]
theorem xu{p:Pr}:∀{l:List Pr},cq l→p∈l→ic p l=l
 |q::l,a,hm=>by
  have a:=bh.1 a;unfold ic;rcases ar.1 hm with rfl|hm
  ·rw[if_neg (db _),if_pos rfl]
  ·rw[if_pos (a.1 p hm),xu a.2 hm]
def ck(x:Hs)(lev:Nat)(k:ByteArray):Nat:=((lx x k).toNat>>>(5*lev))%32
theorem wJ(x:Hs)(lev:Nat)(k:ByteArray):ck x lev k<32:=nN _ (by omega)
def part(x:Hs)(lev c:Nat)(l:List Pr):List Pr:=l.filter fun p=>decide (ck x lev p.1=c)
def TrieAt(W:Nat→Prop)(x:Hs)(h:ae):Nat→Nat→List Pr→Prop
 |0,b,l=>BuckAt W h b l
 |m+1,b,l=>∃s,NodeAt W h b s∧∀c,c<32→
  ((part x (12-m) c l= []∧s.p c=none∧s.k c=none)∨(∃p,part x (12-m) c l= [p]∧s.p c=some p∧s.k c=none)∨
   (2≤(part x (12-m) c l).length∧s.p c=none∧∃kb,s.k c=some (some ⟨kb,0,none⟩)∧TrieAt W x h m kb (part x (12-m) c l)))
theorem TrieAt.upd0{W:Nat→Prop}{x:Hs}{h d:ae}(k:Upd No h d):∀{m b:Nat} {l:List Pr},TrieAt W x h m b l→TrieAt W x d m b l
 |0,_,_,t=>BuckAt.upd t k fun _ h=>h.elim
 |m+1,_,_,⟨s,nd,hc⟩=>⟨s,nd.upd k fun _ h=>h.elim,fun c a=>(hc c a).imp id fun o=>o.imp id fun⟨e,j,g,i,f⟩=>⟨e,j,g,i,TrieAt.upd0 k f⟩⟩
theorem NodeAt.less{W W':Nat→Prop}{h:ae}{b:Nat}{s:Slots}(n:NodeAt W h b s)(hm:∀b,W' b→W b∨h.size≤b):NodeAt W' h b s:=by
 obtain⟨d,m,sp,sk,ow,a,g,e,c,f,j,i⟩:=n.ex;exact⟨⟨d,m,sp,sk,ow,a,g,e.less hm,c.less hm,f,j,i.less hm⟩,fun hx=>(hm _ hx).elim n.nw fun h=>by have:=aG a;omega⟩
theorem BuckAt.less{W W':Nat→Prop}{h:ae}{b:Nat}{l:List Pr}(n:BuckAt W h b l)(hm:∀b,W' b→W b∨h.size≤b):BuckAt W' h b l:=by
 obtain⟨sp,sk,ow,a,d,c,e,g,f⟩:=n.ex;exact⟨⟨sp,sk,ow,a,d.less hm,c.less hm,e,g,f.less hm⟩,fun hx=>(hm _ hx).elim n.nw fun h=>by have:=aG a;omega⟩
theorem TrieAt.less{W W':Nat→Prop}{x:Hs}{h:ae}(hm:∀b,W' b→W b∨h.size≤b):∀{m b:Nat} {l:List Pr},TrieAt W x h m b l→TrieAt W' x h m b l
 |0,_,_,t=>BuckAt.less t hm
 |m+1,_,_,⟨s,nd,hc⟩=>⟨s,nd.less hm,fun c a=>(hc c a).imp id fun o=>o.imp id fun⟨d,i,f,g,e⟩=>⟨d,i,f,g,TrieAt.less hm e⟩⟩
theorem TrieAt.updM{W M:Nat→Prop}{x:Hs}{h d:ae}(k:Upd M h d)(hm:∀b,M b→W b∨h.size≤b):∀{m b:Nat} {l:List Pr},TrieAt W x h m b l→TrieAt W x d m b l
 |0,_,_,t=>BuckAt.upd t k hm
 |m+1,_,_,⟨s,nd,hc⟩=>⟨s,nd.upd k hm,fun c a=>(hc c a).imp id fun o=>o.imp id fun⟨e,j,g,i,f⟩=>⟨e,j,g,i,TrieAt.updM k hm f⟩⟩
end Go.Proofs
namespace Go.Proofs
open Go.Lift
def By(h:ae)(w o:Option Addr):Prop:=(w=none∧o=none)∨∃b pl id lv,w=some ⟨b,0,none⟩∧h[b]? =some (.cells #[.pointer pl,.int .i64 id,.bool lv] lX (0,0))∧o=if lv then w else none
theorem By.upd{M:Nat→Prop}{h c:ae}{w o:Option Addr}(t:By h w o)(k:Upd M h c)(hm:∀b,w=some ⟨b,0,none⟩→M b→h.size≤b):By c w o:=by
 rcases t with t|⟨b,pl,id,lv,e,a,d⟩
 ·exact .inl t
 ·exact .inr ⟨b,pl,id,lv,e,k.get a (fun hM=>by have:=hm b e hM;have:=aG a;omega),d⟩
theorem By.upd0{h a:ae}{w o:Option Addr}(t:By h w o)(k:Upd No h a):By a w o:=t.upd k fun _ _ h=>h.elim
theorem By.tok{h:ae}{w o:Option Addr}(t:By h w o){a:Addr}(e:o=some a):w=some a:=by
 rcases t with⟨_,d⟩|⟨b,pl,id,lv,g,f,c⟩
 ·rw[d]at e;cases e
 ·rw[e]at c;split at c
  ·exact c.symm
  ·cases c
theorem By.plain{h:ae}{w o:Option Addr}(t:By h w o)(a:Addr)(e:w=some a):de h a:=by
 rcases t with⟨c,_⟩|⟨b,pl,id,lv,f,d,g⟩
 ·rw[c]at e;cases e
 ·rw[f]at e;cases e;exact⟨_,_,d,by simp⟩
theorem ue{h:ae}{w o:Option Addr}(t:By h w o){K:Bool→ae→Prop}(a:K o.isSome h):HC PG dk [.pointer w] [.c .bool] K h:=by
 refine tl w ?_;unfold nA ii;rcases t with⟨rfl,rfl⟩|⟨b,pl,id,lv,rfl,c,rfl⟩
 ·exact ak.2 a
 ·refine aA.2 ⟨_,rfl,lv,cV (i:=2) c,?_⟩
  cases lv<;>exact a
theorem Cs{h:ae}{w o:Option Addr}{b d n:Nat}{sp sk:SliceV}{f:Bool}{ow:Option Addr}(t:By h w o)(j:h[b]? =some (.cells (dR d n sp sk f ow) ba (0,0))) (g:∀a,ow=some a→de h a) {K:Bool→ae→Prop} (c:K (o.isSome&&(ow==w)) h):
  HC PG kS [.pointer (some ⟨b,0,none⟩),.pointer w] [.c .bool] K h:=by
 refine uF _ w ?_;unfold oN gd;refine aA.2 (ue t ?_);cases o with
 |none=>exact ak.2 c
 |some a=>exact aA.2 ⟨_,rfl,ow,cV (i:=5) j,trivial,fun x y hx e=>⟨g x hx,t.plain y e⟩,c⟩
set_option maxRecDepth 4000 in
theorem E9{W:Nat→Prop}{h:ae}{w o:Option Addr}{b d n:Nat}{sp sk:SliceV}{f:Bool}{ow:Option Addr}{T:List Pr}{lk:List (Option Addr)}(t:By h w o)(g:h[b]? =some (.cells (dR d n sp sk f ow) ba (0,0)))
  (hp:∀a,ow=some a→de h a) (X:(o.isSome&&(ow==w))=false) (R:Sl gz 2 W h sp T) (Z:Sl my 1 W h sk lk) (hlp:T.length≤1000000000) (hlk:lk.length≤1000000000) {K:Option Addr→ae→Prop}
  (P:∀m sp' sk' (A B:Nat→Prop),m[h.size]? =some (.cells (dR d n sp' sk' f o) ba (0,0))→OwnS gz 2 al A m sp' T→OwnS my 1 aY B m sk' lk→(∀x,A x→h.size<x∧¬B x∧x<m.size)→(∀x,B x→h.size<x∧x<m.size)→Upd No h m→K (some ⟨h.size,0,none⟩) m):
  HC PG dw [.pointer (some ⟨b,0,none⟩),.pointer w] [.c .ptr] K h:=by
 refine qB _ w ?_;unfold mG gd bL nv cZ qu ii fh GO JN;refine Cs t g hp ?_;rw[X];refine ak.2 ?_;have c:∀{h:ae} {b:Nat} {c:Array Value} {i:Nat},h[b]? =some (.cells c ba (0,0))→aQ h ⟨b,0+i,none⟩=c[i]?:=fun g=>by rw[aC];exact aV g
 refine⟨_,rfl,_,c (i:=0) g,_,c (i:=1) g,sp,c (i:=2) g,sk,c (i:=3) g,_,c (i:=4) g,_,c (i:=5) g,?_⟩;have k1:=Upd.hnew No h [.int .u32 0,.int .u32 0,.slice none 0 0,.slice none 0 0,.bool false,.pointer none] ba;have b1:=ci h [.int .u32 0,.int .u32 0,.slice none 0 0,.slice none 0 0,.bool false,.pointer none] ba;refine bG ?_;simp only[eZ h];generalize hnew h [.int .u32 0,.int .u32 0,.slice none 0 0,.slice none 0 0,.bool false,.pointer none] ba=h1 at k1 b1
 have N:fi h1 ⟨h.size,0,none⟩ 0 [.int .u32 (d:Int),.int .u32 (n:Int),.slice sp.a sp.len sp.cap,.slice sk.a sk.len sk.cap,.bool f,.pointer ow]=_:=f7 _ h1 0 0 _ b1 (by simp);refine⟨.inr ⟨_,rfl,fun j hj=>by rw[bC];exact gL b1 (by simp at hj⊢;omega)⟩,bG ?_⟩
 rw[N];have b2:=iY (o:=.cells (dR d n sp sk f ow) ba (0,0)) b1;have H:Upd No h _:=k1.trans (M':=(· =h.size)) (Upd.set h1 (.cells (dR d n sp sk f ow) ba (0,0)) rfl) fun x hx=>.inr (fC hx.symm)
 have M:h.size<(h1.setIfInBounds h.size (.cells (dR d n sp sk f ow) ba (0,0))).size:=aG b2;have e2:(Obj.cells (List.take (0+0) [Value.int .u32 0,.int .u32 0,.slice none 0 0,.slice none 0 0,.bool false,.pointer none]++ [Value.int .u32 (d:Int),.int .u32 (n:Int),.slice sp.a sp.len sp.cap,.slice sk.a sk.len sk.cap,.bool f,.pointer ow]++List.drop (0+0+ [Value.int .u32 (d:Int),.int .u32 (n:Int),.slice sp.a sp.len sp.cap,.slice sk.a sk.len sk.cap,.bool f,.pointer ow].length) [Value.int .u32 0,.int .u32 0,.slice none 0 0,.slice none 0 0,.bool false,.pointer none]).toArray ba (0,0))=.cells (dR d n sp sk f ow) ba (0,0):=rfl
 rw[e2];generalize h1.setIfInBounds h.size (.cells (dR d n sp sk f ow) ba (0,0))=h2 at b2 H M;have z:=H.get0 g;refine⟨_,rfl,sp,c (i:=2) z,_,rfl,sk,c (i:=3) z,?_⟩;refine vC (R.upd H fun _ h=>h.elim) (by omega) fun C h3 Y s=>?_
 refine⟨c (i:=3) (s.get0 z),?_⟩;refine As ((Z.upd H fun _ h=>h.elim).upd s fun _ h=>h.elim) (by omega) fun D h4 V u=>?_
 have b4:=u.get0 (s.get0 b2);have I:=Y.within.upd u fun _ _ h=>h
 have F:=V.within;have z3:=s.size;have z4:=u.size;have J:∀{h:ae} {c:Array Value} {x i:Nat},h[x]? =some (.cells c ba (0,0))→i<c.size→Wr h ⟨x,0+i,none⟩:=fun g hi=>by rw[aC];exact gL g hi
 have L:∀{h:ae} {c c':Array Value} {x i:Nat} {v:Value} {k:ae→Prop},h[x]? =some (.cells c ba (0,0))→c.setIfInBounds i v=c'→(∀m,m[x]? =some (.cells c' ba (0,0))→Upd (· =x) h m→k m)→At (hset h ⟨x,i,none⟩ v) k:=fun g e P=>vI g fun m hb' hu=>P m (e▸hb') hu
 refine⟨J (i:=2) b4 (show 2<6 by decide),L (i:=2) (c':=dR d n C sk f ow) b4 rfl fun h5 b5 O=>?_⟩
 refine⟨J (i:=3) b5 (show 3<6 by decide),L (i:=3) (c':=dR d n C D f ow) b5 rfl fun h6 b6 S=>?_⟩
 refine⟨J (i:=5) b6 (show 5<6 by decide),L (i:=5) (c':=dR d n C D f none) b6 rfl fun h7 b7 U=>?_⟩
 have p:=O.tr (S.tr U);have z7:=p.size;have E:Upd No h h7:=((H.tr s).tr u).trans p fun x hx=>.inr (fC hx.symm)
 have t7:=t.upd0 E;have fin:∀{G:ae},G[h.size]? =some (.cells (dR d n C D f o) ba (0,0))→Upd (· =h.size) h7 G→K (some ⟨h.size,0,none⟩) G:=fun{G} Q q=>by
  have y:=p.tr q;have z8:=q.size;exact P _ C D (fun x=>h2.size≤x∧x<h3.size) (fun x=>h3.size≤x∧x<h4.size) Q (I.upd y fun x hx e=>by have e:x=h.size:=e;omega) (F.upd y fun x hx e=>by have e:x=h.size:=e;omega) (fun x hx=>⟨by omega,by omega,by omega⟩) (fun x hx=>⟨by omega,by omega⟩) (E.trans q fun x hx=>.inr (fC hx.symm))
 refine ue t7 ?_;cases ho:o with
 |none=>rw[ho]at fin;exact ak.2 (fin b7 (Upd.refl _ _))
 |some a=>
  rw[ho]at fin;rw[t.tok ho];refine aA.2 ⟨J (i:=5) b7 (show 5<6 by decide),L (i:=5) (c':=dR d n C D f (some a)) b7 rfl fun G Q q=>fin Q q⟩
theorem E8{h:ae}{w o:Option Addr}{b d n:Nat}{sp sk:SliceV}{e:Bool}{ow:Option Addr}(t:By h w o)(g:h[b]? =some (.cells (dR d n sp sk e ow) ba (0,0))) (f:∀a,ow=some a→de h a) (c:(o.isSome&&(ow==w))=true) {K:Option Addr→ae→Prop} (i:K (some ⟨b,0,none⟩) h):
  HC PG dw [.pointer (some ⟨b,0,none⟩),.pointer w] [.c .ptr] K h:=by
 refine qB _ w ?_;unfold mG gd bL nv cZ qu ii fh GO JN;refine Cs t g f ?_;rw[c];exact aA.2 i
def NodeO(o:Option Addr)(W:Nat→Prop)(h:ae)(b:Nat)(s:Slots)(S:Nat→Prop):Prop:=
 (NodeAt W h b s∧∀y,¬S y)∨(o.isSome=true∧∃d n sp sk,OwnN S h b d n sp sk s o)
theorem OwnN.mono{M M':Nat→Prop}{h:ae}{b d n:Nat}{sp sk:SliceV}{s:Slots}{ow:Option Addr}(o:OwnN M h b d n sp sk s ow)(hm:∀x,M x→M' x):OwnN M' h b d n sp sk s ow:=by
 obtain⟨A,B,e,f,c,a⟩:=o.ex;exact⟨o.blk,o.bits,⟨A,B,e,f,fun x hx=>⟨hm _ (c x hx).1,(c x hx).2⟩,fun x hx=>⟨hm _ (a x hx).1,(a x hx).2⟩⟩,hm _ o.mb⟩
theorem OwnN.within{M:Nat→Prop}{h:ae}{b d n:Nat}{sp sk:SliceV}{s:Slots}{ow:Option Addr}(o:OwnN M h b d n sp sk s ow):OwnN (fun x=>M x∧x<h.size) h b d n sp sk s ow:=by
 obtain⟨A,B,e,f,c,a⟩:=o.ex;exact⟨o.blk,o.bits,⟨A,B,e,f,fun x hx=>⟨⟨(c x hx).1,(c x hx).2.2.2⟩,(c x hx).2⟩,fun x hx=>⟨⟨(a x hx).1,(a x hx).2.2⟩,(a x hx).2⟩⟩,o.mb,aG o.blk⟩
theorem AY{W S:Nat→Prop}{h:ae}{w o:Option Addr}{b:Nat}{s:Slots}(i:NodeO o W h b s S)(t:By h w o)(F:∀a,o=some a→W a.block){K:Option Addr→ae→Prop}
  (D:∀m b' d n sp sk,OwnN (fun y=>S y∨h.size≤y) m b' d n sp sk s o→Upd No h m→K (some ⟨b',0,none⟩) m):
  HC PG dw [.pointer (some ⟨b,0,none⟩),.pointer w] [.c .ptr] K h:=by
 rcases i with⟨i,_⟩|⟨z,d,n,sp,sk,i⟩
 ·obtain⟨d,n,sp,sk,ow,I,bits,u,v,E,J,j⟩:=i.ex
  refine E9 t I (fun a e=>(j a e).2) ?_ u v (by have:=sf (g:=s.p);omega) (by have:=sf (g:=s.k);omega) fun m q p A B b' G H c f k=>?_
  ·cases ho:o with
   |none=>rfl
   |some a=>
    have e:=t.tok ho;rw[Option.isSome_some,Bool.true_and,beq_eq_false_iff_ne];intro C;rw[e]at C;exact(j a C).1 (F a ho)
  ·exact D m h.size d n q p ⟨b',bits,⟨A,B,G,H,fun x hx=>⟨.inr (by have:=(c x hx).1;omega),(c x hx).2.1,by have:=(c x hx).1;omega,(c x hx).2.2⟩,fun x hx=>⟨.inr (by have:=(f x hx).1;omega),by have:=(f x hx).1;omega,(f x hx).2⟩⟩,.inr (aw _)⟩ k
 ·refine E8 t i.blk (fun a e=>t.plain a (t.tok e)) ?_ (D h b d n sp sk (i.mono fun _ h=>.inl h) (Upd.refl _ _))
  obtain⟨a,e⟩:=cI.1 z;rw[z,e,t.tok e];simp
end Go.Proofs
namespace Go.Proofs
inductive Fo where
 |nil:Fo
 |cons (lab:List UInt8) (val:Option ByteArray) (kids rest:Fo):Fo
abbrev Bn:=List UInt8×Option ByteArray×Fo
def Fo.toL:Fo→List Bn
 | .nil=> []
 | .cons lab w kids rest=>(lab,w,kids)::rest.toL
theorem Fo.toL_cons(lab:List UInt8)(w:Option ByteArray)(a b:Fo):(Fo.cons lab w a b).toL=(lab,w,a)::b.toL:=rfl
def Fo.ofL:List Bn→Fo
 | []=>.nil
 |(lab,w,kids)::l=>.cons lab w kids (Fo.ofL l)
theorem Fo.to_of:∀l:List Bn,(Fo.ofL l).toL=l
 | []=>rfl
 |(_,_,_)::l=>by show _::(Fo.ofL l).toL=_;rw[Fo.to_of l]
theorem Fo.of_to:∀F:Fo,Fo.ofL F.toL=F
 | .nil=>rfl
 | .cons lab w kids rest=>by show Fo.cons lab w kids (Fo.ofL rest.toL)=_;rw[Fo.of_to rest]
def l6:Fo→List UInt8→ByteArray→Prop
 | .nil,_,_=>False
 | .cons lab w kids rest,k,v=>(∃r,k=lab++r∧((r= []∧w=some v)∨l6 kids r v))∨l6 rest k v
def mD(w:Option ByteArray)(F:Fo)(k:List UInt8)(v:ByteArray):Prop:=(k= []∧w=some v)∨l6 F k v
def pj(n:Bn)(k:List UInt8)(v:ByteArray):Prop:=∃r,k=n.1++r∧mD n.2.1 n.2.2 r v
theorem dL:∀{F:Fo} {k:List UInt8} {v:ByteArray},l6 F k v↔∃n∈F.toL,pj n k v
 | .nil,_,_=>by simp[l6,Fo.toL]
 | .cons lab w kids rest,k,v=>by
  rw[Fo.toL_cons];unfold l6;rw[dL (F:=rest)];constructor
  ·rintro(h|⟨n,a,h⟩)
   ·exact⟨_,ax ..,h⟩
   ·exact⟨n,aI _ a,h⟩
  ·rintro⟨n,a,h⟩
   rcases ar.1 a with rfl|a
   ·exact .inl h
   ·exact .inr ⟨n,a,h⟩
def hd(k:List UInt8):Nat:=(k.headD 0).toNat
theorem lL{a b:List UInt8}(h:a≠[]):hd (a++b)=hd a:=by
 cases a with
 |nil=>exact absurd rfl h
 |cons x a=>rfl
theorem JF(a:List UInt8):hd a<256:=UInt8.toNat_lt _
def dS:Fo→Prop
 | .nil=>True
 | .cons lab w kids rest=>lab≠[]∧(w.isSome∨2≤kids.toL.length)∧dS kids∧(∀n∈rest.toL,hd lab<hd n.1)∧dS rest
def GG(n:Bn):Prop:=n.1≠[]∧(n.2.1.isSome∨2≤n.2.2.toL.length)∧dS n.2.2
theorem dt:∀{F:Fo},dS F↔F.toL.Pairwise (fun m n=>hd m.1<hd n.1)∧∀n∈F.toL,GG n
 | .nil=>by simp[dS,Fo.toL]
 | .cons lab w kids rest=>by
  rw[Fo.toL_cons,bh];show(lab≠[]∧(w.isSome∨2≤kids.toL.length)∧dS kids∧(∀n∈rest.toL,hd lab<hd n.1)∧dS rest)↔_
  rw[dt (F:=rest)];constructor
  ·rintro⟨e,g,f,c,d,b⟩
   refine⟨⟨c,d⟩,fun n a=>?_⟩
   rcases ar.1 a with rfl|a
   ·exact⟨e,g,f⟩
   ·exact b n a
  ·rintro⟨⟨c,d⟩,b⟩
   have:=b _ (ax ..);exact⟨this.1,this.2.1,this.2.2,c,d,fun n a=>b n (aI _ a)⟩
theorem jL:∀{F:Fo},dS F→∀n∈F.toL,∃r v,mD n.2.1 n.2.2 r v
 | .nil,_,n,a=>by simp[Fo.toL]at a
 | .cons lab w kids rest,h,n,a=>by
  rcases ar.1 a with rfl|a
  ·rcases h.2.1 with e|b
   ·obtain⟨v,hv⟩:=cI.1 e
    exact⟨[],v,.inl ⟨rfl,hv⟩⟩
   ·have c:=jL h.2.2.1
    have⟨m,hm⟩:∃m,m∈kids.toL:=by
     cases hl:kids.toL with
     |nil=>rw[hl]at b;simp at b
     |cons m l=>exact⟨m,ax ..⟩
    obtain⟨r,v,d⟩:=c m hm;exact⟨m.1++r,v,.inr (dL.2 ⟨m,hm,r,rfl,d⟩)⟩
  ·exact jL h.2.2.2.2 n a
theorem kM{F:Fo}(h:dS F){k:List UInt8}{v:ByteArray}(hi:l6 F k v):k≠[]:=by
 obtain⟨n,a,r,rfl,_⟩:=dL.1 hi;have:=((dt.1 h).2 n a).1;intro e;exact this (eh.1 e).1
theorem mB{F:Fo}(h:dS F){k:List UInt8}{v:ByteArray}(hi:l6 F k v):∃n∈F.toL,hd n.1=hd k∧pj n k v:=by
 obtain⟨n,a,r,e,b⟩:=dL.1 hi;exact⟨n,a,by rw[e,lL ((dt.1 h).2 n a).1],r,e,b⟩
theorem rL{F:Fo}(h:dS F){m n:Bn}(hm:m∈F.toL)(f:n∈F.toL)(e:hd m.1=hd n.1):m=n:=by
 have d:=(dt.1 h).1;revert hm f;generalize F.toL=l at*;clear h;induction l with
 |nil=>intro hm;simp at hm
 |cons a l ih=>
  have d:=bh.1 d;intro hm f;rcases ar.1 hm with i|c
  ·rcases ar.1 f with g|b
   ·rw[i,g]
   ·have:=d.1 n b;rw[←i]at this;omega
  ·rcases ar.1 f with g|b
   ·have:=d.1 m c;rw[←g]at this;omega
   ·exact ih d.2 c b
def Br(P:List UInt8→ByteArray→Prop):Prop:=(∃v,P [] v)∨∃j k u v,P j u∧P k v∧j≠[]∧k≠[]∧hd j≠hd k
theorem Bs{w:Option ByteArray}{F:Fo}(h:dS F):(w.isSome∨2≤F.toL.length)↔Br (mD w F):=by
 constructor
 ·rintro(C|z)
  ·obtain⟨v,hv⟩:=cI.1 C
   exact .inl ⟨v,.inl ⟨rfl,hv⟩⟩
  ·right
   have c:=jL h;have hc:=dt.1 h;match hL:F.toL,z with
   |a::b::l,_=>
    have d:a∈F.toL:=by rw[hL];simp
    have g:b∈F.toL:=by rw[hL];simp
    obtain⟨r,v,A⟩:=c a d;obtain⟨s,u,c⟩:=c b g;have o:=(hc.2 a d).1;have p:=(hc.2 b g).1;have:=hc.1;rw[hL]at this;have D:=(bh.1 this).1 b (ax ..);refine⟨a.1++r,b.1++s,v,u,.inr (dL.2 ⟨a,d,r,rfl,A⟩),.inr (dL.2 ⟨b,g,s,rfl,c⟩),?_,?_,?_⟩
    ·intro e;exact o (eh.1 e).1
    ·intro e;exact p (eh.1 e).1
    ·rw[lL o,lL p];omega
 ·rintro(⟨v,hv⟩|⟨j,k,u,v,f,i,t,nk,y⟩)
  ·rcases hv with⟨_,hv⟩|hv
   ·left;rw[hv];rfl
   ·exact absurd rfl (kM h hv)
  ·right
   rcases f with⟨e,_⟩|f
   ·exact absurd e t
   rcases i with⟨e,_⟩|i
   ·exact absurd e nk
   obtain⟨m,hm,x,_⟩:=mB h f;obtain⟨n,q,B,_⟩:=mB h i;match hL:F.toL with
   | []=>rw[hL]at hm;simp at hm
   | [a]=>
    rw[hL]at hm q;rw[ai.1 hm]at x;rw[ai.1 q]at B;omega
   |a::b::l=>simp
end Go.Proofs
namespace Go.Proofs
theorem Fj{m n:Bn}(i:Br (mD m.2.1 m.2.2))(h:∀k v,pj m k v→pj n k v):∃t,m.1=n.1++t:=by
 rcases i with⟨v,hv⟩|⟨j,k,u,v,g,o,p,nk,b⟩
 ·obtain⟨r,e,_⟩:=h m.1 v ⟨[],(bO _).symm,hv⟩
  exact⟨r,e⟩
 ·obtain⟨r,e,_⟩:=h (m.1++j) u ⟨j,rfl,g⟩
  obtain⟨s,f,_⟩:=h (m.1++k) v ⟨k,rfl,o⟩;rcases List.append_eq_append_iff.1 e with⟨a,c,d⟩|⟨a,c,d⟩
  ·rw[c,ao]at f
   have f:=dZ f;cases a with
   |nil=>exact⟨[],by rw[c];simp⟩
   |cons x a=>
    rw[d]at b;rw[f]at b;exact absurd rfl b
  ·exact⟨a,c⟩
theorem Eo:∀{F F':Fo},dS F→dS F'→(∀k v,l6 F k v↔l6 F' k v)→F=F'
 | .nil,.nil,_,_,_=>rfl
 | .nil,.cons lab w b c,_,h,he=>by
  obtain⟨r,v,j⟩:=jL h _ (ax ..);exact((he _ v).2 (dL.2 ⟨_,ax ..,r,rfl,j⟩)).elim
 | .cons lab w b c,.nil,h,_,he=>by
  obtain⟨r,v,j⟩:=jL h _ (ax ..);exact((he _ v).1 (dL.2 ⟨_,ax ..,r,rfl,j⟩)).elim
 | .cons lab w b c,.cons d w' a f,h,g,he=>by
  have x:∀{lab w b c} {F:Fo},dS (.cons lab w b c)→dS F→(∀k v,l6 F k v→l6 (.cons lab w b c) k v)→∀n∈F.toL,hd lab≤hd n.1:=by
   intro lab w b c F h E hi n i;obtain⟨r,v,j⟩:=jL E n i;obtain⟨m,hm,e,_⟩:=mB h (hi _ v (dL.2 ⟨n,i,r,rfl,j⟩));rw[lL ((dt.1 E).2 n i).1]at e;rcases ar.1 hm with rfl|hm
   ·simp only at e;omega
   ·have:=h.2.2.2.1 m hm;omega
  have J:=x h g (fun k v=>(he k v).2) _ (ax ..)
  have M:=x g h (fun k v=>(he k v).1) _ (ax ..)
  simp only at J M;have q:hd lab=hd d:=by omega
  have u:∀{lab w b c d w' a f},dS (.cons lab w b c)→dS (.cons d w' a f)→hd lab=hd d→(∀k v,l6 (.cons lab w b c) k v→l6 (.cons d w' a f) k v)→(∀k v,pj (lab,w,b) k v→pj (d,w',a) k v)∧(∀k v,l6 c k v→l6 f k v):=by
   intro lab w b c d w' a f h g q hi;refine⟨fun k v o=>?_,fun k v o=>?_⟩
   ·obtain⟨n,i,e,j⟩:=mB g (hi k v (dL.2 ⟨_,ax ..,o⟩))
    obtain⟨r,rfl,_⟩:=o;rw[lL h.1]at e;rw[←rL g i (ax ..) (by simp only;omega)];exact j
   ·obtain⟨m,hm,P,_⟩:=mB h.2.2.2.2 o
    have:=h.2.2.2.1 m hm;obtain⟨n,i,e,j⟩:=mB g (hi k v (Or.inr o));rcases ar.1 i with rfl|i
    ·simp only at e;omega
    ·exact dL.2 ⟨n,i,j⟩
  have⟨C,N⟩:=u h g q fun k v=>(he k v).1
  have⟨G,L⟩:=u g h q.symm fun k v=>(he k v).2
  have s:c=f:=Eo h.2.2.2.2 g.2.2.2.2 fun k v=>⟨N k v,L k v⟩
  obtain⟨t,B⟩:=Fj (m:=(lab,w,b)) (n:=(d,w',a)) ((Bs h.2.2.1).1 h.2.1) C;obtain⟨Q,y⟩:=Fj (m:=(d,w',a)) (n:=(lab,w,b)) ((Bs g.2.2.1).1 g.2.1) G;simp only at B y;have z:lab=d:=by
   have:t= []:=by
    have K:=congrArg gl B;have O:=congrArg gl y;rw[af]at K O;exact List.length_eq_zero_iff.1 (by omega)
   rw[B,this,bO]
  subst z;have A:∀{w b w' a},(∀k v,pj (lab,w,b) k v→pj (lab,w',a) k v)→∀k v,mD w b k v→mD w' a k v:=by
   intro w b w' a i k v o;obtain⟨r,e,j⟩:=i (lab++k) v ⟨k,rfl,o⟩;rw[dZ e];exact j
  have i1:=A C;have I:=A G;have ew:w=w':=by
   have H:∀{w b w' a},dS a→(∀k v,mD w b k v→mD w' a k v)→∀v,w=some v→w'=some v:=by
    intro w b w' a hc hi v hv;rcases hi [] v (.inl ⟨rfl,hv⟩)with⟨_,h⟩|h
    ·exact h
    ·exact absurd rfl (kM hc h)
   exact Option.ext fun v=>⟨H g.2.2.1 i1 v,H h.2.2.1 I v⟩
  have D:∀{w b w' a},dS b→(∀k v,mD w b k v→mD w' a k v)→∀k v,l6 b k v→l6 a k v:=by
   intro w b w' a hc hi k v o;rcases hi k v (.inr o)with⟨e,_⟩|h
   ·exact absurd e (kM hc o)
   ·exact h
  have p:b=a:=Eo h.2.2.1 g.2.2.1 fun k v=>⟨D h.2.2.1 i1 k v,D g.2.2.1 I k v⟩
  rw[ew,p,s]
def pi(P a:List UInt8→ByteArray→Prop)(k:List UInt8)(v:ByteArray):Prop:=∀k' v',a k' v'↔(k'=k∧v'=v)∨(k'≠k∧P k' v')
theorem zT{w:Option ByteArray}{F:Fo}(h:dS F)(v:ByteArray):pi (mD w F) (mD (some v) F) [] v:=by
 intro k' a;unfold mD;constructor
 ·rintro(⟨e,f⟩|hi)
  ·exact .inl ⟨e,(bj.inj f).symm⟩
  ·exact .inr ⟨kM h hi,.inr hi⟩
 ·rintro(⟨e,f⟩|⟨e,⟨f,_⟩|hi⟩)
  ·exact .inl ⟨e,by rw[f]⟩
  ·exact absurd f e
  ·exact .inr hi
theorem vn{w:Option ByteArray}{F F':Fo}{k:List UInt8}{v:ByteArray}(b:k≠[])(h:pi (l6 F) (l6 F') k v):pi (mD w F) (mD w F') k v:=by
 intro k' a;unfold mD;rw[h k' a];constructor
 ·rintro(⟨e,f⟩|hi|hi)
  ·exact .inr ⟨fun e'=>b (e'.symm.trans e),.inl ⟨e,f⟩⟩
  ·exact .inl hi
  ·exact .inr ⟨hi.1,.inr hi.2⟩
 ·rintro(hi|⟨e,hi|hi⟩)
  ·exact .inr (.inl hi)
  ·exact .inl hi
  ·exact .inr (.inr ⟨e,hi⟩)
theorem F6{F:Fo}{k:List UInt8}{v:ByteArray}{i:Nat}(h:dS F)(y:k≠[])(hi:∀j (d:j<F.toL.length),j<i→hd F.toL[j].1<hd k)(g:∀j (d:j<F.toL.length),i≤j→hd k<hd F.toL[j].1):dS (.ofL (F.toL.take i++(k,some v,.nil)::F.toL.drop i))∧pi (l6 F) (l6 (.ofL (F.toL.take i++(k,some v,.nil)::F.toL.drop i))) k v:=by
 have hc:=dt.1 h;have u:∀n∈F.toL.take i,hd n.1<hd k:=fun n c=>by
  obtain⟨j,d,e⟩:=cu c;rw[aK]at d;rw[←e,List.getElem_take];exact hi j (by omega) (by omega)
 have w:∀n∈F.toL.drop i,hd k<hd n.1:=fun n c=>by
  obtain⟨j,d,e⟩:=cu c;rw[List.length_drop]at d;rw[←e,List.getElem_drop];exact g _ (by omega) (by omega)
 have mem:∀n,n∈F.toL.take i++(k,some v,.nil)::F.toL.drop i↔n=(k,some v,Fo.nil)∨n∈F.toL:=fun n=>by
  conv=>rhs;rw[←bB i F.toL]
  simp only[List.mem_append,ar];exact⟨fun h=>h.elim (fun h=>.inr (.inl h)) fun h=>h.elim .inl fun h=>.inr (.inr h),fun h=>h.elim (fun h=>.inr (.inl h)) fun h=>h.elim .inl fun h=>.inr (.inr h)⟩
 refine⟨dt.2 ⟨?_,?_⟩,fun k' x=>?_⟩
 ·rw[Fo.to_of]
  have m:=hc.1;rw[←bB i F.toL,cE]at m;refine cE.2 ⟨m.1,bh.2 ⟨w,m.2.1⟩,fun a s b p=>?_⟩
  rcases ar.1 p with rfl|p
  ·exact u a s
  ·exact m.2.2 a s b p
 ·rw[Fo.to_of]
  intro n c;rcases(mem n).1 c with rfl|c
  ·exact⟨y,.inl rfl,trivial⟩
  ·exact hc.2 n c
 ·rw[dL,dL,Fo.to_of]
  constructor
  ·rintro⟨n,c,r,e,t⟩
   rcases(mem n).1 c with rfl|c
   ·rcases t with⟨rfl,f⟩|f
    ·exact .inl ⟨by rw[e];exact bO _,(bj.inj f).symm⟩
    ·exact f.elim
   ·right
    refine⟨fun e'=>?_,n,c,r,e,t⟩
    have z:hd k=hd n.1:=by rw[←e',e,lL (hc.2 n c).1]
    obtain⟨j,d,q⟩:=cu c;rcases bP j i with o|o
    ·have:=hi j d o;rw[q]at this;omega
    ·have:=g j d o;rw[q]at this;omega
  ·rintro(⟨rfl,rfl⟩|⟨_,n,c,h⟩)
   ·exact⟨(k',some x,.nil),(mem _).2 (.inl rfl),[],(bO _).symm,.inl ⟨rfl,rfl⟩⟩
   ·exact⟨n,(mem _).2 (.inr c),h⟩
theorem iJ{α:Type}{l:List α}{i:Nat}(hi:i<l.length){a x:α}(d:∀j (c:j<l.length),j≠i→l[j]≠l[i]):x∈l.set i a↔x=a∨(x∈l∧x≠l[i]):=by
 constructor
 ·intro h
  obtain⟨j,c,e⟩:=cu h;rw[List.length_set]at c;rw[List.getElem_set]at e;split at e
  ·exact .inl e.symm
  ·rename_i b
   exact .inr ⟨by rw[←e];exact bm c,by rw[←e];exact d j c fun e=>b e.symm⟩
 ·rintro(rfl|⟨h,b⟩)
  ·exact jH (i:=i) (h:=by simpa using hi) (by simp)
  ·obtain⟨j,c,e⟩:=cu h
   have:i≠j:=by rintro rfl;exact b e.symm
   exact jH (i:=j) (h:=by simpa using c) (by rw[List.getElem_set_ne this];exact e)
theorem Fy{F:Fo}{i:Nat}{m:Bn}(h:dS F)(hi:i<F.toL.length)(hm:GG m)(e:hd m.1=hd F.toL[i].1):dS (.ofL (F.toL.set i m)):=by
 have hc:=dt.1 h;rw[dt,Fo.to_of];refine⟨?_,fun n g=>?_⟩
 ·rw[cX]at hc⊢
  intro a b f d c;rw[List.length_set]at f d;rw[List.getElem_set,List.getElem_set];split
  ·rename_i ea;subst ea
   rw[if_neg (by omega),e];exact hc.1 _ _ f d c
  ·split
   ·rename_i eb;subst eb
    rw[e];exact hc.1 _ _ f d c
   ·exact hc.1 _ _ f d c
 ·rcases List.mem_or_eq_of_mem_set g with g|rfl
  ·exact hc.2 n g
  ·exact hm
theorem p9{F:Fo}(h:dS F){i:Nat}(hi:i<F.toL.length)(j:Nat)(c:j<F.toL.length)(b:j≠i):F.toL[j]≠F.toL[i]:=by
 have hc:=(dt.1 h).1;rw[cX]at hc;intro e;rcases Nat.lt_or_gt_of_ne b with a|a
 ·have:=hc j i c hi a;rw[e]at this;omega
 ·have:=hc i j hi c a;rw[e]at this;omega
theorem Ci{F:Fo}{i:Nat}{m:Bn}{k:List UInt8}{v:ByteArray}(h:dS F)(hi:i<F.toL.length)(ek:hd F.toL[i].1=hd k)(g:pi (pj F.toL[i]) (pj m) k v):pi (l6 F) (l6 (.ofL (F.toL.set i m))) k v:=by
 intro k' d;have hc:=dt.1 h;rw[dL,dL,Fo.to_of];constructor
 ·rintro⟨n,b,c⟩
  rcases(iJ hi (p9 h hi)).1 b with rfl|⟨b,f⟩
  ·rcases(g k' d).1 c with a|⟨a,j⟩
   ·exact .inl a
   ·exact .inr ⟨a,_,bm hi,j⟩
  ·refine .inr ⟨fun e=>f ?_,n,b,c⟩
   obtain⟨r,e',_⟩:=c;refine rL h b (bm hi) ?_;rw[ek,←e,e',lL (hc.2 n b).1]
 ·rintro(a|⟨a,n,b,c⟩)
  ·exact⟨m,(iJ hi (p9 h hi)).2 (.inl rfl),(g k' d).2 (.inl a)⟩
  ·by_cases e:n=F.toL[i]
   ·exact⟨m,(iJ hi (p9 h hi)).2 (.inl rfl),(g k' d).2 (.inr ⟨a,by rw[←e];exact c⟩)⟩
   ·exact⟨n,(iJ hi (p9 h hi)).2 (.inr ⟨b,e⟩),c⟩
theorem F5{lab r:List UInt8}{w w':Option ByteArray}{F F':Fo}{v:ByteArray}(h:pi (mD w F) (mD w' F') r v):pi (pj (lab,w,F)) (pj (lab,w',F')) (lab++r) v:=by
 intro k' b;constructor
 ·rintro⟨s,e,c⟩
  rcases(h s b).1 c with⟨rfl,rfl⟩|⟨a,d⟩
  ·exact .inl ⟨e,rfl⟩
  ·exact .inr ⟨fun e'=>a (dZ (e.symm.trans e')),s,e,d⟩
 ·rintro(⟨rfl,rfl⟩|⟨a,s,e,c⟩)
  ·exact⟨r,rfl,(h r b).2 (.inl ⟨rfl,rfl⟩)⟩
  ·exact⟨s,e,(h s b).2 (.inr ⟨fun e'=>a (by rw[e,e']),c⟩)⟩
def cm:List UInt8→List UInt8→Nat
 |a::x,b::y=>if a=b then cm x y+1 else 0
 |_,_=>0
theorem JI:∀(x y:List UInt8),cm x y≤x.length∧cm x y≤y.length
 | [],_=>by simp[cm]
 |_::_,[]=>by simp[cm]
 |a::x,b::y=>by unfold cm;have:=JI x y;split<;>simp<;>omega
theorem Fw:∀(x y:List UInt8),x.take (cm x y)=y.take (cm x y)
 | [],_=>by simp[cm]
 |_::_,[]=>by simp[cm]
 |a::x,b::y=>by
  unfold cm;split
  ·rename_i e;rw[fz,fz,Fw x y,e]
  ·simp
theorem Fx:∀(x y:List UInt8),cm x y<x.length→cm x y<y.length→hd (x.drop (cm x y))≠hd (y.drop (cm x y))
 | [],_=>by simp[cm]
 |_::_,[]=>by simp[cm]
 |a::x,b::y=>by
  unfold cm;split
  ·rename_i e
   intro c d;rw[aL]at c d;rw[gp,gp];exact Fx x y (by omega) (by omega)
  ·rename_i e
   intro _ _ h;exact e (mJ.1 h)
theorem KE{x y:List UInt8}(hx:x≠[])(c:y≠[])(h:hd x=hd y):0<cm x y:=by
 match x,y,hx,c with
 |a::x,b::y,_,_=>
  unfold cm;rw[if_pos (show a=b from mJ.1 h)]
  omega
theorem Ag{lab:List UInt8}{w:Option ByteArray}{F:Fo}(c:Nat):∀k v,pj (lab.take c,none,.cons (lab.drop c) w F .nil) k v↔pj (lab,w,F) k v:=by
 intro k v;constructor
 ·rintro⟨r,e,⟨_,h⟩|(⟨s,rfl,h⟩|h)⟩
  ·cases h
  ·exact⟨s,by rw[e];simp only;rw[←ao,bB],h⟩
  ·exact h.elim
 ·rintro⟨s,e,h⟩
  exact⟨lab.drop c++s,by rw[e];simp only;rw[←ao,bB],.inr (.inl ⟨s,rfl,h⟩)⟩
theorem Ih{lab r:List UInt8}{w w':Option ByteArray}{F F':Fo}{v:ByteArray}(b:lab≠[])(g:w.isSome∨2≤F.toL.length)(i:dS F)(a:r≠[]→hd r≠hd lab)(h:pi (mD none (.cons lab w F .nil)) (mD w' F') r v):Br (mD w' F'):=by
 by_cases e:r= []
 ·subst e
  exact .inl ⟨v,(h [] v).2 (.inl ⟨rfl,rfl⟩)⟩
 ·have hc:dS (.cons lab w F .nil):=⟨b,g,i,fun n f=>by simp[Fo.toL]at f,trivial⟩
  obtain⟨s,u,c⟩:=jL hc _ (ax ..);simp only at c;have d:hd (lab++s)=hd lab:=lL b;refine .inr ⟨r,lab++s,v,u,(h r v).2 (.inl ⟨rfl,rfl⟩),(h _ u).2 (.inr ⟨fun e'=>a e (by rw[←e',d]),.inr (.inl ⟨s,rfl,c⟩)⟩),e,fun e'=>b (eh.1 e').1,by rw[d];exact a e⟩
theorem Jq{P d:List UInt8→ByteArray→Prop}{k:List UInt8}{v:ByteArray}(g:Br P)(h:pi P d k v):Br d:=by
 have keep:∀j u,P j u→∃c,d j c:=fun j u f=>by
  by_cases e:j=k
  ·exact⟨v,(h j v).2 (.inl ⟨e,rfl⟩)⟩
  ·exact⟨u,(h j u).2 (.inr ⟨e,f⟩)⟩
 rcases g with⟨u,n⟩|⟨j,k',u,c,f,o,r⟩
 ·obtain⟨c,m⟩:=keep [] u n
  exact .inl ⟨c,m⟩
 ·obtain⟨a,i⟩:=keep j u f
  obtain⟨b,g⟩:=keep k' c o;exact .inr ⟨j,k',a,b,i,g,r⟩
end Go.Proofs
namespace Go.Proofs
open Go.Lift
theorem KL(a b:Nat):(ah (IntKind.bits .u64) (a:Int)&&&ah (IntKind.bits .u64) (b:Int)).toNat=(a%18446744073709551616)&&&(b%18446744073709551616):=by
 simp[IntKind.bits,BitVec.toNat_and,BitVec.toNat_ofInt];rfl
theorem Ls{hv:Int}(f:0≤hv∧hv<18446744073709551616){lev:Nat}(g:lev<13){h:ae}{K:Int→ae→Prop}(b:K (((hv.toNat>>>(5*lev))%32:Nat):Int) h):HC PG kj [.int .u64 hv,.int .i64 lev] [.c (.int .i64)] K h:=by
 refine EG hv lev ?_;unfold y2;refine Join.plain (bf (fun h=>by omega) fun _=>?_)
 rw[decide_eq_false (by omega)];refine ak.2 ?_;have d:IntKind.wrap .i64 (5*(lev:Int))=((5*lev:Nat):Int):=by rw[nT (by omega)];omega
 rw[d];have c:min (((5*lev:Nat):Int)).toNat (IntKind.bits .u64)=5*lev:=by rw[aN];exact aW (by show 5*lev≤64;omega)
 rw[c];obtain⟨n,rfl⟩:=Int.eq_ofNat_of_zero_le f.1;rw[aN]at b;simp only[Bd];rw[iL];have a:n>>>(5*lev)<18446744073709551616:=Nat.lt_of_le_of_lt (Nat.shiftRight_le _ _) (by omega);have e:=KL (n>>>(5*lev)) 31;rw[Nat.mod_eq_of_lt a,show((31:Nat):Int)=(31:Int)from rfl,show 31%18446744073709551616=2^5-1 from rfl,Nat.and_two_pow_sub_one_eq_mod]at e
 rw[e];have hm:n>>>(5*lev)%2^5<32:=nN _ (by omega);rw[Go.IntWalk.u64_in _ (by omega),nT (by omega)];exact⟨by omega,b⟩
theorem Jm{x:Hs}{k:ByteArray}{lev:Nat}(a:lev<13){h:ae}{K:Int→ae→Prop}(b:K (ck x lev k:Int) h):HC PG kj [.int .u64 (lx x k),.int .i64 lev] [.c (.int .i64)] K h:=Ls (CE x k) a b
theorem Co{x:Hs}{lev c:Nat}{l:List Pr}(h:∀p∈l,ck x lev p.1=c):part x lev c l=l:=List.filter_eq_self.2 fun p a=>decide_eq_true (h p a)
theorem E6{x:Hs}{lev c:Nat}{l:List Pr}(h:∀p∈l,ck x lev p.1≠c):part x lev c l= []:=List.filter_eq_nil_iff.2 fun p a=>by simpa using h p a
theorem yd{x:Hs}{lev c:Nat}{p:Pr}{l:List Pr}(a:cq l):part x lev c (ic p l)=if ck x lev p.1=c then ic p (part x lev c l)else part x lev c l:=by
 have:=yx p (fun k=>decide (ck x lev k=c)) a
 unfold part;rw[this];by_cases h:ck x lev p.1=c
 ·rw[if_pos h,if_pos (decide_eq_true h)]
 ·rw[if_neg h,if_neg (by simpa using h)]
theorem EW{p q:Pr}(h:p.1≠q.1):(ic q [p]).length=2:=by
 rw[jc];by_cases a:kl p.1 q.1
 ·rw[if_pos a];rfl
 ·rw[if_neg a,if_neg h];rfl
theorem Fc{p q r:Pr}(h:r∈ic q [p]):r=p∨r=q:=(ua h).symm.imp (fun h=>ai.1 h) id
theorem ep{β:Type}{g:Nat→Option β}{i c:Nat}{x:Option β}(h:c≠i):upd g i x c=g c:=by unfold upd;rw[if_neg h]
end Go.Proofs
namespace Go.Proofs
open Go.Lift
noncomputable instance memDec (p:Pr) (l:List Pr):Decidable (p∈l):=Classical.propDecidable _
theorem Dw{l:List Pr}(b:cq l){k v w:ByteArray}(a:(k,v)∈l)(c:(k,w)∈l):v=w:=by
 induction l with
 |nil=>cases a
 |cons q l ih=>
  have b:=bh.1 b;rcases ar.1 a with e|a<;>rcases ar.1 c with d|c
  ·exact(Prod.mk.inj (e.trans d.symm)).2
  ·have:=b.1 _ c;rw[←e]at this;exact absurd this (db _)
  ·have:=b.1 _ a;rw[←d]at this;exact absurd this (db _)
  ·exact ih b.2 a c
theorem kK{x:Hs}{lev c:Nat}{l:List Pr}{p:Pr}:p∈part x lev c l↔p∈l∧ck x lev p.1=c:=by unfold part;rw[f8,decide_eq_true_iff]
theorem xL{x:Hs}{lev:Nat}{l:List Pr}{k:ByteArray}:bK (part x lev (ck x lev k) l) k=bK l k:=by
 unfold bK;rw[j5,bH,bH];constructor
 ·rintro⟨p,a,e⟩;exact⟨p,(kK.1 a).1,e⟩
 ·rintro⟨p,a,e⟩;exact⟨p,kK.2 ⟨a,by rw[of_decide_eq_true e]⟩,e⟩
theorem p8{x:Hs}{lev c:Nat}{l:List Pr}(a:cq l):cq (part x lev c l):=a.sublist List.filter_sublist
theorem mc{x:Hs}{lev c:Nat}{l:List Pr}:(part x lev c l).length≤l.length:=List.length_filter_le ..
def SlotIs(W:Nat→Prop)(x:Hs)(h:ae)(m:Nat)(s:Slots)(c:Nat)(l:List Pr):Prop:=
 (l= []∧s.p c=none∧s.k c=none)∨(∃p,l= [p]∧s.p c=some p∧s.k c=none)∨(2≤l.length∧s.p c=none∧∃kb,s.k c=some (some ⟨kb,0,none⟩)∧TrieAt W x h m kb l)
theorem SlotIs.upd0{W:Nat→Prop}{x:Hs}{h a:ae}{m:Nat}{s:Slots}{c:Nat}{l:List Pr}(k:Upd No h a)(t:SlotIs W x h m s c l):SlotIs W x a m s c l:=t.imp id fun o=>o.imp id fun⟨b,g,e,f,d⟩=>⟨b,g,e,f,TrieAt.upd0 k d⟩
theorem CC(p:Pr):∀{l:List Pr},l.length≤(ic p l).length
 | []=>bD _
 |q::l=>by
  rw[jc];split
  ·have:=CC p (l:=l);simp only[aL];omega
  ·split<;>simp
theorem jP{a b:ByteArray}:(a.toList==b.toList)=decide (a=b):=by
 rw[j5,beq_iff_eq,decide_eq_true_iff,vD]
end Go.Proofs
namespace Go.Proofs
open Go.Lift
theorem G0{W:Nat→Prop}{x:Hs}{h:ae}{m b:Nat}(a:NodeAt W h b ⟨fun _=>none,fun _=>none⟩):TrieAt W x h (m+1) b []:=⟨_,a,fun _ _=>.inl ⟨rfl,rfl,rfl⟩⟩
def RootAt(W:Nat→Prop)(x:Hs)(h:ae)(r:Option Addr)(l:List Pr):Prop:=(r=none∧l= [])∨∃b,r=some ⟨b,0,none⟩∧TrieAt W x h 13 b l
theorem RootAt.upd0{W:Nat→Prop}{x:Hs}{h a:ae}{r:Option Addr}{l:List Pr}(k:Upd No h a)(t:RootAt W x h r l):RootAt W x a r l:=t.imp id fun⟨b,e,t⟩=>⟨b,e,TrieAt.upd0 k t⟩
theorem dy{h:ae}{b:Nat}{t:TypeId}{c vs:List Value}(a:h[b]? =some (.cells c.toArray t (0,0))) (d:vs.length=c.length) {k:ae→Prop}
  (f:∀h',h'[b]? =some (.cells vs.toArray t (0,0))→Upd (· =b) h h'→k h'):ph h (some ⟨b,0,none⟩) 0 vs∧At (fi h ⟨b,0,none⟩ 0 vs) k:=by
 have e:=f7 vs h 0 0 c a (by omega);refine⟨.inr ⟨_,rfl,fun j g=>by rw[bC];exact gL a (by rw[co];omega)⟩,bG ?_⟩
 rw[e];refine f _ ?_ (Upd.set h _ rfl);rw[iY a];congr 3
 simp[d]
end Go.Proofs
namespace Go.Proofs
open Go.Lift
abbrev po(b:UInt8):List Value:= [.int .u8 (b.toNat:Int)]
theorem vE(b:UInt8):(po b).length=1∧0<1:=⟨rfl,Nat.one_pos⟩
theorem xo:∀xs:List UInt8,bE (xs.flatMap po)=true
 | []=>rfl
 |x::xs=>by rw[aJ];exact jb rfl (xo xs)
theorem oA(s:ByteArray):cN s=s.data.toList.flatMap po:=by
 unfold cN;generalize s.data.toList=l;induction l with
 |nil=>rfl
 |cons b l ih=>rw[List.map_cons,aJ,ih];rfl
theorem pE{M:Nat→Prop}{h:ae}{c:SliceV}{out:List UInt8}{v:Int}{b:UInt8}(hv:v=(b.toNat:Int)){K:SliceV→ae→Prop}(f:OwnS po 1 dx M h c out)(hM:∀b,h.size≤b→M b)(j:out.length+1≤140737488355328)
  (i:∀s' a,OwnS po 1 dx M a s' (out++ [b])→Upd M h a→K s' a):
  ∃xs,SRow (hnew h [.int .u8 v] dx) (some (aU h)) (1*1) xs∧AppP (some [.int .u8 0]) 1 1 dx c.a c.len c.cap 1 xs (hnew h [.int .u8 v] dx) K:=by
 subst hv;have k:=Upd.hnew No h [.int .u8 (b.toNat:Int)] dx;have e:OwnS po 1 dx (fun _=>True) (hnew h [.int .u8 (b.toNat:Int)] dx) ⟨some (aU h),1,1⟩ [b]:=⟨rfl,vE,aw _,.inr ⟨h.size,[],rfl,trivial,ci ..,rfl⟩⟩
 refine⟨_,(e.sl (W:=No) fun _ _ _ h=>h).srow,?_⟩
 refine AppP.own (ys:= [b]) (f.upd k fun _ _ h=>h) rfl rfl rfl rfl (by omega) (by simp only[bd];omega) (hM _ (by rw[jd];omega)) fun s' a d g=>?_
 exact i s' a d ((Upd.hnew M h _ _).tr g)
def lK(n k:Nat):List UInt8:=(List.range k).map fun i=>eC (n>>>(8*i))
theorem rG(n k:Nat):lK n (k+1)=lK n k++ [eC (n>>>(8*k))]:=by unfold lK;rw[List.range_succ,List.map_append];rfl
theorem dU(n k:Nat):(lK n k).length=k:=by simp[lK]
theorem DT{M:Nat→Prop}{h:ae}{s:SliceV}{xs:List UInt8}(u:OwnS po 1 dx M h s xs)(hM:∀b,h.size≤b→M b){n k:Nat}(B:n<18446744073709551616)(v:k≤8)(z:xs.length+k≤140737488355328){K:SliceV→ae→Prop}
  (q:∀s' d,OwnS po 1 dx M d s' (xs++lK n k)→Upd M h d→K s' d):HC PG iM [.slice s.a s.len s.cap,.int .u64 n,.int .i64 k] [.c .slice] K h:=by
 refine wN s n k ?_;unfold ry;refine LoopP.ghost (fun(i:Nat) (t:SliceV×Int) d=>t.2=(i:Int)∧i≤k∧OwnS po 1 dx M d t.1 (xs++lK n i)∧Upd M h d) (fun i=>k-i) 0 ⟨rfl,bD _,by simpa[lK]using u,Upd.refl _ _⟩ ?_
 rintro I i ⟨C,ti⟩ d ⟨o,hi,c,f⟩ w;simp only at o c;subst o;refine bf (fun a=>?_) fun e=>?_
 ·have a:i<k:=by have:(i:Int)<(k:Int):=a;omega
  have y:IntKind.wrap .i64 (8*(i:Int))=((8*i:Nat):Int):=by rw[nT (by omega)];omega
  have x:min (((8*i:Nat):Int)).toNat (IntKind.bits .u64)=8*i:=by rw[aN];exact aW (by show 8*i≤64;omega)
  refine Join.plain ?_;simp only[Bd];rw[y,x,iL];refine⟨by omega,bG ?_⟩;refine pE (b:=eC (n>>>(8*i))) ?_ c (fun b p=>hM b (bp f.size p)) (by rw[af,dU];omega) fun A D m j=>?_
  ·rw[IntKind.wrap_u8];simp
  ·rw[fY a (by omega)]
   refine w (i+1) _ _ ⟨rfl,a,?_,f.tr j⟩ (by omega);rw[rG,←ao];exact m
 ·have g:i=k:=by have:¬(i:Int)<(k:Int):=e;omega
  subst g;exact q _ _ c f
end Go.Proofs
namespace Go.Proofs
open Go Go.Lift
theorem Ip{α:Type}{f:α→List Value}{j a:Nat}{t:TypeId}{W:Nat→Prop}{h:ae}{d:Option Addr}{sl n q:Nat}{xs ys:List α}{i z:List Value}{K:SliceV→ae→Prop}
  (m:Sl f j W h ⟨d,sl,n⟩ xs)(p:q=ys.length)(o:i=ys.flatMap f)(hz:z.length=j)(v:0<a)(e:n<sl+q)(g:(xs.length+ys.length)*a≤140737488355328)
  (w:∀s' h',OwnS f j t (fun b=>h.size≤b) h' s' (xs++ys)→Upd No h h'→K s' h'):AppP (some z) j a t d sl n q i h K:=by
 have c:sl=xs.length:=m.len;subst p o;refine⟨fun u=>by omega,fun _=>?_⟩
 refine⟨xs.flatMap f,z,m.srow,rfl,v,Go.growslice_fits e (by rw[c];exact g),fun s k=>?_⟩
 refine w _ _ ⟨by simp[c],m.ne,k,.inr ⟨h.size,cA (s-(sl+ys.length)) z,rfl,aw _,?_,?_⟩⟩ (Upd.hnew No h _ _)
 ·rw[ci,be]
 ·rw[iA,hz]
theorem Jf{h:ae}{s:SliceV}{xs:List UInt8}(x:Sl po 1 No h s xs)(hc:s.cap=s.len){n k:Nat}(y:k≤8)(A:0<k)(F:xs.length+k≤140737488355328){K:SliceV→ae→Prop}
  (w:∀s' d,OwnS po 1 dx (fun b=>h.size≤b) d s' (xs++lK n k)→Upd No h d→K s' d):HC PG iM [.slice s.a s.len s.cap,.int .u64 n,.int .i64 k] [.c .slice] K h:=by
 refine wN s n k ?_;unfold ry;refine LoopP.ghost (fun(i:Nat) (t:SliceV×Int) d=>t.2=(i:Int)∧i≤k∧((i=0∧t.1=s∧d=h)∨OwnS po 1 dx (fun b=>h.size≤b) d t.1 (xs++lK n i))∧Upd No h d) (fun i=>k-i) 0 ⟨rfl,bD _,.inl ⟨rfl,rfl,rfl⟩,Upd.refl _ _⟩ ?_
 rintro I i ⟨G,ti⟩ d ⟨q,hi,a,o⟩ u;simp only at q a;subst q;refine bf (fun c=>?_) fun m=>?_
 ·have c:i<k:=by have:(i:Int)<(k:Int):=c;omega
  have E:IntKind.wrap .i64 (8*(i:Int))=((8*i:Nat):Int):=by rw[nT (by omega)];omega
  have D:min (((8*i:Nat):Int)).toNat (IntKind.bits .u64)=8*i:=by rw[aN];exact aW (by show 8*i≤64;omega)
  refine Join.plain ?_;simp only[Bd];rw[E,D,iL];refine⟨by omega,bG ?_⟩;have v:IntKind.wrap .u8 ((n>>>(8*i):Nat):Int)=((eC (n>>>(8*i))).toNat:Int):=by rw[IntKind.wrap_u8];simp
  rcases a with⟨rfl,rfl,rfl⟩|a
  ·rw[v]
   have k1:=Upd.hnew No d [.int .u8 ((eC (n>>>(8*0))).toNat:Int)] dx;have B:OwnS po 1 dx (fun _=>True) (hnew d [.int .u8 ((eC (n>>>(8*0))).toNat:Int)] dx) ⟨some (aU d),1,1⟩ [eC (n>>>(8*0))]:=⟨rfl,vE,aw _,.inr ⟨d.size,[],rfl,trivial,ci ..,rfl⟩⟩
   refine⟨_,(B.sl (W:=No) fun _ _ _ h=>h).srow,?_⟩
   refine Ip (ys:= [eC (n>>>(8*0))]) (x.upd k1 fun _ h=>h.elim) rfl rfl rfl (by omega) (by omega) (by simp only[bd];omega) fun z C g f=>?_
   rw[fY c (by omega)];refine u 1 _ _ ⟨rfl,c,.inr ?_,k1.tr f⟩ (by omega);exact g.more fun b j=>bp k1.size j
  ·refine pE v a (fun b j=>bp o.size j) (by rw[af,dU];omega) fun z C g f=>?_
   rw[fY c (by omega)];refine u (i+1) _ _ ⟨rfl,c,.inr ?_,o.trans f fun b j=>.inr j⟩ (by omega)
   rw[rG,←ao];exact g
 ·have p:i=k:=by have:¬(i:Int)<(k:Int):=m;omega
  subst p;rcases a with⟨e,_⟩|a
  ·omega
  ·exact w _ _ a o
def qw(s:ByteArray):List UInt8:=lK s.size 2++s.data.toList
theorem xk{W:Nat→Prop}{h:ae}{s:SliceV}{xs:List UInt8}(i:Sl po 1 W h s xs)(hc:s.len≤s.cap)(b:ByteArray)(w:b.size≤1000000)(u:xs.length+2+b.size≤140737488355328){K:SliceV→ae→Prop}
  (q:∀s' h',OwnS po 1 dx (fun x=>h.size≤x) h' s' (xs++qw b)→Upd No h h'→K s' h'):HC PG jf [.slice s.a s.len s.cap,.string b] [.c .slice] K h:=by
 refine Bz s b ?_;unfold uM;have j:=i.len;refine⟨by omega,by omega,?_⟩
 simp only[aN];have d:Sl po 1 No h ⟨aM s.a 0 s.len 1,s.len-0,s.len-0⟩ xs:=by
  have:=Sl.sub (i.less (W':=No) fun _ h=>h.elim) (l:=0) (hi:=s.len) (m:=s.len) (c:=s.len-0) (bD _) (by omega) (aw _)
  rw[List.drop_zero,bc (by omega)]at this;exact this
 have ew:IntKind.wrap .u64 (b.size:Int)=(b.size:Int):=Go.IntWalk.u64_in _ (by omega);rw[ew];refine Jf d rfl (n:=b.size) (k:=2) (by omega) (by omega) (by omega) fun t v e a=>?_
 refine AppP.own (ys:=b.data.toList) e (by simp) (oA b) (by rw[oA];exact xo _) rfl (by omega) ?_ a.size fun o p f g=>?_
 ·simp only[af,dU]
  have:b.data.toList.length=b.size:=by simp
  omega
 ·refine q o p ?_ (a.trans g fun x hx=>.inr hx)
  rw[qw,←ao];exact f
end Go.Proofs
namespace Go.Proofs
open Go Go.Lift
def ye(p:Pr):List UInt8:=qw p.1++qw p.2
def jA(l:List Pr):List UInt8:=l.flatMap ye
theorem gt(b:ByteArray):(qw b).length=2+b.size:=by simp[qw,dU]
def Fit(l:List Pr):Prop:=∀p∈l,p.1.size≤10000∧p.2.size≤10000
theorem Ga{p:Pr}(h:p.1.size≤10000∧p.2.size≤10000):(ye p).length≤20004:=by
 unfold ye;rw[af,gt,gt];omega
theorem nf:∀{l:List Pr},Fit l→(jA l).length≤l.length*20004
 | [],_=>by simp[jA]
 |p::l,h=>by
  have b:=Ga (h p (ax ..));have c:=nf (l:=l) fun q a=>h q (aI _ a)
  unfold jA at*;rw[aJ,af,aL];omega
theorem Cq{l:List Pr}{i:Nat}(hi:i<l.length):jA (l.take (i+1))=jA (l.take i)++ye l[i]:=by
 unfold jA;rw[List.take_succ_eq_append_getElem hi,be,aJ,List.flatMap_nil,bO]
theorem xW{M W:Nat→Prop}{h:ae}{s sp:SliceV}{xs:List UInt8}{l:List Pr}(J:OwnS po 1 dx M h s xs)(hM:∀b,h.size≤b→M b)(D:Sl gz 2 W h sp l)(Q:∀x,M x→x<h.size→W x)(F:Fit l)(Z:l.length≤1000000)(Y:xs.length+l.length*20004≤140737488355328){K:SliceV→ae→Prop}
  (H:∀s' d,OwnS po 1 dx M d s' (xs++jA l)→Upd M h d→K s' d):HC PG l0 [.slice s.a s.len s.cap,.slice sp.a sp.len sp.cap] [.c .slice] K h:=by
 refine zo s sp ?_;unfold sr f6 bQ aD nv qt oZ qL;have E:=D.len;have v:∀b,M b→W b∨h.size≤b:=fun b u=>by
  rcases bP b h.size with hx|hx
  ·exact .inl (Q b u hx)
  ·exact .inr hx
 refine LoopP.ghost (fun(i:Nat) (t:SliceV×Int) d=>t.2=(i:Int)∧i≤l.length∧OwnS po 1 dx M d t.1 (xs++jA (l.take i))∧Upd M h d) (fun i=>l.length-i) 0 ⟨rfl,bD _,by simpa[jA]using J,Upd.refl _ _⟩ ?_
 rintro I i ⟨so,ti⟩ d ⟨C,hi,f,n⟩ O;simp only at C f;subst C;refine bf (fun c=>?_) fun o=>?_
 ·have c:i<l.length:=by have:(i:Int)<(sp.len:Int):=c;omega
  obtain⟨a,S,_,hv⟩:=(D.upd n v).at (aj c);have N:=F l[i] (bm c);have y:=nf (l:=l.take i) fun q L=>F q (List.mem_of_mem_take L)
  rw[aK,aW hi]at y;have k1:=Upd.hnew No d [.string (⟨#[]⟩:ByteArray),.string (⟨#[]⟩:ByteArray)] al;have b1:=ci d [.string (⟨#[]⟩:ByteArray),.string (⟨#[]⟩:ByteArray)] al;refine⟨by simp only;omega,a,S,l[i].1,hv 0 _ rfl,l[i].2,hv 1 _ rfl,bG ?_⟩;simp only[eZ d];generalize hnew d [.string (⟨#[]⟩:ByteArray),.string (⟨#[]⟩:ByteArray)] al=h1 at k1 b1
  have w:h1[d.size]? =some (.cells #[.string BJ.1,.string BJ.2] al (0,0)):=b1;refine wB (p:=l[i]) w fun T b2 A=>?_
  have e:Upd No d T:=k1.trans A fun x hx=>.inr (fC hx.symm)
  have m:=f.upd e fun _ _ h=>h
  refine⟨l[i].1,by rw[bC,aV b2];rfl,l[i].2,by rw[bC,aV b2];rfl,?_⟩
  have G:i*20004+20004≤l.length*20004:=by rw[←Nat.succ_mul];exact Nat.mul_le_mul_right _ c
  refine xk (W:=No) (m.sl fun _ _ _ h=>h) m.cap l[i].1 (by omega) (by rw[af];omega) fun U X k g=>⟨by rw[bC,aV (g.get0 b2)];rfl,?_⟩
  refine xk (W:=No) (k.sl fun _ _ _ h=>h) k.cap l[i].2 (by omega) (by rw[af,af,gt];omega) fun V P z B=>?_
  have j:Upd M h P:=n.tr ((e.tr (g.tr B)).wide);rw[fY c (by omega)];refine O (i+1) _ _ ⟨rfl,c,?_,j⟩ (by omega);rw[Cq c,ye,←ao,←ao];exact z.more fun b u=>hM b (bp (n.tr ((e.tr g).wide)).size u)
 ·have R:i=l.length:=by have:¬(i:Int)<(sp.len:Int):=o;omega
  rw[bc (by omega)]at f;exact H _ _ f n
end Go.Proofs
namespace Go.Proofs
open Go Go.Lift
def kV(q:Nat→Bool):Nat→Nat
 |0=>0
 |n+1=>kV q n+(if q n then 2^n else 0)
theorem ny(q:Nat→Bool):∀n,kV q n<2^n
 |0=>by simp[kV]
 |n+1=>by
  have:=ny q n;unfold kV;rw[Nat.pow_succ];split<;>omega
theorem vG(q:Nat→Bool)(c:Nat):∀n,(kV q n).testBit c=(decide (c<n)&&q c)
 |0=>by simp[kV]
 |n+1=>by
  have b:=ny q n;have d:=vG q c n;unfold kV;by_cases a:q n=true
  ·rw[if_pos a,Nat.add_comm]
   rcases Nat.lt_trichotomy c n with h|h|h
   ·rw[Nat.testBit_two_pow_add_gt h,d,decide_eq_true h,decide_eq_true (by omega)]
   ·subst h
    rw[Nat.testBit_two_pow_add_eq,eg b,decide_eq_true (by omega),a];rfl
   ·have f:2^n+kV q n<2^c:=bv (by rw[Nat.pow_succ];omega:2^n+kV q n<2^(n+1)) (gi (by omega) h)
    rw[eg f,decide_eq_false (by omega)];rfl
  ·rw[if_neg a,dN,d]
   by_cases h:c<n
   ·rw[decide_eq_true h,decide_eq_true (by omega)]
   ·by_cases e:c=n
    ·subst e;have:q c=false:=by simpa using a
     rw[this];simp
    ·rw[decide_eq_false h,decide_eq_false (by omega)]
theorem Au{d:Nat}{q:Nat→Bool}(hd:d<4294967296)(h:∀c,c<32→d.testBit c=q c):d=kV q 32:=by
 refine Nat.eq_of_testBit_eq fun c=>?_
 rw[vG];by_cases hc:c<32
 ·rw[h c hc,decide_eq_true hc];rfl
 ·rw[decide_eq_false hc,eg (bv hd (gi (n:=2) (by omega) (show 32≤c by omega)))];rfl
end Go.Proofs
