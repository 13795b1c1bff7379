/- A part of the proof that the named laws of this program answer true, whatever the input. -/
import Derived.Test.YtceikogjngfacaaGreatPart0
open BitVec renaming ofInt→ao
open Go.IntKind renaming wrap→ac,bits→ai
open Int renaming toNat_natCast→bN
open List renaming range→fB,mem_cons_self→aN,mem_cons_of_mem→aR,mem_range→qY,range_add→vn,take_left'→dM,drop_left'→du,drop_drop→cS,length_append→ae,length_take→aO,flatMap_cons→cy,flatMap_append→cX,size_toArray→dE,append_assoc→aF,pairwise_cons→bB,mem_cons→au,length_singleton→aQ,length_cons→ax,take_succ_cons→kS,append_eq_nil_iff→rh,mem_singleton→aA,zip_eq_zipWith→oD,length_drop→aP,set_eq_take_append_cons_drop→jQ
open Nat renaming zero_add→bi,le_of_eq→kj,le_refl→aq,min_eq_left→cC,add_zero→ii,le_trans→dj,lt_irrefl→jo,mod_lt→rS,pow_succ→lW,mul_comm→ig,mul_le_mul_right→dD,zero_le→bJ
open Option renaming isSome_iff_exists→ie
open UInt8 renaming toNat_inj→pr
namespace Go.Proofs
open Go.Lift
def fm{β:Type}(g:Nat→Option β)(n:Nat):List β:=(fB n).filterMap g
def upd{β:Type}(g:Nat→Option β)(i:Nat)(x:Option β)(j:Nat):Option β:=if j=i then x else g j
theorem VQ{β:Type}{f g:Nat→Option β}:∀l:List Nat,(∀j∈l,f j=g j)→l.filterMap f=l.filterMap g
 | [],_=>rfl
 |j::l,h=>by
  rw[List.filterMap_cons,List.filterMap_cons,h j (aN ..),VQ l fun k b=>h k (aR _ b)]
section
variable {β:Type} {g:Nat→Option β} {d:Nat}
theorem FX(hd:∀c,c<32→d.testBit c=(g c).isSome){i:Nat}(hi:i≤32):(fm g i).length=xf i d:=by
 unfold fm xf;rw[List.length_filterMap_eq_countP];exact List.countP_congr fun j b=>by rw[hd j (by have:=qY.1 b;omega)]
theorem sC{i n:Nat}(hi:i<n):fm g n=fm g i++((g i).toList++(fB (n-(i+1))).filterMap fun j=>g (i+1+j)):=by
 unfold fm;have e:n=i+(1+(n-(i+1))):=by omega
 rw[e,vn,List.filterMap_append,vn];have b:i+(1+(n-(i+1)))-(i+1)=n-(i+1):=by omega
 rw[b];congr 1
 rw[List.map_append,List.filterMap_append,List.map_map];congr 1
 rw[List.filterMap_map];refine VQ _ fun j _=>?_
 show g (i+(1+j))=_
 rw[Nat.add_assoc]
theorem Bh{i:Nat}{x:Option β}:fm (upd g i x) i=fm g i:=by
 unfold fm;refine VQ _ fun j b=>?_
 have:=qY.1 b;unfold upd;rw[if_neg (by omega)]
theorem yO{i m:Nat}{x:Option β}:((fB m).filterMap fun j=>upd g i x (i+1+j))=(fB m).filterMap fun j=>g (i+1+j):=by
 refine VQ _ fun j _=>?_
 unfold upd;rw[if_neg (by omega)]
theorem Q8{i:Nat}(hi:i<32)(hd:∀c,c<32→d.testBit c=(g c).isSome)(e:g i=none)(x:β):fm (upd g i (some x)) 32=(fm g 32).take (xf i d)++x::(fm g 32).drop (xf i d):=by
 have b:=FX hd (i:=i) (by omega);rw[sC (g:=upd g i (some x)) hi,sC (g:=g) hi,Bh,yO,e,dM b,du b];simp[upd]
theorem Q7{i:Nat}(hi:i<32)(hd:∀c,c<32→d.testBit c=(g c).isSome){y:β}(e:g i=some y)(x:β):fm (upd g i (some x)) 32=(fm g 32).take (xf i d)++x::(fm g 32).drop (xf i d+1):=by
 have b:=FX hd (i:=i) (by omega);rw[sC (g:=upd g i (some x)) hi,sC (g:=g) hi,Bh,yO,e,dM b,←cS,du b];simp[upd]
theorem Q9{i:Nat}(hi:i<32)(hd:∀c,c<32→d.testBit c=(g c).isSome){y:β}(e:g i=some y):fm (upd g i none) 32=(fm g 32).take (xf i d)++(fm g 32).drop (xf i d+1):=by
 have b:=FX hd (i:=i) (by omega);rw[sC (g:=upd g i none) hi,sC (g:=g) hi,Bh,yO,e,dM b,←cS,du b];simp[upd]
theorem VA{i:Nat}(hi:i<32)(hd:∀c,c<32→d.testBit c=(g c).isSome){y:β}(b:g i=some y):(fm g 32)[xf i d]? =some y:=by
 have e:=FX hd (i:=i) (by omega);rw[sC (g:=g) hi,b,List.getElem?_append_right (by omega),e,Nat.sub_self];rfl
theorem N9{i:Nat}(hi:i<32)(hd:∀c,c<32→d.testBit c=(g c).isSome){y:β}(b:g i=some y):xf i d<(fm g 32).length:=(List.getElem?_eq_some_iff.1 (VA hi hd b)).1
theorem TL{i:Nat}(hi:i<32)(hd:∀c,c<32→d.testBit c=(g c).isSome):xf i d≤(fm g 32).length:=by
 have b:=FX hd (i:=i) (by omega);rw[sC (g:=g) hi,ae];omega
theorem Is:(fm g 32).length≤32:=by
 have:=List.length_filterMap_le g (fB 32);simpa[fm]using this
end
end Go.Proofs
namespace Go.Proofs
open Go.Lift
abbrev sv(s:SliceV):Value:=.slice s.a s.len s.cap
structure Slots where
 p:Nat→Option Pr
 k:Nat→Option (Option Addr)
def iC(d n:Nat)(sp sk:SliceV)(c:Bool)(b:Option Addr):Array Value:= #[.int .u32 (d:Int),.int .u32 (n:Int),sv sp,sv sk,.bool c,.pointer b]
structure BitsOf(d n:Nat)(s:Slots):Prop where
 d32:d<4294967296
 n32:n<4294967296
 dp:∀c,c<32→d.testBit c=(s.p c).isSome
 nk:∀c,c<32→n.testBit c=(s.k c).isSome
structure NodeAt(W:Nat→Prop)(h:af)(b:Nat)(s:Slots):Prop where
 ex:∃d n sp sk ow,h[b]? =some (.cells (iC d n sp sk false ow) bR (0,0))∧BitsOf d n s∧Sl ga 2 W h sp (fm s.p 32)∧Sl vx 1 W h sk (fm s.k 32)∧sp.len≤sp.cap∧sk.len≤sk.cap
 nw:¬W b
theorem NodeAt.upd{W M:Nat→Prop}{h c:af}{b:Nat}{s:Slots}(n:NodeAt W h b s)(k:Upd M h c)(hm:∀b,M b→W b∨h.size≤b):NodeAt W c b s:=by
 obtain⟨d,m,sp,sk,g,e,h2,f,o,p,i⟩:=n.ex;exact⟨⟨d,m,sp,sk,g,k.get e (fun j=>(hm _ j).elim n.nw fun h=>by have:=bo e;omega),h2,f.upd k hm,o.upd k hm,p,i⟩,n.nw⟩
structure OwnN(M:Nat→Prop)(h:af)(b d n:Nat)(sp sk:SliceV)(s:Slots)(ow:Option Addr):Prop where
 blk:h[b]? =some (.cells (iC d n sp sk false ow) bR (0,0))
 bits:BitsOf d n s
 ex:∃A B:Nat→Prop,OwnS ga 2 ay A h sp (fm s.p 32)∧OwnS vx 1 bS B h sk (fm s.k 32)∧(∀x,A x→M x∧¬B x∧x≠b∧x<h.size)∧(∀x,B x→M x∧x≠b∧x<h.size)
 mb:M b
theorem FL{h:af}{K:Bool→af→Prop}(b:K false h):HC PG gX [.pointer none] [.c .bool] K h:=by
 refine uU none ?_;unfold pR xZ;exact aH.2 b
theorem H9{b:Nat}{h:af}{K:Bool→af→Prop}(c:K false h):HC PG qA [.pointer (some ⟨b,0,none⟩),.pointer none] [.c .bool] K h:=by
 refine CD _ none ?_;unfold vP bZ;exact aX.2 (FL (aH.2 c))
theorem OwnN.upd{M M':Nat→Prop}{h i:af}{b d n:Nat}{sp sk:SliceV}{s:Slots}{g:Option Addr}(o:OwnN M h b d n sp sk s g)(k:Upd M' h i)(hm:∀x,M' x→¬M x):OwnN M i b d n sp sk s g:=by
 obtain⟨A,B,m,h2,c,e⟩:=o.ex;have z:=k.size;exact⟨k.get o.blk fun j=>hm _ j o.mb,o.bits,⟨A,B,m.upd k fun x hx f=>hm _ f (c x hx).1,h2.upd k fun x hx f=>hm _ f (e x hx).1,fun x hx=>⟨(c x hx).1,(c x hx).2.1,(c x hx).2.2.1,by have:=(c x hx).2.2.2;omega⟩,fun x hx=>⟨(e x hx).1,(e x hx).2.1,by have:=(e x hx).2.2;omega⟩⟩,o.mb⟩
set_option maxRecDepth 4000 in
theorem QC{W:Nat→Prop}{h:af}{b:Nat}{s:Slots}(nd:NodeAt W h b s){K:Option Addr→af→Prop}
  (I:∀u d n sp sk,OwnN (fun x=>h.size≤x) u h.size d n sp sk s none→Upd No h u→K (some ⟨h.size,0,none⟩) u):
  HC PG jY [.pointer (some ⟨b,0,none⟩),.pointer none] [.c .ptr] K h:=by
 obtain⟨d,n,sp,sk,q,f,bits,F,N,Y,V⟩:=nd.ex;refine ye _ none ?_;unfold tk nv cu ft cz bZ xZ uo PP TV;refine H9 (aH.2 ?_);have c:∀{h:af} {b:Nat} {c:Array Value} {i:Nat},h[b]? =some (.cells c bR (0,0))→bj h ⟨b,0+i,none⟩=c[i]?:=fun f=>by rw[bi];exact bP f
 refine⟨_,rfl,_,c (i:=0) f,_,c (i:=1) f,sp,c (i:=2) f,sk,c (i:=3) f,_,c (i:=4) f,_,c (i:=5) f,?_⟩;have k1:=Upd.hnew No h [.int .u32 0,.int .u32 0,.slice none 0 0,.slice none 0 0,.bool false,.pointer none] bR;have b1:=c6 h [.int .u32 0,.int .u32 0,.slice none 0 0,.slice none 0 0,.bool false,.pointer none] bR;refine dx ?_;simp only[eS h];generalize hnew h [.int .u32 0,.int .u32 0,.slice none 0 0,.slice none 0 0,.bool false,.pointer none] bR=h1 at k1 b1
 have D:jK h1 ⟨h.size,0,none⟩ 0 [.int .u32 (d:Int),.int .u32 (n:Int),.slice sp.a sp.len sp.cap,.slice sk.a sk.len sk.cap,.bool false,.pointer q]=_:=jq _ h1 0 0 _ b1 (by simp);refine⟨.inr ⟨_,rfl,fun j hj=>by rw[dt];exact gI b1 (by simp at hj⊢;omega)⟩,dx ?_⟩
 rw[D];have b2:=fe (o:=.cells (iC d n sp sk false q) bR (0,0)) b1;have B:Upd No h _:=k1.trans (M':=(· =h.size)) (Upd.set h1 (.cells (iC d n sp sk false q) bR (0,0)) rfl) fun x hx=>.inr (kj hx.symm)
 have E:h.size<(h1.setIfInBounds h.size (.cells (iC d n sp sk false q) bR (0,0))).size:=bo b2;have X:h.size≠b:=fun e=>by have:=bo f;omega
 have e2:(Obj.cells (List.take (0+0) [Value.int .u32 0,.int .u32 0,.slice none 0 0,.slice none 0 0,.bool false,.pointer none]++ [Value.int .u32 (d:Int),.int .u32 (n:Int),.slice sp.a sp.len sp.cap,.slice sk.a sk.len sk.cap,.bool false,.pointer q]++List.drop (0+0+ [Value.int .u32 (d:Int),.int .u32 (n:Int),.slice sp.a sp.len sp.cap,.slice sk.a sk.len sk.cap,.bool false,.pointer q].length) [Value.int .u32 0,.int .u32 0,.slice none 0 0,.slice none 0 0,.bool false,.pointer none]).toArray bR (0,0))=.cells (iC d n sp sk false q) bR (0,0):=rfl
 rw[e2];generalize h1.setIfInBounds h.size (.cells (iC d n sp sk false q) bR (0,0))=h2 at b2 B E;have y:=B.get0 f;refine⟨_,rfl,sp,c (i:=2) y,_,rfl,sk,c (i:=3) y,?_⟩;refine Dv (F.upd B fun _ h=>h.elim) (by have:=Is (g:=s.p);omega) fun C S Q p=>?_
 refine⟨c (i:=3) (p.get0 y),?_⟩;refine IB ((N.upd B fun _ h=>h.elim).upd p fun _ h=>h.elim) (by have:=Is (g:=s.k);omega) fun L Z H t=>?_
 have U:=t.get0 (p.get0 b2);have z:=Q.within.upd t fun _ _ h=>h
 have A:=H.within;have z3:=p.size;have z4:=t.size;have w:∀{h:af} {c:Array Value} {x i:Nat},h[x]? =some (.cells c bR (0,0))→i<c.size→Wr h ⟨x,0+i,none⟩:=fun f hi=>by rw[bi];exact gI f hi
 have st:∀{h:af} {c c':Array Value} {x i:Nat} {v:Value} {k:af→Prop},h[x]? =some (.cells c bR (0,0))→c.setIfInBounds i v=c'→(∀u,u[x]? =some (.cells c' bR (0,0))→Upd (· =x) h u→k u)→At (hset h ⟨x,i,none⟩ v) k:=fun f e I=>Bv f fun u G hu=>I u (e▸G) hu
 refine⟨w (i:=2) U (show 2<6 by decide),st (i:=2) (c':=iC d n C sk false q) U rfl fun h5 R P=>?_⟩
 refine⟨w (i:=3) R (show 3<6 by decide),st (i:=3) (c':=iC d n C L false q) R rfl fun h6 T O=>?_⟩
 refine⟨w (i:=5) T (show 5<6 by decide),st (i:=5) (c':=iC d n C L false none) T rfl fun h7 b7 J=>?_⟩
 refine FL (aH.2 ?_);have m:=P.tr (O.tr J);have z7:=m.size;refine I _ d n C L ⟨b7,bits,⟨fun x=>h2.size≤x∧x<S.size,fun x=>S.size≤x∧x<Z.size,z.upd m fun x hx e=>by have e:x=h.size:=e;omega,A.upd m fun x hx e=>by have e:x=h.size:=e;omega,fun x hx=>⟨by omega,by omega,by omega,by omega⟩,fun x hx=>⟨by omega,by omega,by omega⟩⟩,aq _⟩ ?_
 exact((B.tr p).tr t).trans m fun x hx=>.inr (kj hx.symm)
end Go.Proofs
namespace Go.Proofs
open Go.Lift
theorem wV{β:Type}{g:Nat→Option β}{i:Nat}(h:g i=none):upd g i none=g:=by
 funext j;unfold upd;split
 ·rename_i e;rw[e,h]
 ·rfl
theorem hO{h:af}{b:Nat}{c:Array Value}{t:TypeId}{i:Nat}(d:h[b]? =some (.cells c t (0,0))):bj h ⟨b,0+i,none⟩=c[i]?:=by rw[bi];exact bP d
theorem SY{h:af}{b:Nat}{c:Array Value}{t:TypeId}{i:Nat}(d:h[b]? =some (.cells c t (0,0))) (hi:i<c.size):Wr h ⟨b,0+i,none⟩:=by rw[bi];exact gI d hi
theorem Jo{h:af}{b:Nat}{c c':Array Value}{t:TypeId}{i:Nat}{v:Value}{k:af→Prop}(g:h[b]? =some (.cells c t (0,0))) (e:c.setIfInBounds i v=c')
 (j:∀d,d[b]? =some (.cells c' t (0,0))→Upd (· =b) h d→k d):At (hset h ⟨b,i,none⟩ v) k:=Bv g fun d f m=>j d (e▸f) m
theorem Oc{M:Nat→Prop}{h:af}{b d n:Nat}{sp sk:SliceV}{s:Slots}{w:Option Addr}(o:OwnN M h b d n sp sk s w){i:Nat}(hi:i<32){K:Unit→af→Prop}
  (Z:∀t F J sp' sk',OwnN M t b F J sp' sk' ⟨upd s.p i none,upd s.k i none⟩ w→Upd M h t→K () t):HC PG mI [.pointer (some ⟨b,0,none⟩),.int .i64 i] [] K h:=by
 obtain⟨A,B,hA,X,f,p⟩:=o.ex;have bits:=o.bits;refine CB _ i ?_;unfold vN cu BO ft cz sO;have ew:∀k:Nat,k≤100→ac .i64 ((k:Int)+1)=((k+1:Nat):Int):=fun k Z=>by rw[dW (by omega)];omega
 have hc1:=Bs i d;have hc2:=Bs i n;have O:∀x,A x→M x∨h.size≤x:=fun x hx=>.inl (f x hx).1
 refine Join.intro (fun _ t=>∃sp',t[b]? =some (.cells (iC d n sp' sk false w) bR (0,0))∧OwnS ga 2 ay A t sp' (fm (upd s.p i none) 32)∧OwnS vx 1 bS B t sk (fm s.k 32)∧Upd M h t) (fun R I=>?_) ?_
 ·refine⟨_,rfl,_,hO (i:=0) o.blk,JA bits.d32 hi ?_⟩
  rw[bits.dp i hi];cases hp:s.p i with
  |none=>exact aH.2 (I _ _ ⟨sp,o.blk,by rw[wV hp];exact hA,X,Upd.refl _ _⟩)
  |some y=>
   refine aX.2 ⟨_,rfl,_,hO (i:=0) o.blk,vv bits.d32 hi ⟨_,rfl,sp,hO (i:=2) o.blk,?_⟩⟩;rw[ew _ (by omega)];refine M0 hA (N9 hi bits.dp hp) (by have:=Is (g:=s.p);omega) fun H h2 v j=>?_
   rw[←Q9 hi bits.dp hp]at v;have b2:=j.get o.blk fun W=>(f b W).2.2.1 rfl
   refine⟨_,rfl,SY (i:=2) b2 (show 2<6 by decide),Jo (i:=2) (c':=iC d n H sk false w) b2 rfl fun Y b3 m=>?_⟩
   refine I _ _ ⟨H,b3,v.upd m fun x hx e=>(f x hx).2.2.1 e,(X.upd j fun x hx V=>(f x V).2.1 hx).upd m fun x hx e=>(p x hx).2.1 e,(j.mono O).tr (m.mono fun x e=>.inl (e▸o.mb))⟩
 rintro _ h1 ⟨u,b1,E,D,G⟩;refine Join.intro (fun _ t=>∃sk',t[b]? =some (.cells (iC d n u sk' false w) bR (0,0))∧OwnS ga 2 ay A t u (fm (upd s.p i none) 32)∧OwnS vx 1 bS B t sk' (fm (upd s.k i none) 32)∧Upd M h1 t) (fun R I=>?_) ?_
 ·refine⟨_,rfl,_,hO (i:=1) b1,JA bits.n32 hi ?_⟩
  rw[bits.nk i hi];cases hp:s.k i with
  |none=>exact aH.2 (I _ _ ⟨sk,b1,E,by rw[wV hp];exact D,Upd.refl _ _⟩)
  |some y=>
   refine aX.2 ⟨_,rfl,_,hO (i:=1) b1,vv bits.n32 hi ⟨_,rfl,sk,hO (i:=3) b1,?_⟩⟩;rw[ew _ (by omega)];refine M1 D (N9 hi bits.nk hp) (by have:=Is (g:=s.k);omega) fun H h2 v j=>?_
   rw[←Q9 hi bits.nk hp]at v;have b2:=j.get b1 fun W=>(p b W).2.1 rfl
   refine⟨_,rfl,SY (i:=3) b2 (show 3<6 by decide),Jo (i:=3) (c':=iC d n u H false w) b2 rfl fun Y b3 m=>?_⟩
   refine I _ _ ⟨H,b3,(E.upd j fun x hx V=>(f x hx).2.1 V).upd m fun x hx e=>(f x hx).2.2.1 e,v.upd m fun x hx e=>(p x hx).2.1 e,(j.mono fun x hx=>.inl (p x hx).1).tr (m.mono fun x e=>.inl (e▸o.mb))⟩
 rintro _ h2 ⟨C,b2,U,Q,j⟩;refine⟨_,rfl,_,hO (i:=0) b2,_,rfl,_,hO (i:=1) b2,?_⟩;refine E6 bits.d32 hi fun F T L=>⟨hO (i:=1) b2,?_⟩
 refine E6 bits.n32 hi fun J N S=>?_
 refine⟨_,rfl,SY (i:=0) b2 (show 0<6 by decide),Jo (i:=0) (c':=iC F n u C false w) b2 rfl fun Y b3 m=>?_⟩
 refine⟨_,rfl,SY (i:=1) b3 (show 1<6 by decide),Jo (i:=1) (c':=iC F J u C false w) b3 rfl fun h4 b4 P=>?_⟩
 have q:=m.tr P;have z:=(G.tr (j.tr (q.mono (M':=M) fun x e=>.inl (e▸o.mb)))).size
 refine Z h4 F J u C ⟨b4,⟨T,N,fun c hc=>?_,fun c hc=>?_⟩,⟨A,B,U.upd q fun x hx e=>(f x hx).2.2.1 e,Q.upd q fun x hx e=>(p x hx).2.1 e,fun x hx=>⟨(f x hx).1,(f x hx).2.1,(f x hx).2.2.1,by have:=(f x hx).2.2.2;omega⟩,fun x hx=>⟨(p x hx).1,(p x hx).2.1,by have:=(p x hx).2.2;omega⟩⟩,o.mb⟩ (G.tr (j.tr (q.mono fun x e=>.inl (e▸o.mb))))
 ·rw[L,bits.dp c hc];simp only[upd];split<;>simp[*]
 ·rw[S,bits.nk c hc];simp only[upd];split<;>simp[*]
end Go.Proofs
namespace Go.Proofs
open Go.Lift
theorem OwnS.setAt{α:Type}{f:α→List Value}{c:Nat}{t:TypeId}{M:Nat→Prop}{h:af}{s:SliceV}{xs:List α}(i:OwnS f c t M h s xs){k:Nat}(o:k<xs.length)(x:α):
  ∃a,s.a=some a∧M a.block∧yr h (some (adr a (k*c))) 0 (f x)∧OwnS f c t M (jK h (adr a (k*c)) 0 (f x)) s (xs.take k++x::xs.drop (k+1))∧Upd (· =a.block) h (jK h (adr a (k*c)) 0 (f x)):=by
 have m:∀x,(f x).length=c∧0<c:=i.ne;have v:=i.len;have g:=i.cap;rcases i.blk with E|⟨b,e,u,w,hc,z⟩
 ·omega
 have p:((xs.take k).flatMap f).length=k*c:=by rw[qG m,aO,cC (by omega)]
 have C:xs.flatMap f=(xs.take k).flatMap f++(f xs[k]++(xs.drop (k+1)).flatMap f):=by
  rw[←cy,←List.drop_eq_getElem_cons o];exact F8 xs k
 rw[C]at hc;have y:=(m xs[k]).1;have D:=(m x).1;have d:(xs.take k++x::xs.drop (k+1)).flatMap f=(xs.take k).flatMap f++(f x++(xs.drop (k+1)).flatMap f):=by rw[cX,cy]
 generalize (xs.take k).flatMap f=A at p hc d;generalize (xs.drop (k+1)).flatMap f=B at hc d;generalize f xs[k]=X at y hc;have q:k*c+0+(f x).length≤(A++(X++B)++e).length:=by simp only[ae];omega
 have n:adr ⟨b,0,none⟩ (k*c)=⟨b,k*c,none⟩:=by rw[dt,bi]
 refine⟨⟨b,0,none⟩,u,w,?_,?_,?_⟩
 ·rw[n]
  refine .inr ⟨_,rfl,fun j F=>?_⟩
  rw[dt];exact gI hc (by rw[dE];omega)
 ·rw[n,jq (f x) h 0 (k*c) _ hc q]
  refine⟨by simp;omega,m,g,.inr ⟨b,e,u,w,?_,?_⟩⟩
  ·rw[fe hc,d]
   congr 3
   rw[ii,aF A,dM p,←cS,du p,aF X,du (by omega)];simp only[aF]
  ·exact z
 ·rw[n,jq (f x) h 0 (k*c) _ hc q]
  exact Upd.set h _ rfl
theorem OwnN.node{M W:Nat→Prop}{h:af}{b d n:Nat}{sp sk:SliceV}{s:Slots}{e:Option Addr}(o:OwnN M h b d n sp sk s e)(c:∀x,M x→¬W x):NodeAt W h b s:=by
 obtain⟨A,B,f,h2,g,i⟩:=o.ex;exact⟨⟨d,n,sp,sk,e,o.blk,o.bits,f.sl fun x hx _=>c _ (g x hx).1,h2.sl fun x hx _=>c _ (i x hx).1,f.cap,h2.cap⟩,c _ o.mb⟩
theorem Lc{W:Nat→Prop}{h:af}{b:Nat}{s:Slots}(nd:NodeAt W h b s){i:Nat}(hi:i<32){K:Bool→af→Prop}(e:K true h):HC PG mJ [.pointer (some ⟨b,0,none⟩),.int .i64 i] [.c .bool] K h:=by
 obtain⟨d,n,sp,sk,f,c,_⟩:=nd.ex;refine CC _ i ?_;unfold vO xZ;refine aX.2 ⟨_,rfl,_,hO (i:=4) c,aX.2 ?_⟩;refine av (fun _=>?_) fun h=>absurd (Int.natCast_nonneg i) h
 rw[decide_eq_true (by omega)];exact e
theorem NM{β:Type}{g:Nat→Option β}{i:Nat}{x y:Option β}:upd (upd g i x) i y=upd g i y:=by
 funext j;unfold upd;split<;>rfl
theorem wU{β:Type}{g:Nat→Option β}{i:Nat}{x:Option β}:upd g i x i=x:=by simp[upd]
theorem L8{W:Nat→Prop}{h:af}{b:Nat}{s:Slots}(nd:NodeAt W h b s)(hW:∀x,W x→x<h.size){i:Nat}(hi:i<32)(hx:∀y,s.p i=some y→s.k i=none)(p:Pr){K:Option Addr→af→Prop}
  (hk:∀h' b',NodeAt W h' b' ⟨upd s.p i (some p),upd s.k i none⟩→Upd No h h'→K (some ⟨b',0,none⟩) h'):
  HC PG kP [.pointer (some ⟨b,0,none⟩),.pointer none,.int .i64 i,.agg #[.string p.1,.string p.2]] [.c .ptr] K h:=by
 refine Ao _ none i p ?_;unfold tO cp lH cu tP ft cz cP jR uo Df sO;have k1:=Upd.hnew No h [.string p.1,.string p.2] ay;have b1:=c6 h [.string p.1,.string p.2] ay;refine dx ?_;simp only[eS h];generalize hnew h [.string p.1,.string p.2] ay=h1 at k1 b1;have z1:=bo b1;have X:=nd.upd k1 fun _ h=>h.elim
 refine Lc X hi (aH.2 ?_);refine QC X fun h2 d n sp sk o H=>?_
 have bits:=o.bits;obtain⟨A,B,hA,hB,q,I⟩:=o.ex;have F:=k1.tr H;have u:=H.get0 b1;have R:∀x,h1.size≤x→¬W x:=fun x hx V=>by have:=hW x V;omega
 refine⟨_,rfl,_,hO (i:=0) o.blk,JA bits.d32 hi ?_⟩;rw[bits.dp i hi];cases hp:s.p i with
 |some y=>
  refine aX.2 ⟨_,rfl,sp,hO (i:=2) o.blk,_,rfl,_,hO (i:=0) o.blk,p.1,by rw[dt,bP u];rfl,p.2,by rw[dt,bP u];rfl,?_⟩
  refine vv bits.d32 hi ⟨⟨by rw[dt,bP u];rfl,by rw[dt,bP u];rfl⟩,hO (i:=2) o.blk,?_⟩
  have hlt:=N9 hi bits.dp hp;obtain⟨a,ha,L,V,Y,m⟩:=OwnS.setAt hA hlt p;have hlen:=hA.len;refine⟨by omega,a,ha,?_⟩;rw[bN];refine⟨V,dx ?_⟩;rw[←Q7 hi bits.dp hp]at Y;have ob:=m.get o.blk fun e=>(q _ L).2.2.1 e.symm
  have z3:=m.size;have z:OwnN (fun x=>h1.size≤x) _ h1.size d n sp sk ⟨upd s.p i (some p),upd s.k i none⟩ none:=⟨ob,⟨bits.d32,bits.n32,fun c hc=>by
    rw[bits.dp c hc];simp only[upd];split
    ·rename_i e;rw[e,hp];rfl
    ·rfl,fun c hc=>by rw[bits.nk c hc,wV (hx y hp)]⟩,
   ⟨A,B,Y,by rw[wV (hx y hp)];exact hB.upd m fun x hx e=>(q _ L).2.1 (e▸hx),fun x hx=>⟨(q x hx).1,(q x hx).2.1,(q x hx).2.2.1,by have:=(q x hx).2.2.2;omega⟩,fun x hx=>⟨(I x hx).1,(I x hx).2.1,by have:=(I x hx).2.2;omega⟩⟩,o.mb⟩
  refine hk _ _ (z.node R) (F.trans m fun x hx=>.inr ?_)
  have:=(q _ L).1;have hx:x=a.block:=hx;omega
 |none=>
  refine aH.2 ⟨_,rfl,Oc o hi fun v d3 n3 D J z m=>?_⟩
  have f:=z.bits;obtain⟨A3,B3,hA3,hB3,j,k⟩:=z.ex;have z2:=H.size;have z3:=m.size;have E:=m.get u (show ¬h1.size≤h.size by omega)
  have P:Upd No h v:=F.trans m fun x hx=>.inr (dj (Nat.le_of_lt z1) hx)
  refine⟨_,rfl,D,hO (i:=2) z.blk,_,rfl,_,hO (i:=0) z.blk,p.1,by rw[dt,bP E];rfl,p.2,by rw[dt,bP E];rfl,?_⟩
  have O:=Upd.hnew No v [.string p.1,.string p.2] ay;have b4:=c6 v [.string p.1,.string p.2] ay;have z4:=gS v [.string p.1,.string p.2] ay;have N:=z.upd O fun _ h=>h.elim
  have fin:HC PG dh [.slice D.a D.len D.cap,.int .i64 (xf i d3),.slice (some (aI v)) 1 1] [.c .slice] (fun(G:SliceV) U=>
       ∃a34:Addr,some (⟨h1.size,0,none⟩:Addr)=some a34∧
       (Wr U (adr (adr a34 0) 2)∧
        At (hset U (adr (adr a34 0) 2) (.slice G.a G.len G.cap)) (fun T=>
         ∃a36:Addr,some (⟨h1.size,0,none⟩:Addr)=some a36∧
         ∃v37:Int,bj T (adr (adr a36 0) 0)=some (.int .u32 v37)∧
         HC PG fE [.int .u32 v37,.int .i64 i] [.c (.int .u32)] (fun(e38:Int) Z=>
          ∃a40:Addr,some (⟨h1.size,0,none⟩:Addr)=some a40∧
          (Wr Z (adr (adr a40 0) 0)∧
           At (hset Z (adr (adr a40 0) 0) (.int .u32 e38)) (fun h41=>
            K (some ⟨h1.size,0,none⟩) h41))) T))) (hnew v [.string p.1,.string p.2] ay):=by
   generalize hnew v [.string p.1,.string p.2] ay=h4 at O b4 z4 N;rw[eS v];have hA4:=(hA3.upd O fun _ _ h=>h).more (M':=fun x=>A3 x∨h4.size≤x) fun x hx=>.inl hx
   have hpn:(⟨upd s.p i none,upd s.k i none⟩:Slots).p i=none:=wU;refine MU hA4 (TL hi f.dp) (by have:=Is (g:=(⟨upd s.p i none,upd s.k i none⟩:Slots).p);omega) (x:=p) b4 (fun e=>e.elim (fun e=>by have:=(j _ e).2.2.2;omega) fun e=>by omega) (fun x hx=>.inr hx) fun s5 h5 S C=>?_
   rw[←Q8 hi f.dp hpn p]at S;have hbl:h1.size<v.size:=bo z.blk;have b5:=C.get N.blk fun e=>e.elim (fun e=>(j _ e).2.2.1 rfl) fun e=>by omega
   refine⟨_,rfl,SY (i:=2) b5 (show 2<6 by decide),Jo (i:=2) (c':=iC d3 n3 s5 J false none) b5 rfl fun h6 b6 hu6=>?_⟩
   refine⟨_,rfl,_,hO (i:=0) b6,NK f.d32 hi fun w V hwt=>?_⟩
   refine⟨_,rfl,SY (i:=0) b6 (show 0<6 by decide),Jo (i:=0) (c':=iC w n3 s5 J false none) b6 rfl fun h7 b7 hu7=>?_⟩
   have t:=hu6.tr hu7;have z5:=C.size;have z7:=t.size;have Q:=S.within;have e1:(⟨upd (⟨upd s.p i none,upd s.k i none⟩:Slots).p i (some p),upd s.k i none⟩:Slots)=⟨upd s.p i (some p),upd s.k i none⟩:=by rw[NM]
   have o7:OwnN (fun x=>h1.size≤x) h7 h1.size w n3 s5 J ⟨upd s.p i (some p),upd s.k i none⟩ none:=by
    rw[←e1];refine⟨b7,⟨V,f.n32,fun c hc=>?_,f.nk⟩,⟨fun x=>(A3 x∨h4.size≤x)∧x<h5.size,B3,Q.upd t fun x hx e=>?_,((hB3.upd O fun _ _ h=>h).upd C fun x hx e=>?_).upd t fun x hx e=>(k x hx).2.1 e,fun x hx=>⟨?_,?_,?_,by omega⟩,fun x hx=>⟨(k x hx).1,(k x hx).2.1,by have:=(k x hx).2.2;omega⟩⟩,o.mb⟩
    ·rw[hwt,f.dp c hc];simp only[upd];split<;>simp[*]
    ·have e:x=h1.size:=e
     rcases hx.1 with h|h
     ·exact(j x h).2.2.1 e
     ·omega
    ·rcases e with e|e
     ·exact(j x e).2.1 hx
     ·have:=(k x hx).2.2;omega
    ·rcases hx.1 with h|h
     ·exact(j x h).1
     ·omega
    ·rcases hx.1 with h|h
     ·exact(j x h).2.1
     ·exact fun hb=>by have:=(k x hb).2.2;omega
    ·rcases hx.1 with h|h
     ·exact(j x h).2.2.1
     ·omega
   refine hk _ _ (o7.node R) (((P.tr O).trans C fun x hx=>.inr ?_).trans t fun x hx=>.inr ?_)
   ·rcases hx with h|h
    ·have:=(j x h).1;omega
    ·omega
   ·have hx:x=h1.size:=hx
    omega
  refine⟨vv f.d32 hi ⟨⟨by rw[dt,bP E];rfl,by rw[dt,bP E];rfl⟩,hO (i:=2) z.blk,dx ⟨hO (i:=2) N.blk,fin⟩⟩,dx ⟨hO (i:=0) N.blk,hO (i:=2) N.blk,vv f.d32 hi ⟨hO (i:=2) N.blk,fin⟩⟩⟩
end Go.Proofs
namespace Go.Proofs
open Go.Lift
theorem OI{W:Nat→Prop}{h:af}{b:Nat}{s:Slots}(nd:NodeAt W h b s)(hW:∀x,W x→x<h.size){i:Nat}(hi:i<32)(hx:∀y,s.k i=some y→s.p i=none)(j:Addr){K:Option Addr→af→Prop}
  (hk:∀h' b',NodeAt W h' b' ⟨upd s.p i none,upd s.k i (some (some j))⟩→Upd No h h'→K (some ⟨b',0,none⟩) h'):
  HC PG lQ [.pointer (some ⟨b,0,none⟩),.pointer none,.int .i64 i,.pointer (some j)] [.c .ptr] K h:=by
 refine BB _ none i (some j) ?_;unfold vd cp cu tP ft cz uo sO U0;refine aH.2 ?_;refine Lc nd hi (aH.2 ?_);refine QC nd fun h2 d n sp sk o G=>?_
 have bits:=o.bits;obtain⟨A,B,hA,hB,u,t⟩:=o.ex;have Q:∀x,h.size≤x→¬W x:=fun x hx D=>by have:=hW x D;omega
 refine⟨_,rfl,_,hO (i:=1) o.blk,JA bits.n32 hi ?_⟩;rw[bits.nk i hi];cases hp:s.k i with
 |some y=>
  refine aX.2 ⟨_,rfl,sk,hO (i:=3) o.blk,_,rfl,_,hO (i:=1) o.blk,?_⟩;refine vv bits.n32 hi ⟨hO (i:=3) o.blk,?_⟩;have hlt:=N9 hi bits.nk hp;obtain⟨a,ha,H,D,U,p⟩:=OwnS.setAt hB hlt (some j);have hlen:=hB.len;refine⟨by omega,a,ha,?_⟩;rw[bN];have hw1:Wr h2 (adr a (xf i n*1)):=by
   rcases D with D|⟨b',Z,D⟩
   ·cases D
   ·cases Z;exact D 0 (by simp)
  refine⟨hw1,dx ?_⟩;rw[←Q7 hi bits.nk hp]at U;have ob:=p.get o.blk fun e=>(t _ H).2.1 e.symm
  have z3:=p.size;have z:OwnN (fun x=>h.size≤x) _ h.size d n sp sk ⟨upd s.p i none,upd s.k i (some (some j))⟩ none:=⟨ob,⟨bits.d32,bits.n32,fun c hc=>by rw[bits.dp c hc,wV (hx y hp)],fun c hc=>by
    rw[bits.nk c hc];simp only[upd];split
    ·rename_i e;rw[e,hp];rfl
    ·rfl⟩,
   ⟨A,B,by rw[wV (hx y hp)];exact hA.upd p fun x hx e=>(u _ hx).2.1 (e▸H),U,fun x hx=>⟨(u x hx).1,(u x hx).2.1,(u x hx).2.2.1,by have:=(u x hx).2.2.2;omega⟩,fun x hx=>⟨(t x hx).1,(t x hx).2.1,by have:=(t x hx).2.2;omega⟩⟩,o.mb⟩
  refine hk _ _ (z.node Q) (G.trans p fun x hx=>.inr ?_)
  have:=(t _ H).1;have hx:x=a.block:=hx;omega
 |none=>
  refine aH.2 ⟨_,rfl,Oc o hi fun v d3 n3 I E z p=>?_⟩
  have f:=z.bits;obtain⟨A3,B3,hA3,hB3,k,m⟩:=z.ex;have z2:=G.size;have z3:=p.size;have N:Upd No h v:=G.trans p fun x hx=>.inr hx
  refine⟨_,rfl,E,hO (i:=3) z.blk,_,rfl,_,hO (i:=1) z.blk,?_⟩;have L:=Upd.hnew No v [.pointer (some j)] bS;have b4:=c6 v [.pointer (some j)] bS;have z4:=gS v [.pointer (some j)] bS;have J:=z.upd L fun _ h=>h.elim
  have fin:HC PG cQ [.slice E.a E.len E.cap,.int .i64 (xf i n3),.slice (some (aI v)) 1 1] [.c .slice] (fun(F:SliceV) T=>
       ∃a34:Addr,some (⟨h.size,0,none⟩:Addr)=some a34∧
       (Wr T (adr (adr a34 0) 3)∧
        At (hset T (adr (adr a34 0) 3) (.slice F.a F.len F.cap)) (fun S=>
         ∃a36:Addr,some (⟨h.size,0,none⟩:Addr)=some a36∧
         ∃v37:Int,bj S (adr (adr a36 0) 1)=some (.int .u32 v37)∧
         HC PG fE [.int .u32 v37,.int .i64 i] [.c (.int .u32)] (fun(e38:Int) O=>
          ∃a40:Addr,some (⟨h.size,0,none⟩:Addr)=some a40∧
          (Wr O (adr (adr a40 0) 1)∧
           At (hset O (adr (adr a40 0) 1) (.int .u32 e38)) (fun Y=>
            K (some ⟨h.size,0,none⟩) Y))) S))) (hnew v [.pointer (some j)] bS):=by
   generalize hnew v [.pointer (some j)] bS=h4 at L b4 z4 J;rw[eS v];have V:=(hB3.upd L fun _ _ h=>h).more (M':=fun x=>B3 x∨h4.size≤x) fun x hx=>.inl hx
   have X:(⟨upd s.p i none,upd s.k i none⟩:Slots).k i=none:=wU;refine MV V (TL hi f.nk) (by have:=Is (g:=(⟨upd s.p i none,upd s.k i none⟩:Slots).k);omega) (x:=some j) b4 (fun e=>e.elim (fun e=>by have:=(m _ e).2.2;omega) fun e=>by omega) (fun x hx=>.inr hx) fun s5 h5 R C=>?_
   rw[←Q8 hi f.nk X (some j)]at R;have hbl:h.size<v.size:=bo z.blk;have b5:=C.get J.blk fun e=>e.elim (fun e=>(m _ e).2.1 rfl) fun e=>by omega
   refine⟨_,rfl,SY (i:=3) b5 (show 3<6 by decide),Jo (i:=3) (c':=iC d3 n3 I s5 false none) b5 rfl fun h6 b6 hu6=>?_⟩
   refine⟨_,rfl,_,hO (i:=1) b6,NK f.n32 hi fun w D hwt=>?_⟩
   refine⟨_,rfl,SY (i:=1) b6 (show 1<6 by decide),Jo (i:=1) (c':=iC d3 w I s5 false none) b6 rfl fun h7 b7 hu7=>?_⟩
   have q:=hu6.tr hu7;have z5:=C.size;have z7:=q.size;have P:=R.within;have e1:(⟨upd s.p i none,upd (⟨upd s.p i none,upd s.k i none⟩:Slots).k i (some (some j))⟩:Slots)=⟨upd s.p i none,upd s.k i (some (some j))⟩:=by rw[NM]
   have o7:OwnN (fun x=>h.size≤x) h7 h.size d3 w I s5 ⟨upd s.p i none,upd s.k i (some (some j))⟩ none:=by
    rw[←e1];refine⟨b7,⟨f.d32,D,f.dp,fun c hc=>?_⟩,⟨A3,fun x=>(B3 x∨h4.size≤x)∧x<h5.size,((hA3.upd L fun _ _ h=>h).upd C fun x hx e=>?_).upd q fun x hx e=>(k x hx).2.2.1 e,P.upd q fun x hx e=>?_,fun x hx=>⟨(k x hx).1,?_,(k x hx).2.2.1,by have:=(k x hx).2.2.2;omega⟩,fun x hx=>⟨?_,?_,by omega⟩⟩,o.mb⟩
    ·rw[hwt,f.nk c hc];simp only[upd];split<;>simp[*]
    ·rcases e with e|e
     ·exact(k x hx).2.1 e
     ·have:=(k x hx).2.2.2;omega
    ·have e:x=h.size:=e
     rcases hx.1 with h|h
     ·exact(m x h).2.1 e
     ·omega
    ·rintro⟨h|h,_⟩
     ·exact(k x hx).2.1 h
     ·have:=(k x hx).2.2.2;omega
    ·rcases hx.1 with h|h
     ·exact(m x h).1
     ·omega
    ·rcases hx.1 with h|h
     ·exact(m x h).2.1
     ·omega
   refine hk _ _ (o7.node Q) (((N.tr L).trans C fun x hx=>.inr ?_).trans q fun x hx=>.inr ?_)
   ·rcases hx with h|h
    ·exact(m x h).1
    ·omega
   ·have hx:x=h.size:=hx
    omega
  refine⟨vv f.n32 hi ⟨hO (i:=3) z.blk,dx ⟨hO (i:=3) J.blk,fin⟩⟩,dx ⟨hO (i:=1) J.blk,hO (i:=3) J.blk,vv f.n32 hi ⟨hO (i:=3) J.blk,fin⟩⟩⟩
end Go.Proofs
namespace Go.Proofs
open Go.Lift
theorem K8{h:af}{b d n:Nat}{sp sk:SliceV}{c:Bool}{e:Option Addr}(f:h[b]? =some (.cells (iC d n sp sk c e) bR (0,0))) {K:Bool→af→Prop} (g:K c h):HC PG nn [.pointer (some ⟨b,0,none⟩)] [.c .bool] K h:=by
 refine zf _ ?_;unfold sK xZ;exact aX.2 ⟨_,rfl,_,hO (i:=4) f,g⟩
structure BuckAt(W:Nat→Prop)(h:af)(b:Nat)(l:List Pr):Prop where
 ex:∃sp sk ow,h[b]? =some (.cells (iC 0 0 sp sk true ow) bR (0,0))∧Sl ga 2 W h sp l∧Sl vx 1 W h sk []∧sp.len≤sp.cap∧sk.len≤sk.cap
 nw:¬W b
theorem BuckAt.upd{W M:Nat→Prop}{h c:af}{b:Nat}{l:List Pr}(n:BuckAt W h b l)(k:Upd M h c)(hm:∀b,M b→W b∨h.size≤b):BuckAt W c b l:=by
 obtain⟨sp,sk,f,d,e,j,m,g⟩:=n.ex;exact⟨⟨sp,sk,f,k.get d (fun i=>(hm _ i).elim n.nw fun h=>by have:=bo d;omega),e.upd k hm,j.upd k hm,m,g⟩,n.nw⟩
end Go.Proofs
namespace Go.Proofs
open Go.Lift
set_option maxRecDepth 4000 in
theorem SW{W:Nat→Prop}{h:af}{b:Nat}{l:List Pr}(nd:BuckAt W h b l)(hn:l.length≤1000000000){K:Option Addr→af→Prop}
  (E:∀g sp sk,g[h.size]? =some (.cells (iC 0 0 sp sk true none) bR (0,0))→OwnS ga 2 ay (fun x=>h.size<x∧x<g.size) g sp l→OwnS vx 1 bS (fun x=>h.size<x∧x<g.size) g sk []→Upd No h g→K (some ⟨h.size,0,none⟩) g):
  HC PG jY [.pointer (some ⟨b,0,none⟩),.pointer none] [.c .ptr] K h:=by
 obtain⟨sp,sk,n,d,B,H,S,Q⟩:=nd.ex;refine ye _ none ?_;unfold tk nv cu ft cz bZ xZ uo PP TV;refine H9 (aH.2 ?_);have c:∀{h:af} {b:Nat} {c:Array Value} {i:Nat},h[b]? =some (.cells c bR (0,0))→bj h ⟨b,0+i,none⟩=c[i]?:=fun d=>by rw[bi];exact bP d
 refine⟨_,rfl,_,c (i:=0) d,_,c (i:=1) d,sp,c (i:=2) d,sk,c (i:=3) d,_,c (i:=4) d,_,c (i:=5) d,?_⟩;have k1:=Upd.hnew No h [.int .u32 0,.int .u32 0,.slice none 0 0,.slice none 0 0,.bool false,.pointer none] bR;have b1:=c6 h [.int .u32 0,.int .u32 0,.slice none 0 0,.slice none 0 0,.bool false,.pointer none] bR;refine dx ?_;simp only[eS h];generalize hnew h [.int .u32 0,.int .u32 0,.slice none 0 0,.slice none 0 0,.bool false,.pointer none] bR=h1 at k1 b1
 have z:jK h1 ⟨h.size,0,none⟩ 0 [.int .u32 ((0:Nat):Int),.int .u32 ((0:Nat):Int),.slice sp.a sp.len sp.cap,.slice sk.a sk.len sk.cap,.bool true,.pointer n]=_:=jq _ h1 0 0 _ b1 (by simp);refine⟨.inr ⟨_,rfl,fun j U=>by rw[dt];exact gI b1 (by simp at U⊢;omega)⟩,dx ?_⟩
 rw[z];have b2:=fe (o:=.cells (iC 0 0 sp sk true n) bR (0,0)) b1;have u:Upd No h _:=k1.trans (M':=(· =h.size)) (Upd.set h1 (.cells (iC 0 0 sp sk true n) bR (0,0)) rfl) fun x hx=>.inr (kj hx.symm)
 have A:h.size<(h1.setIfInBounds h.size (.cells (iC 0 0 sp sk true n) bR (0,0))).size:=bo b2;have R:h.size≠b:=fun e=>by have:=bo d;omega
 have T:(Obj.cells (List.take (0+0) [Value.int .u32 0,.int .u32 0,.slice none 0 0,.slice none 0 0,.bool false,.pointer none]++ [Value.int .u32 ((0:Nat):Int),.int .u32 ((0:Nat):Int),.slice sp.a sp.len sp.cap,.slice sk.a sk.len sk.cap,.bool true,.pointer n]++List.drop (0+0+ [Value.int .u32 ((0:Nat):Int),.int .u32 ((0:Nat):Int),.slice sp.a sp.len sp.cap,.slice sk.a sk.len sk.cap,.bool true,.pointer n].length) [Value.int .u32 0,.int .u32 0,.slice none 0 0,.slice none 0 0,.bool false,.pointer none]).toArray bR (0,0))=.cells (iC 0 0 sp sk true n) bR (0,0):=rfl
 rw[T];generalize h1.setIfInBounds h.size (.cells (iC 0 0 sp sk true n) bR (0,0))=h2 at b2 u A;have q:=u.get0 d;refine⟨_,rfl,sp,c (i:=2) q,_,rfl,sk,c (i:=3) q,?_⟩;refine Dv (B.upd u fun _ h=>h.elim) (by omega) fun y h3 L m=>?_
 refine⟨c (i:=3) (m.get0 q),?_⟩;refine IB ((H.upd u fun _ h=>h.elim).upd m fun _ h=>h.elim) (by simp) fun G h4 D p=>?_
 have P:=p.get0 (m.get0 b2);have s:=L.within.upd p fun _ _ h=>h
 have t:=D.within;have z3:=m.size;have z4:=p.size;have w:∀{h:af} {c:Array Value} {x i:Nat},h[x]? =some (.cells c bR (0,0))→i<c.size→Wr h ⟨x,0+i,none⟩:=fun d hi=>by rw[bi];exact gI d hi
 have st:∀{h:af} {c c':Array Value} {x i:Nat} {v:Value} {k:af→Prop},h[x]? =some (.cells c bR (0,0))→c.setIfInBounds i v=c'→(∀g,g[x]? =some (.cells c' bR (0,0))→Upd (· =x) h g→k g)→At (hset h ⟨x,i,none⟩ v) k:=fun d e E=>Bv d fun g C X=>E g (e▸C) X
 refine⟨w (i:=2) P (show 2<6 by decide),st (i:=2) (c':=iC 0 0 y sk true n) P rfl fun Z N J=>?_⟩
 refine⟨w (i:=3) N (show 3<6 by decide),st (i:=3) (c':=iC 0 0 y G true n) N rfl fun h6 O I=>?_⟩
 refine⟨w (i:=5) O (show 5<6 by decide),st (i:=5) (c':=iC 0 0 y G true none) O rfl fun h7 V F=>?_⟩
 refine FL (aH.2 ?_);have f:=J.tr (I.tr F);have Y:=f.size;refine E _ y G V ((s.upd f fun x hx e=>?_).more fun x hx=>?_) ((t.upd f fun x hx e=>?_).more fun x hx=>?_) ?_
 ·have e:x=h.size:=e;omega
 ·omega
 ·have e:x=h.size:=e;omega
 ·omega
 ·exact((u.tr m).tr p).trans f fun x hx=>.inr (kj hx.symm)
theorem Tp{W:Nat→Prop}{h:af}{b:Nat}{l:List Pr}(A:BuckAt W h b l)(q:∀x,W x→x<h.size)(E:mL l)(w:l.length≤1000000000)(p:Pr){K:Option Addr→af→Prop}
  (D:∀h' b',BuckAt W h' b' (Jt l p)→Upd No h h'→K (some ⟨b',0,none⟩) h'):
  HC PG sY [.pointer (some ⟨b,0,none⟩),.pointer none,.agg #[.string p.1,.string p.2]] [.c .ptr] K h:=by
 refine EJ _ none p ?_;unfold yl cu cz cP uo Df tQ;have k1:=Upd.hnew No h [.string p.1,.string p.2] ay;have b1:=c6 h [.string p.1,.string p.2] ay;refine dx ?_;simp only[eS h];generalize hnew h [.string p.1,.string p.2] ay=h1 at k1 b1;have O:=bo b1;have j:=A.upd k1 fun _ h=>h.elim
 obtain⟨sp,sk,J,I,z,F,B,y⟩:=j.ex;refine K8 I (aH.2 ?_);refine SW j w fun h2 G s b2 v t c=>?_
 have g:=c.get0 b1;refine⟨_,rfl,G,hO (i:=2) b2,p.1,by rw[dt,bP g];rfl,p.2,by rw[dt,bP g];rfl,?_⟩
 refine ME (v.sl fun _ _ _ h=>h) v.cap E w p fun u L m f=>?_
 have b3:=f.get0 b2;refine⟨_,rfl,SY (i:=2) b3 (show 2<6 by decide),Jo (i:=2) (c':=iC 0 0 u s true none) b3 rfl fun C H d=>?_⟩
 have N:=bo b2;have o:=m.upd d fun x hx e=>by have e:x=h1.size:=e;omega
 have n:=(t.upd f fun _ _ h=>h).upd d fun x hx e=>by have e:x=h1.size:=e;omega
 refine D C h1.size ⟨⟨u,s,none,H,o.sl fun x hx _ k=>?_,n.sl fun x hx _ k=>?_,m.cap,t.cap⟩,fun k=>?_⟩ (((k1.tr c).tr f).trans d fun x hx=>.inr ?_)
 ·have:=q x k;have:=c.size;omega
 ·have:=q x k;omega
 ·have:=q _ k;omega
 ·have hx:x=h1.size:=hx
  omega
theorem Pn{W:Nat→Prop}{h:af}(b:∀x,W x→x<h.size){K:Option Addr→af→Prop}(c:∀h' b',BuckAt W h' b' []→Upd No h h'→K (some ⟨b',0,none⟩) h'):HC PG ws [] [.c .ptr] K h:=by
 refine Hr ?_;unfold AM;exact c _ _ ⟨⟨⟨none,0,0⟩,⟨none,0,0⟩,none,c6 h _ _,Sl.nil oo,Sl.nil uv,aq _,aq _⟩,fun hx=>jo _ (b _ hx)⟩ (Upd.hnew No h _ _)
theorem Cd{W:Nat→Prop}{h:af}(e:∀x,W x→x<h.size){K:Option Addr→af→Prop}(f:∀h' b',NodeAt W h' b' ⟨fun _=>none,fun _=>none⟩→Upd No h h'→K (some ⟨b',0,none⟩) h'):HC PG tY [] [.c .ptr] K h:=by
 refine JY ?_;unfold CR PP;have d:fm (fun _=>(none:Option Pr)) 32= []:=by simp[fm]
 have b:fm (fun _=>(none:Option (Option Addr))) 32= []:=by simp[fm]
 refine f _ _ ⟨⟨0,0,⟨none,0,0⟩,⟨none,0,0⟩,none,c6 h _ _,⟨by decide,by decide,fun c _=>by simp,fun c _=>by simp⟩,?_,?_,aq _,aq _⟩,fun hx=>jo _ (e _ hx)⟩ (Upd.hnew No h _ _)
 ·show Sl ga 2 W _ _ (fm (fun _=>none) 32)
  rw[d];exact Sl.nil oo
 ·show Sl vx 1 W _ _ (fm (fun _=>none) 32)
  rw[b];exact Sl.nil uv
end Go.Proofs
namespace Go.Proofs
open Go.Lift
def wh(p:Pr):List Pr→List Pr
 | []=> [p]
 |q::l=>if kl q.1 p.1 then q::wh p l else if q.1=p.1 then p::l else p::q::l
theorem Dk(p q:Pr)(l:List Pr):wh p (q::l)=if kl q.1 p.1 then q::wh p l else if q.1=p.1 then p::l else p::q::l:=rfl
theorem N7(p:Pr):∀{l:List Pr},mL l→Jt l p=wh p l
 | [],_=>by simp[Jt,wh,pos,oI]
 |q::l,f=>by
  have f:=bB.1 f;unfold wh;have b:pos (q::l) p.1=if kl q.1 p.1 then pos l p.1+1 else 0:=by
   unfold pos;rw[List.takeWhile_cons];by_cases h:kl q.1 p.1
   ·rw[if_pos (by simpa using h),if_pos h];rfl
   ·rw[if_neg (by simpa using h),if_neg h];rfl
  have d:oI (q::l) p.1=(decide (q.1=p.1)||oI l p.1):=by unfold oI;rw[List.any_cons]
  by_cases h:kl q.1 p.1
  ·have k:q.1≠p.1:=fun e=>by rw[e]at h;exact fH _ h
   rw[if_pos h,←N7 p f.2];unfold Jt;rw[d,b,if_pos h,decide_eq_false k,Bool.false_or];by_cases c:oI l p.1=true
   ·rw[if_pos c,if_pos c];rfl
   ·rw[if_neg c,if_neg c];rfl
  ·rw[if_neg h]
   unfold Jt;rw[d,b,if_neg h];by_cases e:q.1=p.1
   ·rw[if_pos e,decide_eq_true e,Bool.true_or,if_pos rfl];rfl
   ·have g:=yK h e
    have c:oI l p.1=false:=by
     unfold oI;rw[List.any_eq_false];intro r j i;have i:=of_decide_eq_true i;have:=f.1 r j;rw[i]at this;exact fH _ (m9 g this)
    rw[if_neg e,decide_eq_false e,c];rfl
theorem KZ{p q:Pr}:∀{l:List Pr},q∈wh p l→q=p∨q∈l
 | [],h=>by simp[wh]at h;exact .inl h
 |r::l,h=>by
  unfold wh at h;split at h
  ·rcases au.1 h with h|h
   ·exact .inr (h▸aN ..)
   ·exact(KZ h).imp id fun h=>aR _ h
  ·split at h
   ·rcases au.1 h with h|h
    ·exact .inl h
    ·exact .inr (aR _ h)
   ·rcases au.1 h with h|h
    ·exact .inl h
    ·exact .inr h
theorem HW(p:Pr):∀{l:List Pr},mL l→mL (wh p l)
 | [],_=>List.pairwise_singleton ..
 |q::l,b=>by
  have d:=b;have b:=bB.1 b;unfold wh;split
  ·rename_i h
   refine bB.2 ⟨fun r hm=>?_,HW p b.2⟩
   rcases KZ hm with rfl|hm
   ·exact h
   ·exact b.1 r hm
  ·rename_i h
   split
   ·rename_i e
    exact bB.2 ⟨fun r hm=>e▸b.1 r hm,b.2⟩
   ·rename_i e
    have c:=yK h e;refine bB.2 ⟨fun r hm=>?_,d⟩
    rcases au.1 hm with rfl|hm
    ·exact c
    ·exact m9 c (b.1 r hm)
def ck(x:Hs)(b:Nat)(k:ByteArray):Nat:=((j5 x k).toNat>>>(5*b))%32
theorem VF(x:Hs)(b:Nat)(k:ByteArray):ck x b k<32:=rS _ (by omega)
def part(x:Hs)(b c:Nat)(l:List Pr):List Pr:=l.filter fun p=>decide (ck x b p.1=c)
def TrieAt(W:Nat→Prop)(x:Hs)(h:af):Nat→Nat→List Pr→Prop
 |0,b,l=>BuckAt W h b l
 |m+1,b,l=>∃s,NodeAt W h b s∧∀c,c<32→
  ((part x (12-m) c l= []∧s.p c=none∧s.k c=none)∨(∃p,part x (12-m) c l= [p]∧s.p c=some p∧s.k c=none)∨
   (2≤(part x (12-m) c l).length∧s.p c=none∧∃kb,s.k c=some (some ⟨kb,0,none⟩)∧TrieAt W x h m kb (part x (12-m) c l)))
theorem TrieAt.upd0{W:Nat→Prop}{x:Hs}{h e:af}(k:Upd No h e):∀{m b:Nat} {l:List Pr},TrieAt W x h m b l→TrieAt W x e m b l
 |0,_,_,t=>BuckAt.upd t k fun _ h=>h.elim
 |m+1,_,_,⟨s,nd,hc⟩=>⟨s,nd.upd k fun _ h=>h.elim,fun c d=>(hc c d).imp id fun o=>o.imp id fun⟨j,h2,f,g,i⟩=>⟨j,h2,f,g,TrieAt.upd0 k i⟩⟩
theorem NodeAt.less{W W':Nat→Prop}{h:af}{b:Nat}{s:Slots}(n:NodeAt W h b s)(hm:∀b,W' b→W b∨h.size≤b):NodeAt W' h b s:=by
 obtain⟨d,m,sp,sk,f,c,h2,e,i,j,g⟩:=n.ex;exact⟨⟨d,m,sp,sk,f,c,h2,e.less hm,i.less hm,j,g⟩,fun hx=>(hm _ hx).elim n.nw fun h=>by have:=bo c;omega⟩
theorem BuckAt.less{W W':Nat→Prop}{h:af}{b:Nat}{l:List Pr}(n:BuckAt W h b l)(hm:∀b,W' b→W b∨h.size≤b):BuckAt W' h b l:=by
 obtain⟨sp,sk,e,c,d,g,i,f⟩:=n.ex;exact⟨⟨sp,sk,e,c,d.less hm,g.less hm,i,f⟩,fun hx=>(hm _ hx).elim n.nw fun h=>by have:=bo c;omega⟩
theorem TrieAt.less{W W':Nat→Prop}{x:Hs}{h:af}(hm:∀b,W' b→W b∨h.size≤b):∀{m b:Nat} {l:List Pr},TrieAt W x h m b l→TrieAt W' x h m b l
 |0,_,_,t=>BuckAt.less t hm
 |m+1,_,_,⟨s,nd,hc⟩=>⟨s,nd.less hm,fun c d=>(hc c d).imp id fun o=>o.imp id fun⟨i,h2,e,f,g⟩=>⟨i,h2,e,f,TrieAt.less hm g⟩⟩
theorem TrieAt.updM{W M:Nat→Prop}{x:Hs}{h e:af}(k:Upd M h e)(hm:∀b,M b→W b∨h.size≤b):∀{m b:Nat} {l:List Pr},TrieAt W x h m b l→TrieAt W x e m b l
 |0,_,_,t=>BuckAt.upd t k hm
 |m+1,_,_,⟨s,nd,hc⟩=>⟨s,nd.upd k hm,fun c d=>(hc c d).imp id fun o=>o.imp id fun⟨j,h2,f,g,i⟩=>⟨j,h2,f,g,TrieAt.updM k hm i⟩⟩
end Go.Proofs
namespace Go.Proofs
open Go.Lift
theorem UL(a b:Nat):(ao (ai .u64) (a:Int)&&&ao (ai .u64) (b:Int)).toNat=(a%18446744073709551616)&&&(b%18446744073709551616):=by
 simp[ai,BitVec.toNat_and,BitVec.toNat_ofInt];rfl
theorem VH{hv:Int}(g:0≤hv∧hv<18446744073709551616){b:Nat}(i:b<13){h:af}{K:Int→af→Prop}(d:K (((hv.toNat>>>(5*b))%32:Nat):Int) h):HC PG xL [.int .u64 hv,.int .i64 b] [.c (.int .i64)] K h:=by
 refine Nv hv b ?_;unfold GO;refine Join.plain (av (fun h=>by omega) fun _=>?_)
 rw[decide_eq_false (by omega)];refine aH.2 ?_;have f:ac .i64 (5*(b:Int))=((5*b:Nat):Int):=by rw[dW (by omega)];omega
 rw[f];have em:min (((5*b:Nat):Int)).toNat (ai .u64)=5*b:=by rw[bN];exact cC (by show 5*b≤64;omega)
 rw[em];obtain⟨n,rfl⟩:=Int.eq_ofNat_of_zero_le g.1;rw[bN]at d;simp only[Bd];rw[uz];have c:n>>>(5*b)<18446744073709551616:=Nat.lt_of_le_of_lt (Nat.shiftRight_le _ _) (by omega);have e:=UL (n>>>(5*b)) 31;rw[Nat.mod_eq_of_lt c,show((31:Nat):Int)=(31:Int)from rfl,show 31%18446744073709551616=2^5-1 from rfl,Nat.and_two_pow_sub_one_eq_mod]at e
 rw[e];have hm:n>>>(5*b)%2^5<32:=rS _ (by omega);rw[Go.IntWalk.u64_in _ (by omega),dW (by omega)];exact⟨by omega,d⟩
theorem Wx{x:Hs}{k:ByteArray}{b:Nat}(d:b<13){h:af}{K:Int→af→Prop}(c:K (ck x b k:Int) h):HC PG xL [.int .u64 (j5 x k),.int .i64 b] [.c (.int .i64)] K h:=VH (Lf x k) d c
theorem QA{x:Hs}{b c:Nat}{l:List Pr}(h:∀p∈l,ck x b p.1=c):part x b c l=l:=List.filter_eq_self.2 fun p d=>decide_eq_true (h p d)
theorem Ca{x:Hs}{b c:Nat}{l:List Pr}(h:∀p∈l,ck x b p.1≠c):part x b c l= []:=List.filter_eq_nil_iff.2 fun p d=>by simpa using h p d
theorem zN{β:Type}{g:Nat→Option β}{i c:Nat}{x:Option β}(h:c≠i):upd g i x c=g c:=by unfold upd;rw[if_neg h]
end Go.Proofs
namespace Go.Proofs
open Go.Lift
noncomputable instance memDec (p:Pr) (l:List Pr):Decidable (p∈l):=Classical.propDecidable _
theorem QK{x:Hs}{b c:Nat}{l:List Pr}{p:Pr}:p∈part x b c l↔p∈l∧ck x b p.1=c:=by unfold part;rw[List.mem_filter,decide_eq_true_iff]
theorem Mj{x:Hs}{b c:Nat}{l:List Pr}(d:mL l):mL (part x b c l):=d.sublist List.filter_sublist
def SlotIs(W:Nat→Prop)(x:Hs)(h:af)(m:Nat)(s:Slots)(c:Nat)(l:List Pr):Prop:=
 (l= []∧s.p c=none∧s.k c=none)∨(∃p,l= [p]∧s.p c=some p∧s.k c=none)∨(2≤l.length∧s.p c=none∧∃kb,s.k c=some (some ⟨kb,0,none⟩)∧TrieAt W x h m kb l)
theorem SlotIs.upd0{W:Nat→Prop}{x:Hs}{h b:af}{m:Nat}{s:Slots}{c:Nat}{l:List Pr}(k:Upd No h b)(t:SlotIs W x h m s c l):SlotIs W x b m s c l:=t.imp id fun o=>o.imp id fun⟨g,h2,d,e,f⟩=>⟨g,h2,d,e,TrieAt.upd0 k f⟩
theorem Ls{a b:ByteArray}:(a.toList==b.toList)=decide (a=b):=by
 rw[Bool.eq_iff_iff,beq_iff_eq,decide_eq_true_iff,Dw]
end Go.Proofs
namespace Go.Proofs
open Go.Lift
theorem P4{W:Nat→Prop}{x:Hs}{h:af}{m b:Nat}(nd:NodeAt W h b ⟨fun _=>none,fun _=>none⟩):TrieAt W x h (m+1) b []:=⟨_,nd,fun _ _=>.inl ⟨rfl,rfl,rfl⟩⟩
def RootAt(W:Nat→Prop)(x:Hs)(h:af)(r:Option Addr)(l:List Pr):Prop:=(r=none∧l= [])∨∃b,r=some ⟨b,0,none⟩∧TrieAt W x h 13 b l
theorem RootAt.upd0{W:Nat→Prop}{x:Hs}{h c:af}{r:Option Addr}{l:List Pr}(k:Upd No h c)(t:RootAt W x h r l):RootAt W x c r l:=t.imp id fun⟨b,e,t⟩=>⟨b,e,TrieAt.upd0 k t⟩
theorem eE{h:af}{b:Nat}{t:TypeId}{c vs:List Value}(d:h[b]? =some (.cells c.toArray t (0,0))) (f:vs.length=c.length) {k:af→Prop}
  (g:∀h',h'[b]? =some (.cells vs.toArray t (0,0))→Upd (· =b) h h'→k h'):yr h (some ⟨b,0,none⟩) 0 vs∧At (jK h ⟨b,0,none⟩ 0 vs) k:=by
 have e:=jq vs h 0 0 c d (by omega);refine⟨.inr ⟨_,rfl,fun j i=>by rw[dt];exact gI d (by rw[dE];omega)⟩,dx ?_⟩
 rw[e];refine g _ ?_ (Upd.set h _ rfl);rw[fe d];congr 3
 simp[f]
end Go.Proofs
namespace Go.Proofs
open Go.Lift
abbrev yq(b:UInt8):List Value:= [.int .u8 (b.toNat:Int)]
theorem uS(b:UInt8):(yq b).length=1∧0<1:=⟨rfl,Nat.one_pos⟩
theorem Jm:∀xs:List UInt8,cI (xs.flatMap yq)=true
 | []=>rfl
 |x::xs=>by rw[cy];exact nO rfl (Jm xs)
theorem Lr(s:ByteArray):eo s=s.data.toList.flatMap yq:=by
 unfold eo;generalize s.data.toList=l;induction l with
 |nil=>rfl
 |cons b l ih=>rw[List.map_cons,cy,ih];rfl
theorem RY{M:Nat→Prop}{h:af}{so:SliceV}{out:List UInt8}{v:Int}{b:UInt8}(hv:v=(b.toNat:Int)){K:SliceV→af→Prop}(e:OwnS yq 1 lI M h so out)(hM:∀b,h.size≤b→M b)(j:out.length+1≤140737488355328)
  (f:∀s' c,OwnS yq 1 lI M c s' (out++ [b])→Upd M h c→K s' c):
  ∃xs,SRow (hnew h [.int .u8 v] lI) (some (aI h)) (1*1) xs∧AppP (some [.int .u8 0]) 1 1 lI so.a so.len so.cap 1 xs (hnew h [.int .u8 v] lI) K:=by
 subst hv;have k:=Upd.hnew No h [.int .u8 (b.toNat:Int)] lI;have g:OwnS yq 1 lI (fun _=>True) (hnew h [.int .u8 (b.toNat:Int)] lI) ⟨some (aI h),1,1⟩ [b]:=⟨rfl,uS,aq _,.inr ⟨h.size,[],rfl,trivial,c6 ..,rfl⟩⟩
 refine⟨_,(g.sl (W:=No) fun _ _ _ h=>h).srow,?_⟩
 refine AppP.own (ys:= [b]) (e.upd k fun _ _ h=>h) rfl rfl rfl rfl (by omega) (by simp only[aQ];omega) (hM _ (by rw[gS];omega)) fun s' c d i=>?_
 exact f s' c d ((Upd.hnew M h _ _).tr i)
end Go.Proofs
namespace Go.Proofs
open Go Go.Lift
def wY:Nat→Nat→List UInt8→Option (Nat×Nat)
 |_,_,[]=>none
 |i,n,b::p=>if(i=9∧1<b.toNat)∨(b.toNat=0∧0<i)then none
  else if b.toNat<128 then some (n+b.toNat*128^i,i+1)else wY (i+1) (n+(b.toNat-128)*128^i) p
def pE:List UInt8→Nat
 | []=>0
 |b::p=>if 127<b.toNat then pE p+1 else 0
def BP:List UInt8→Nat
 | []=>0
 |b::p=>b.toNat%128+128*BP p
theorem Ta(p:List UInt8):pE p≤p.length:=by
 induction p with
 |nil=>exact aq _
 |cons b p ih=>unfold pE;split<;>simp<;>omega
theorem S0:∀(p:List UInt8) (i n:Nat),i≤9→wY i n p=
  (if p.length≤min (pE p) (9-i)∨(i+min (pE p) (9-i)=9∧1<(p.getD (min (pE p) (9-i)) 0).toNat)∨(0<i+min (pE p) (9-i)∧(p.getD (min (pE p) (9-i)) 0).toNat=0)
   then none else some (n+128^i*BP (p.take (min (pE p) (9-i)+1)),i+min (pE p) (9-i)+1)):=by
 intro p;induction p with
 |nil=>intro i n _;simp[wY]
 |cons b p ih=>
  intro i n hi;have j:=b.toNat_lt;unfold wY;by_cases h:127<b.toNat
  ·have e:pE (b::p)=pE p+1:=by simp[pE,h]
   rw[e];by_cases f:i=9
   ·subst f
    have c:min (pE p+1) (9-9)=0:=by omega
    rw[if_pos (Or.inl ⟨rfl,by omega⟩),c,if_pos (Or.inr (Or.inl ⟨rfl,by show 1<b.toNat;omega⟩))]
   ·have em:min (pE p+1) (9-i)=min (pE p) (9-(i+1))+1:=by omega
    rw[if_neg (by omega),if_neg (by omega),ih (i+1) _ (by omega),em];have d:i+(min (pE p) (9-(i+1))+1)=i+1+min (pE p) (9-(i+1)):=by omega
    rw[d];simp only[ax,List.getD_cons_succ,kS,BP,Nat.add_le_add_iff_right];have g:n+(b.toNat-128)*128^i+128^(i+1)*BP (List.take (min (pE p) (9-(i+1))+1) p)=n+128^i*(b.toNat%128+128*BP (List.take (min (pE p) (9-(i+1))+1) p)):=by
     have hm:b.toNat%128=b.toNat-128:=by omega
     rw[hm,Nat.mul_add,lW,ig (b.toNat-128),Nat.mul_assoc];omega
    rw[g]
  ·have e:pE (b::p)=0:=by simp[pE,h]
   rw[e];have hm:b.toNat%128=b.toNat:=by omega
   simp only[Nat.zero_min,ax,List.getD_cons_zero,kS,List.take_zero,BP,ii,Nat.mul_zero,hm];by_cases hc:(i=9∧1<b.toNat)∨(b.toNat=0∧0<i)
   ·rw[if_pos hc,if_pos (by omega)]
   ·rw[if_neg hc,if_pos (by omega),if_neg (by omega),ig]
theorem zU:∀(p:List UInt8) (i n:Nat),i≤9→n<128^i→∀{m k:Nat},wY i n p=some (m,k)→i<k∧k≤i+p.length∧m<18446744073709551616:=by
 intro p;induction p with
 |nil=>intro i n _ _ m k h;cases h
 |cons b p ih=>
  intro i n hi g m k h;have f:=b.toNat_lt;unfold wY at h;split at h
  ·cases h
  ·rename_i hc
   split at h
   ·rename_i h1
    cases h;refine⟨by omega,by rw[ax];omega,?_⟩
    have d:i=9→b.toNat≤1:=by omega
    rcases Nat.lt_or_ge i 9 with e|e
    ·have h2:128^(i+1)≤128^9:=Nat.pow_le_pow_right (by omega) (by omega)
     have c:b.toNat*128^i≤127*128^i:=dD _ (by omega);rw[lW]at h2;omega
    ·have:i=9:=by omega
     subst this;have:=d rfl;have c:b.toNat*128^9≤1*128^9:=dD _ this;omega
   ·rename_i h1
    have d:i≠9:=by omega
    have c:(b.toNat-128)*128^i≤127*128^i:=dD _ (by omega);have:=ih (i+1) _ (by omega) (by rw[lW];omega) h;simp only[ax];omega
abbrev eK:=List UInt8×Int
def dX(s:eK):Nat×eK:=if s.2=0 then(match wY 0 0 s.1 with|some (n,k)=>(n,s.1.drop k,0)|none=>(0,s.1,9))else(0,s)
def dA(e:Int)(s:eK):eK:=if s.2=0 then(s.1,e)else s
def fV(n:Nat)(s:eK):List UInt8×eK:=if s.2=0 then(if s.1.length<n then([],s.1,9)else(s.1.take n,s.1.drop n,0))else([],s)
def aS(s:eK):Nat×eK:=(((fV 1 s).1.getD 0 0).toNat,(fV 1 s).2)
def xF:List UInt8→Nat
 | []=>0
 |b::p=>b.toNat+256*xF p
def kK(s:eK):Nat×eK:=(xF (fV 8 s).1,(fV 8 s).2)
def Sw(l:List UInt8):ByteArray:=⟨l.toArray⟩
def dg(c:Nat)(b:Int)(s:eK):ByteArray×eK:=
 if s.2=0 then(match wY 0 0 s.1 with
  |none=>(⟨#[]⟩,s.1,9)
  |some (n,k)=>if c<n then(⟨#[]⟩,s.1,b)else if s.1.length-k<n then(⟨#[]⟩,s.1,9)else(Sw ((s.1.drop k).take n),s.1.drop (k+n),0))
 else(⟨#[]⟩,s)
def Ai(s:eK):eK:=if 0<s.1.length then dA 9 s else s
def bd(b:Nat)(s:eK):Nat×eK:=if b<(dX s).1 then(0,dA 9 (dX s).2)else dX s
def Go1(s t:eK):Prop:=t.1.length≤s.1.length∧(s.2≠0→t=s)
theorem Go1.refl(s:eK):Go1 s s:=⟨aq _,fun _=>rfl⟩
theorem Go1.trans{a b c:eK}(h:Go1 a b)(k:Go1 b c):Go1 a c:=
 ⟨dj k.1 h.1,fun e=>by have:=h.2 e;subst this;exact k.2 e⟩
theorem ut{e:Int}(s:eK):Go1 s (dA e s):=by
 unfold dA;split
 ·exact⟨aq _,fun h=>absurd (‹_›) h⟩
 ·exact Go1.refl s
theorem jH(s:eK):Go1 s (dX s).2:=by
 unfold dX;split
 ·refine⟨?_,fun h=>absurd (‹_›) h⟩
  split
  ·simp
  ·exact aq _
 ·exact Go1.refl s
theorem Fx(n:Nat)(s:eK):Go1 s (fV n s).2:=by
 unfold fV;split
 ·refine⟨?_,fun h=>absurd (‹_›) h⟩
  split
  ·exact aq _
  ·simp
 ·exact Go1.refl s
theorem B8(c:Nat)(b:Int)(s:eK):Go1 s (dg c b s).2:=by
 unfold dg;split
 ·refine⟨?_,fun h=>absurd (‹_›) h⟩
  split
  ·exact aq _
  ·split
   ·exact aq _
   ·split
    ·exact aq _
    ·simp
 ·exact Go1.refl s
theorem eJ(b:Nat)(s:eK):Go1 s (bd b s).2:=by
 unfold bd;split
 ·exact(jH s).trans (ut _)
 ·exact jH s
theorem zR(s:eK):(dX s).1<18446744073709551616:=by
 unfold dX;split
 ·split
  ·rename_i n k e;exact(zU _ 0 0 (by omega) (by simp) e).2.2
  ·simp
 ·simp
theorem lc(b:Nat)(s:eK):(bd b s).1≤b:=by
 unfold bd;split
 ·exact bJ _
 ·omega
def gl(l:List Pr)(s:eK):List Pr×eK:=
 (l++ [((dg 256 2 s).1,(dg 4096 3 (dg 256 2 s).2).1)],
  match l.getLast? with
  |some q=>if Op.bytesLess q.1.toList (dg 256 2 s).1.toList then(dg 4096 3 (dg 256 2 s).2).2 else dA 13 (dg 4096 3 (dg 256 2 s).2).2
  |none=>(dg 4096 3 (dg 256 2 s).2).2)
def rC:Nat→List Pr→eK→List Pr×eK
 |0,l,s=>(l,s)
 |n+1,l,s=>if s.2=0 then rC n (gl l s).1 (gl l s).2 else(l,s)
def jh(s:eK):List Pr×eK:=rC (dX s).1 [] (dX s).2
def m0{α:Type}(f:eK→α×eK):Nat→List α→eK→List α×eK
 |0,l,s=>(l,s)
 |n+1,l,s=>if s.2=0 then m0 f n (l++ [(f s).1]) (f s).2 else(l,s)
def lw{α:Type}(f:eK→α×eK)(s:eK):List α×eK:=m0 f (dX s).1 [] (dX s).2
def yG:Nat→List Int→eK→List Int×eK
 |0,l,s=>(l,s)
 |n+1,l,s=>yG n (l++ [((bd 4294967295 s).1:Int)]) (bd 4294967295 s).2
abbrev Cw:=Int×List Int×List Pr
def sr(s:eK):Cw×eK:=
 let a:=bd 4294967295 s
 let n:=bd 2 a.2
 let p:=yG n.1 [] n.2
 let t:=jh p.2
 ((a.1,p.1,t.1),t.2)
def im(s:eK):(ByteArray×Int)×eK:=
 let a:=dg 32 9 s
 let n:=bd 4294967295 a.2
 ((a.1,n.1),n.2)
def sS(s:eK):Nat×eK:=let b:=aS s;(b.1,if 1<b.1 then dA 9 b.2 else b.2)
def sR(s:eK):(Int×Bool×List Pr)×eK:=
 let a:=bd 2147483648 s
 let b:=sS a.2
 let t:=jh b.2
 ((a.1,decide (b.1=1),t.1),t.2)
def vw(s:eK):(Nat×Hs)×eK:=
 let a:=aS s
 let b:=if a.1=81 then a.2 else dA 9 a.2
 let k:=aS b
 if k.1=0 then
  let x:=kK k.2
  let y:=kK x.2
  let z:=kK y.2
  ((0,⟨x.1,y.1,z.1⟩),z.2)
 else if k.1=1 then((1,⟨0,0,0⟩),k.2)else((k.1,⟨0,0,0⟩),dA 11 k.2)
structure RParts where
 kind:Int
 x:Hs
 next:Int
 vs:List Cw
 bs:List (ByteArray×Int)
 ts:List (ByteArray×Int)
 last:Int
 ss:List (Int×Bool×List Pr)
def Ay(s:eK):RParts×eK:=
 let k:=vw s
 let n:=bd 4294967295 k.2
 let v:=lw sr n.2
 let b:=lw im v.2
 let t:=lw im b.2
 let l:=bd 2147483648 t.2
 let z:=lw sR l.2
 (⟨k.1.1,k.1.2,n.1,v.1,b.1,t.1,l.1,z.1⟩,Ai z.2)
end Go.Proofs
namespace Go.Proofs
inductive Fo where
 |nil:Fo
 |cons (lab:List UInt8) (val:Option ByteArray) (kids rest:Fo):Fo
abbrev Bn:=List UInt8×Option ByteArray×Fo
def Fo.toL:Fo→List Bn
 | .nil=> []
 | .cons lab w kids rest=>(lab,w,kids)::rest.toL
theorem Fo.toL_cons(d:List UInt8)(w:Option ByteArray)(c b:Fo):(Fo.cons d w c b).toL=(d,w,c)::b.toL:=rfl
def Fo.ofL:List Bn→Fo
 | []=>.nil
 |(lab,w,kids)::l=>.cons lab w kids (Fo.ofL l)
theorem Fo.to_of:∀l:List Bn,(Fo.ofL l).toL=l
 | []=>rfl
 |(_,_,_)::l=>by show _::(Fo.ofL l).toL=_;rw[Fo.to_of l]
def Pw:Fo→List UInt8→ByteArray→Prop
 | .nil,_,_=>False
 | .cons lab w kids rest,k,v=>(∃r,k=lab++r∧((r= []∧w=some v)∨Pw kids r v))∨Pw rest k v
def UV(w:Option ByteArray)(F:Fo)(k:List UInt8)(v:ByteArray):Prop:=(k= []∧w=some v)∨Pw F k v
def TP(n:Bn)(k:List UInt8)(v:ByteArray):Prop:=∃r,k=n.1++r∧UV n.2.1 n.2.2 r v
theorem xD:∀{F:Fo} {k:List UInt8} {v:ByteArray},Pw F k v↔∃n∈F.toL,TP n k v
 | .nil,_,_=>by simp[Pw,Fo.toL]
 | .cons lab w kids rest,k,v=>by
  rw[Fo.toL_cons];unfold Pw;rw[xD (F:=rest)];constructor
  ·rintro(h|⟨n,b,h⟩)
   ·exact⟨_,aN ..,h⟩
   ·exact⟨n,aR _ b,h⟩
  ·rintro⟨n,b,h⟩
   rcases au.1 b with rfl|b
   ·exact .inl h
   ·exact .inr ⟨n,b,h⟩
def hd(k:List UInt8):Nat:=(k.headD 0).toNat
theorem Jz{a b:List UInt8}(h:a≠[]):hd (a++b)=hd a:=by
 cases a with
 |nil=>exact absurd rfl h
 |cons x a=>rfl
theorem Vv(a:List UInt8):hd a<256:=UInt8.toNat_lt _
def Ap:Fo→Prop
 | .nil=>True
 | .cons lab w kids rest=>lab≠[]∧(w.isSome∨2≤kids.toL.length)∧Ap kids∧(∀n∈rest.toL,hd lab<hd n.1)∧Ap rest
def PA(n:Bn):Prop:=n.1≠[]∧(n.2.1.isSome∨2≤n.2.2.toL.length)∧Ap n.2.2
theorem xg:∀{F:Fo},Ap F↔F.toL.Pairwise (fun m n=>hd m.1<hd n.1)∧∀n∈F.toL,PA n
 | .nil=>by simp[Ap,Fo.toL]
 | .cons lab w kids rest=>by
  rw[Fo.toL_cons,bB];show(lab≠[]∧(w.isSome∨2≤kids.toL.length)∧Ap kids∧(∀n∈rest.toL,hd lab<hd n.1)∧Ap rest)↔_
  rw[xg (F:=rest)];constructor
  ·rintro⟨g,h2,f,d,e,c⟩
   refine⟨⟨d,e⟩,fun n b=>?_⟩
   rcases au.1 b with rfl|b
   ·exact⟨g,h2,f⟩
   ·exact c n b
  ·rintro⟨⟨d,e⟩,c⟩
   have:=c _ (aN ..);exact⟨this.1,this.2.1,this.2.2,d,e,fun n b=>c n (aR _ b)⟩
theorem FT:∀{F:Fo},Ap F→∀n∈F.toL,∃r v,UV n.2.1 n.2.2 r v
 | .nil,_,n,b=>by simp[Fo.toL]at b
 | .cons lab w kids rest,h,n,b=>by
  rcases au.1 b with rfl|b
  ·rcases h.2.1 with f|c
   ·obtain⟨v,hv⟩:=ie.1 f
    exact⟨[],v,.inl ⟨rfl,hv⟩⟩
   ·have e:=FT h.2.2.1
    have⟨m,hm⟩:∃m,m∈kids.toL:=by
     cases hl:kids.toL with
     |nil=>rw[hl]at c;simp at c
     |cons m l=>exact⟨m,aN ..⟩
    obtain⟨r,v,d⟩:=e m hm;exact⟨m.1++r,v,.inr (xD.2 ⟨m,hm,r,rfl,d⟩)⟩
  ·exact FT h.2.2.2.2 n b
theorem Up{F:Fo}(h:Ap F){k:List UInt8}{v:ByteArray}(hi:Pw F k v):k≠[]:=by
 obtain⟨n,b,r,rfl,_⟩:=xD.1 hi;have:=((xg.1 h).2 n b).1;intro e;exact this (rh.1 e).1
theorem QW{F:Fo}(h:Ap F){k:List UInt8}{v:ByteArray}(hi:Pw F k v):∃n∈F.toL,hd n.1=hd k∧TP n k v:=by
 obtain⟨n,b,r,e,c⟩:=xD.1 hi;exact⟨n,b,by rw[e,Jz ((xg.1 h).2 n b).1],r,e,c⟩
def Br(P:List UInt8→ByteArray→Prop):Prop:=(∃v,P [] v)∨∃j k u v,P j u∧P k v∧j≠[]∧k≠[]∧hd j≠hd k
theorem UI{w:Option ByteArray}{F:Fo}(h:Ap F):(w.isSome∨2≤F.toL.length)↔Br (UV w F):=by
 constructor
 ·rintro(y|z)
  ·obtain⟨v,hv⟩:=ie.1 y
   exact .inl ⟨v,.inl ⟨rfl,hv⟩⟩
  ·right
   have c:=FT h;have hc:=xg.1 h;match hL:F.toL,z with
   |a::b::l,_=>
    have i:a∈F.toL:=by rw[hL];simp
    have f:b∈F.toL:=by rw[hL];simp
    obtain⟨r,v,q⟩:=c a i;obtain⟨s,u,c⟩:=c b f;have p:=(hc.2 a i).1;have h2:=(hc.2 b f).1;have:=hc.1;rw[hL]at this;have B:=(bB.1 this).1 b (aN ..);refine⟨a.1++r,b.1++s,v,u,.inr (xD.2 ⟨a,i,r,rfl,q⟩),.inr (xD.2 ⟨b,f,s,rfl,c⟩),?_,?_,?_⟩
    ·intro e;exact p (rh.1 e).1
    ·intro e;exact h2 (rh.1 e).1
    ·rw[Jz p,Jz h2];omega
 ·rintro(⟨v,hv⟩|⟨j,k,u,v,d,g,x,nk,A⟩)
  ·rcases hv with⟨_,hv⟩|hv
   ·left;rw[hv];rfl
   ·exact absurd rfl (Up h hv)
  ·right
   rcases d with⟨e,_⟩|d
   ·exact absurd e x
   rcases g with⟨e,_⟩|g
   ·exact absurd e nk
   obtain⟨m,hm,em,_⟩:=QW h d;obtain⟨n,o,t,_⟩:=QW h g;match hL:F.toL with
   | []=>rw[hL]at hm;simp at hm
   | [a]=>
    rw[hL]at hm o;rw[aA.1 hm]at em;rw[aA.1 o]at t;omega
   |a::b::l=>simp
end Go.Proofs
namespace Go.Proofs
def cm:List UInt8→List UInt8→Nat
 |a::x,b::y=>if a=b then cm x y+1 else 0
 |_,_=>0
theorem TO:∀(x y:List UInt8),cm x y≤x.length∧cm x y≤y.length
 | [],_=>by simp[cm]
 |_::_,[]=>by simp[cm]
 |a::x,b::y=>by unfold cm;have:=TO x y;split<;>simp<;>omega
theorem Of:∀(x y:List UInt8),cm x y<x.length→cm x y<y.length→hd (x.drop (cm x y))≠hd (y.drop (cm x y))
 | [],_=>by simp[cm]
 |_::_,[]=>by simp[cm]
 |a::x,b::y=>by
  unfold cm;split
  ·rename_i e
   intro c h2;rw[ax]at c h2;rw[List.drop_succ_cons,List.drop_succ_cons];exact Of x y (by omega) (by omega)
  ·rename_i e
   intro _ _ h;exact e (pr.1 h)
theorem UG{x y:List UInt8}(hx:x≠[])(c:y≠[])(h:hd x=hd y):0<cm x y:=by
 match x,y,hx,c with
 |a::x,b::y,_,_=>
  unfold cm;rw[if_pos (show a=b from pr.1 h)]
  omega
end Go.Proofs
namespace Go.Proofs
open Go Go.Lift
theorem Sb{α:Type}{f:α→List Value}{j bytes:Nat}{t:TypeId}{W:Nat→Prop}{h:af}{c:Option Addr}{sl o p:Nat}{xs ys:List α}{g z:List Value}{K:SliceV→af→Prop}
  (k:Sl f j W h ⟨c,sl,o⟩ xs)(q:p=ys.length)(n:g=ys.flatMap f)(s:z.length=j)(w:0<bytes)(i:o<sl+p)(e:(xs.length+ys.length)*bytes≤140737488355328)
  (v:∀s' h',OwnS f j t (fun b=>h.size≤b) h' s' (xs++ys)→Upd No h h'→K s' h'):AppP (some z) j bytes t c sl o p g h K:=by
 have d:sl=xs.length:=k.len;subst q n;refine⟨fun x=>by omega,fun _=>?_⟩
 refine⟨xs.flatMap f,z,k.srow,rfl,w,Go.growslice_fits i (by rw[d];exact e),fun u m=>?_⟩
 refine v _ _ ⟨by simp[d],k.ne,m,.inr ⟨h.size,eM (u-(sl+ys.length)) z,rfl,aq _,?_,?_⟩⟩ (Upd.hnew No h _ _)
 ·rw[c6,cX]
 ·rw[sn,s]
end Go.Proofs
namespace Go.Proofs
open Go Go.Lift
def Fit(l:List Pr):Prop:=∀p∈l,p.1.size≤10000∧p.2.size≤10000
end Go.Proofs
namespace Go.Proofs
open Go Go.Lift
end Go.Proofs
namespace Go.Proofs
open Go Go.Lift
def V0(l:List Pr):Option Pr:=match l with| [p]=>some p|_=>none
def Wa(l:List Pr):Option (List Pr):=if 2≤l.length then some l else none
def Va(x:Hs)(b:Nat)(l:List Pr):List Pr:=fm (fun c=>V0 (part x b c l)) 32
def TJ(x:Hs)(b:Nat)(l:List Pr):List (List Pr):=fm (fun c=>Wa (part x b c l)) 32
end Go.Proofs
namespace Go.Proofs
open Go Go.Lift
end Go.Proofs
namespace Go.Proofs
open Go Go.Lift
theorem Fit.part{x:Hs}{b c:Nat}{l:List Pr}(h:Fit l):Fit (part x b c l):=fun p d=>h p (QK.1 d).1
end Go.Proofs
namespace Go.Proofs
open Go Go.Lift
end Go.Proofs
namespace Go.Proofs
open Go Go.Lift
theorem HX:∀{l l':List Pr},mL l→mL l'→(∀p,p∈l↔p∈l')→l=l'
 | [],[],_,_,_=>rfl
 | [],q::l',_,_,h=>absurd ((h q).2 (aN ..)) (by simp)
 |p::l,[],_,_,h=>absurd ((h p).1 (aN ..)) (by simp)
 |p::l,q::l',d,b,h=>by
  have d:=bB.1 d;have b:=bB.1 b;have e:p=q:=by
   rcases au.1 ((h p).1 (aN ..))with e|g
   ·exact e
   ·rcases au.1 ((h q).2 (aN ..))with e|i
    ·exact e.symm
    ·exact absurd (m9 (d.1 q i) (b.1 p g)) (fH _)
  subst e;rw[HX d.2 b.2 fun z=>?_]
  constructor
  ·intro f
   rcases au.1 ((h z).1 (aR _ f))with e|c
   ·exact absurd (d.1 z f) (by rw[e];exact fH _)
   ·exact c
  ·intro f
   rcases au.1 ((h z).2 (aR _ f))with e|c
   ·exact absurd (b.1 z f) (by rw[e];exact fH _)
   ·exact c
end Go.Proofs
namespace Go.Proofs
open Go Go.Lift
def TE(c:ByteArray)(b:Bool)(val:ByteArray)(s:SliceV)(d:Option Addr):Array Value:= #[.string c,.bool b,.string val,sv s,.pointer d]
def RxF(W:Nat→Prop)(h:af):Fo→List (Option Addr)→Prop
 | .nil,ks=>ks= []
 | .cons lab w kids rest,ks=>∃b sl val s ow ks1 ks',ks=some ⟨b,0,none⟩::ks'∧sl.data.toList=lab∧h[b]? =some (.cells (TE sl w.isSome val s ow) j4 (0,0))∧val=w.getD ⟨#[]⟩∧Sl PO 1 W h s ks1∧(s.len≤s.cap∧¬W b)∧RxF W h kids ks1∧RxF W h rest ks'
def RxN(W:Nat→Prop)(h:af)(b:Nat)(sl:ByteArray)(w:Option ByteArray)(F:Fo):Prop:=∃val s ow ks,h[b]? =some (.cells (TE sl w.isSome val s ow) j4 (0,0))∧val=w.getD ⟨#[]⟩∧Sl PO 1 W h s ks∧(s.len≤s.cap∧¬W b)∧RxF W h F ks
def Kid(W:Nat→Prop)(h:af)(k:Option Addr)(n:Bn):Prop:=∃b sl,k=some ⟨b,0,none⟩∧sl.data.toList=n.1∧RxN W h b sl n.2.1 n.2.2
def RxL(W:Nat→Prop)(h:af)(ks:List (Option Addr))(L:List Bn):Prop:=ks.length=L.length∧∀p∈ks.zip L,Kid W h p.1 p.2
theorem IZ{W:Nat→Prop}{h:af}:∀{F:Fo} {ks:List (Option Addr)},RxF W h F ks↔RxL W h ks F.toL
 | .nil,ks=>by
  unfold RxF RxL;simp[Fo.toL]
 | .cons lab w kids rest,ks=>by
  unfold RxF RxL;rw[Fo.toL_cons];constructor
  ·rintro⟨b,sl,val,s,g,d,f,rfl,n,t,q,j,i,m,v⟩
   obtain⟨y,x⟩:=IZ.1 v;refine⟨by simp[y],fun p c=>?_⟩
   rw[List.zip_cons_cons]at c;rcases au.1 c with rfl|c
   ·exact⟨b,sl,rfl,n,val,s,g,d,t,q,j,i,m⟩
   ·exact x p c
  ·cases ks with
   |nil=>rintro⟨e,_⟩;simp at e
   |cons k f=>
    rintro⟨e,c⟩;rw[List.zip_cons_cons]at c;obtain⟨b,sl,u,n,val,s,g,d,t,q,j,i,m⟩:=c _ (aN ..);refine⟨b,sl,val,s,g,d,f,by rw[←u],n,t,q,j,i,m,IZ.2 ⟨by simpa using e,fun p o=>c p (aR _ o)⟩⟩
theorem RxF.upd0{W:Nat→Prop}{h c:af}(k:Upd No h c):∀{F:Fo} {ks:List (Option Addr)},RxF W h F ks→RxF W c F ks
 | .nil,_,r=>r
 | .cons _ _ _ _,_,⟨b,sl,val,s,ow,ks1,ks',e0,e1,e2,e3,e4,e5,e6,e7⟩=>⟨b,sl,val,s,ow,ks1,ks',e0,e1,k.get0 e2,e3,e4.upd k fun _ h=>h.elim,e5,RxF.upd0 k e6,RxF.upd0 k e7⟩
theorem RxN.upd0{W:Nat→Prop}{h c:af}(k:Upd No h c){b:Nat}{sl:ByteArray}{w:Option ByteArray}{F:Fo}:RxN W h b sl w F→RxN W c b sl w F
 |⟨val,s,ow,ks,e2,e3,e4,e5,e6⟩=>⟨val,s,ow,ks,k.get0 e2,e3,e4.upd k fun _ h=>h.elim,e5,RxF.upd0 k e6⟩
theorem Kid.upd0{W:Nat→Prop}{h c:af}(k:Upd No h c){a:Option Addr}{n:Bn}:Kid W h a n→Kid W c a n
 |⟨b,sl,e1,e2,e3⟩=>⟨b,sl,e1,e2,e3.upd0 k⟩
theorem RxF.less{W W':Nat→Prop}{h:af}(hm:∀b,W' b→W b∨h.size≤b):∀{F:Fo} {ks:List (Option Addr)},RxF W h F ks→RxF W' h F ks
 | .nil,_,r=>r
 | .cons _ _ _ _,_,⟨b,sl,val,s,ow,ks1,ks',e0,e1,e2,e3,e4,e5,e6,e7⟩=>⟨b,sl,val,s,ow,ks1,ks',e0,e1,e2,e3,e4.less hm,⟨e5.1,fun hx=>(hm _ hx).elim e5.2 fun h=>by have:=bo e2;omega⟩,RxF.less hm e6,RxF.less hm e7⟩
theorem RxN.less{W W':Nat→Prop}{h:af}(hm:∀b,W' b→W b∨h.size≤b){b:Nat}{sl:ByteArray}{w:Option ByteArray}{F:Fo}:RxN W h b sl w F→RxN W' h b sl w F
 |⟨val,s,ow,ks,e2,e3,e4,e5,e6⟩=>⟨val,s,ow,ks,e2,e3,e4.less hm,⟨e5.1,fun hx=>(hm _ hx).elim e5.2 fun h=>by have:=bo e2;omega⟩,RxF.less hm e6⟩
theorem RxF.updM{W M:Nat→Prop}{h c:af}(k:Upd M h c)(hm:∀b,M b→W b∨h.size≤b):∀{F:Fo} {ks:List (Option Addr)},RxF W h F ks→RxF W c F ks
 | .nil,_,r=>r
 | .cons _ _ _ _,_,⟨b,sl,val,s,ow,ks1,ks',e0,e1,e2,e3,e4,e5,e6,e7⟩=>⟨b,sl,val,s,ow,ks1,ks',e0,e1,k.get e2 (fun hx=>(hm _ hx).elim e5.2 fun h=>by have:=bo e2;omega),e3,e4.upd k hm,e5,RxF.updM k hm e6,RxF.updM k hm e7⟩
theorem RxN.updM{W M:Nat→Prop}{h c:af}(k:Upd M h c)(hm:∀b,M b→W b∨h.size≤b){b:Nat}{sl:ByteArray}{w:Option ByteArray}{F:Fo}:RxN W h b sl w F→RxN W c b sl w F
 |⟨val,s,ow,ks,e2,e3,e4,e5,e6⟩=>⟨val,s,ow,ks,k.get e2 (fun hx=>(hm _ hx).elim e5.2 fun h=>by have:=bo e2;omega),e3,e4.upd k hm,e5,RxF.updM k hm e6⟩
theorem RxL.upd0{W:Nat→Prop}{h b:af}(k:Upd No h b){ks:List (Option Addr)}{L:List Bn}(r:RxL W h ks L):RxL W b ks L:=⟨r.1,fun p c=>(r.2 p c).upd0 k⟩
theorem RxL.app{W:Nat→Prop}{h:af}{ks c:List (Option Addr)}{L L':List Bn}(r:RxL W h ks L)(d:RxL W h c L'):RxL W h (ks++c) (L++L'):=by
 refine⟨by rw[ae,ae,r.1,d.1],fun p b=>?_⟩
 rw[List.zip_append r.1]at b;rcases List.mem_append.1 b with b|b
 ·exact r.2 p b
 ·exact d.2 p b
theorem RxL.one{W:Nat→Prop}{h:af}{k:Option Addr}{n:Bn}(c:Kid W h k n):RxL W h [k] [n]:=⟨rfl,fun p b=>by rw[List.zip_cons_cons,List.zip_nil_left]at b;rw[aA.1 b];exact c⟩
theorem RxL.take{W:Nat→Prop}{h:af}{ks:List (Option Addr)}{L:List Bn}(r:RxL W h ks L)(i:Nat):RxL W h (ks.take i) (L.take i):=by
 refine⟨by rw[aO,aO,r.1],fun p b=>r.2 p ?_⟩
 have:(ks.take i).zip (L.take i)=(ks.zip L).take i:=by rw[oD,oD,List.take_zipWith]
 rw[this]at b;exact List.mem_of_mem_take b
theorem RxL.drop{W:Nat→Prop}{h:af}{ks:List (Option Addr)}{L:List Bn}(r:RxL W h ks L)(i:Nat):RxL W h (ks.drop i) (L.drop i):=by
 refine⟨by rw[aP,aP,r.1],fun p b=>r.2 p ?_⟩
 have:(ks.drop i).zip (L.drop i)=(ks.zip L).drop i:=by rw[oD,oD,List.drop_zipWith]
 rw[this]at b;exact List.mem_of_mem_drop b
theorem RxL.set{W:Nat→Prop}{h:af}{ks:List (Option Addr)}{L:List Bn}(r:RxL W h ks L){i:Nat}(hi:i<L.length){k:Option Addr}{n:Bn}(c:Kid W h k n):RxL W h (ks.set i k) (L.set i n):=by
 have:=(r.take i).app ((RxL.one c).app (r.drop (i+1)));rw[jQ,jQ,if_pos (by rw[r.1];exact hi),if_pos hi];exact this
theorem RxL.at{W:Nat→Prop}{h:af}{ks:List (Option Addr)}{L:List Bn}(r:RxL W h ks L){i:Nat}(hi:i<L.length):∃b sl,ks[i]? =some (some ⟨b,0,none⟩)∧sl.data.toList=L[i].1∧RxN W h b sl L[i].2.1 L[i].2.2:=by
 have f:i<ks.length:=by rw[r.1];exact hi
 have d:i<(ks.zip L).length:=by rw[List.length_zip];omega
 have:=r.2 _ (List.getElem_mem d);rw[List.getElem_zip]at this;obtain⟨b,sl,c,g,e⟩:=this;exact⟨b,sl,by rw[List.getElem?_eq_getElem f];exact congrArg some c,g,e⟩
theorem Db:∀{L:List Bn} {c:Nat},L.Pairwise (fun m n=>hd m.1<hd n.1)→(∀n∈L,c≤hd n.1)→L= []∨c+L.length≤256
 | [],_,_,_=>.inl rfl
 |n::L,c,b,hc=>by
  have b:=bB.1 b;have d:=hc n (aN ..);have f:=Vv n.1;rcases Db (c:=hd n.1+1) b.2 fun m hm=>b.1 m hm with e|e
  ·rw[e];right;simp only[aQ];omega
  ·right;rw[ax];omega
theorem Og{F:Fo}(h:Ap F):F.toL.length≤256:=by
 rcases Db (c:=0) (xg.1 h).1 fun _ _=>bJ _ with e|e
 ·rw[e];simp
 ·omega
theorem Q2(s:ByteArray)(i:Nat):s[i]? =s.data.toList[i]?:=by
 rw[Array.getElem?_toList];by_cases h:i<s.size
 ·rw[getElem?_pos s i h,getElem?_pos s.data i h];rfl
 ·rw[getElem?_neg s i h,getElem?_neg s.data i h]
end Go.Proofs
namespace Go.Proofs
open Go Go.Lift
abbrev rx0:List Value:= [.string (⟨#[]⟩:ByteArray),.bool false,.string (⟨#[]⟩:ByteArray),.slice none 0 0,.pointer none]
end Go.Proofs
