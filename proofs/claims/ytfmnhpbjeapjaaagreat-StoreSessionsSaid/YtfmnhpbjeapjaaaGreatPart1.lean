/- A part of the proof that the named laws of this program answer true, whatever the input. -/
import Derived.Test.YtfmnhpbjeapjaaaGreatPart0
open BitVec renaming ofInt→ae,toNat_and→py,toNat_ofInt→nA,ofInt_natCast→lw,getLsbD_ofNat→lx
open Int renaming fdiv→eG,toNat_natCast→aU
open List renaming range→dK,range_add→sL,mem_range→oO,mem_cons_self→aP,mem_cons_of_mem→aQ,take_left'→cK,drop_left'→bZ,drop_drop→cR,length_append→ai,flatMap_cons→bv,append_assoc→aJ,pairwise_cons→bK,mem_cons→ah,pairwise_singleton→dE,filter_cons→ba,mem_singleton→ak
open List.Pairwise renaming nil→gn
open Nat renaming testBit_and→j1,testBit_two_pow_sub_one→kF,le_refl→av,shiftRight_eq_div_pow→lU,lt_of_le_of_lt→hH,and_le_right→px,min_eq_left→bw,shiftRight_le→oL,mod_eq_of_lt→jl,mod_lt→sK,lt_of_lt_of_le→aE,zero_add→az,le_of_eq→dX,lt_irrefl→pI
open UInt8 renaming ofNat→ll
namespace Go.Proofs
open Go.Lift
def um(n d:Nat):Nat:=(dK n).countP (d.testBit ·)
theorem CV(m n d:Nat):um (m+n) d=um m d+um n (d>>>m):=by
 unfold um;rw[sL,List.countP_append,List.countP_map];congr 1
 refine List.countP_congr fun i _=>?_
 simp[Nat.testBit_shiftRight]
theorem Ku(d:Nat)(i:Nat):∀n,i≤n→um n (d&&&(2^i-1))=um i d:=by
 intro n b;obtain⟨m,rfl⟩:=Nat.exists_eq_add_of_le b;rw[CV];have e:um i (d&&&(2^i-1))=um i d:=by
  unfold um;refine List.countP_congr fun j c=>?_
  have:=oO.1 c;simp[j1,kF,this]
 have f:um m ((d&&&(2^i-1))>>>i)=0:=by
  unfold um;rw[List.countP_eq_zero];intro j _;simp[Nat.testBit_shiftRight,j1,kF];intro h;omega
 omega
theorem Qq(d:Nat):um 8 (d&&&255)=um 8 d:=Ku d 8 8 (av _)
theorem yI(n d:Nat):um n d≤n:=by
 have:=List.countP_le_length (p:=(d.testBit ·)) (l:=dK n)
 simpa[um]using this
theorem rP(d n:Nat):eG (d:Int) (2^n)=((d>>>n:Nat):Int):=by
 rw[Int.fdiv_eq_ediv_of_nonneg _ (by exact Int.le_of_lt (Int.pow_pos (by decide))),lU];simp
theorem NW(a b:Nat):(ae (IntKind.bits .u32) (a:Int)&&&ae (IntKind.bits .u32) (b:Int)).toNat=(a%4294967296)&&&(b%4294967296):=by
 simp[IntKind.bits,py,nA];rfl
theorem zh{n:Nat}(h:n<4294967296):IntKind.wrap .u32 (n:Int)=(n:Int):=Go.IntWalk.u32_in _ (by omega)
theorem Dm{i:Nat}(c:i<32){h:ac}{K:Bool→ac→Prop}(b:K true h):HC PG mu [.int .i64 i] [.c .bool] K h:=by
 refine EI i ?_;unfold yj;refine ax (fun _=>?_) fun h=>absurd (Int.natCast_nonneg i) h
 rw[decide_eq_true (by omega)];exact b
theorem Gq{a b:Nat}(h:b<4294967296):a&&&b<4294967296:=hH px h
theorem A6{d i:Nat}(hd:d<4294967296)(g:i<32){h:ac}{K:Bool→ac→Prop}(j:K (d.testBit i) h):HC PG eU [.int .u32 d,.int .i64 i] [.c .bool] K h:=by
 refine BI d i ?_;unfold uR;refine Dm g (aK.2 ⟨by omega,?_⟩);have e:min (i:Int).toNat (IntKind.bits .u32)=i:=by rw[aU];exact bw (by show i≤32;omega)
 rw[e,rP];have b:=NW (d>>>i) 1;have c:d>>>i<4294967296:=hH (oL d i) hd;rw[jl c,show(1:Nat)%4294967296=1 from rfl]at b
 simp only[Bd];rw[show((1:Nat):Int)=(1:Int)from rfl]at b
 rw[b,zh (Gq (by omega))];have f:(((d>>>i&&&1:Nat):Int)==(1:Int))=d.testBit i:=by
  rw[Bool.eq_iff_iff,beq_iff_eq,Nat.testBit,Nat.and_comm];simp only[bne_iff_ne,ne_eq,Nat.one_and_eq_mod_two];have:(d>>>i)%2<2:=sK _ (by omega);omega
 rw[f];exact j
theorem Lz{d i:Nat}(hd:d<4294967296)(f:i<32):∃w:Nat,IntKind.wrap .u32 (ae (IntKind.bits .u32) (d:Int)|||ae (IntKind.bits .u32) (IntKind.wrap .u32 (1*2^(min (i:Int).toNat (IntKind.bits .u32))))).toNat=(w:Int)∧w<4294967296∧∀j,w.testBit j=(d.testBit j||decide (j=i)):=by
 have e:min (i:Int).toNat (IntKind.bits .u32)=i:=by rw[aU];exact bw (by show i≤32;omega)
 have m:2^i<4294967296:=Nat.pow_lt_pow_right (by omega) (show i<32 from f)
 have c:(1*2^i:Int)=((2^i:Nat):Int):=by simp
 rw[e,c,zh m];refine⟨_,zh (BitVec.isLt _),BitVec.isLt _,fun j=>?_⟩
 rw[BitVec.testBit_toNat,BitVec.getLsbD_or,lw,lw,lx,lx,Nat.testBit_two_pow];by_cases b:j<32
 ·have:decide (j<IntKind.bits .u32)=true:=decide_eq_true b
  rw[this];simp[eq_comm]
 ·have g:decide (j<IntKind.bits .u32)=false:=decide_eq_false b
  have k:d.testBit j=false:=Nat.testBit_lt_two_pow (aE hd (Nat.pow_le_pow_right (n:=2) (by omega) (show 32≤j by omega)))
  rw[g,k];simp;omega
theorem JR{d i:Nat}(hd:d<4294967296)(b:i<32){h:ac}{K:Int→ac→Prop}(f:∀w:Nat,w<4294967296→(∀j,w.testBit j=(d.testBit j||decide (j=i)))→K (w:Int) h):HC PG eh [.int .u32 d,.int .i64 i] [.c (.int .u32)] K h:=by
 refine As d i ?_;unfold tP;refine Dm b (aq.2 ⟨by omega,?_⟩);obtain⟨w,e,g,c⟩:=Lz hd b;simp only[Bd];rw[e];exact f w g c
theorem Gl{d i:Nat}(hd:d<4294967296)(f:i<32):∃w:Nat,IntKind.wrap .u32 (ae (IntKind.bits .u32) (d:Int)&&& ~~~ae (IntKind.bits .u32) (IntKind.wrap .u32 (1*2^(min (i:Int).toNat (IntKind.bits .u32))))).toNat=(w:Int)∧w<4294967296∧∀j,w.testBit j=(d.testBit j&&decide (j≠i)):=by
 have e:min (i:Int).toNat (IntKind.bits .u32)=i:=by rw[aU];exact bw (by show i≤32;omega)
 have m:2^i<4294967296:=Nat.pow_lt_pow_right (by omega) (show i<32 from f)
 have c:(1*2^i:Int)=((2^i:Nat):Int):=by simp
 rw[e,c,zh m];refine⟨_,zh (BitVec.isLt _),BitVec.isLt _,fun j=>?_⟩
 rw[BitVec.testBit_toNat,BitVec.getLsbD_and,BitVec.getLsbD_not,lw,lw,lx,lx,Nat.testBit_two_pow];by_cases b:j<32
 ·have:decide (j<IntKind.bits .u32)=true:=decide_eq_true b
  rw[this];simp[eq_comm]
 ·have g:decide (j<IntKind.bits .u32)=false:=decide_eq_false b
  have k:d.testBit j=false:=Nat.testBit_lt_two_pow (aE hd (Nat.pow_le_pow_right (n:=2) (by omega) (show 32≤j by omega)))
  rw[g,k];simp
theorem CZ{d i:Nat}(hd:d<4294967296)(b:i<32){h:ac}{K:Int→ac→Prop}(f:∀w:Nat,w<4294967296→(∀j,w.testBit j=(d.testBit j&&decide (j≠i)))→K (w:Int) h):HC PG iJ [.int .u32 d,.int .i64 i] [.c (.int .u32)] K h:=by
 refine wW d i ?_;unfold qj;refine Dm b (aq.2 ⟨by omega,?_⟩);obtain⟨w,e,g,c⟩:=Gl hd b;simp only[Bd];rw[e];exact f w g c
abbrev QR:ByteArray:=⟨#[0,1,1,2,1,2,2,3,1,2,2,3,2,3,3,4,1,2,2,3,2,3,3,4,2,3,3,4,3,4,4,5,1,2,2,3,2,3,3,4,2,3,3,4,3,4,4,5,2,3,3,4,3,4,4,5,3,4,4,5,4,5,5,6,1,2,2,3,2,3,3,4,2,3,3,4,3,4,4,5,2,3,3,4,3,4,4,5,3,4,4,5,4,5,5,6,2,3,3,4,3,4,4,5,3,4,4,5,4,5,5,6,3,4,4,5,4,5,5,6,4,5,5,6,5,6,6,7,1,2,2,3,2,3,3,4,2,3,3,4,3,4,4,5,2,3,3,4,3,4,4,5,3,4,4,5,4,5,5,6,2,3,3,4,3,4,4,5,3,4,4,5,4,5,5,6,3,4,4,5,4,5,5,6,4,5,5,6,5,6,6,7,2,3,3,4,3,4,4,5,3,4,4,5,4,5,5,6,3,4,4,5,4,5,5,6,4,5,5,6,5,6,6,7,3,4,4,5,4,5,5,6,4,5,5,6,5,6,6,7,4,5,5,6,5,6,6,7,5,6,6,7,6,7,7,8]⟩
theorem Oi:(dK 256).all (fun b=>decide (QR[b]? =some (ll (um 8 b))))=true:=by decide+kernel
theorem FE{b:Nat}(h:b<256):QR[b]? =some (ll (um 8 b)):=of_decide_eq_true (List.all_eq_true.1 Oi b (oO.2 h))
theorem Gg(b:Nat):(ll (um 8 b)).toNat=um 8 b:=by
 have:=yI 8 b;simp;omega
theorem R9(d:Nat):um 32 d=um 8 (d>>>24)+um 8 ((d>>>16)&&&255)+um 8 ((d>>>8)&&&255)+um 8 (d&&&255):=by
 rw[Qq,Qq,Qq,show(32:Nat)=8+(8+(8+8))from rfl,CV,CV,CV]
 simp only[←Nat.shiftRight_add,Nat.reduceAdd];omega
set_option maxRecDepth 100000 in
theorem OE{d:Nat}(hd:d<4294967296){h:ac}{K:Int→ac→Prop}(k:K (um 32 d:Int) h):HC PG jj [.int .u32 d] [.c (.int .i64)] K h:=by
 refine uC d ?_;unfold nH;have f:eG (d:Int) (2^(min (24:Int).toNat (IntKind.bits .u32)))=((d>>>24:Nat):Int):=rP d 24;have j:eG (d:Int) (2^(min (16:Int).toNat (IntKind.bits .u32)))=((d>>>16:Nat):Int):=rP d 16;have m:eG (d:Int) (2^(min (8:Int).toNat (IntKind.bits .u32)))=((d>>>8:Nat):Int):=rP d 8;have b:∀x:Nat,x<4294967296→IntKind.wrap .u32 (ae (IntKind.bits .u32) (x:Int)&&&ae (IntKind.bits .u32) 255).toNat=((x&&&255:Nat):Int):=fun x hx=>by
  have:=NW x 255;rw[jl hx]at this;rw[show((255:Nat):Int)=(255:Int)from rfl]at this
  rw[this,zh (Gq (by omega))]
 have i:d>>>24<256:=by rw[lU];omega
 have c:∀x:Nat,x&&&255<256:=fun x=>hH px (by omega)
 have e:d>>>16<4294967296:=hH (oL d 16) hd;have o:d>>>8<4294967296:=hH (oL d 8) hd;simp only[Bd];rw[f,j,m,b _ e,b _ o,b _ hd];refine⟨by decide,_,by omega,FE (b:=d>>>24) i,by decide,_,by omega,FE (c _),by decide,_,by omega,FE (c _),_,by omega,FE (c _),?_⟩
 rw[Gg,Gg,Gg,Gg];simp only[aU];have q:=yI 8 (d>>>24);have p:=yI 8 (d>>>16&&&255);have s:=yI 8 (d>>>8&&&255);have q4:=yI 8 (d&&&255);rw[R9]at k;have g:∀n:Nat,n≤255→IntKind.wrap .u8 (n:Int)=(n:Int):=fun n t=>Go.IntWalk.u8_in _ (by omega)
 rw[←Int.natCast_add,g _ (by omega),←Int.natCast_add,g _ (by omega),←Int.natCast_add,g _ (by omega),dT (by omega)];exact k
theorem pE{d i:Nat}(hd:d<4294967296)(j:i<32){h:ac}{K:Int→ac→Prop}(b:K (um i d:Int) h):HC PG cx [.int .u32 d,.int .i64 i] [.c (.int .i64)] K h:=by
 refine Au d i ?_;unfold tQ;refine ax (fun c=>?_) fun c=>?_
 ·have:i=0:=by omega
  subst this;exact b
 ·refine ax (fun h=>by omega) fun _=>⟨by omega,?_⟩
  have e:min (i:Int).toNat (IntKind.bits .u32)=i:=by rw[aU];exact bw (by show i≤32;omega)
  have m:2^i<4294967296:=Nat.pow_lt_pow_right (by omega) (show i<32 from j)
  have k:0<2^i:=Nat.pow_pos (by omega);have f:(1*2^i:Int)=((2^i:Nat):Int):=by simp
  have g:(((2^i:Nat):Int)-1)=((2^i-1:Nat):Int):=by omega
  simp only[Bd];rw[e,f,zh m,g,zh (show 2^i-1<4294967296 by omega),NW,jl hd,jl (show 2^i-1<4294967296 by omega),zh (Gq (by omega))]
  refine y8 _ ?_;unfold sJ;refine OE (Gq (by omega)) ?_;rw[Ku d i 32 (by omega)];exact b
end Go.Proofs
namespace Go.Proofs
open Go.Lift
def fm{β:Type}(g:Nat→Option β)(n:Nat):List β:=(dK n).filterMap g
def upd{β:Type}(g:Nat→Option β)(i:Nat)(x:Option β)(j:Nat):Option β:=if j=i then x else g j
theorem Rw{β:Type}{f g:Nat→Option β}:∀l:List Nat,(∀j∈l,f j=g j)→l.filterMap f=l.filterMap g
 | [],_=>rfl
 |j::l,h=>by
  rw[List.filterMap_cons,List.filterMap_cons,h j (aP ..),Rw l fun k b=>h k (aQ _ b)]
section
variable {β:Type} {g:Nat→Option β} {d:Nat}
theorem DD(hd:∀c,c<32→d.testBit c=(g c).isSome){i:Nat}(e:i≤32):(fm g i).length=um i d:=by
 unfold fm um;rw[List.length_filterMap_eq_countP];exact List.countP_congr fun j b=>by rw[hd j (by have:=oO.1 b;omega)]
theorem pQ{i n:Nat}(c:i<n):fm g n=fm g i++((g i).toList++(dK (n-(i+1))).filterMap fun j=>g (i+1+j)):=by
 unfold fm;have e:n=i+(1+(n-(i+1))):=by omega
 rw[e,sL,List.filterMap_append,sL];have b:i+(1+(n-(i+1)))-(i+1)=n-(i+1):=by omega
 rw[b];congr 1
 rw[List.map_append,List.filterMap_append,List.map_map];congr 1
 rw[List.filterMap_map];refine Rw _ fun j _=>?_
 show g (i+(1+j))=_
 rw[Nat.add_assoc]
theorem yB{i:Nat}{x:Option β}:fm (upd g i x) i=fm g i:=by
 unfold fm;refine Rw _ fun j b=>?_
 have:=oO.1 b;unfold upd;rw[if_neg (by omega)]
theorem wg{i m:Nat}{x:Option β}:((dK m).filterMap fun j=>upd g i x (i+1+j))=(dK m).filterMap fun j=>g (i+1+j):=by
 refine Rw _ fun j _=>?_
 unfold upd;rw[if_neg (by omega)]
theorem Na{i:Nat}(b:i<32)(hd:∀c,c<32→d.testBit c=(g c).isSome)(f:g i=none)(x:β):fm (upd g i (some x)) 32=(fm g 32).take (um i d)++x::(fm g 32).drop (um i d):=by
 have e:=DD hd (i:=i) (by omega);rw[pQ (g:=upd g i (some x)) b,pQ (g:=g) b,yB,wg,f,cK e,bZ e];simp[upd]
theorem M9{i:Nat}(b:i<32)(hd:∀c,c<32→d.testBit c=(g c).isSome){y:β}(f:g i=some y)(x:β):fm (upd g i (some x)) 32=(fm g 32).take (um i d)++x::(fm g 32).drop (um i d+1):=by
 have e:=DD hd (i:=i) (by omega);rw[pQ (g:=upd g i (some x)) b,pQ (g:=g) b,yB,wg,f,cK e,←cR,bZ e];simp[upd]
theorem Nb{i:Nat}(b:i<32)(hd:∀c,c<32→d.testBit c=(g c).isSome){y:β}(f:g i=some y):fm (upd g i none) 32=(fm g 32).take (um i d)++(fm g 32).drop (um i d+1):=by
 have e:=DD hd (i:=i) (by omega);rw[pQ (g:=upd g i none) b,pQ (g:=g) b,yB,wg,f,cK e,←cR,bZ e];simp[upd]
theorem Nc{i:Nat}(b:i<32)(hd:∀c,c<32→d.testBit c=(g c).isSome){y:β}(f:g i=some y):(fm g 32)[um i d]? =some y:=by
 have e:=DD hd (i:=i) (by omega);rw[pQ (g:=g) b,f,List.getElem?_append_right (by omega),e,Nat.sub_self];rfl
theorem Fg{i:Nat}(b:i<32)(hd:∀c,c<32→d.testBit c=(g c).isSome){y:β}(e:g i=some y):um i d<(fm g 32).length:=(List.getElem?_eq_some_iff.1 (Nc b hd e)).1
theorem Px{i:Nat}(b:i<32)(hd:∀c,c<32→d.testBit c=(g c).isSome):um i d≤(fm g 32).length:=by
 have e:=DD hd (i:=i) (by omega);rw[pQ (g:=g) b,ai];omega
theorem Fh:(fm g 32).length≤32:=by
 have:=List.length_filterMap_le g (dK 32);simpa[fm]using this
end
end Go.Proofs
namespace Go.Proofs
open Go.Lift
abbrev sv(s:SliceV):Value:=.slice s.a s.len s.cap
structure Slots where
 p:Nat→Option Pr
 k:Nat→Option (Option Addr)
def fL(d n:Nat)(sp sk:SliceV)(b:Bool)(ow:Option Addr):Array Value:= #[.int .u32 (d:Int),.int .u32 (n:Int),sv sp,sv sk,.bool b,.pointer ow]
structure BitsOf(d n:Nat)(s:Slots):Prop where
 d32:d<4294967296
 n32:n<4294967296
 dp:∀c,c<32→d.testBit c=(s.p c).isSome
 nk:∀c,c<32→n.testBit c=(s.k c).isSome
structure NodeAt(W:Nat→Prop)(h:ac)(b:Nat)(s:Slots):Prop where
 ex:∃d n sp sk ow,h[b]? =some (.cells (fL d n sp sk false ow) aZ (0,0))∧BitsOf d n s∧Sl nY 2 W h sp (fm s.p 32)∧Sl tT 1 W h sk (fm s.k 32)∧sp.len≤sp.cap∧sk.len≤sk.cap
 nw:¬W b
theorem NodeAt.upd{W M:Nat→Prop}{h h':ac}{b:Nat}{s:Slots}(n:NodeAt W h b s)(k:Upd M h h')(hm:∀b,M b→W b∨h.size≤b):NodeAt W h' b s:=by
 obtain⟨d,m,sp,sk,ow,c,o,g,e,f,j⟩:=n.ex;exact⟨⟨d,m,sp,sk,ow,k.get c (fun i=>(hm _ i).elim n.nw fun h=>by have:=aL c;omega),o,g.upd k hm,e.upd k hm,f,j⟩,n.nw⟩
structure OwnN(M:Nat→Prop)(h:ac)(b d n:Nat)(sp sk:SliceV)(s:Slots)(ow:Option Addr):Prop where
 blk:h[b]? =some (.cells (fL d n sp sk false ow) aZ (0,0))
 bits:BitsOf d n s
 ex:∃A B:Nat→Prop,OwnS nY 2 ar A h sp (fm s.p 32)∧OwnS tT 1 bd B h sk (fm s.k 32)∧(∀x,A x→M x∧¬B x∧x≠b∧x<h.size)∧(∀x,B x→M x∧x≠b∧x<h.size)
 mb:M b
theorem vW{h:ac}{K:Bool→ac→Prop}(b:K false h):HC PG dI [.pointer none] [.c .bool] K h:=by
 refine r9 none ?_;unfold ns f8;exact aq.2 b
theorem E2{b:Nat}{h:ac}{K:Bool→ac→Prop}(c:K false h):HC PG ot [.pointer (some ⟨b,0,none⟩),.pointer none] [.c .bool] K h:=by
 refine Ak _ none ?_;unfold tI bJ;exact aK.2 (vW (aq.2 c))
theorem OwnN.upd{M M':Nat→Prop}{h h':ac}{b d n:Nat}{sp sk:SliceV}{s:Slots}{ow:Option Addr}(o:OwnN M h b d n sp sk s ow)(k:Upd M' h h')(hm:∀x,M' x→¬M x):OwnN M h' b d n sp sk s ow:=by
 obtain⟨A,B,i,j,c,e⟩:=o.ex;have z:=k.size;exact⟨k.get o.blk fun g=>hm _ g o.mb,o.bits,⟨A,B,i.upd k fun x hx f=>hm _ f (c x hx).1,j.upd k fun x hx f=>hm _ f (e x hx).1,fun x hx=>⟨(c x hx).1,(c x hx).2.1,(c x hx).2.2.1,by have:=(c x hx).2.2.2;omega⟩,fun x hx=>⟨(e x hx).1,(e x hx).2.1,by have:=(e x hx).2.2;omega⟩⟩,o.mb⟩
set_option maxRecDepth 4000 in
theorem MH{W:Nat→Prop}{h:ac}{b:Nat}{s:Slots}(nd:NodeAt W h b s){K:Option Addr→ac→Prop}
  (H:∀h' d n sp sk,OwnN (fun x=>h.size≤x) h' h.size d n sp sk s none→Upd No h h'→K (some ⟨h.size,0,none⟩) h'):
  HC PG iA [.pointer (some ⟨b,0,none⟩),.pointer none] [.c .ptr] K h:=by
 obtain⟨d,n,sp,sk,ow,m,bits,C,J,hcp,hck⟩:=nd.ex;refine vy _ none ?_;unfold qA nv dj bJ cH bV f8 pa LR PF;refine E2 (aq.2 ?_);have c:∀{h:ac} {b:Nat} {c:Array Value} {i:Nat},h[b]? =some (.cells c aZ (0,0))→aB h ⟨b,0+i,none⟩=c[i]?:=fun m=>by rw[az];exact aC m
 refine⟨_,rfl,_,c (i:=0) m,_,c (i:=1) m,sp,c (i:=2) m,sk,c (i:=3) m,_,c (i:=4) m,_,c (i:=5) m,?_⟩;have k1:=Upd.hnew No h [.int .u32 0,.int .u32 0,.slice none 0 0,.slice none 0 0,.bool false,.pointer none] aZ;have b1:=be h [.int .u32 0,.int .u32 0,.slice none 0 0,.slice none 0 0,.bool false,.pointer none] aZ;refine bl ?_;simp only[bN h];generalize hnew h [.int .u32 0,.int .u32 0,.slice none 0 0,.slice none 0 0,.bool false,.pointer none] aZ=h1 at k1 b1
 have D:ii h1 ⟨h.size,0,none⟩ 0 [.int .u32 (d:Int),.int .u32 (n:Int),.slice sp.a sp.len sp.cap,.slice sk.a sk.len sk.cap,.bool false,.pointer ow]=_:=iz _ h1 0 0 _ b1 (by simp);refine⟨.inr ⟨_,rfl,fun j X=>by rw[bC];exact fR b1 (by simp at X⊢;omega)⟩,bl ?_⟩
 rw[D];have b2:=dU (o:=.cells (fL d n sp sk false ow) aZ (0,0)) b1;have u:Upd No h _:=k1.trans (M':=(· =h.size)) (Upd.set h1 (.cells (fL d n sp sk false ow) aZ (0,0)) rfl) fun x hx=>.inr (dX hx.symm)
 have N:h.size<(h1.setIfInBounds h.size (.cells (fL d n sp sk false ow) aZ (0,0))).size:=aL b2;have Y:h.size≠b:=fun e=>by have:=aL m;omega
 have T:(Obj.cells (List.take (0+0) [Value.int .u32 0,.int .u32 0,.slice none 0 0,.slice none 0 0,.bool false,.pointer none]++ [Value.int .u32 (d:Int),.int .u32 (n:Int),.slice sp.a sp.len sp.cap,.slice sk.a sk.len sk.cap,.bool false,.pointer ow]++List.drop (0+0+ [Value.int .u32 (d:Int),.int .u32 (n:Int),.slice sp.a sp.len sp.cap,.slice sk.a sk.len sk.cap,.bool false,.pointer ow].length) [Value.int .u32 0,.int .u32 0,.slice none 0 0,.slice none 0 0,.bool false,.pointer none]).toArray aZ (0,0))=.cells (fL d n sp sk false ow) aZ (0,0):=rfl
 rw[T];generalize h1.setIfInBounds h.size (.cells (fL d n sp sk false ow) aZ (0,0))=h2 at b2 u N;have t:=u.get0 m;refine⟨_,rfl,sp,c (i:=2) t,_,rfl,sk,c (i:=3) t,?_⟩;refine Be (C.upd u fun _ h=>h.elim) (by have:=Fh (g:=s.p);omega) fun A Q O p=>?_
 refine⟨c (i:=3) (p.get0 t),?_⟩;refine Fs ((J.upd u fun _ h=>h.elim).upd p fun _ h=>h.elim) (by have:=Fh (g:=s.k);omega) fun F Z L q=>?_
 have P:=q.get0 (p.get0 b2);have z:=O.within.upd q fun _ _ h=>h
 have y:=L.within;have z3:=p.size;have z4:=q.size;have w:∀{h:ac} {c:Array Value} {x i:Nat},h[x]? =some (.cells c aZ (0,0))→i<c.size→Wr h ⟨x,0+i,none⟩:=fun m U=>by rw[az];exact fR m U
 have st:∀{h:ac} {c c':Array Value} {x i:Nat} {v:Value} {k:ac→Prop},h[x]? =some (.cells c aZ (0,0))→c.setIfInBounds i v=c'→(∀h',h'[x]? =some (.cells c' aZ (0,0))→Upd (· =x) h h'→k h')→At (hset h ⟨x,i,none⟩ v) k:=fun m e H=>yL m fun h' G hu=>H h' (e▸G) hu
 refine⟨w (i:=2) P (show 2<6 by decide),st (i:=2) (c':=fL d n A sk false ow) P rfl fun h5 R E=>?_⟩
 refine⟨w (i:=3) R (show 3<6 by decide),st (i:=3) (c':=fL d n A F false ow) R rfl fun h6 S I=>?_⟩
 refine⟨w (i:=5) S (show 5<6 by decide),st (i:=5) (c':=fL d n A F false none) S rfl fun h7 V B=>?_⟩
 refine vW (aq.2 ?_);have f:=E.tr (I.tr B);have z7:=f.size;refine H _ d n A F ⟨V,bits,⟨fun x=>h2.size≤x∧x<Q.size,fun x=>Q.size≤x∧x<Z.size,z.upd f fun x hx e=>by have e:x=h.size:=e;omega,y.upd f fun x hx e=>by have e:x=h.size:=e;omega,fun x hx=>⟨by omega,by omega,by omega,by omega⟩,fun x hx=>⟨by omega,by omega,by omega⟩⟩,av _⟩ ?_
 exact((u.tr p).tr q).trans f fun x hx=>.inr (dX hx.symm)
end Go.Proofs
namespace Go.Proofs
open Go.Lift
theorem uq{β:Type}{g:Nat→Option β}{i:Nat}(h:g i=none):upd g i none=g:=by
 funext j;unfold upd;split
 ·rename_i e;rw[e,h]
 ·rfl
theorem dY{h:ac}{b:Nat}{c:Array Value}{t:TypeId}{i:Nat}(d:h[b]? =some (.cells c t (0,0))):aB h ⟨b,0+i,none⟩=c[i]?:=by rw[az];exact aC d
theorem OF{h:ac}{b:Nat}{c:Array Value}{t:TypeId}{i:Nat}(e:h[b]? =some (.cells c t (0,0))) (d:i<c.size):Wr h ⟨b,0+i,none⟩:=by rw[az];exact fR e d
theorem FV{h:ac}{b:Nat}{c c':Array Value}{t:TypeId}{i:Nat}{v:Value}{k:ac→Prop}(j:h[b]? =some (.cells c t (0,0))) (e:c.setIfInBounds i v=c')
 (g:∀h',h'[b]? =some (.cells c' t (0,0))→Upd (· =b) h h'→k h'):At (hset h ⟨b,i,none⟩ v) k:=yL j fun h' d f=>g h' (e▸d) f
theorem Kt{M:Nat→Prop}{h:ac}{b d n:Nat}{sp sk:SliceV}{s:Slots}{ow:Option Addr}(o:OwnN M h b d n sp sk s ow){i:Nat}(u:i<32){K:Unit→ac→Prop}
  (Y:∀h' D I sp' sk',OwnN M h' b D I sp' sk' ⟨upd s.p i none,upd s.k i none⟩ ow→Upd M h h'→K () h'):HC PG kq [.pointer (some ⟨b,0,none⟩),.int .i64 i] [] K h:=by
 obtain⟨A,B,Z,hB,f,p⟩:=o.ex;have bits:=o.bits;refine Ah _ i ?_;unfold tF dj cH bV mn o9;have ew:∀k:Nat,k≤100→IntKind.wrap .i64 ((k:Int)+1)=((k+1:Nat):Int):=fun k Y=>by rw[dT (by omega)];omega
 have hc1:=yI i d;have hc2:=yI i n;have O:∀x,A x→M x∨h.size≤x:=fun x hx=>.inl (f x hx).1
 refine Join.intro (fun _ h'=>∃sp',h'[b]? =some (.cells (fL d n sp' sk false ow) aZ (0,0))∧OwnS nY 2 ar A h' sp' (fm (upd s.p i none) 32)∧OwnS tT 1 bd B h' sk (fm s.k 32)∧Upd M h h') (fun R E=>?_) ?_
 ·refine⟨_,rfl,_,dY (i:=0) o.blk,A6 bits.d32 u ?_⟩
  rw[bits.dp i u];cases hp:s.p i with
  |none=>exact aq.2 (E _ _ ⟨sp,o.blk,by rw[uq hp];exact Z,hB,Upd.refl _ _⟩)
  |some y=>
   refine aK.2 ⟨_,rfl,_,dY (i:=0) o.blk,pE bits.d32 u ⟨_,rfl,sp,dY (i:=2) o.blk,?_⟩⟩;rw[ew _ (by omega)];refine Jw Z (Fg u bits.dp hp) (by have:=Fh (g:=s.p);omega) fun G W v j=>?_
   rw[←Nb u bits.dp hp]at v;have b2:=j.get o.blk fun U=>(f b U).2.2.1 rfl
   refine⟨_,rfl,OF (i:=2) b2 (show 2<6 by decide),FV (i:=2) (c':=fL d n G sk false ow) b2 rfl fun X b3 m=>?_⟩
   refine E _ _ ⟨G,b3,v.upd m fun x hx e=>(f x hx).2.2.1 e,(hB.upd j fun x hx J=>(f x J).2.1 hx).upd m fun x hx e=>(p x hx).2.1 e,(j.mono O).tr (m.mono fun x e=>.inl (e▸o.mb))⟩
 rintro _ h1 ⟨t,b1,F,C,H⟩;refine Join.intro (fun _ h'=>∃sk',h'[b]? =some (.cells (fL d n t sk' false ow) aZ (0,0))∧OwnS nY 2 ar A h' t (fm (upd s.p i none) 32)∧OwnS tT 1 bd B h' sk' (fm (upd s.k i none) 32)∧Upd M h1 h') (fun R E=>?_) ?_
 ·refine⟨_,rfl,_,dY (i:=1) b1,A6 bits.n32 u ?_⟩
  rw[bits.nk i u];cases hp:s.k i with
  |none=>exact aq.2 (E _ _ ⟨sk,b1,F,by rw[uq hp];exact C,Upd.refl _ _⟩)
  |some y=>
   refine aK.2 ⟨_,rfl,_,dY (i:=1) b1,pE bits.n32 u ⟨_,rfl,sk,dY (i:=3) b1,?_⟩⟩;rw[ew _ (by omega)];refine Jx C (Fg u bits.nk hp) (by have:=Fh (g:=s.k);omega) fun G W v j=>?_
   rw[←Nb u bits.nk hp]at v;have b2:=j.get b1 fun U=>(p b U).2.1 rfl
   refine⟨_,rfl,OF (i:=3) b2 (show 3<6 by decide),FV (i:=3) (c':=fL d n t G false ow) b2 rfl fun X b3 m=>?_⟩
   refine E _ _ ⟨G,b3,(F.upd j fun x hx J=>(f x hx).2.1 J).upd m fun x hx e=>(f x hx).2.2.1 e,v.upd m fun x hx e=>(p x hx).2.1 e,(j.mono fun x hx=>.inl (p x hx).1).tr (m.mono fun x e=>.inl (e▸o.mb))⟩
 rintro _ W ⟨w,b2,Q,P,j⟩;refine⟨_,rfl,_,dY (i:=0) b2,_,rfl,_,dY (i:=1) b2,?_⟩;refine CZ bits.d32 u fun D V T=>⟨dY (i:=1) b2,?_⟩
 refine CZ bits.n32 u fun I S N=>?_
 refine⟨_,rfl,OF (i:=0) b2 (show 0<6 by decide),FV (i:=0) (c':=fL D n t w false ow) b2 rfl fun X b3 m=>?_⟩
 refine⟨_,rfl,OF (i:=1) b3 (show 1<6 by decide),FV (i:=1) (c':=fL D I t w false ow) b3 rfl fun h4 b4 L=>?_⟩
 have q:=m.tr L;have z:=(H.tr (j.tr (q.mono (M':=M) fun x e=>.inl (e▸o.mb)))).size
 refine Y h4 D I t w ⟨b4,⟨V,S,fun c hc=>?_,fun c hc=>?_⟩,⟨A,B,Q.upd q fun x hx e=>(f x hx).2.2.1 e,P.upd q fun x hx e=>(p x hx).2.1 e,fun x hx=>⟨(f x hx).1,(f x hx).2.1,(f x hx).2.2.1,by have:=(f x hx).2.2.2;omega⟩,fun x hx=>⟨(p x hx).1,(p x hx).2.1,by have:=(p x hx).2.2;omega⟩⟩,o.mb⟩ (H.tr (j.tr (q.mono fun x e=>.inl (e▸o.mb))))
 ·rw[T,bits.dp c hc];simp only[upd];split<;>simp[*]
 ·rw[N,bits.nk c hc];simp only[upd];split<;>simp[*]
end Go.Proofs
namespace Go.Proofs
open Go.Lift
theorem OwnS.setAt{α:Type}{f:α→List Value}{c:Nat}{t:TypeId}{M:Nat→Prop}{h:ac}{s:SliceV}{xs:List α}(m:OwnS f c t M h s xs){k:Nat}(o:k<xs.length)(x:α):
  ∃a,s.a=some a∧M a.block∧uf h (some (adr a (k*c))) 0 (f x)∧OwnS f c t M (ii h (adr a (k*c)) 0 (f x)) s (xs.take k++x::xs.drop (k+1))∧Upd (· =a.block) h (ii h (adr a (k*c)) 0 (f x)):=by
 have i:∀x,(f x).length=c∧0<c:=m.ne;have v:=m.len;have g:=m.cap;rcases m.blk with D|⟨b,e,q,w,hc,z⟩
 ·omega
 have p:((xs.take k).flatMap f).length=k*c:=by rw[jF i,List.length_take,bw (by omega)]
 have y:xs.flatMap f=(xs.take k).flatMap f++(f xs[k]++(xs.drop (k+1)).flatMap f):=by
  rw[←bv,←List.drop_eq_getElem_cons o];exact yH xs k
 rw[y]at hc;have C:=(i xs[k]).1;have F:=(i x).1;have d:(xs.take k++x::xs.drop (k+1)).flatMap f=(xs.take k).flatMap f++(f x++(xs.drop (k+1)).flatMap f):=by rw[List.flatMap_append,bv]
 generalize (xs.take k).flatMap f=A at p hc d;generalize (xs.drop (k+1)).flatMap f=B at hc d;generalize f xs[k]=X at C hc;have u:k*c+0+(f x).length≤(A++(X++B)++e).length:=by simp only[ai];omega
 have n:adr ⟨b,0,none⟩ (k*c)=⟨b,k*c,none⟩:=by rw[bC,az]
 refine⟨⟨b,0,none⟩,q,w,?_,?_,?_⟩
 ·rw[n]
  refine .inr ⟨_,rfl,fun j E=>?_⟩
  rw[bC];exact fR hc (by rw[List.size_toArray];omega)
 ·rw[n,iz (f x) h 0 (k*c) _ hc u]
  refine⟨by simp;omega,i,g,.inr ⟨b,e,q,w,?_,?_⟩⟩
  ·rw[dU hc,d]
   congr 3
   rw[Nat.add_zero,aJ A,cK p,←cR,bZ p,aJ X,bZ (by omega)];simp only[aJ]
  ·exact z
 ·rw[n,iz (f x) h 0 (k*c) _ hc u]
  exact Upd.set h _ rfl
theorem OwnN.node{M W:Nat→Prop}{h:ac}{b d n:Nat}{sp sk:SliceV}{s:Slots}{ow:Option Addr}(o:OwnN M h b d n sp sk s ow)(c:∀x,M x→¬W x):NodeAt W h b s:=by
 obtain⟨A,B,e,f,i,g⟩:=o.ex;exact⟨⟨d,n,sp,sk,ow,o.blk,o.bits,e.sl fun x hx _=>c _ (i x hx).1,f.sl fun x hx _=>c _ (g x hx).1,e.cap,f.cap⟩,c _ o.mb⟩
theorem Hu{W:Nat→Prop}{h:ac}{b:Nat}{s:Slots}(nd:NodeAt W h b s){i:Nat}(f:i<32){K:Bool→ac→Prop}(c:K true h):HC PG kr [.pointer (some ⟨b,0,none⟩),.int .i64 i] [.c .bool] K h:=by
 obtain⟨d,n,sp,sk,ow,e,_⟩:=nd.ex;refine Ai _ i ?_;unfold tG f8;refine aK.2 ⟨_,rfl,_,dY (i:=4) e,aK.2 ?_⟩;refine ax (fun _=>?_) fun h=>absurd (Int.natCast_nonneg i) h
 rw[decide_eq_true (by omega)];exact c
theorem JT{β:Type}{g:Nat→Option β}{i:Nat}{x y:Option β}:upd (upd g i x) i y=upd g i y:=by
 funext j;unfold upd;split<;>rfl
theorem kN{β:Type}{g:Nat→Option β}{i:Nat}{x:Option β}:upd g i x i=x:=by simp[upd]
theorem uW{W:Nat→Prop}{h:ac}{b:Nat}{s:Slots}(nd:NodeAt W h b s)(hW:∀x,W x→x<h.size){i:Nat}(u:i<32)(hx:∀y,s.p i=some y→s.k i=none)(p:Pr){K:Option Addr→ac→Prop}
  (hk:∀h' b',NodeAt W h' b' ⟨upd s.p i (some p),upd s.k i none⟩→Upd No h h'→K (some ⟨b',0,none⟩) h'):
  HC PG fu [.pointer (some ⟨b,0,none⟩),.pointer none,.int .i64 i,.agg #[.string p.1,.string p.2]] [.c .ptr] K h:=by
 refine xK _ none i p ?_;unfold rg bT aw dj cH bV rm mU mn pa sN yk;have k1:=Upd.hnew No h [.string p.1,.string p.2] ar;have b1:=be h [.string p.1,.string p.2] ar;refine bl ?_;simp only[bN h];generalize hnew h [.string p.1,.string p.2] ar=h1 at k1 b1;have z1:=aL b1;have V:=nd.upd k1 fun _ h=>h.elim
 refine Hu V u (aq.2 ?_);refine MH V fun h2 d n sp sk o I=>?_
 have bits:=o.bits;obtain⟨A,B,hA,hB,q,H⟩:=o.ex;have G:=k1.tr I;have v:=I.get0 b1;have X:∀x,h1.size≤x→¬W x:=fun x hx R=>by have:=hW x R;omega
 refine⟨_,rfl,_,dY (i:=0) o.blk,A6 bits.d32 u ?_⟩;rw[bits.dp i u];cases hp:s.p i with
 |some y=>
  refine aK.2 ⟨_,rfl,sp,dY (i:=2) o.blk,_,rfl,_,dY (i:=0) o.blk,p.1,by rw[bC,aC v];rfl,p.2,by rw[bC,aC v];rfl,?_⟩
  refine pE bits.d32 u ⟨⟨by rw[bC,aC v];rfl,by rw[bC,aC v];rfl⟩,dY (i:=2) o.blk,?_⟩
  have hlt:=Fg u bits.dp hp;obtain⟨a,ha,J,R,ho3,m⟩:=OwnS.setAt hA hlt p;have hlen:=hA.len;refine⟨by omega,a,ha,?_⟩;rw[aU];refine⟨R,bl ?_⟩;rw[←M9 u bits.dp hp]at ho3;have ob:=m.get o.blk fun e=>(q _ J).2.2.1 e.symm
  have z3:=m.size;have E:OwnN (fun x=>h1.size≤x) _ h1.size d n sp sk ⟨upd s.p i (some p),upd s.k i none⟩ none:=⟨ob,⟨bits.d32,bits.n32,fun c hc=>by
    rw[bits.dp c hc];simp only[upd];split
    ·rename_i e;rw[e,hp];rfl
    ·rfl,fun c hc=>by rw[bits.nk c hc,uq (hx y hp)]⟩,
   ⟨A,B,ho3,by rw[uq (hx y hp)];exact hB.upd m fun x hx e=>(q _ J).2.1 (e▸hx),fun x hx=>⟨(q x hx).1,(q x hx).2.1,(q x hx).2.2.1,by have:=(q x hx).2.2.2;omega⟩,fun x hx=>⟨(H x hx).1,(H x hx).2.1,by have:=(H x hx).2.2;omega⟩⟩,o.mb⟩
  refine hk _ _ (E.node X) (G.trans m fun x hx=>.inr ?_)
  have:=(q _ J).1;have hx:x=a.block:=hx;omega
 |none=>
  refine aq.2 ⟨_,rfl,Kt o u fun D d3 n3 F L E m=>?_⟩
  have f:=E.bits;obtain⟨A3,B3,hA3,hB3,j,k⟩:=E.ex;have z2:=I.size;have z3:=m.size;have z:=m.get v (show ¬h1.size≤h.size by omega)
  have T:Upd No h D:=G.trans m fun x hx=>.inr (Nat.le_trans (Nat.le_of_lt z1) hx)
  refine⟨_,rfl,F,dY (i:=2) E.blk,_,rfl,_,dY (i:=0) E.blk,p.1,by rw[bC,aC z];rfl,p.2,by rw[bC,aC z];rfl,?_⟩
  have Q:=Upd.hnew No D [.string p.1,.string p.2] ar;have b4:=be D [.string p.1,.string p.2] ar;have z4:=gg D [.string p.1,.string p.2] ar;have O:=E.upd Q fun _ h=>h.elim
  have fin:HC PG cg [.slice F.a F.len F.cap,.int .i64 (um i d3),.slice (some (aV D)) 1 1] [.c .slice] (fun(N:SliceV) U=>
       ∃a34:Addr,some (⟨h1.size,0,none⟩:Addr)=some a34∧
       (Wr U (adr (adr a34 0) 2)∧
        At (hset U (adr (adr a34 0) 2) (.slice N.a N.len N.cap)) (fun P=>
         ∃a36:Addr,some (⟨h1.size,0,none⟩:Addr)=some a36∧
         ∃v37:Int,aB P (adr (adr a36 0) 0)=some (.int .u32 v37)∧
         HC PG eh [.int .u32 v37,.int .i64 i] [.c (.int .u32)] (fun(e38:Int) Z=>
          ∃a40:Addr,some (⟨h1.size,0,none⟩:Addr)=some a40∧
          (Wr Z (adr (adr a40 0) 0)∧
           At (hset Z (adr (adr a40 0) 0) (.int .u32 e38)) (fun h41=>
            K (some ⟨h1.size,0,none⟩) h41))) P))) (hnew D [.string p.1,.string p.2] ar):=by
   generalize hnew D [.string p.1,.string p.2] ar=h4 at Q b4 z4 O;rw[bN D];have hA4:=(hA3.upd Q fun _ _ h=>h).more (M':=fun x=>A3 x∨h4.size≤x) fun x hx=>.inl hx
   have hpn:(⟨upd s.p i none,upd s.k i none⟩:Slots).p i=none:=kN;refine Jf hA4 (Px u f.dp) (by have:=Fh (g:=(⟨upd s.p i none,upd s.k i none⟩:Slots).p);omega) (x:=p) b4 (fun e=>e.elim (fun e=>by have:=(j _ e).2.2.2;omega) fun e=>by omega) (fun x hx=>.inr hx) fun s5 h5 S C=>?_
   rw[←Na u f.dp hpn p]at S;have hbl:h1.size<D.size:=aL E.blk;have b5:=C.get O.blk fun e=>e.elim (fun e=>(j _ e).2.2.1 rfl) fun e=>by omega
   refine⟨_,rfl,OF (i:=2) b5 (show 2<6 by decide),FV (i:=2) (c':=fL d3 n3 s5 L false none) b5 rfl fun h6 b6 hu6=>?_⟩
   refine⟨_,rfl,_,dY (i:=0) b6,JR f.d32 u fun w R hwt=>?_⟩
   refine⟨_,rfl,OF (i:=0) b6 (show 0<6 by decide),FV (i:=0) (c':=fL w n3 s5 L false none) b6 rfl fun h7 b7 hu7=>?_⟩
   have t:=hu6.tr hu7;have z5:=C.size;have z7:=t.size;have Y:=S.within;have e1:(⟨upd (⟨upd s.p i none,upd s.k i none⟩:Slots).p i (some p),upd s.k i none⟩:Slots)=⟨upd s.p i (some p),upd s.k i none⟩:=by rw[JT]
   have o7:OwnN (fun x=>h1.size≤x) h7 h1.size w n3 s5 L ⟨upd s.p i (some p),upd s.k i none⟩ none:=by
    rw[←e1];refine⟨b7,⟨R,f.n32,fun c hc=>?_,f.nk⟩,⟨fun x=>(A3 x∨h4.size≤x)∧x<h5.size,B3,Y.upd t fun x hx e=>?_,((hB3.upd Q fun _ _ h=>h).upd C fun x hx e=>?_).upd t fun x hx e=>(k x hx).2.1 e,fun x hx=>⟨?_,?_,?_,by omega⟩,fun x hx=>⟨(k x hx).1,(k x hx).2.1,by have:=(k x hx).2.2;omega⟩⟩,o.mb⟩
    ·rw[hwt,f.dp c hc];simp only[upd];split<;>simp[*]
    ·have e:x=h1.size:=e
     rcases hx.1 with h|h
     ·exact(j x h).2.2.1 e
     ·omega
    ·rcases e with e|e
     ·exact(j x e).2.1 hx
     ·have:=(k x hx).2.2;omega
    ·rcases hx.1 with h|h
     ·exact(j x h).1
     ·omega
    ·rcases hx.1 with h|h
     ·exact(j x h).2.1
     ·exact fun hb=>by have:=(k x hb).2.2;omega
    ·rcases hx.1 with h|h
     ·exact(j x h).2.2.1
     ·omega
   refine hk _ _ (o7.node X) (((T.tr Q).trans C fun x hx=>.inr ?_).trans t fun x hx=>.inr ?_)
   ·rcases hx with h|h
    ·have:=(j x h).1;omega
    ·omega
   ·have hx:x=h1.size:=hx
    omega
  refine⟨pE f.d32 u ⟨⟨by rw[bC,aC z];rfl,by rw[bC,aC z];rfl⟩,dY (i:=2) E.blk,bl ⟨dY (i:=2) O.blk,fin⟩⟩,bl ⟨dY (i:=0) O.blk,dY (i:=2) O.blk,pE f.d32 u ⟨dY (i:=2) O.blk,fin⟩⟩⟩
end Go.Proofs
namespace Go.Proofs
open Go.Lift
theorem AR{W:Nat→Prop}{h:ac}{b:Nat}{s:Slots}(nd:NodeAt W h b s)(hW:∀x,W x→x<h.size){i:Nat}(t:i<32)(hx:∀y,s.k i=some y→s.p i=none)(j:Addr){K:Option Addr→ac→Prop}
  (hk:∀h' b',NodeAt W h' b' ⟨upd s.p i none,upd s.k i (some (some j))⟩→Upd No h h'→K (some ⟨b',0,none⟩) h'):
  HC PG gT [.pointer (some ⟨b,0,none⟩),.pointer none,.int .i64 i,.pointer (some j)] [.c .ptr] K h:=by
 refine yX _ none i (some j) ?_;unfold sD bT dj cH bV mn pa sN L1;refine aq.2 ?_;refine Hu nd t (aq.2 ?_);refine MH nd fun h2 d n sp sk o G=>?_
 have bits:=o.bits;obtain⟨A,B,hA,hB,v,u⟩:=o.ex;have S:∀x,h.size≤x→¬W x:=fun x hx z=>by have:=hW x z;omega
 refine⟨_,rfl,_,dY (i:=1) o.blk,A6 bits.n32 t ?_⟩;rw[bits.nk i t];cases hp:s.k i with
 |some y=>
  refine aK.2 ⟨_,rfl,sk,dY (i:=3) o.blk,_,rfl,_,dY (i:=1) o.blk,?_⟩;refine pE bits.n32 t ⟨dY (i:=3) o.blk,?_⟩;have hlt:=Fg t bits.nk hp;obtain⟨a,ha,H,z,T,p⟩:=OwnS.setAt hB hlt (some j);have hlen:=hB.len;refine⟨by omega,a,ha,?_⟩;rw[aU];have Y:Wr h2 (adr a (um i n*1)):=by
   rcases z with z|⟨b',hb',z⟩
   ·cases z
   ·cases hb';exact z 0 (by simp)
  refine⟨Y,bl ?_⟩;rw[←M9 t bits.nk hp]at T;have ob:=p.get o.blk fun e=>(u _ H).2.1 e.symm
  have z3:=p.size;have E:OwnN (fun x=>h.size≤x) _ h.size d n sp sk ⟨upd s.p i none,upd s.k i (some (some j))⟩ none:=⟨ob,⟨bits.d32,bits.n32,fun c hc=>by rw[bits.dp c hc,uq (hx y hp)],fun c hc=>by
    rw[bits.nk c hc];simp only[upd];split
    ·rename_i e;rw[e,hp];rfl
    ·rfl⟩,
   ⟨A,B,by rw[uq (hx y hp)];exact hA.upd p fun x hx e=>(v _ hx).2.1 (e▸H),T,fun x hx=>⟨(v x hx).1,(v x hx).2.1,(v x hx).2.2.1,by have:=(v x hx).2.2.2;omega⟩,fun x hx=>⟨(u x hx).1,(u x hx).2.1,by have:=(u x hx).2.2;omega⟩⟩,o.mb⟩
  refine hk _ _ (E.node S) (G.trans p fun x hx=>.inr ?_)
  have:=(u _ H).1;have hx:x=a.block:=hx;omega
 |none=>
  refine aq.2 ⟨_,rfl,Kt o t fun D d3 n3 I F E p=>?_⟩
  have f:=E.bits;obtain⟨A3,B3,hA3,hB3,k,m⟩:=E.ex;have z2:=G.size;have z3:=p.size;have Q:Upd No h D:=G.trans p fun x hx=>.inr hx
  refine⟨_,rfl,F,dY (i:=3) E.blk,_,rfl,_,dY (i:=1) E.blk,?_⟩;have O:=Upd.hnew No D [.pointer (some j)] bd;have b4:=be D [.pointer (some j)] bd;have z4:=gg D [.pointer (some j)] bd;have L:=E.upd O fun _ h=>h.elim
  have fin:HC PG bR [.slice F.a F.len F.cap,.int .i64 (um i n3),.slice (some (aV D)) 1 1] [.c .slice] (fun(J:SliceV) R=>
       ∃a34:Addr,some (⟨h.size,0,none⟩:Addr)=some a34∧
       (Wr R (adr (adr a34 0) 3)∧
        At (hset R (adr (adr a34 0) 3) (.slice J.a J.len J.cap)) (fun N=>
         ∃a36:Addr,some (⟨h.size,0,none⟩:Addr)=some a36∧
         ∃v37:Int,aB N (adr (adr a36 0) 1)=some (.int .u32 v37)∧
         HC PG eh [.int .u32 v37,.int .i64 i] [.c (.int .u32)] (fun(e38:Int) V=>
          ∃a40:Addr,some (⟨h.size,0,none⟩:Addr)=some a40∧
          (Wr V (adr (adr a40 0) 1)∧
           At (hset V (adr (adr a40 0) 1) (.int .u32 e38)) (fun Z=>
            K (some ⟨h.size,0,none⟩) Z))) N))) (hnew D [.pointer (some j)] bd):=by
   generalize hnew D [.pointer (some j)] bd=h4 at O b4 z4 L;rw[bN D];have hB4:=(hB3.upd O fun _ _ h=>h).more (M':=fun x=>B3 x∨h4.size≤x) fun x hx=>.inl hx
   have hpn:(⟨upd s.p i none,upd s.k i none⟩:Slots).k i=none:=kN;refine Jg hB4 (Px t f.nk) (by have:=Fh (g:=(⟨upd s.p i none,upd s.k i none⟩:Slots).k);omega) (x:=some j) b4 (fun e=>e.elim (fun e=>by have:=(m _ e).2.2;omega) fun e=>by omega) (fun x hx=>.inr hx) fun s5 h5 P C=>?_
   rw[←Na t f.nk hpn (some j)]at P;have hbl:h.size<D.size:=aL E.blk;have b5:=C.get L.blk fun e=>e.elim (fun e=>(m _ e).2.1 rfl) fun e=>by omega
   refine⟨_,rfl,OF (i:=3) b5 (show 3<6 by decide),FV (i:=3) (c':=fL d3 n3 I s5 false none) b5 rfl fun h6 b6 hu6=>?_⟩
   refine⟨_,rfl,_,dY (i:=1) b6,JR f.n32 t fun w z hwt=>?_⟩
   refine⟨_,rfl,OF (i:=1) b6 (show 1<6 by decide),FV (i:=1) (c':=fL d3 w I s5 false none) b6 rfl fun h7 b7 X=>?_⟩
   have q:=hu6.tr X;have z5:=C.size;have z7:=q.size;have U:=P.within;have e1:(⟨upd s.p i none,upd (⟨upd s.p i none,upd s.k i none⟩:Slots).k i (some (some j))⟩:Slots)=⟨upd s.p i none,upd s.k i (some (some j))⟩:=by rw[JT]
   have o7:OwnN (fun x=>h.size≤x) h7 h.size d3 w I s5 ⟨upd s.p i none,upd s.k i (some (some j))⟩ none:=by
    rw[←e1];refine⟨b7,⟨f.d32,z,f.dp,fun c hc=>?_⟩,⟨A3,fun x=>(B3 x∨h4.size≤x)∧x<h5.size,((hA3.upd O fun _ _ h=>h).upd C fun x hx e=>?_).upd q fun x hx e=>(k x hx).2.2.1 e,U.upd q fun x hx e=>?_,fun x hx=>⟨(k x hx).1,?_,(k x hx).2.2.1,by have:=(k x hx).2.2.2;omega⟩,fun x hx=>⟨?_,?_,by omega⟩⟩,o.mb⟩
    ·rw[hwt,f.nk c hc];simp only[upd];split<;>simp[*]
    ·rcases e with e|e
     ·exact(k x hx).2.1 e
     ·have:=(k x hx).2.2.2;omega
    ·have e:x=h.size:=e
     rcases hx.1 with h|h
     ·exact(m x h).2.1 e
     ·omega
    ·rintro⟨h|h,_⟩
     ·exact(k x hx).2.1 h
     ·have:=(k x hx).2.2.2;omega
    ·rcases hx.1 with h|h
     ·exact(m x h).1
     ·omega
    ·rcases hx.1 with h|h
     ·exact(m x h).2.1
     ·omega
   refine hk _ _ (o7.node S) (((Q.tr O).trans C fun x hx=>.inr ?_).trans q fun x hx=>.inr ?_)
   ·rcases hx with h|h
    ·exact(m x h).1
    ·omega
   ·have hx:x=h.size:=hx
    omega
  refine⟨pE f.n32 t ⟨dY (i:=3) E.blk,bl ⟨dY (i:=3) L.blk,fin⟩⟩,bl ⟨dY (i:=1) L.blk,dY (i:=3) L.blk,pE f.n32 t ⟨dY (i:=3) L.blk,fin⟩⟩⟩
end Go.Proofs
namespace Go.Proofs
open Go.Lift
theorem O2{h:ac}{b d n:Nat}{sp sk:SliceV}{c:Bool}{ow:Option Addr}(f:h[b]? =some (.cells (fL d n sp sk c ow) aZ (0,0))) {K:Int→ac→Prop} (e:K (d:Int) h):HC PG pk [.pointer (some ⟨b,0,none⟩)] [.c (.int .u32)] K h:=by
 refine BF _ ?_;unfold uO dj;exact aq.2 ⟨_,rfl,_,dY (i:=0) f,e⟩
theorem ML{h:ac}{b d n:Nat}{sp sk:SliceV}{c:Bool}{ow:Option Addr}(f:h[b]? =some (.cells (fL d n sp sk c ow) aZ (0,0))) {K:Int→ac→Prop} (e:K (n:Int) h):HC PG ou [.pointer (some ⟨b,0,none⟩)] [.c (.int .u32)] K h:=by
 refine Al _ ?_;unfold tJ dj;exact aq.2 ⟨_,rfl,_,dY (i:=1) f,e⟩
theorem pO{h:ac}{b d n:Nat}{sp sk:SliceV}{c:Bool}{ow:Option Addr}(f:h[b]? =some (.cells (fL d n sp sk c ow) aZ (0,0))) {K:Bool→ac→Prop} (e:K c h):HC PG gc [.pointer (some ⟨b,0,none⟩)] [.c .bool] K h:=by
 refine wU _ ?_;unfold qh f8;exact aK.2 ⟨_,rfl,_,dY (i:=4) f,e⟩
def OU(o:Option Pr):Pr:=o.getD (⟨#[]⟩,⟨#[]⟩)
theorem MD{h:ac}{b:Nat}{q p:Pr}(c:h[b]? =some (.cells #[.string q.1,.string q.2] ar (0,0))) {k:ac→Prop}
  (d:∀h',h'[b]? =some (.cells #[.string p.1,.string p.2] ar (0,0))→Upd (· =b) h h'→k h'):uf h (some ⟨b,0,none⟩) 0 [.string p.1,.string p.2]∧At (ii h ⟨b,0,none⟩ 0 [.string p.1,.string p.2]) k:=by
 have e:=iz [.string p.1,.string p.2] h 0 0 [.string q.1,.string q.2] c (by simp);refine⟨.inr ⟨_,rfl,fun j f=>by rw[bC];exact fR c (by simp at f⊢;omega)⟩,bl ?_⟩
 rw[e];refine d _ ?_ (Upd.set h _ rfl);rw[dU c];rfl
theorem Hl{W:Nat→Prop}{h:ac}{b:Nat}{s:Slots}(nd:NodeAt W h b s){i:Nat}(k:i<32){K:Pr×Bool→ac→Prop}(m:∀h',Upd No h h'→K (OU (s.p i),(s.p i).isSome) h'):
  HC PG lH [.pointer (some ⟨b,0,none⟩),.int .i64 i] [.agg [.str,.str],.c .bool] K h:=by
 refine BE _ i ?_;unfold uN bT cT aw dj cH cG mU mn rF;obtain⟨d,n,sp,sk,ow,z,bits,g,A,u,w⟩:=nd.ex;have k1:=Upd.hnew No h [.string (⟨#[]⟩:ByteArray),.string (⟨#[]⟩:ByteArray)] ar;have b1:=be h [.string (⟨#[]⟩:ByteArray),.string (⟨#[]⟩:ByteArray)] ar;refine bl ?_;simp only[bN h];generalize hnew h [.string (⟨#[]⟩:ByteArray),.string (⟨#[]⟩:ByteArray)] ar=h1 at k1 b1
 have c:=k1.get0 z;have f:h1[h.size]? =some (.cells #[.string PC.1,.string PC.2] ar (0,0)):=b1;refine O2 c (A6 bits.d32 k ?_);rw[bits.dp i k];cases hp:s.p i with
 |none=>
  rw[hp]at m;refine aK.2 (MD (p:=PC) f fun B b2 e=>⟨_,by rw[bC,aC b2];rfl,_,by rw[bC,aC b2];rfl,m _ (k1.trans e fun x hx=>.inr (dX hx.symm))⟩)
 |some y=>
  rw[hp]at m;refine aq.2 ⟨_,rfl,sp,dY (i:=2) c,_,rfl,_,dY (i:=0) c,pE bits.d32 k ⟨dY (i:=2) c,?_⟩⟩;have v:=Fg k bits.dp hp;have j:=g.upd k1 fun _ h=>h.elim
  obtain⟨a,t,_,o⟩:=j.at (Nc k bits.dp hp);have q:=g.len;refine⟨by omega,a,t,y.1,o 0 _ rfl,y.2,o 1 _ rfl,?_⟩;refine MD (p:=y) f fun B b2 e=>⟨_,by rw[bC,aC b2];rfl,_,by rw[bC,aC b2];rfl,m _ (k1.trans e fun x hx=>.inr (dX hx.symm))⟩
theorem FZ{W:Nat→Prop}{h:ac}{b:Nat}{s:Slots}(nd:NodeAt W h b s){i:Nat}(c:i<32){K:Option Addr×Bool→ac→Prop}(f:K ((s.k i).getD none,(s.k i).isSome) h):
  HC PG mJ [.pointer (some ⟨b,0,none⟩),.int .i64 i] [.c .ptr,.c .bool] K h:=by
 refine CF _ i ?_;unfold vD aD bT dj cH mn;obtain⟨d,n,sp,sk,ow,g,bits,m,e,o,t⟩:=nd.ex;refine ML g (A6 bits.n32 c ?_);rw[bits.nk i c];cases hp:s.k i with
 |none=>rw[hp]at f;exact aK.2 f
 |some y=>
  rw[hp]at f;refine aq.2 ⟨_,rfl,sk,dY (i:=3) g,_,rfl,_,dY (i:=1) g,pE bits.n32 c ⟨dY (i:=3) g,?_⟩⟩;have q:=Fg c bits.nk hp;obtain⟨a,k,_,p⟩:=e.at (Nc c bits.nk hp);have j:=e.len;exact⟨by omega,a,k,y,p 0 _ rfl,f⟩
theorem MG{W:Nat→Prop}{h:ac}{b d n:Nat}{sp sk:SliceV}{e:Bool}{ow:Option Addr}{l:List Pr}(g:h[b]? =some (.cells (fL d n sp sk e ow) aZ (0,0))) (c:Sl nY 2 W h sp l) (j:l.length≤1000000000) {K:SliceV→ac→Prop}
  (f:∀s' h',OwnS nY 2 ar (fun x=>h.size≤x) h' s' l→Upd No h h'→K s' h'):HC PG oq [.pointer (some ⟨b,0,none⟩)] [.c .slice] K h:=by
 refine Aj _ ?_;unfold tH cH;exact aq.2 ⟨_,rfl,sp,dY (i:=2) g,Be c (by omega) f⟩
structure BuckAt(W:Nat→Prop)(h:ac)(b:Nat)(l:List Pr):Prop where
 ex:∃sp sk ow,h[b]? =some (.cells (fL 0 0 sp sk true ow) aZ (0,0))∧Sl nY 2 W h sp l∧Sl tT 1 W h sk []∧sp.len≤sp.cap∧sk.len≤sk.cap
 nw:¬W b
theorem BuckAt.upd{W M:Nat→Prop}{h h':ac}{b:Nat}{l:List Pr}(n:BuckAt W h b l)(k:Upd M h h')(hm:∀b,M b→W b∨h.size≤b):BuckAt W h' b l:=by
 obtain⟨sp,sk,ow,c,f,d,e,i⟩:=n.ex;exact⟨⟨sp,sk,ow,k.get c (fun g=>(hm _ g).elim n.nw fun h=>by have:=aL c;omega),f.upd k hm,d.upd k hm,e,i⟩,n.nw⟩
theorem M1{W:Nat→Prop}{h:ac}{b:Nat}{l:List Pr}(y:BuckAt W h b l)(n:fk l)(o:l.length≤1000000000)(k:ByteArray){K:ByteArray×Bool→ac→Prop}
  (i:∀h' v,Upd No h h'→(dA l k=true→(k,v)∈l)→(dA l k=false→v=⟨#[]⟩)→K (v,dA l k) h'):HC PG r7 [.pointer (some ⟨b,0,none⟩),.string k] [.c .str,.c .bool] K h:=by
 refine JI _ k ?_;unfold Ee bT cG L0;obtain⟨sp,sk,ow,A,j,w,z,x⟩:=y.ex;refine MG A j o fun q t m g=>?_
 have c:Sl nY 2 No t q l:=m.sl fun _ _ _ h=>h
 refine Kr c n o k fun B d=>?_
 cases ht:dA l k with
 |false=>rw[ht]at i;exact aK.2 (i _ _ (g.tr d) (fun h=>by cases h) fun _=>rfl)
 |true=>
  rw[ht]at i;obtain⟨f,e⟩:=IP n ht;obtain⟨a,u,_,s⟩:=(c.upd d fun _ h=>h.elim).at (List.getElem?_eq_getElem f)
  have p:=c.len;refine aq.2 ⟨by simp only;omega,a,u,_,s 1 _ rfl,i _ _ (g.tr d) (fun _=>?_) fun h=>by cases h⟩
  have:(k,l[pos l k].2)=l[pos l k]:=Prod.ext e.symm rfl;rw[this];exact List.getElem_mem f
theorem Re{W:Nat→Prop}{h:ac}{b:Nat}{l:List Pr}(c:BuckAt W h b l)(d:fk l)(g:l.length≤1000000000)(k:ByteArray){K:ByteArray×Bool→ac→Prop}
 (e:∀h' v,Upd No h h'→(dA l k=true→(k,v)∈l)→K (v,dA l k) h'):HC PG r7 [.pointer (some ⟨b,0,none⟩),.string k] [.c .str,.c .bool] K h:=M1 c d g k fun h' v f i _=>e h' v f i
end Go.Proofs
namespace Go.Proofs
open Go.Lift
set_option maxRecDepth 4000 in
theorem OD{W:Nat→Prop}{h:ac}{b:Nat}{l:List Pr}(nd:BuckAt W h b l)(hn:l.length≤1000000000){K:Option Addr→ac→Prop}
  (D:∀h' sp sk,h'[h.size]? =some (.cells (fL 0 0 sp sk true none) aZ (0,0))→OwnS nY 2 ar (fun x=>h.size<x∧x<h'.size) h' sp l→OwnS tT 1 bd (fun x=>h.size<x∧x<h'.size) h' sk []→Upd No h h'→K (some ⟨h.size,0,none⟩) h'):
  HC PG iA [.pointer (some ⟨b,0,none⟩),.pointer none] [.c .ptr] K h:=by
 obtain⟨sp,sk,ow,f,y,F,T,U⟩:=nd.ex;refine vy _ none ?_;unfold qA nv dj bJ cH bV f8 pa LR PF;refine E2 (aq.2 ?_);have c:∀{h:ac} {b:Nat} {c:Array Value} {i:Nat},h[b]? =some (.cells c aZ (0,0))→aB h ⟨b,0+i,none⟩=c[i]?:=fun f=>by rw[az];exact aC f
 refine⟨_,rfl,_,c (i:=0) f,_,c (i:=1) f,sp,c (i:=2) f,sk,c (i:=3) f,_,c (i:=4) f,_,c (i:=5) f,?_⟩;have k1:=Upd.hnew No h [.int .u32 0,.int .u32 0,.slice none 0 0,.slice none 0 0,.bool false,.pointer none] aZ;have b1:=be h [.int .u32 0,.int .u32 0,.slice none 0 0,.slice none 0 0,.bool false,.pointer none] aZ;refine bl ?_;simp only[bN h];generalize hnew h [.int .u32 0,.int .u32 0,.slice none 0 0,.slice none 0 0,.bool false,.pointer none] aZ=h1 at k1 b1
 have z:ii h1 ⟨h.size,0,none⟩ 0 [.int .u32 ((0:Nat):Int),.int .u32 ((0:Nat):Int),.slice sp.a sp.len sp.cap,.slice sk.a sk.len sk.cap,.bool true,.pointer ow]=_:=iz _ h1 0 0 _ b1 (by simp);refine⟨.inr ⟨_,rfl,fun j R=>by rw[bC];exact fR b1 (by simp at R⊢;omega)⟩,bl ?_⟩
 rw[z];have b2:=dU (o:=.cells (fL 0 0 sp sk true ow) aZ (0,0)) b1;have p:Upd No h _:=k1.trans (M':=(· =h.size)) (Upd.set h1 (.cells (fL 0 0 sp sk true ow) aZ (0,0)) rfl) fun x hx=>.inr (dX hx.symm)
 have H:h.size<(h1.setIfInBounds h.size (.cells (fL 0 0 sp sk true ow) aZ (0,0))).size:=aL b2;have S:h.size≠b:=fun e=>by have:=aL f;omega
 have O:(Obj.cells (List.take (0+0) [Value.int .u32 0,.int .u32 0,.slice none 0 0,.slice none 0 0,.bool false,.pointer none]++ [Value.int .u32 ((0:Nat):Int),.int .u32 ((0:Nat):Int),.slice sp.a sp.len sp.cap,.slice sk.a sk.len sk.cap,.bool true,.pointer ow]++List.drop (0+0+ [Value.int .u32 ((0:Nat):Int),.int .u32 ((0:Nat):Int),.slice sp.a sp.len sp.cap,.slice sk.a sk.len sk.cap,.bool true,.pointer ow].length) [Value.int .u32 0,.int .u32 0,.slice none 0 0,.slice none 0 0,.bool false,.pointer none]).toArray aZ (0,0))=.cells (fL 0 0 sp sk true ow) aZ (0,0):=rfl
 rw[O];generalize h1.setIfInBounds h.size (.cells (fL 0 0 sp sk true ow) aZ (0,0))=h2 at b2 p H;have n:=p.get0 f;refine⟨_,rfl,sp,c (i:=2) n,_,rfl,sk,c (i:=3) n,?_⟩;refine Be (y.upd p fun _ h=>h.elim) (by omega) fun t Y I g=>?_
 refine⟨c (i:=3) (g.get0 n),?_⟩;refine Fs ((F.upd p fun _ h=>h.elim).upd g fun _ h=>h.elim) (by simp) fun B h4 G m=>?_
 have J:=m.get0 (g.get0 b2);have s:=I.within.upd m fun _ _ h=>h
 have q:=G.within;have X:=g.size;have z4:=m.size;have w:∀{h:ac} {c:Array Value} {x i:Nat},h[x]? =some (.cells c aZ (0,0))→i<c.size→Wr h ⟨x,0+i,none⟩:=fun f P=>by rw[az];exact fR f P
 have st:∀{h:ac} {c c':Array Value} {x i:Nat} {v:Value} {k:ac→Prop},h[x]? =some (.cells c aZ (0,0))→c.setIfInBounds i v=c'→(∀h',h'[x]? =some (.cells c' aZ (0,0))→Upd (· =x) h h'→k h')→At (hset h ⟨x,i,none⟩ v) k:=fun f e D=>yL f fun h' C V=>D h' (e▸C) V
 refine⟨w (i:=2) J (show 2<6 by decide),st (i:=2) (c':=fL 0 0 t sk true ow) J rfl fun h5 L A=>?_⟩
 refine⟨w (i:=3) L (show 3<6 by decide),st (i:=3) (c':=fL 0 0 t B true ow) L rfl fun h6 N E=>?_⟩
 refine⟨w (i:=5) N (show 5<6 by decide),st (i:=5) (c':=fL 0 0 t B true none) N rfl fun Z Q u=>?_⟩
 refine vW (aq.2 ?_);have d:=A.tr (E.tr u);have z7:=d.size;refine D _ t B Q ((s.upd d fun x hx e=>?_).more fun x hx=>?_) ((q.upd d fun x hx e=>?_).more fun x hx=>?_) ?_
 ·have e:x=h.size:=e;omega
 ·omega
 ·have e:x=h.size:=e;omega
 ·omega
 ·exact((p.tr g).tr m).trans d fun x hx=>.inr (dX hx.symm)
theorem Gn{W:Nat→Prop}{h:ac}{b:Nat}{l:List Pr}(H:BuckAt W h b l)(n:∀x,W x→x<h.size)(z:fk l)(v:l.length≤1000000000)(p:Pr){K:Option Addr→ac→Prop}
  (B:∀h' b',BuckAt W h' b' (F5 l p)→Upd No h h'→K (some ⟨b',0,none⟩) h'):
  HC PG iB [.pointer (some ⟨b,0,none⟩),.pointer none,.agg #[.string p.1,.string p.2]] [.c .ptr] K h:=by
 refine CE _ none p ?_;unfold vC aw cH bV nU rm pa;have k1:=Upd.hnew No h [.string p.1,.string p.2] ar;have b1:=be h [.string p.1,.string p.2] ar;refine bl ?_;simp only[bN h];generalize hnew h [.string p.1,.string p.2] ar=h1 at k1 b1;have J:=aL b1;have k:=H.upd k1 fun _ h=>h.elim
 obtain⟨sp,sk,ow,I,y,G,E,F⟩:=k.ex;refine pO I (aq.2 ?_);refine OD k v fun L D s b2 t u c=>?_
 have j:=c.get0 b1;refine⟨_,rfl,D,dY (i:=2) b2,p.1,by rw[bC,aC j];rfl,p.2,by rw[bC,aC j];rfl,?_⟩
 refine IV (t.sl fun _ _ _ h=>h) t.cap z v p fun w O m f=>?_
 have b3:=f.get0 b2;refine⟨_,rfl,OF (i:=2) b3 (show 2<6 by decide),FV (i:=2) (c':=fL 0 0 w s true none) b3 rfl fun C A d=>?_⟩
 have N:=aL b2;have o:=m.upd d fun x hx e=>by have e:x=h1.size:=e;omega
 have q:=(u.upd f fun _ _ h=>h).upd d fun x hx e=>by have e:x=h1.size:=e;omega
 refine B C h1.size ⟨⟨w,s,none,A,o.sl fun x hx _ g=>?_,q.sl fun x hx _ g=>?_,m.cap,u.cap⟩,fun g=>?_⟩ (((k1.tr c).tr f).trans d fun x hx=>.inr ?_)
 ·have:=n x g;have:=c.size;omega
 ·have:=n x g;omega
 ·have:=n _ g;omega
 ·have hx:x=h1.size:=hx
  omega
theorem Ly{W:Nat→Prop}{h:ac}(c:∀x,W x→x<h.size){K:Option Addr→ac→Prop}(b:∀h' b',BuckAt W h' b' []→Upd No h h'→K (some ⟨b',0,none⟩) h'):HC PG ud [] [.c .ptr] K h:=by
 refine EH ?_;unfold yi;exact b _ _ ⟨⟨⟨none,0,0⟩,⟨none,0,0⟩,none,be h _ _,Sl.nil nX,Sl.nil rL,av _,av _⟩,fun hx=>pI _ (c _ hx)⟩ (Upd.hnew No h _ _)
theorem rp{W:Nat→Prop}{h:ac}(e:∀x,W x→x<h.size){K:Option Addr→ac→Prop}(d:∀h' b',NodeAt W h' b' ⟨fun _=>none,fun _=>none⟩→Upd No h h'→K (some ⟨b',0,none⟩) h'):HC PG oz [] [.c .ptr] K h:=by
 refine Gy ?_;unfold Az LR;have b:fm (fun _=>(none:Option Pr)) 32= []:=by simp[fm]
 have f:fm (fun _=>(none:Option (Option Addr))) 32= []:=by simp[fm]
 refine d _ _ ⟨⟨0,0,⟨none,0,0⟩,⟨none,0,0⟩,none,be h _ _,⟨by decide,by decide,fun c _=>by simp,fun c _=>by simp⟩,?_,?_,av _,av _⟩,fun hx=>pI _ (e _ hx)⟩ (Upd.hnew No h _ _)
 ·show Sl nY 2 W _ _ (fm (fun _=>none) 32)
  rw[b];exact Sl.nil nX
 ·show Sl tT 1 W _ _ (fm (fun _=>none) 32)
  rw[f];exact Sl.nil rL
end Go.Proofs
namespace Go.Proofs
open Go.Lift
def jb(p:Pr):List Pr→List Pr
 | []=> [p]
 |q::l=>if kl q.1 p.1 then q::jb p l else if q.1=p.1 then p::l else p::q::l
theorem lC(p q:Pr)(l:List Pr):jb p (q::l)=if kl q.1 p.1 then q::jb p l else if q.1=p.1 then p::l else p::q::l:=rfl
theorem CS(p:Pr):∀{l:List Pr},fk l→F5 l p=jb p l
 | [],_=>by simp[F5,jb,pos,dA]
 |q::l,f=>by
  have f:=bK.1 f;unfold jb;have b:pos (q::l) p.1=if kl q.1 p.1 then pos l p.1+1 else 0:=by
   unfold pos;rw[List.takeWhile_cons];by_cases h:kl q.1 p.1
   ·rw[if_pos (by simpa using h),if_pos h];rfl
   ·rw[if_neg (by simpa using h),if_neg h];rfl
  have d:dA (q::l) p.1=(decide (q.1=p.1)||dA l p.1):=by unfold dA;rw[List.any_cons]
  by_cases h:kl q.1 p.1
  ·have k:q.1≠p.1:=fun e=>by rw[e]at h;exact fS _ h
   rw[if_pos h,←CS p f.2];unfold F5;rw[d,b,if_pos h,decide_eq_false k,Bool.false_or];by_cases c:dA l p.1=true
   ·rw[if_pos c,if_pos c];rfl
   ·rw[if_neg c,if_neg c];rfl
  ·rw[if_neg h]
   unfold F5;rw[d,b,if_neg h];by_cases e:q.1=p.1
   ·rw[if_pos e,decide_eq_true e,Bool.true_or,if_pos rfl];rfl
   ·have j:=F3 h e
    have c:dA l p.1=false:=by
     unfold dA;rw[List.any_eq_false];intro r i g;have g:=of_decide_eq_true g;have:=f.1 r i;rw[g]at this;exact fS _ (rM j this)
    rw[if_neg e,decide_eq_false e,c];rfl
theorem zC{p q:Pr}:∀{l:List Pr},q∈jb p l→q=p∨q∈l
 | [],h=>by simp[jb]at h;exact .inl h
 |r::l,h=>by
  unfold jb at h;split at h
  ·rcases ah.1 h with h|h
   ·exact .inr (h▸aP ..)
   ·exact(zC h).imp id fun h=>aQ _ h
  ·split at h
   ·rcases ah.1 h with h|h
    ·exact .inl h
    ·exact .inr (aQ _ h)
   ·rcases ah.1 h with h|h
    ·exact .inl h
    ·exact .inr h
theorem EX(p:Pr):∀{l:List Pr},fk l→fk (jb p l)
 | [],_=>dE ..
 |q::l,b=>by
  have d:=b;have b:=bK.1 b;unfold jb;split
  ·rename_i h
   refine bK.2 ⟨fun r hm=>?_,EX p b.2⟩
   rcases zC hm with rfl|hm
   ·exact h
   ·exact b.1 r hm
  ·rename_i h
   split
   ·rename_i e
    exact bK.2 ⟨fun r hm=>e▸b.1 r hm,b.2⟩
   ·rename_i e
    have c:=F3 h e;refine bK.2 ⟨fun r hm=>?_,d⟩
    rcases ah.1 hm with rfl|hm
    ·exact c
    ·exact rM c (b.1 r hm)
theorem DG(p:Pr)(g:ByteArray→Bool):∀{l:List Pr},fk l→(jb p l).filter (fun q=>g q.1)=if g p.1 then jb p (l.filter fun q=>g q.1)else l.filter fun q=>g q.1
 | [],_=>by
  unfold jb;rw[ba,List.filter_nil]
 |q::l,f=>by
  have j:=f;have f:=bK.1 f;have k:=DG p g f.2;rw[lC];by_cases h:kl q.1 p.1
  ·rw[if_pos h,ba,ba,k]
   by_cases i:g q.1=true
   ·rw[if_pos i,if_pos i]
    split
    ·rw[lC,if_pos h]
    ·rfl
   ·rw[if_neg i,if_neg i]
  ·rw[if_neg h]
   by_cases e:q.1=p.1
   ·rw[if_pos e,ba,ba,e]
    by_cases b:g p.1=true
    ·rw[if_pos b,if_pos b,if_pos b,lC,if_neg h,if_pos e]
    ·rw[if_neg b,if_neg b,if_neg b]
   ·rw[if_neg e]
    have d:=F3 h e;rw[ba];by_cases b:g p.1=true
    ·rw[if_pos b,if_pos b]
     have:∀r∈(q::l).filter (fun q=>g q.1),kl p.1 r.1:=fun r hm=>by
      rcases ah.1 (List.mem_filter.1 hm).1 with rfl|hm
      ·exact d
      ·exact rM d (f.1 r hm)
     cases hf:(q::l).filter (fun q=>g q.1)with
     |nil=>rfl
     |cons r rs=>
      have c:=this r (by rw[hf];exact aP ..);rw[lC,if_neg fun m=>fS _ (rM c m),if_neg fun e=>by rw[e]at c;exact fS _ c]
    ·rw[if_neg b,if_neg b]
theorem CR{p:Pr}:∀{l:List Pr},fk l→p∈l→jb p l=l
 |q::l,b,hm=>by
  have b:=bK.1 b;unfold jb;rcases ah.1 hm with rfl|hm
  ·rw[if_neg (fS _),if_pos rfl]
  ·rw[if_pos (b.1 p hm),CR b.2 hm]
def ck(x:Hs)(lev:Nat)(k:ByteArray):Nat:=((jc x k).toNat>>>(5*lev))%32
theorem Kz(x:Hs)(lev:Nat)(k:ByteArray):ck x lev k<32:=sK _ (by omega)
def part(x:Hs)(lev c:Nat)(l:List Pr):List Pr:=l.filter fun p=>decide (ck x lev p.1=c)
def TrieAt(W:Nat→Prop)(x:Hs)(h:ac):Nat→Nat→List Pr→Prop
 |0,b,l=>BuckAt W h b l
 |m+1,b,l=>∃s,NodeAt W h b s∧∀c,c<32→
  ((part x (12-m) c l= []∧s.p c=none∧s.k c=none)∨(∃p,part x (12-m) c l= [p]∧s.p c=some p∧s.k c=none)∨
   (2≤(part x (12-m) c l).length∧s.p c=none∧∃kb,s.k c=some (some ⟨kb,0,none⟩)∧TrieAt W x h m kb (part x (12-m) c l)))
theorem TrieAt.upd0{W:Nat→Prop}{x:Hs}{h h':ac}(k:Upd No h h'):∀{m b:Nat} {l:List Pr},TrieAt W x h m b l→TrieAt W x h' m b l
 |0,_,_,t=>BuckAt.upd t k fun _ h=>h.elim
 |m+1,_,_,⟨s,nd,hc⟩=>⟨s,nd.upd k fun _ h=>h.elim,fun c d=>(hc c d).imp id fun o=>o.imp id fun⟨i,j,e,g,f⟩=>⟨i,j,e,g,TrieAt.upd0 k f⟩⟩
theorem NodeAt.less{W W':Nat→Prop}{h:ac}{b:Nat}{s:Slots}(n:NodeAt W h b s)(hm:∀b,W' b→W b∨h.size≤b):NodeAt W' h b s:=by
 obtain⟨d,m,sp,sk,ow,c,j,g,e,f,i⟩:=n.ex;exact⟨⟨d,m,sp,sk,ow,c,j,g.less hm,e.less hm,f,i⟩,fun hx=>(hm _ hx).elim n.nw fun h=>by have:=aL c;omega⟩
theorem BuckAt.less{W W':Nat→Prop}{h:ac}{b:Nat}{l:List Pr}(n:BuckAt W h b l)(hm:∀b,W' b→W b∨h.size≤b):BuckAt W' h b l:=by
 obtain⟨sp,sk,ow,c,f,d,e,g⟩:=n.ex;exact⟨⟨sp,sk,ow,c,f.less hm,d.less hm,e,g⟩,fun hx=>(hm _ hx).elim n.nw fun h=>by have:=aL c;omega⟩
theorem TrieAt.less{W W':Nat→Prop}{x:Hs}{h:ac}(hm:∀b,W' b→W b∨h.size≤b):∀{m b:Nat} {l:List Pr},TrieAt W x h m b l→TrieAt W' x h m b l
 |0,_,_,t=>BuckAt.less t hm
 |m+1,_,_,⟨s,nd,hc⟩=>⟨s,nd.less hm,fun c d=>(hc c d).imp id fun o=>o.imp id fun⟨i,j,e,g,f⟩=>⟨i,j,e,g,TrieAt.less hm f⟩⟩
theorem TrieAt.updM{W M:Nat→Prop}{x:Hs}{h h':ac}(k:Upd M h h')(hm:∀b,M b→W b∨h.size≤b):∀{m b:Nat} {l:List Pr},TrieAt W x h m b l→TrieAt W x h' m b l
 |0,_,_,t=>BuckAt.upd t k hm
 |m+1,_,_,⟨s,nd,hc⟩=>⟨s,nd.upd k hm,fun c d=>(hc c d).imp id fun o=>o.imp id fun⟨i,j,e,g,f⟩=>⟨i,j,e,g,TrieAt.updM k hm f⟩⟩
end Go.Proofs
namespace Go.Proofs
open Go.Lift
theorem Qz(a b:Nat):(ae (IntKind.bits .u64) (a:Int)&&&ae (IntKind.bits .u64) (b:Int)).toNat=(a%18446744073709551616)&&&(b%18446744073709551616):=by
 simp[IntKind.bits,py,nA];rfl
theorem Rn{b:Int}(f:0≤b∧b<18446744073709551616){lev:Nat}(i:lev<13){h:ac}{K:Int→ac→Prop}(d:K (((b.toNat>>>(5*lev))%32:Nat):Int) h):HC PG ng [.int .u64 b,.int .i64 lev] [.c (.int .i64)] K h:=by
 refine JH b lev ?_;unfold Ed;refine Join.plain (ax (fun h=>by omega) fun _=>?_)
 rw[decide_eq_false (by omega)];refine aq.2 ?_;have g:IntKind.wrap .i64 (5*(lev:Int))=((5*lev:Nat):Int):=by rw[dT (by omega)];omega
 rw[g];have em:min (((5*lev:Nat):Int)).toNat (IntKind.bits .u64)=5*lev:=by rw[aU];exact bw (by show 5*lev≤64;omega)
 rw[em];obtain⟨n,rfl⟩:=Int.eq_ofNat_of_zero_le f.1;rw[aU]at d;simp only[Bd];rw[rP];have c:n>>>(5*lev)<18446744073709551616:=hH (oL _ _) (by omega);have e:=Qz (n>>>(5*lev)) 31;rw[jl c,show((31:Nat):Int)=(31:Int)from rfl,show 31%18446744073709551616=2^5-1 from rfl,Nat.and_two_pow_sub_one_eq_mod]at e
 rw[e];have hm:n>>>(5*lev)%2^5<32:=sK _ (by omega);rw[Go.IntWalk.u64_in _ (by omega),dT (by omega)];exact⟨by omega,d⟩
theorem O4{x:Hs}{k:ByteArray}{lev:Nat}(c:lev<13){h:ac}{K:Int→ac→Prop}(b:K (ck x lev k:Int) h):HC PG ng [.int .u64 (jc x k),.int .i64 lev] [.c (.int .i64)] K h:=Rn (Hw x k) c b
abbrev Pg(x:Hs)(k:ByteArray):Value:=.agg #[.int .u64 x.k0,.int .u64 x.k1,.int .u64 x.mask,.pointer none,.string k,.int .u64 (jc x k)]
theorem Hg{x:Hs}{lev c:Nat}{l:List Pr}(h:∀p∈l,ck x lev p.1=c):part x lev c l=l:=List.filter_eq_self.2 fun p b=>decide_eq_true (h p b)
theorem Kf{x:Hs}{lev c:Nat}{l:List Pr}(h:∀p∈l,ck x lev p.1≠c):part x lev c l= []:=List.filter_eq_nil_iff.2 fun p b=>by simpa using h p b
theorem Hf{x:Hs}{lev c:Nat}{p:Pr}{l:List Pr}(b:fk l):part x lev c (jb p l)=if ck x lev p.1=c then jb p (part x lev c l)else part x lev c l:=by
 have:=DG p (fun k=>decide (ck x lev k=c)) b
 unfold part;rw[this];by_cases h:ck x lev p.1=c
 ·rw[if_pos h,if_pos (decide_eq_true h)]
 ·rw[if_neg h,if_neg (by simpa using h)]
theorem JU{p q:Pr}(h:p.1≠q.1):(jb q [p]).length=2:=by
 rw[lC];by_cases b:kl p.1 q.1
 ·rw[if_pos b];rfl
 ·rw[if_neg b,if_neg h];rfl
theorem Kh{p q r:Pr}(h:r∈jb q [p]):r=p∨r=q:=(zC h).symm.imp (fun h=>ak.1 h) id
theorem lz{β:Type}{g:Nat→Option β}{i c:Nat}{x:Option β}(h:c≠i):upd g i x c=g c:=by unfold upd;rw[if_neg h]
theorem O8{W:Nat→Prop}{x:Hs}:∀(m:Nat) (p q:Pr),m≤13→p.1≠q.1→∀{h:ac},(∀y,W y→y<h.size)→∀{K:Option Addr→ac→Prop},(∀h' b',TrieAt W x h' m b' (jb q [p])→Upd No h h'→K (some ⟨b',0,none⟩) h')→
  HC PG kC [Pg x q.1,.agg #[.string p.1,.string p.2],.agg #[.string q.1,.string q.2],.int .i64 ((13-m:Nat):Int)] [.c .ptr] K h:=by
 intro m;induction m with
 |zero=>
  intro p q _ J h T K Q;have D:∀{h'},Upd No h h'→∀y,W y→y<h'.size:=fun k y S=>aE (T y S) k.size
  refine tw (x.k0,x.k1,x.mask,none,q.1,jc x q.1) p q ((13-0:Nat):Int) ?_;unfold oI ad El aw di af nU rm Ek vH K6 GI;have k1:=Upd.hnew No h [.int .u64 x.k0,.int .u64 x.k1,.int .u64 x.mask,.pointer none,.string q.1,.int .u64 (jc x q.1)] cd;have b1:=be h [.int .u64 x.k0,.int .u64 x.k1,.int .u64 x.mask,.pointer none,.string q.1,.int .u64 (jc x q.1)] cd
  refine bl ?_;simp only[bN h];generalize hnew h [.int .u64 x.k0,.int .u64 x.k1,.int .u64 x.mask,.pointer none,.string q.1,.int .u64 (jc x q.1)] cd=h1 at k1 b1;have C:=Upd.hnew No h1 [.string p.1,.string p.2] ar;have b2:=be h1 [.string p.1,.string p.2] ar;refine bl ?_;simp only[bN h1];generalize hnew h1 [.string p.1,.string p.2] ar=h2 at C b2
  have A:=Upd.hnew No h2 [.string q.1,.string q.2] ar;have b3:=be h2 [.string q.1,.string q.2] ar;refine bl ?_;simp only[bN h2];generalize hnew h2 [.string q.1,.string q.2] ar=h3 at A b3;have f:∀{h':ac},Upd No h3 h'→∀i,aB h' (adr ⟨h.size,0,none⟩ i)=(#[.int .u64 x.k0,.int .u64 x.k1,.int .u64 x.mask,.pointer none,.string q.1,.int .u64 (jc x q.1)]:Array Value)[i]?:=fun k i=>by
   rw[bC,aC (k.get0 (A.get0 (C.get0 b1))),az]
  have v:∀{h':ac},Upd No h3 h'→∀i,aB h' (adr ⟨h1.size,0,none⟩ i)=(#[.string p.1,.string p.2]:Array Value)[i]?:=fun k i=>by rw[bC,aC (k.get0 (A.get0 b2)),az]
  have s:∀{h':ac},Upd No h3 h'→∀i,aB h' (adr ⟨h2.size,0,none⟩ i)=(#[.string q.1,.string q.2]:Array Value)[i]?:=fun k i=>by rw[bC,aC (k.get0 b3),az]
  have r:=Upd.refl No h3;refine aK.2 ⟨none,f r 3,p.1,v r 0,p.2,v r 1,none,f r 3,q.1,s r 0,q.2,s r 1,?_⟩;refine Ly (D ((k1.tr C).tr A)) fun h4 b4 R d=>⟨⟨s d 0,s d 1⟩,f d 3,⟨v d 0,v d 1⟩,f d 3,?_⟩
  refine Gn R (D (((k1.tr C).tr A).tr d)) gn (by simp) p fun h5 b5 N B=>?_
  have o:=d.tr B;refine⟨⟨s o 0,s o 1⟩,f o 3,?_⟩;have L:F5 [] p= [p]:=CS p gn;rw[L]at N;refine Gn N (D (((k1.tr C).tr A).tr o)) (dE ..) (by simp) q fun X P O w=>?_
  rw[CS q (dE ..)]at O;exact Q X P O ((((k1.tr C).tr A).tr o).tr w)
 |succ m ih=>
  intro p q hm J h T K Q;have D:∀{h'},Upd No h h'→∀y,W y→y<h'.size:=fun k y S=>aE (T y S) k.size
  have hl:13-(m+1)<13:=by omega
  have n:13-(m+1)=12-m:=by omega
  refine tw (x.k0,x.k1,x.mask,none,q.1,jc x q.1) p q ((13-(m+1):Nat):Int) ?_;unfold oI ad El aw di af nU rm Ek vH K6 GI;have k1:=Upd.hnew No h [.int .u64 x.k0,.int .u64 x.k1,.int .u64 x.mask,.pointer none,.string q.1,.int .u64 (jc x q.1)] cd;have b1:=be h [.int .u64 x.k0,.int .u64 x.k1,.int .u64 x.mask,.pointer none,.string q.1,.int .u64 (jc x q.1)] cd
  refine bl ?_;simp only[bN h];generalize hnew h [.int .u64 x.k0,.int .u64 x.k1,.int .u64 x.mask,.pointer none,.string q.1,.int .u64 (jc x q.1)] cd=h1 at k1 b1;have C:=Upd.hnew No h1 [.string p.1,.string p.2] ar;have b2:=be h1 [.string p.1,.string p.2] ar;refine bl ?_;simp only[bN h1];generalize hnew h1 [.string p.1,.string p.2] ar=h2 at C b2
  have A:=Upd.hnew No h2 [.string q.1,.string q.2] ar;have b3:=be h2 [.string q.1,.string q.2] ar;refine bl ?_;simp only[bN h2];generalize hnew h2 [.string q.1,.string q.2] ar=h3 at A b3;have f:∀{h':ac},Upd No h3 h'→∀i,aB h' (adr ⟨h.size,0,none⟩ i)=(#[.int .u64 x.k0,.int .u64 x.k1,.int .u64 x.mask,.pointer none,.string q.1,.int .u64 (jc x q.1)]:Array Value)[i]?:=fun k i=>by
   rw[bC,aC (k.get0 (A.get0 (C.get0 b1))),az]
  have v:∀{h':ac},Upd No h3 h'→∀i,aB h' (adr ⟨h1.size,0,none⟩ i)=(#[.string p.1,.string p.2]:Array Value)[i]?:=fun k i=>by rw[bC,aC (k.get0 (A.get0 b2)),az]
  have s:∀{h':ac},Upd No h3 h'→∀i,aB h' (adr ⟨h2.size,0,none⟩ i)=(#[.string q.1,.string q.2]:Array Value)[i]?:=fun k i=>by rw[bC,aC (k.get0 b3),az]
  have r:=Upd.refl No h3;have ne:(((13-(m+1):Nat):Int)==(13:Int))=false:=by rw[beq_eq_false_iff_ne];omega
  rw[ne];refine aq.2 ⟨_,f r 0,_,f r 1,_,f r 2,_,v r 0,_,f r 5,?_⟩;refine CU fun h4 d=>⟨f d 5,O4 hl ⟨f d 5,O4 hl ?_⟩⟩
  have Z:=Kz x (13-(m+1)) p.1;have hj:=Kz x (13-(m+1)) q.1;have j:=((k1.tr C).tr A);have hcl:=JU J;refine CondP.intro (fun e=>?_) fun e=>?_
  ·have e:ck x (13-(m+1)) p.1=ck x (13-(m+1)) q.1:=by have:=eq_of_beq e;omega
   refine⟨_,f d 3,_,f d 0,_,f d 1,_,f d 2,_,f d 3,_,f d 4,_,f d 5,_,v d 0,_,v d 1,_,s d 0,_,s d 1,?_⟩;refine rp (D (j.tr d)) fun h5 b5 I B=>?_
   have b:=d.tr B;refine⟨⟨s b 0,s b 1⟩,⟨v b 0,v b 1⟩,⟨f b 0,f b 1,f b 2,f b 3,f b 4,f b 5⟩,f b 3,?_⟩;have ew:IntKind.wrap .i64 (((13-(m+1):Nat):Int)+1)=((13-m:Nat):Int):=by rw[dT (by omega)];omega
   rw[ew];refine ih p q (by omega) J (D (j.tr b)) fun X P t6 w=>?_
   have g:=b.tr w;refine⟨f g 3,?_⟩;refine AR (I.upd w fun _ h=>h.elim) (D (j.tr g)) Z (fun y h=>by cases h) ⟨P,0,none⟩ fun V U H E=>?_
   refine Q V U ⟨_,H,fun c hc=>?_⟩ ((j.tr g).tr E)
   rw[n]at e;by_cases u:c=ck x (13-(m+1)) p.1
   ·refine .inr (.inr ?_)
    have ea:part x (12-m) c (jb q [p])=jb q [p]:=Hg fun r G=>by
     rcases Kh G with rfl|rfl
     ·rw[u,n]
     ·rw[u,n,e]
    rw[ea];exact⟨by omega,by simp[upd],P,by rw[u];exact kN,TrieAt.upd0 E t6⟩
   ·refine .inl ⟨Kf fun r G=>?_,by simp[upd],lz u⟩
    rw[n]at u;rcases Kh G with rfl|rfl
    ·exact fun e=>u e.symm
    ·rw[←e];exact fun e=>u e.symm
  ·have e:ck x (13-(m+1)) p.1≠ck x (13-(m+1)) q.1:=fun h=>by rw[h]at e;simp at e
   refine⟨_,f d 3,_,v d 0,_,v d 1,_,f d 3,_,s d 0,_,s d 1,?_⟩;refine rp (D (j.tr d)) fun h5 b5 I B=>?_
   have b:=d.tr B;refine⟨⟨s b 0,s b 1⟩,f b 3,⟨v b 0,v b 1⟩,f b 3,?_⟩;refine uW I (D (j.tr b)) Z (fun y h=>by cases h) p fun X P Y w=>?_
   have g:=b.tr w;refine⟨⟨s g 0,s g 1⟩,f g 3,?_⟩;refine uW Y (D (j.tr g)) hj (fun y h=>by simp[upd]) q fun V U H E=>?_
   refine Q V U ⟨_,H,fun c hc=>?_⟩ ((j.tr g).tr E)
   have t:=Hf (x:=x) (lev:=12-m) (c:=c) (p:=q) (l:= [p]) (dE ..);rw[n]at e;by_cases F:c=ck x (12-m) p.1
   ·have z:ck x (12-m) q.1≠c:=fun h=>e (by omega)
    have L:part x (12-m) c [p]= [p]:=Hg fun r G=>by rw[ak.1 G,F]
    rw[if_neg z,L]at t;exact .inr (.inl ⟨p,t,by simp[upd,n,F,e],by simp[upd]⟩)
   ·have L:part x (12-m) c [p]= []:=Kf fun r G=>by rw[ak.1 G];exact fun h=>F h.symm
    rw[L]at t;by_cases z:c=ck x (12-m) q.1
    ·rw[if_pos z.symm]at t
     exact .inr (.inl ⟨q,t,by simp[upd,n,z],by simp[upd]⟩)
    ·rw[if_neg fun h=>z h.symm]at t
     exact .inl ⟨t,by simp[upd,n,z,F],by simp[upd]⟩
end Go.Proofs
