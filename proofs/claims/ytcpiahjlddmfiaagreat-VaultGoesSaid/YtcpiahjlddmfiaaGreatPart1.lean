/- A part of the proof that the named laws of this program answer true, whatever the input. -/
import Derived.Test.YtcpiahjlddmfiaaGreatPart0
import Derived.Test.YtcpiahjlddmfiaaGreatLift3
import Derived.IntWalk
open BitVec renaming ofInt→ag,ofInt_natCast→iE,getLsbD_ofNat→iG
open Bool renaming eq_iff_iff→g6
open Int renaming fdiv→eh,toNat_natCast→aM
open List renaming range→dB,range_add→np,mem_range→iz,mem_cons_self→aq,mem_cons_of_mem→aC,filterMap_append→kO,map_append→fO,take_left'→cp,drop_left'→bL,drop_drop→cz,length_append→ae,take_succ_eq_append_getElem→aP,take_length→bJ,getElem_mem→bK,mem_append→aS,mem_singleton→ay,any_eq_true→bF,flatMap_cons→aD,mem_map→cn,nodup_cons→g5,length_singleton→aN,mem_append_left→cy,mem_append_right→cS,map_cons→bN,pairwise_cons→bf,mem_cons→ao,mem_filter→dt,length_filter_le→eg,append_eq_nil_iff→gO
open List.Pairwise renaming nil→dV
open Nat renaming testBit_and→g3,testBit_two_pow_sub_one→ib,le_refl→ar,shiftRight_eq_div_pow→d8,lt_of_le_of_lt→fz,min_eq_left→aX,shiftRight_le→kA,mod_eq_of_lt→eA,testBit_lt_two_pow→fg,lt_of_lt_of_le→aK,pow_le_pow_right→ix,zero_add→aw,le_of_eq→db,zero_le→bB,not_lt→gM,le_trans→bI
open Option renaming isSome_iff_exists→eF
open UInt8 renaming ofNat→d4
namespace Go.Proofs
open Go.Lift
def pj(n d:Nat):Nat:=(dB n).countP (d.testBit ·)
theorem wN(m n d:Nat):pj (m+n) d=pj m d+pj n (d>>>m):=by
 unfold pj;rw[np,List.countP_append,List.countP_map];congr 1
 refine List.countP_congr fun i _=>?_
 simp[Nat.testBit_shiftRight]
theorem DR(d:Nat)(i:Nat):∀n,i≤n→pj n (d&&&(2^i-1))=pj i d:=by
 intro n a;obtain⟨m,rfl⟩:=Nat.exists_eq_add_of_le a;rw[wN];have f:pj i (d&&&(2^i-1))=pj i d:=by
  unfold pj;refine List.countP_congr fun j c=>?_
  have:=iz.1 c;simp[g3,ib,this]
 have e:pj m ((d&&&(2^i-1))>>>i)=0:=by
  unfold pj;rw[List.countP_eq_zero];intro j _;simp[Nat.testBit_shiftRight,g3,ib];intro h;omega
 omega
theorem IC(d:Nat):pj 8 (d&&&255)=pj 8 d:=DR d 8 8 (ar _)
theorem sA(n d:Nat):pj n d≤n:=by
 have:=List.countP_le_length (p:=(d.testBit ·)) (l:=dB n)
 simpa[pj]using this
theorem is(d n:Nat):eh (d:Int) (2^n)=((d>>>n:Nat):Int):=by
 rw[Int.fdiv_eq_ediv_of_nonneg _ (by exact Int.le_of_lt (Int.pow_pos (by decide))),d8];simp
theorem Gx(a b:Nat):(ag (IntKind.bits .u32) (a:Int)&&&ag (IntKind.bits .u32) (b:Int)).toNat=(a%4294967296)&&&(b%4294967296):=by
 simp[IntKind.bits,BitVec.toNat_and,BitVec.toNat_ofInt];rfl
theorem sS{n:Nat}(h:n<4294967296):IntKind.wrap .u32 (n:Int)=(n:Int):=Go.IntWalk.u32_in _ (by omega)
theorem xr{i:Nat}(hi:i<32){h:ac}{K:Bool→ac→Prop}(a:K true h):HC PG jt [.int .i64 i] [.c .bool] K h:=by
 refine yH i ?_;unfold rT;refine aU (fun _=>?_) fun h=>absurd (Int.natCast_nonneg i) h
 rw[decide_eq_true (by omega)];exact a
theorem Aw{a b:Nat}(h:b<4294967296):a&&&b<4294967296:=fz Nat.and_le_right h
theorem uO{d i:Nat}(hd:d<4294967296)(hi:i<32){h:ac}{K:Bool→ac→Prop}(g:K (d.testBit i) h):HC PG dH [.int .u32 d,.int .i64 i] [.c .bool] K h:=by
 refine vm d i ?_;unfold ph;refine xr hi (aA.2 ⟨by omega,?_⟩);have e:min (i:Int).toNat (IntKind.bits .u32)=i:=by rw[aM];exact aX (by show i≤32;omega)
 rw[e,is];have a:=Gx (d>>>i) 1;have c:d>>>i<4294967296:=fz (kA d i) hd;rw[eA c,show(1:Nat)%4294967296=1 from rfl]at a
 simp only[Bd];rw[show((1:Nat):Int)=(1:Int)from rfl]at a
 rw[a,sS (Aw (by omega))];have f:(((d>>>i&&&1:Nat):Int)==(1:Int))=d.testBit i:=by
  rw[g6,beq_iff_eq,Nat.testBit,Nat.and_comm];simp only[bne_iff_ne,ne_eq,Nat.one_and_eq_mod_two];have:(d>>>i)%2<2:=Nat.mod_lt _ (by omega);omega
 rw[f];exact g
theorem EM{d i:Nat}(hd:d<4294967296)(hi:i<32):∃w:Nat,IntKind.wrap .u32 (ag (IntKind.bits .u32) (d:Int)|||ag (IntKind.bits .u32) (IntKind.wrap .u32 (1*2^(min (i:Int).toNat (IntKind.bits .u32))))).toNat=(w:Int)∧w<4294967296∧∀j,w.testBit j=(d.testBit j||decide (j=i)):=by
 have e:min (i:Int).toNat (IntKind.bits .u32)=i:=by rw[aM];exact aX (by show i≤32;omega)
 have k:2^i<4294967296:=Nat.pow_lt_pow_right (by omega) (show i<32 from hi)
 have c:(1*2^i:Int)=((2^i:Nat):Int):=by simp
 rw[e,c,sS k];refine⟨_,sS (BitVec.isLt _),BitVec.isLt _,fun j=>?_⟩
 rw[BitVec.testBit_toNat,BitVec.getLsbD_or,iE,iE,iG,iG,Nat.testBit_two_pow];by_cases a:j<32
 ·have:decide (j<IntKind.bits .u32)=true:=decide_eq_true a
  rw[this];simp[eq_comm]
 ·have g:decide (j<IntKind.bits .u32)=false:=decide_eq_false a
  have f:d.testBit j=false:=fg (aK hd (ix (n:=2) (by omega) (show 32≤j by omega)))
  rw[g,f];simp;omega
theorem Dr{d i:Nat}(hd:d<4294967296)(hi:i<32){h:ac}{K:Int→ac→Prop}(c:∀w:Nat,w<4294967296→(∀j,w.testBit j=(d.testBit j||decide (j=i)))→K (w:Int) h):HC PG de [.int .u32 d,.int .i64 i] [.c (.int .u32)] K h:=by
 refine ud d i ?_;unfold ot;refine xr hi (ak.2 ⟨by omega,?_⟩);obtain⟨w,e,f,a⟩:=EM hd hi;simp only[Bd];rw[e];exact c w f a
theorem Ar{d i:Nat}(hd:d<4294967296)(hi:i<32):∃w:Nat,IntKind.wrap .u32 (ag (IntKind.bits .u32) (d:Int)&&& ~~~ag (IntKind.bits .u32) (IntKind.wrap .u32 (1*2^(min (i:Int).toNat (IntKind.bits .u32))))).toNat=(w:Int)∧w<4294967296∧∀j,w.testBit j=(d.testBit j&&decide (j≠i)):=by
 have e:min (i:Int).toNat (IntKind.bits .u32)=i:=by rw[aM];exact aX (by show i≤32;omega)
 have k:2^i<4294967296:=Nat.pow_lt_pow_right (by omega) (show i<32 from hi)
 have c:(1*2^i:Int)=((2^i:Nat):Int):=by simp
 rw[e,c,sS k];refine⟨_,sS (BitVec.isLt _),BitVec.isLt _,fun j=>?_⟩
 rw[BitVec.testBit_toNat,BitVec.getLsbD_and,BitVec.getLsbD_not,iE,iE,iG,iG,Nat.testBit_two_pow];by_cases a:j<32
 ·have:decide (j<IntKind.bits .u32)=true:=decide_eq_true a
  rw[this];simp[eq_comm]
 ·have g:decide (j<IntKind.bits .u32)=false:=decide_eq_false a
  have f:d.testBit j=false:=fg (aK hd (ix (n:=2) (by omega) (show 32≤j by omega)))
  rw[g,f];simp
theorem wT{d i:Nat}(hd:d<4294967296)(hi:i<32){h:ac}{K:Int→ac→Prop}(c:∀w:Nat,w<4294967296→(∀j,w.testBit j=(d.testBit j&&decide (j≠i)))→K (w:Int) h):HC PG fW [.int .u32 d,.int .i64 i] [.c (.int .u32)] K h:=by
 refine qM d i ?_;unfold lU;refine xr hi (ak.2 ⟨by omega,?_⟩);obtain⟨w,e,f,a⟩:=Ar hd hi;simp only[Bd];rw[e];exact c w f a
abbrev I6:ByteArray:=⟨#[0,1,1,2,1,2,2,3,1,2,2,3,2,3,3,4,1,2,2,3,2,3,3,4,2,3,3,4,3,4,4,5,1,2,2,3,2,3,3,4,2,3,3,4,3,4,4,5,2,3,3,4,3,4,4,5,3,4,4,5,4,5,5,6,1,2,2,3,2,3,3,4,2,3,3,4,3,4,4,5,2,3,3,4,3,4,4,5,3,4,4,5,4,5,5,6,2,3,3,4,3,4,4,5,3,4,4,5,4,5,5,6,3,4,4,5,4,5,5,6,4,5,5,6,5,6,6,7,1,2,2,3,2,3,3,4,2,3,3,4,3,4,4,5,2,3,3,4,3,4,4,5,3,4,4,5,4,5,5,6,2,3,3,4,3,4,4,5,3,4,4,5,4,5,5,6,3,4,4,5,4,5,5,6,4,5,5,6,5,6,6,7,2,3,3,4,3,4,4,5,3,4,4,5,4,5,5,6,3,4,4,5,4,5,5,6,4,5,5,6,5,6,6,7,3,4,4,5,4,5,5,6,4,5,5,6,5,6,6,7,4,5,5,6,5,6,6,7,5,6,6,7,6,7,7,8]⟩
theorem GS:(dB 256).all (fun b=>decide (I6[b]? =some (d4 (pj 8 b))))=true:=by decide+kernel
theorem zG{b:Nat}(h:b<256):I6[b]? =some (d4 (pj 8 b)):=of_decide_eq_true (List.all_eq_true.1 GS b (iz.2 h))
theorem Am(b:Nat):(d4 (pj 8 b)).toNat=pj 8 b:=by
 have:=sA 8 b;simp;omega
theorem Kq(d:Nat):pj 32 d=pj 8 (d>>>24)+pj 8 ((d>>>16)&&&255)+pj 8 ((d>>>8)&&&255)+pj 8 (d&&&255):=by
 rw[IC,IC,IC,show(32:Nat)=8+(8+(8+8))from rfl,wN,wN,wN]
 simp only[←Nat.shiftRight_add,Nat.reduceAdd];omega
set_option maxRecDepth 100000 in
theorem Hc{d:Nat}(hd:d<4294967296){h:ac}{K:Int→ac→Prop}(j:K (pj 32 d:Int) h):HC PG gn [.int .u32 d] [.c (.int .i64)] K h:=by
 refine oZ d ?_;unfold jV;have i:eh (d:Int) (2^(min (24:Int).toNat (IntKind.bits .u32)))=((d>>>24:Nat):Int):=is d 24;have f:eh (d:Int) (2^(min (16:Int).toNat (IntKind.bits .u32)))=((d>>>16:Nat):Int):=is d 16;have m:eh (d:Int) (2^(min (8:Int).toNat (IntKind.bits .u32)))=((d>>>8:Nat):Int):=is d 8;have b:∀x:Nat,x<4294967296→IntKind.wrap .u32 (ag (IntKind.bits .u32) (x:Int)&&&ag (IntKind.bits .u32) 255).toNat=((x&&&255:Nat):Int):=fun x hx=>by
  have:=Gx x 255;rw[eA hx]at this;rw[show((255:Nat):Int)=(255:Int)from rfl]at this
  rw[this,sS (Aw (by omega))]
 have g:d>>>24<256:=by rw[d8];omega
 have c:∀x:Nat,x&&&255<256:=fun x=>fz Nat.and_le_right (by omega)
 have e:d>>>16<4294967296:=fz (kA d 16) hd;have k:d>>>8<4294967296:=fz (kA d 8) hd;simp only[Bd];rw[i,f,m,b _ e,b _ k,b _ hd];refine⟨by decide,_,by omega,zG (b:=d>>>24) g,by decide,_,by omega,zG (c _),by decide,_,by omega,zG (c _),_,by omega,zG (c _),?_⟩
 rw[Am,Am,Am,Am];simp only[aM];have s:=sA 8 (d>>>24);have q:=sA 8 (d>>>16&&&255);have o:=sA 8 (d>>>8&&&255);have q4:=sA 8 (d&&&255);rw[Kq]at j;have a:∀n:Nat,n≤255→IntKind.wrap .u8 (n:Int)=(n:Int):=fun n p=>Go.IntWalk.u8_in _ (by omega)
 rw[←Int.natCast_add,a _ (by omega),←Int.natCast_add,a _ (by omega),←Int.natCast_add,a _ (by omega),pL (by omega)];exact j
theorem lr{d i:Nat}(hd:d<4294967296)(hi:i<32){h:ac}{K:Int→ac→Prop}(a:K (pj i d:Int) h):HC PG ce [.int .u32 d,.int .i64 i] [.c (.int .i64)] K h:=by
 refine uf d i ?_;unfold ou;refine aU (fun f=>?_) fun f=>?_
 ·have:i=0:=by omega
  subst this;exact a
 ·refine aU (fun h=>by omega) fun _=>⟨by omega,?_⟩
  have e:min (i:Int).toNat (IntKind.bits .u32)=i:=by rw[aM];exact aX (by show i≤32;omega)
  have k:2^i<4294967296:=Nat.pow_lt_pow_right (by omega) (show i<32 from hi)
  have j:0<2^i:=Nat.pow_pos (by omega);have c:(1*2^i:Int)=((2^i:Nat):Int):=by simp
  have g:(((2^i:Nat):Int)-1)=((2^i-1:Nat):Int):=by omega
  simp only[Bd];rw[e,c,sS k,g,sS (show 2^i-1<4294967296 by omega),Gx,eA hd,eA (show 2^i-1<4294967296 by omega),sS (Aw (by omega))]
  refine sO _ ?_;unfold nh;refine Hc (Aw (by omega)) ?_;rw[DR d i 32 (by omega)];exact a
end Go.Proofs
namespace Go.Proofs
open Go.Lift
def fm{β:Type}(g:Nat→Option β)(n:Nat):List β:=(dB n).filterMap g
def upd{β:Type}(g:Nat→Option β)(i:Nat)(x:Option β)(j:Nat):Option β:=if j=i then x else g j
theorem JA{β:Type}{f g:Nat→Option β}:∀l:List Nat,(∀j∈l,f j=g j)→l.filterMap f=l.filterMap g
 | [],_=>rfl
 |j::l,h=>by
  rw[List.filterMap_cons,List.filterMap_cons,h j (aq ..),JA l fun k a=>h k (aC _ a)]
section
variable {β:Type} {g:Nat→Option β} {d:Nat}
theorem xG(hd:∀c,c<32→d.testBit c=(g c).isSome){i:Nat}(hi:i≤32):(fm g i).length=pj i d:=by
 unfold fm pj;rw[List.length_filterMap_eq_countP];exact List.countP_congr fun j a=>by rw[hd j (by have:=iz.1 a;omega)]
theorem lI{i n:Nat}(hi:i<n):fm g n=fm g i++((g i).toList++(dB (n-(i+1))).filterMap fun j=>g (i+1+j)):=by
 unfold fm;have e:n=i+(1+(n-(i+1))):=by omega
 rw[e,np,kO,np];have a:i+(1+(n-(i+1)))-(i+1)=n-(i+1):=by omega
 rw[a];congr 1
 rw[fO,kO,List.map_map];congr 1
 rw[List.filterMap_map];refine JA _ fun j _=>?_
 show g (i+(1+j))=_
 rw[Nat.add_assoc]
theorem si{i:Nat}{x:Option β}:fm (upd g i x) i=fm g i:=by
 unfold fm;refine JA _ fun j a=>?_
 have:=iz.1 a;unfold upd;rw[if_neg (by omega)]
theorem qv{i m:Nat}{x:Option β}:((dB m).filterMap fun j=>upd g i x (i+1+j))=(dB m).filterMap fun j=>g (i+1+j):=by
 refine JA _ fun j _=>?_
 unfold upd;rw[if_neg (by omega)]
theorem F7{i:Nat}(hi:i<32)(hd:∀c,c<32→d.testBit c=(g c).isSome)(e:g i=none)(x:β):fm (upd g i (some x)) 32=(fm g 32).take (pj i d)++x::(fm g 32).drop (pj i d):=by
 have a:=xG hd (i:=i) (by omega);rw[lI (g:=upd g i (some x)) hi,lI (g:=g) hi,si,qv,e,cp a,bL a];simp[upd]
theorem F6{i:Nat}(hi:i<32)(hd:∀c,c<32→d.testBit c=(g c).isSome){y:β}(e:g i=some y)(x:β):fm (upd g i (some x)) 32=(fm g 32).take (pj i d)++x::(fm g 32).drop (pj i d+1):=by
 have a:=xG hd (i:=i) (by omega);rw[lI (g:=upd g i (some x)) hi,lI (g:=g) hi,si,qv,e,cp a,←cz,bL a];simp[upd]
theorem F8{i:Nat}(hi:i<32)(hd:∀c,c<32→d.testBit c=(g c).isSome){y:β}(e:g i=some y):fm (upd g i none) 32=(fm g 32).take (pj i d)++(fm g 32).drop (pj i d+1):=by
 have a:=xG hd (i:=i) (by omega);rw[lI (g:=upd g i none) hi,lI (g:=g) hi,si,qv,e,cp a,←cz,bL a];simp[upd]
theorem F9{i:Nat}(hi:i<32)(hd:∀c,c<32→d.testBit c=(g c).isSome){y:β}(e:g i=some y):(fm g 32)[pj i d]? =some y:=by
 have a:=xG hd (i:=i) (by omega);rw[lI (g:=g) hi,e,List.getElem?_append_right (by omega),a,Nat.sub_self];rfl
theorem zk{i:Nat}(hi:i<32)(hd:∀c,c<32→d.testBit c=(g c).isSome){y:β}(a:g i=some y):pj i d<(fm g 32).length:=(List.getElem?_eq_some_iff.1 (F9 hi hd a)).1
theorem HX{i:Nat}(hi:i<32)(hd:∀c,c<32→d.testBit c=(g c).isSome):pj i d≤(fm g 32).length:=by
 have a:=xG hd (i:=i) (by omega);rw[lI (g:=g) hi,ae];omega
theorem xH:(fm g 32).length≤32:=by
 have:=List.length_filterMap_le g (dB 32);simpa[fm]using this
end
end Go.Proofs
namespace Go.Proofs
open Go.Lift
abbrev sv(s:SliceV):Value:=.slice s.a s.len s.cap
structure Slots where
 p:Nat→Option Pr
 k:Nat→Option (Option Addr)
def dN(d n:Nat)(sp sk:SliceV)(a:Bool)(ow:Option Addr):Array Value:= #[.int .u32 (d:Int),.int .u32 (n:Int),sv sp,sv sk,.bool a,.pointer ow]
structure BitsOf(d n:Nat)(s:Slots):Prop where
 d32:d<4294967296
 n32:n<4294967296
 dp:∀c,c<32→d.testBit c=(s.p c).isSome
 nk:∀c,c<32→n.testBit c=(s.k c).isSome
structure NodeAt(W:Nat→Prop)(h:ac)(b:Nat)(s:Slots):Prop where
 ex:∃d n sp sk ow,h[b]? =some (.cells (dN d n sp sk false ow) aQ (0,0))∧BitsOf d n s∧Sl jq 2 W h sp (fm s.p 32)∧Sl mP 1 W h sk (fm s.k 32)∧sp.len≤sp.cap∧sk.len≤sk.cap
 nw:¬W b
theorem NodeAt.upd{W M:Nat→Prop}{h h':ac}{b:Nat}{s:Slots}(n:NodeAt W h b s)(k:Upd M h h')(hm:∀b,M b→W b∨h.size≤b):NodeAt W h' b s:=by
 obtain⟨d,m,sp,sk,ow,a,f,e,g,c,i⟩:=n.ex;exact⟨⟨d,m,sp,sk,ow,k.get a (fun j=>(hm _ j).elim n.nw fun h=>by have:=bG a;omega),f,e.upd k hm,g.upd k hm,c,i⟩,n.nw⟩
structure OwnN(M:Nat→Prop)(h:ac)(b d n:Nat)(sp sk:SliceV)(s:Slots)(ow:Option Addr):Prop where
 blk:h[b]? =some (.cells (dN d n sp sk false ow) aQ (0,0))
 bits:BitsOf d n s
 ex:∃A B:Nat→Prop,OwnS jq 2 ah A h sp (fm s.p 32)∧OwnS mP 1 aW B h sk (fm s.k 32)∧(∀x,A x→M x∧¬B x∧x≠b∧x<h.size)∧(∀x,B x→M x∧x≠b∧x<h.size)
 mb:M b
theorem qr{h:ac}{K:Bool→ac→Prop}(a:K false h):HC PG eo [.pointer none] [.c .bool] K h:=by
 refine sF none ?_;unfold m5 kI;exact ak.2 a
theorem y6{b:Nat}{h:ac}{K:Bool→ac→Prop}(a:K false h):HC PG kf [.pointer (some ⟨b,0,none⟩),.pointer none] [.c .bool] K h:=by
 refine tV _ none ?_;unfold od dw;exact aA.2 (qr (ak.2 a))
theorem OwnN.upd{M M':Nat→Prop}{h h':ac}{b d n:Nat}{sp sk:SliceV}{s:Slots}{ow:Option Addr}(o:OwnN M h b d n sp sk s ow)(k:Upd M' h h')(hm:∀x,M' x→¬M x):OwnN M h' b d n sp sk s ow:=by
 obtain⟨A,B,g,f,a,c⟩:=o.ex;have z:=k.size;exact⟨k.get o.blk fun i=>hm _ i o.mb,o.bits,⟨A,B,g.upd k fun x hx e=>hm _ e (a x hx).1,f.upd k fun x hx e=>hm _ e (c x hx).1,fun x hx=>⟨(a x hx).1,(a x hx).2.1,(a x hx).2.2.1,by have:=(a x hx).2.2.2;omega⟩,fun x hx=>⟨(c x hx).1,(c x hx).2.1,by have:=(c x hx).2.2;omega⟩⟩,o.mb⟩
set_option maxRecDepth 4000 in
theorem FM{W:Nat→Prop}{h:ac}{b:Nat}{s:Slots}(nd:NodeAt W h b s){K:Option Addr→ac→Prop}
  (G:∀h' d n sp sk,OwnN (fun x=>h.size≤x) h' h.size d n sp sk s none→Upd No h h'→K (some ⟨h.size,0,none⟩) h'):
  HC PG fL [.pointer (some ⟨b,0,none⟩),.pointer none] [.c .ptr] K h:=by
 obtain⟨d,n,sp,sk,ow,a,bits,N,A,T,S⟩:=nd.ex;refine pU _ none ?_;unfold l8 dw nv vt dL dx kI co E6 H5;refine y6 (ak.2 ?_);have c:∀{h:ac} {b:Nat} {c:Array Value} {i:Nat},h[b]? =some (.cells c aQ (0,0))→bc h ⟨b,0+i,none⟩=c[i]?:=fun a=>by rw[aw];exact aE a
 refine⟨_,rfl,_,c (i:=0) a,_,c (i:=1) a,sp,c (i:=2) a,sk,c (i:=3) a,_,c (i:=4) a,_,c (i:=5) a,?_⟩;have k1:=Upd.hnew No h [.int .u32 0,.int .u32 0,.slice none 0 0,.slice none 0 0,.bool false,.pointer none] aQ;have b1:=bh h [.int .u32 0,.int .u32 0,.slice none 0 0,.slice none 0 0,.bool false,.pointer none] aQ;refine aR ?_;simp only[bS h];generalize hnew h [.int .u32 0,.int .u32 0,.slice none 0 0,.slice none 0 0,.bool false,.pointer none] aQ=h1 at k1 b1
 have E:jd h1 ⟨h.size,0,none⟩ 0 [.int .u32 (d:Int),.int .u32 (n:Int),.slice sp.a sp.len sp.cap,.slice sk.a sk.len sk.cap,.bool false,.pointer ow]=_:=fK _ h1 0 0 _ b1 (by simp);refine⟨.inr ⟨_,rfl,fun j U=>by rw[bp];exact ge b1 (by simp at U⊢;omega)⟩,aR ?_⟩
 rw[E];have b2:=gH (o:=.cells (dN d n sp sk false ow) aQ (0,0)) b1;have y:Upd No h _:=k1.trans (M':=(· =h.size)) (Upd.set h1 (.cells (dN d n sp sk false ow) aQ (0,0)) rfl) fun x hx=>.inr (db hx.symm)
 have C:h.size<(h1.setIfInBounds h.size (.cells (dN d n sp sk false ow) aQ (0,0))).size:=bG b2;have X:h.size≠b:=fun e=>by have:=bG a;omega
 have V:(Obj.cells (List.take (0+0) [Value.int .u32 0,.int .u32 0,.slice none 0 0,.slice none 0 0,.bool false,.pointer none]++ [Value.int .u32 (d:Int),.int .u32 (n:Int),.slice sp.a sp.len sp.cap,.slice sk.a sk.len sk.cap,.bool false,.pointer ow]++List.drop (0+0+ [Value.int .u32 (d:Int),.int .u32 (n:Int),.slice sp.a sp.len sp.cap,.slice sk.a sk.len sk.cap,.bool false,.pointer ow].length) [Value.int .u32 0,.int .u32 0,.slice none 0 0,.slice none 0 0,.bool false,.pointer none]).toArray aQ (0,0))=.cells (dN d n sp sk false ow) aQ (0,0):=rfl
 rw[V];generalize h1.setIfInBounds h.size (.cells (dN d n sp sk false ow) aQ (0,0))=h2 at b2 y C;have q:=y.get0 a;refine⟨_,rfl,sp,c (i:=2) q,_,rfl,sk,c (i:=3) q,?_⟩;refine uV (N.upd y fun _ h=>h.elim) (by have:=xH (g:=s.p);omega) fun z Q F m=>?_
 refine⟨c (i:=3) (m.get0 q),?_⟩;refine uW ((A.upd y fun _ h=>h.elim).upd m fun _ h=>h.elim) (by have:=xH (g:=s.k);omega) fun I Y D p=>?_
 have R:=p.get0 (m.get0 b2);have t:=F.within.upd p fun _ _ h=>h
 have u:=D.within;have z3:=m.size;have z4:=p.size;have w:∀{h:ac} {c:Array Value} {x i:Nat},h[x]? =some (.cells c aQ (0,0))→i<c.size→Wr h ⟨x,0+i,none⟩:=fun a hi=>by rw[aw];exact ge a hi
 have st:∀{h:ac} {c c':Array Value} {x i:Nat} {v:Value} {k:ac→Prop},h[x]? =some (.cells c aQ (0,0))→c.setIfInBounds i v=c'→(∀h',h'[x]? =some (.cells c' aQ (0,0))→Upd (· =x) h h'→k h')→At (hset h ⟨x,i,none⟩ v) k:=fun a e G=>u4 a fun h' H hu=>G h' (e▸H) hu
 refine⟨w (i:=2) R (show 2<6 by decide),st (i:=2) (c':=dN d n z sk false ow) R rfl fun h5 P L=>?_⟩
 refine⟨w (i:=3) P (show 3<6 by decide),st (i:=3) (c':=dN d n z I false ow) P rfl fun h6 O J=>?_⟩
 refine⟨w (i:=5) O (show 5<6 by decide),st (i:=5) (c':=dN d n z I false none) O rfl fun h7 Z B=>?_⟩
 refine qr (ak.2 ?_);have f:=L.tr (J.tr B);have z7:=f.size;refine G _ d n z I ⟨Z,bits,⟨fun x=>h2.size≤x∧x<Q.size,fun x=>Q.size≤x∧x<Y.size,t.upd f fun x hx e=>by have e:x=h.size:=e;omega,u.upd f fun x hx e=>by have e:x=h.size:=e;omega,fun x hx=>⟨by omega,by omega,by omega,by omega⟩,fun x hx=>⟨by omega,by omega,by omega⟩⟩,ar _⟩ ?_
 exact((y.tr m).tr p).trans f fun x hx=>.inr (db hx.symm)
end Go.Proofs
namespace Go.Proofs
open Go.Lift
abbrev u32(x:Int):List Value:= [.int .u32 x]
theorem j1(x:Int):(u32 x).length=1∧0<1:=⟨rfl,Nat.one_pos⟩
abbrev Nums(W:Nat→Prop)(h:ac)(s:SliceV)(xs:List Int):Prop:=Sl u32 1 W h s xs
theorem Nums.at{W:Nat→Prop}{h:ac}{s:SliceV}{xs:List Int}(c:Nums W h s xs){i:Nat}(hi:i<xs.length):∃a,s.a=some a∧¬W a.block∧bc h (adr a (((i:Int)).toNat*1))=some (.int .u32 xs[i]):=
 c.at0 (g:=fun x=>.int .u32 x) (List.getElem?_eq_getElem hi)
theorem tB{W W':Nat→Prop}{h:ac}{s s':SliceV}{xs ys:List Int}(j:Nums W h s xs)(k:Nums W' h s' ys)(w:xs.length≤4611686018427387904){K:Bool→ac→Prop}(g:K (decide (xs=ys)) h):
  HC PG cA [.slice s.a s.len s.cap,.slice s'.a s'.len s'.cap] [.c .bool] K h:=by
 refine oG s s' ?_;unfold jy bA fc;refine CondP.intro (fun d=>?_) (fun f=>?_)
 ·have:xs≠ys:=fun e=>by
   rw[j.len,k.len,e]at d;simp at d
  rw[decide_eq_false this]at g;exact g
 ·have m:xs.length=ys.length:=by
   rw[j.len,k.len]at f;have:(xs.length:Int)=ys.length:=by simpa using f
   omega
  refine LoopP.ghost (fun(i:Nat) (t:Int) h'=>t=(i:Int)∧h'=h∧i≤xs.length∧xs.take i=ys.take i) (fun i=>xs.length-i) 0 ⟨rfl,rfl,bB _,rfl⟩ ?_
  rintro I i t h' ⟨rfl,rfl,hi,p⟩ u;refine aU (fun c=>?_) (fun n=>?_)
  ·rw[j.len]at c
   have c:i<xs.length:=by omega
   obtain⟨a,q,_,hx⟩:=Nums.at j c;obtain⟨a',o,_,v⟩:=Nums.at k (m▸c);refine⟨by rw[j.len];omega,a,q,_,hx,by rw[k.len];omega,a',o,_,v,?_⟩
   refine CondP.intro (fun d=>?_) (fun f=>?_)
   ·have:xs≠ys:=fun e=>by subst e;simp at d
    rw[decide_eq_false this]at g;exact g
   ·have f:xs[i]=ys[i]:=by simpa using f
    rw[dg c w];refine u (i+1) _ _ ⟨rfl,rfl,c,?_⟩ (by omega);rw[aP c,aP (m▸c),p,f]
  ·rw[j.len]at n
   have:i=xs.length:=by omega
   subst this;have:xs=ys:=by
    rw[bJ,m,bJ]at p;exact p
   rw[decide_eq_true this]at g;exact g
theorem Ad{W:Nat→Prop}{s:SliceV}{xs:List Int}{j:Value}{p:Int→Bool}(St:ac→Prop)(k:∀h,St h→Nums W h s xs)
  (A:∀h x (K:Bool→ac→Prop),St h→x∈xs→(∀h',St h'→K (p x) h')→HV PG j [.int .u32 x] [.c .bool] K h)
  (u:xs.length≤4611686018427387904){h:ac}(v:St h){K:Int→ac→Prop}(q:∀(n:Int) h',St h'→(n≥0↔∃x∈xs,p x=true)→K n h'):
  HC PG dq [.slice s.a s.len s.cap,j] [.c (.int .i64)] K h:=by
 refine gU s j ?_;unfold eU bA fc;refine LoopP.ghost (fun(i:Nat) (t:Int) h'=>t=(i:Int)∧St h'∧i≤xs.length∧∀x∈xs.take i,p x=false) (fun i=>xs.length-i) 0 ⟨rfl,v,bB _,by simp⟩ ?_
 rintro I i t h' ⟨rfl,m,hi,o⟩ z;have e:=k _ m;refine aU (fun c=>?_) (fun g=>?_)
 ·rw[e.len]at c
  have c:i<xs.length:=by omega
  obtain⟨a,w,_,hx⟩:=Nums.at e c;refine⟨by rw[e.len];omega,a,w,_,hx,?_⟩;refine A _ _ _ m (bK c) fun B d=>?_
  refine CondP.intro (fun y=>?_) (fun f=>?_)
  ·exact q _ _ d ⟨fun _=>⟨_,bK c,y⟩,fun _=>by omega⟩
  ·rw[dg c u]
   refine z (i+1) _ _ ⟨rfl,d,c,?_⟩ (by omega);rw[aP c];intro x hx;rcases aS.1 hx with h|h
   ·exact o x h
   ·rw[ay.1 h];exact f
 ·rw[e.len]at g
  have:i=xs.length:=by omega
  subst this;rw[bJ]at o;exact q _ _ m ⟨fun h=>by omega,fun⟨x,hx,h⟩=>by rw[o x hx]at h;cases h⟩
theorem wn{W:Nat→Prop}{s:SliceV}{xs:List Int}{c:Value}{p:Int→Bool}(St:ac→Prop)(d:∀h,St h→Nums W h s xs)
  (i:∀h x (K:Bool→ac→Prop),St h→x∈xs→(∀h',St h'→K (p x) h')→HV PG c [.int .u32 x] [.c .bool] K h)
  (a:xs.length≤4611686018427387904){h:ac}(e:St h){K:Bool→ac→Prop}(f:∀h',St h'→K (xs.any p) h'):
  HC PG d7 [.slice s.a s.len s.cap,c] [.c .bool] K h:=by
 refine kH s c ?_;unfold fZ;refine Ad St d i a e fun n h' g a=>?_
 have:decide (n≥0)=xs.any p:=by
  rw[g6,decide_eq_true_iff,a,bF]
 rw[this];exact f _ g
theorem xT{W:Nat→Prop}{h:ac}{s:SliceV}{xs:List Int}(d:Nums W h s xs)(m:xs.length*4≤140737488355328){K:SliceV→ac→Prop}
  (i:∀s' h',OwnS u32 1 c5 (fun b=>h.size≤b) h' s' xs→Upd No h h'→(s.a=none→xs= [])→K s' h'):HC PG eE [.slice s.a s.len s.cap] [.c .slice] K h:=by
 refine oH s ?_;unfold jz;refine CondP.intro (fun g=>?_) (fun c=>?_)
 ·have g:s.a=none:=by simpa using g
  have hx:xs= []:=by
   by_cases hx:xs= []
   ·exact hx
   ·obtain⟨a,j,_⟩:=d.row hx
    rw[g]at j;cases j
  subst hx;exact i _ _ (OwnS.nil j1) (Upd.refl _ _) fun _=>rfl
 ·have k:=d.upd (Upd.hnew No h [] c5) (fun _ h=>h.elim)
  refine⟨_,k.srow,?_⟩;refine AppP.own (f:=u32) (M:=fun b=>h.size≤b) (xs:= []) (ys:=xs) ⟨rfl,j1,ar _,.inl rfl⟩ d.len rfl ?_ rfl (by omega) (by simpa using m) (by rw[eO];omega) fun s' h' n o=>?_
  ·clear i d k m
   induction xs with
   |nil=>rfl
   |cons x xs ih=>rw[aD];exact ih
  ·refine i _ _ n ((Upd.hnew No h [] c5).trans o fun b p=>.inr p) fun e=>?_
   rw[e]at c;cases c
end Go.Proofs
namespace Go.Proofs
open Go.Lift
abbrev KE:KeyE Int:=Kj .u32
abbrev dI:=List (Int×List Int)
def Rep(W:Nat→Prop)(h:ac)(m:List (Int×SliceV))(L:dI):Prop:=
 ∀id,(∃s ps,bP m id=some s∧bP L id=some ps∧Nums W h s ps)∨(bP m id=none∧bP L id=none)
structure GraphAt(W:Nat→Prop)(h:ac)(gp gm:Nat)(L:dI)(nx:Int):Prop where
 blk:h[gp]? =some (.cells #[.map (some gm),.int .u32 nx] eC (0,0))
 map:∃m,MapAt KE sv h gm m∧Rep W h m L
 wp:W gp
 wm:W gm
 lt:∀b,W b→b<h.size
 nd:(L.map (·.1)).Nodup
theorem Rep.upd{W M:Nat→Prop}{h h':ac}{m:List (Int×SliceV)}{L:dI}(r:Rep W h m L)(k:Upd M h h')(hm:∀b,M b→W b∨h.size≤b):Rep W h' m L:=fun id=>by
 rcases r id with⟨s,ps,e,a,d⟩|c
 ·exact .inl ⟨s,ps,e,a,d.upd k hm⟩
 ·exact .inr c
theorem GraphAt.upd{W M:Nat→Prop}{h h':ac}{gp gm:Nat}{L:dI}{nx:Int}(g:GraphAt W h gp gm L nx)(k:Upd M h h')(hm:∀b,M b→(W b∧b≠gp∧b≠gm)∨h.size≤b):GraphAt W h' gp gm L nx:=by
 have a:=g.lt;have i:¬M gp:=fun e=>(hm _ e).elim (fun e=>e.2.1 rfl) fun e=>absurd (a _ g.wp) (gM.2 e)
 have f:¬M gm:=fun e=>(hm _ e).elim (fun e=>e.2.2 rfl) fun e=>absurd (a _ g.wm) (gM.2 e)
 obtain⟨m,c,j⟩:=g.map;exact⟨k.get g.blk i,⟨m,c.upd k f,j.upd k fun b d=>(hm b d).imp (·.1) id⟩,g.wp,g.wm,fun b d=>aK (a b d) k.size,g.nd⟩
theorem GraphAt.upd0{W:Nat→Prop}{h h':ac}{gp gm:Nat}{L:dI}{nx:Int}(g:GraphAt W h gp gm L nx)(k:Upd No h h'):GraphAt W h' gp gm L nx:=g.upd k fun _ h=>h.elim
theorem GraphAt.c0{W:Nat→Prop}{h:ac}{gp gm:Nat}{L:dI}{nx:Int}(g:GraphAt W h gp gm L nx):bc h ⟨gp,0,none⟩=some (.map (some gm)):=by rw[aE g.blk];rfl
theorem GraphAt.c1{W:Nat→Prop}{h:ac}{gp gm:Nat}{L:dI}{nx:Int}(g:GraphAt W h gp gm L nx):bc h ⟨gp,1,none⟩=some (.int .u32 nx):=by rw[aE g.blk];rfl
abbrev jZ(L:dI):List Int:=L.map (·.1)
theorem FX{L:dI}{id:Int}:(bP L id).isSome=decide (id∈jZ L):=by
 cases h:bP L id with
 |none=>rw[decide_eq_false (gK.1 h)];rfl
 |some v=>
  have:id∈jZ L:=by
   by_cases hm:id∈jZ L
   ·exact hm
   ·rw[gK.2 hm]at h;cases h
  rw[decide_eq_true this];rfl
theorem Rep.some{W:Nat→Prop}{h:ac}{m:List (Int×SliceV)}{L:dI}(r:Rep W h m L)(id:Int):(bP m id).isSome=decide (id∈jZ L):=by
 rw[←FX];rcases r id with⟨s,ps,c,a,_⟩|⟨c,a⟩<;>rw[c,a]<;>rfl
theorem Rep.len{W:Nat→Prop}{h:ac}{m:List (Int×SliceV)}{L:dI}(r:Rep W h m L)(d:(m.map (·.1)).Nodup)(a:(jZ L).Nodup):m.length=L.length:=by
 have:(m.map (·.1)).Perm (jZ L):=by
  rw[List.perm_ext_iff_of_nodup d a];intro id;have:=r.some id;have c:id∈m.map (·.1)↔(bP m id).isSome=true:=by
   cases hl:bP m id with
   |none=>simp[gK.1 hl]
   |some v=>
    simp only[Option.isSome_some,iff_true];by_cases hm:id∈m.map (·.1)
    ·exact hm
    ·rw[gK.2 hm]at hl;cases hl
  rw[c,this,decide_eq_true_iff]
 have:=this.length_eq;simpa using this
def Kp:List Int→Bool
 | [a,b]=>a==b
 |_=>false
def tg(ps:List Int):Int:=if ps.length>2∨Kp ps=true then 1 else 0
def nG(L:dI)(ps:List Int):Int:=if ps.any (fun p=> !decide (p∈jZ L))then 4 else if L.length≥1024 then 6 else 0
theorem Ai{W:Nat→Prop}{h:ac}{gp gm:Nat}{L:dI}{nx:Int}(g:GraphAt W h gp gm L nx)(id:Int){K:Bool→ac→Prop}(c:K (decide (id∈jZ L)) h):
  HC PG fV [.pointer (some ⟨gp,0,none⟩),.int .u32 id] [.c .bool] K h:=by
 refine tY (some ⟨gp,0,none⟩) id ?_;unfold om bA;obtain⟨m,hm,a⟩:=g.map;refine CondP.intro (fun e=>by cases e) fun _=>⟨_,rfl,_,g.c0,_,_,hm.get id ⟨none,0,0⟩,?_⟩
 rw[a.some id];exact c
theorem Ht{W:Nat→Prop}{h:ac}{p:Option Addr}{s:SliceV}{ps:List Int}(f:Nums W h s ps){K:Int→ac→Prop}(d:K (tg ps) h):
  HC PG kh [.pointer p,.slice s.a s.len s.cap] [.c (.int .i64)] K h:=by
 refine tX p s ?_;unfold oh bA fc;refine Join.plain (aU (fun j=>?_) fun k=>CondP.intro (fun g=>?_) fun c=>?_)
 ·rw[f.len]at j
  rw[show tg ps=1 from if_pos (.inl (by omega))]at d
  exact aA.2 d
 ·rw[f.len]at g
  have g:ps.length=2:=by
   have:(ps.length:Int)=2:=by simpa using g
   omega
  obtain⟨a,o,_,hx⟩:=Nums.at f (i:=0) (by omega);obtain⟨a',n,_,q⟩:=Nums.at f (i:=1) (by omega);refine⟨by rw[f.len];omega,a,o,_,hx,by rw[f.len];omega,a',n,_,q,?_⟩
  have e:tg ps=if(ps[0]==ps[1])=true then 1 else 0:=by
   match ps,g with
   | [x,y],_=>simp[tg,Kp]
  rw[e]at d;exact CondP.intro (fun m=>by rw[if_pos m]at d;exact d) fun m=>by rw[if_neg (by rw[m];decide)]at d;exact d
 ·rw[f.len]at k c
  have c:ps.length≠2:=fun e=>by rw[e]at c;exact absurd c (by decide)
  have hd:Kp ps=false:=by
   match ps,c with
   | [],_=>rfl
   | [_],_=>rfl
   | [_,_],h=>exact absurd rfl h
   |_::_::_::_,_=>rfl
  rw[show tg ps=0 from if_neg (by rw[hd];simp;omega)]at d
  exact ak.2 d
theorem F4{W:Nat→Prop}{h:ac}{gp gm:Nat}{L:dI}{nx:Int}(g:GraphAt W h gp gm L nx){s:SliceV}{ps:List Int}(o:Nums W h s ps)(w:ps.length≤4611686018427387904)
  {K:Int→ac→Prop}(d:∀h',Upd No h h'→K (nG L ps) h'):HC PG jN [.pointer (some ⟨gp,0,none⟩),.slice s.a s.len s.cap] [.c (.int .i64)] K h:=by
 refine sM (some ⟨gp,0,none⟩) s ?_;unfold nf bA;have k:=Upd.hnew No h [.pointer (some ⟨gp,0,none⟩)] lY;refine wn (p:=fun p=> !decide (p∈jZ L)) (fun h'=>GraphAt W h' gp gm L nx∧Nums W h' s ps∧h'[h.size]? =some (.cells #[.pointer (some ⟨gp,0,none⟩)] lY (0,0))∧Upd No h h') (fun h' n=>n.2.1) ?_ w ⟨g.upd0 k,o.upd k fun _ h=>h.elim,bh h _ _,k⟩ ?_
 ·rintro h' x K ⟨c,f,i,a⟩ _ j
  refine HV.mk' (qL x ⟨h.size,0,none⟩ ?_);unfold lS wZ;refine⟨_,by rw[aE i];rfl,?_⟩
  exact Ai c x (j h' ⟨c,f,i,a⟩)
 ·rintro h' ⟨c,f,i,a⟩
  obtain⟨m,hm,v⟩:=c.map;refine CondP.intro (fun q=>?_) fun e=>?_
  ·rw[show nG L ps=4 from if_pos q]at d
   exact d h' a
  ·refine⟨_,by rw[bS,aE i];rfl,_,rfl,_,c.c0,_,hm.len,?_⟩
   rw[v.len hm.nodup c.nd];refine aU (fun t=>?_) fun u=>?_
   ·rw[show nG L ps=6 from(if_neg (by rw[e];decide)).trans (if_pos (by omega))]at d
    exact d h' a
   ·rw[show nG L ps=0 from(if_neg (by rw[e];decide)).trans (if_neg (by omega))]at d
    exact d h' a
end Go.Proofs
namespace Go.Proofs
open Go.Lift
def tn(L:dI)(id:Int)(ps:List Int):dI:=L.takeWhile (fun v=>decide (v.1<id))++(id,ps)::L.dropWhile (fun v=>decide (v.1<id))
def iW(L:dI)(nx:Int)(ps:List Int):(Int×Int)×dI×Int:=
 if tg ps≠0 then((0,tg ps),L,nx)else if nG L ps≠0 then((0,nG L ps),L,nx)else if nx≥2147483648 then((0,6),L,nx)else((nx,0),tn L nx ps,nx+1)
def Iq(L:dI)(nx:Int)(id:Int)(ps:List Int):Int×dI×Int:=
 if tg ps≠0∨id=0∨id≥2147483648∨ps.any (fun p=>decide (p≥id))=true then(1,L,nx)else if id∈jZ L then(7,L,nx)else if nG L ps≠0 then(nG L ps,L,nx)else(0,tn L id ps,if id+1>nx then id+1 else nx)
abbrev x8(a b:Nat):Nat→Prop:=fun x=>x=a∨x=b
theorem zs{κ β:Type}[DecidableEq κ](l l':List (κ×β))(k:κ):bP (l++l') k=(bP l k).or (bP l' k):=by
 induction l with
 |nil=>simp[bP]
 |cons p l ih=>
  obtain⟨k',u⟩:=p;simp only[List.cons_append,bP,ih];split<;>simp
theorem Ev{L:dI}{id:Int}{ps:List Int}(c:id∉jZ L)(j:Int):bP (tn L id ps) j=if j=id then some ps else bP L j:=by
 have d:∀p:Int×List Int→Bool,bP L j=(bP (L.takeWhile p) j).or (bP (L.dropWhile p) j):=fun p=>by rw[←zs,List.takeWhile_append_dropWhile]
 unfold tn;rw[zs];simp only[bP];by_cases a:j=id
 ·subst a
  have:bP (L.takeWhile fun v=>decide (v.1<j)) j=none:=gK.2 fun hm=>c (by
   obtain⟨x,hx,e⟩:=cn.1 hm
   exact cn.2 ⟨x,List.takeWhile_subset _ hx,e⟩)
  rw[this];simp
 ·simp only[a,if_false]
  exact(d _).symm
theorem q9(L:dI)(id:Int)(ps:List Int):(tn L id ps).Perm ((id,ps)::L):=by
 unfold tn;refine List.perm_middle.trans ?_;rw[List.takeWhile_append_dropWhile]
theorem insV_ids{L:dI}{id:Int}{ps:List Int}:(jZ (tn L id ps)).Perm (id::jZ L):=(q9 L id ps).map _
theorem CQ{L:dI}{id:Int}{ps:List Int}(h:(jZ L).Nodup)(a:id∉jZ L):(jZ (tn L id ps)).Nodup:=by
 rw[insV_ids.nodup_iff];exact g5.2 ⟨a,h⟩
theorem Rep.put{W:Nat→Prop}{h h':ac}{m:List (Int×SliceV)}{L:dI}(r:Rep W h m L){id:Int}{s:SliceV}{ps:List Int}(f:∀s xs,Nums W h s xs→Nums W h' s xs)(i:Nums W h' s ps)(k:id∉jZ L):Rep W h' (ic m id s) (tn L id ps):=fun j=>by
 rw[oY,Ev k];by_cases a:j=id
 ·simp only[a,if_true];exact .inl ⟨s,ps,rfl,rfl,i⟩
 ·simp only[a,if_false]
  rcases r j with⟨s,ps,g,e,d⟩|c
  ·exact .inl ⟨s,ps,g,e,f s ps d⟩
  ·exact .inr c
theorem GraphAt.ne{W:Nat→Prop}{h:ac}{gp gm:Nat}{L:dI}{nx:Int}(g:GraphAt W h gp gm L nx):gm≠gp:=fun e=>by
 obtain⟨m,⟨ms,c,hm,_⟩,_⟩:=g.map;have:=hm.here;rw[e,g.blk]at this;cases this
theorem GraphAt.put{W:Nat→Prop}{h:ac}{gp gm:Nat}{L:dI}{nx:Int}(g:GraphAt W h gp gm L nx){id:Int}{s:SliceV}{ps:List Int}(n:Nums W h s ps)(p:id∉jZ L)(j:Int):
  GraphAt W (hset (jh h gm (.int .u32 id) (sv s)) ⟨gp,1,none⟩ (.int .u32 j)) gp gm (tn L id ps) j∧Upd (x8 gp gm) h (hset (jh h gm (.int .u32 id) (sv s)) ⟨gp,1,none⟩ (.int .u32 j))∧
   Wr (jh h gm (.int .u32 id) (sv s)) ⟨gp,1,none⟩∧bc (jh h gm (.int .u32 id) (sv s)) ⟨gp,1,none⟩=some (.int .u32 nx)∧Upd (x8 gp gm) h (jh h gm (.int .u32 id) (sv s)):=by
 obtain⟨m,hm,q⟩:=g.map;have f:=g.ne;have k1:Upd (· =gm) h (jh h gm (.int .u32 id) (sv s)):=lz h _ _ rfl
 have a:=k1.get g.blk (Ne.symm f);have o:Upd (· =gp) (jh h gm (.int .u32 id) (sv s)) (hset (jh h gm (.int .u32 id) (sv s)) ⟨gp,1,none⟩ (.int .u32 j)):=Upd.hset _ _ rfl
 have i:Upd (x8 gp gm) h (jh h gm (.int .u32 id) (sv s)):=k1.mono fun b d=>.inl (.inr d)
 have k:Upd (x8 gp gm) h (hset (jh h gm (.int .u32 id) (sv s)) ⟨gp,1,none⟩ (.int .u32 j)):=i.trans o fun b d=>.inl (.inl d)
 have c:∀b,x8 gp gm b→W b∨h.size≤b:=fun b d=>.inl (d.elim (fun e=>e▸g.wp) fun e=>e▸g.wm)
 refine⟨⟨?_,⟨_,(MapAt.put hm id s).upd o f,q.put (fun s xs n=>n.upd k c) (n.upd k c) p⟩,g.wp,g.wm,fun b d=>aK (g.lt b d) k.size,CQ g.nd p⟩,k,ge a (by simp),by rw[aE a];rfl,i⟩
 rw[xE a,gH a];rfl
theorem Hu{W:Nat→Prop}{h:ac}{gp gm:Nat}{L:dI}{nx:Int}(g:GraphAt W h gp gm L nx)(B:0≤nx)(p:nx∉jZ L){s:SliceV}{ps:List Int}(k:Nums W h s ps)(C:ps.length*4≤140737488355328)
  {K:Int×Int→ac→Prop}(c:∀h',Upd (x8 gp gm) h h'→GraphAt W h' gp gm (iW L nx ps).2.1 (iW L nx ps).2.2→K (iW L nx ps).1 h'):
  HC PG ki [.pointer (some ⟨gp,0,none⟩),.slice s.a s.len s.cap] [.c (.int .u32),.c (.int .i64)] K h:=by
 refine tZ (some ⟨gp,0,none⟩) s ?_;unfold oo bA dL vY dx;refine CondP.intro (fun e=>by cases e) fun _=>Ht k ?_
 refine CondP.intro (fun a=>?_) fun a=>?_
 ·have a:tg ps≠0:=by simpa using a
  rw[show iW L nx ps=_ from if_pos a]at c
  exact c h (Upd.refl _ _) g
 ·have a:¬tg ps≠0:=by simpa using a
  refine F4 g k (by omega) fun h' i=>?_
  refine CondP.intro (fun d=>?_) fun d=>?_
  ·have d:nG L ps≠0:=by simpa using d
   rw[show iW L nx ps=_ from(if_neg a).trans (if_pos d)]at c
   exact c h' i.wide (g.upd0 i)
  ·have d:¬nG L ps≠0:=by simpa using d
   have f:=g.upd0 i;have n:=k.upd i fun _ h=>h.elim
   refine⟨_,rfl,_,f.c1,aU (fun u=>?_) fun u=>?_⟩
   ·rw[show iW L nx ps=_ from(if_neg a).trans ((if_neg d).trans (if_pos u))]at c
    exact c h' i.wide f
   ·refine⟨_,rfl,_,f.c1,_,rfl,_,f.c0,xT n C fun s' t A j _=>?_⟩
    have o:=f.upd0 j;obtain⟨m,hm,E⟩:=o.map;have q:Nums W t s' ps:=A.sl fun b y _ D=>absurd (f.lt b D) (gM.2 y)
    obtain⟨w,x,z,v,_⟩:=o.put q p (nx+1);refine⟨o.c0,_,rfl,hm.isMap,_,rfl,_,v,_,rfl,z,?_⟩;rw[show IntKind.wrap .u32 (nx+1)=nx+1 from Go.IntWalk.u32_in _ (by omega)]
    rw[show iW L nx ps=_ from(if_neg a).trans ((if_neg d).trans (if_neg u))]at c
    exact c _ ((i.wide.tr j.wide).tr x) w
end Go.Proofs
namespace Go.Proofs
open Go.Lift
theorem nD{W:Nat→Prop}{h:ac}{gp gm:Nat}{L:dI}{nx:Int}(g:GraphAt W h gp gm L nx)(id:Int)(n:∀v∈L,v.2.length*4≤140737488355328)
  {K:SliceV→ac→Prop}(a:∀s' h',OwnS u32 1 c5 (fun b=>h.size≤b) h' s' ((bP L id).getD [])→Upd No h h'→K s' h'):
  HC PG dh [.pointer (some ⟨gp,0,none⟩),.int .u32 id] [.c .slice] K h:=by
 refine p9 (some ⟨gp,0,none⟩) id ?_;unfold kK bA;obtain⟨m,hm,k⟩:=g.map;refine CondP.intro (fun e=>by cases e) fun _=>⟨_,rfl,_,g.c0,_,_,hm.get id ⟨none,0,0⟩,?_⟩
 rcases k id with⟨s,ps,i,c,j⟩|⟨i,c⟩
 ·rw[i]
  rw[c]at a;exact xT j (n _ ((mI g.nd).1 c)) fun s' h' d f _=>a s' h' d f
 ·rw[i]
  rw[c]at a;exact xT (W:=No) (xs:= []) (Sl.nil j1) (by simp) fun s' h' d f _=>a s' h' d f
theorem Hr{h:ac}{K:Option Addr→ac→Prop}(e:∀h',Upd No h h'→GraphAt (x8 (h.size+1) h.size) h' (h.size+1) h.size [] 1→K (some ⟨h.size+1,0,none⟩) h'):
  HC PG cr [] [.c .ptr] K h:=by
 refine BU ?_;unfold vV;have k1:=Upd.push No h (.map #[] 0);have hm:MapAt KE sv (h.push (.map #[] 0)) h.size []:=MapAt.new h;have c:=Upd.hnew No (h.push (.map #[] 0)) [.map (some h.size),.int .u32 1] eC;have a:(h.push (.map #[] 0)).size=h.size+1:=by simp
 have:=e _ (k1.tr c) ⟨by
  have:=bh (h.push (.map #[] 0)) [.map (some h.size),.int .u32 1] eC
  rw[a]at this;exact this,⟨[],hm.upd c id,fun id=>.inr ⟨rfl,rfl⟩⟩,.inl rfl,.inr rfl,fun b d=>by rw[eO,a];rcases d with rfl|rfl<;>omega,List.nodup_nil⟩
 rw[←a]at this;exact this
end Go.Proofs
namespace Go.Proofs
open Go.Lift
theorem te:∀xs:List Int,bq (xs.flatMap u32)=true
 | []=>rfl
 |x::xs=>by rw[aD];exact te xs
abbrev parV(L:dI)(id:Int):List Int:=(bP L id).getD []
inductive UpG(L:dI):Int→Int→Prop
 |refl {a:Int}:a∈jZ L→UpG L a a
 |step {a p b:Int}:a∈jZ L→p∈parV L a→UpG L p b→UpG L a b
theorem UpG.left{L:dI}{a b:Int}(h:UpG L a b):a∈jZ L:=by cases h<;>assumption
theorem GraphAt.more{W Q:Nat→Prop}{c h:ac}{gp gm:Nat}{L:dI}{nx:Int}(g:GraphAt W c gp gm L nx)(k:Upd No c h)(d:∀b,Q b→c.size≤b∧b<h.size):GraphAt (fun b=>W b∨Q b) h gp gm L nx:=by
 obtain⟨m,hm,n⟩:=g.map;refine⟨k.get0 g.blk,⟨m,hm.upd k id,fun j=>?_⟩,.inl g.wp,.inl g.wm,fun b a=>a.elim (fun a=>aK (g.lt b a) k.size) fun a=>(d b a).2,g.nd⟩
 rcases n j with⟨s,ps,i,f,e⟩|c
 ·exact .inl ⟨s,ps,i,f,(e.less fun b a=>a.imp id fun a=>(d b a).1).upd k fun _ h=>h.elim⟩
 ·exact .inr c
theorem GraphAt.less{W W':Nat→Prop}{h:ac}{gp gm:Nat}{L:dI}{nx:Int}(g:GraphAt W h gp gm L nx)(e:∀b,W' b→W b)(c:W' gp)(a:W' gm):GraphAt W' h gp gm L nx:=by
 obtain⟨m,hm,k⟩:=g.map;refine⟨g.blk,⟨m,hm,fun j=>?_⟩,c,a,fun b d=>g.lt b (e b d),g.nd⟩
 rcases k j with⟨s,ps,c,a,i⟩|f
 ·exact .inl ⟨s,ps,c,a,i.less fun b d=>.inl (e b d)⟩
 ·exact .inr f
theorem OwnS.popG{α:Type}{f:α→List Value}{d:Nat}{t:TypeId}{M:Nat→Prop}{h:ac}{a:Option Addr}{len cap:Nat}{xs:List α}{x:α}(e:OwnS f d t M h ⟨a,len,cap⟩ (xs++ [x])){n:Nat}(p:n=xs.length):OwnS f d t M h ⟨aF a 0 cap d,n-0,cap-0⟩ xs:=by
 have m:len=(xs++ [x]).length:=e.len;have k:len≤cap:=e.cap;rw[ae,aN]at m;subst p;refine⟨rfl,e.ne,by show xs.length-0≤cap-0;omega,?_⟩
 rcases e.blk with j|⟨b,c,g,o,hc,i⟩
 ·have j:cap=0:=j
  omega
 ·have g:a=some ⟨b,0,none⟩:=g
  have i:c.length=(cap-len)*d:=i;refine .inr ⟨b,f x++c,?_,o,?_,?_⟩
  ·show aF a 0 cap d=_
   unfold aF;rw[if_neg (by omega),g];simp
  ·rw[hc,List.flatMap_append,aD,List.flatMap_nil,List.append_nil,List.append_assoc]
  ·show(f x++c).length=(cap-0-(xs.length-0))*d
   rw[ae,(e.ne x).1,i,show cap-0-(xs.length-0)=(cap-len)+1 by omega,Nat.succ_mul];omega
theorem po:∀{l l':List Int},l.Nodup→(∀x∈l,x∈l')→l.length≤l'.length
 | [],_,_,_=>bB _
 |x::l,l',hn,h=>by
  rw[g5]at hn;have hx:=h x (aq ..);have:=po (l':=l'.erase x) hn.2 fun y c=>(List.mem_erase_of_ne (a:=y) (b:=x) fun e=>hn.1 (by rw[←e];exact c)).2 (h y (aC _ c))
  rw[List.length_erase_of_mem hx]at this;have:0<l'.length:=List.length_pos_of_mem hx;rw[List.length_cons];omega
theorem Ez{W Q:Nat→Prop}{h:ac}{gp gm:Nat}{L:dI}{nx:Int}(g:GraphAt W h gp gm L nx)(hQ:∀b,Q b→W b∧b≠gp∧b≠gm)(hP:∀v∈L,v.2.length≤2)(hL:L.length≤100000)
  {s:SliceV}{start:List Int}(hs:OwnS u32 1 c5 (fun b=>Q b∨h.size≤b) h s start)(hn:start.length≤1000000000)
  {K:Option Nat→ac→Prop}(hk:∀r h' m,h.size≤r→MapAt KE (fun n:Int=>.int .i64 n) h' r m→(∀y,y∈m.map (·.1)↔∃s∈start,UpG L s y)→(∀y v,bP m y=some v→v=1)→Upd Q h h'→K (some r) h'):
  HC PG f9 [.pointer (some ⟨gp,0,none⟩),.slice s.a s.len s.cap] [.c .map] K h:=by
 refine rv (some ⟨gp,0,none⟩) s ?_;unfold mu bA fc wZ;have k0:=Upd.push No h (.map #[] 0);have hPl:∀id,(parV L id).length≤2:=fun id=>by
  cases hl:bP L id with
  |none=>simp[parV,hl]
  |some ps=>simp only[parV,hl,Option.getD_some];exact hP _ ((mI g.nd).1 hl)
 refine LoopP.ghost (fun(q:List Int×List (Int×Int)) (t:SliceV) h'=>Upd (fun b=>Q b∨h.size≤b) h h'∧OwnS u32 1 c5 (fun b=>(Q b∨h.size≤b)∧b≠h.size) h' t q.1∧MapAt KE (fun n:Int=>.int .i64 n) h' h.size q.2∧
   (∀y v,bP q.2 y=some v→v=1)∧q.1.length≤start.length+2*q.2.length∧
   (∀y∈q.2.map (·.1),y∈jZ L∧∃s∈start,UpG L s y)∧(∀x∈q.1,∀y,UpG L x y→∃s∈start,UpG L s y)∧
   (∀s∈start,s∈jZ L→s∈q.2.map (·.1)∨s∈q.1)∧(∀y∈q.2.map (·.1),∀p∈parV L y,p∈jZ L→p∈q.2.map (·.1)∨p∈q.1))
  (fun q=>(L.length-q.2.length)*3+q.1.length) (start,[]) ?_ ?_
 ·refine⟨k0.wide,?_,MapAt.new h,fun y v e=>(by cases e),Nat.le_add_right _ _,fun y j=>(by cases j),fun x hx y j=>⟨x,hx,j⟩,fun s hs _=>.inr hs,fun y j=>(by cases j)⟩
  have:=hs.upd k0 fun _ _=>id
  refine⟨this.len,this.ne,this.cap,?_⟩;rcases hs.blk with w|⟨b,rest,e1,e2,e3,e4⟩
  ·exact .inl w
  ·exact .inr ⟨b,rest,e1,⟨e2,Nat.ne_of_lt (bG e3)⟩,k0.get0 e3,e4⟩
 ·rintro I ⟨u,m⟩ t h' ⟨hu,Z,hm,k,o,d,G,f,F⟩ hI
  have g1:=g.upd hu fun b w=>w.imp (hQ b) id
  simp only at Z hm k o d G f F;refine aU (fun J=>?_) fun X=>?_
  ·rw[Z.len]at J
   obtain⟨xs,x,rfl⟩:∃xs x,u=xs++ [x]:=by
    rcases List.eq_nil_or_concat u with e|⟨xs,x,e⟩
    ·subst e;simp at J
    ·exact⟨xs,x,by rw[e,List.concat_eq_append]⟩
   have P:t.len=xs.length+1:=by rw[Z.len];simp
   have hw:IntKind.wrap .i64 ((t.len:Int)-1)=(xs.length:Int):=by
    rw[Go.IntWalk.i64_in _ ?_,P]
    ·omega
    ·rw[P];simp only[ae,aN]at o
     have:m.length≤L.length:=by
      have:=po (hm.nodup) (fun y j=>(d y j).1)
      simpa using this
     omega
   rw[hw];have hmL:m.length≤L.length:=by
    have:=po (hm.nodup) (fun y j=>(d y j).1)
    simpa using this
   have hsl:Nums No h' t (xs++ [x]):=Z.sl fun _ _ _=>id
   obtain⟨a,ha,_,hx⟩:=Nums.at hsl (i:=xs.length) (by simp);rw[show(xs++ [x])[xs.length]=x by simp]at hx
   have hcap:=Z.cap;have hop:OwnS u32 1 c5 (fun b=>(Q b∨h.size≤b)∧b≠h.size) h' ⟨aF t.a 0 t.cap 1,((xs.length:Int)).toNat-0,t.cap-0⟩ xs:=OwnS.popG Z (by simp)
   refine⟨by rw[P];omega,a,ha,_,hx,by omega,?_⟩
   have skip:(¬x∈jZ L∨x∈m.map (·.1))→I ⟨aF t.a 0 t.cap 1,((xs.length:Int)).toNat-0,t.cap-0⟩ h':=fun hsk=>by
    refine hI (xs,m) _ _ ⟨hu,hop,hm,k,?_,d,fun z X=>G z (by simp[X]),fun s hs D=>?_,fun y j p hp E=>?_⟩ (by simp)
    ·simp only[ae,aN]at o⊢;omega
    ·rcases f s hs D with c|c
     ·exact .inl c
     ·rcases aS.1 c with c|c
      ·exact .inr c
      ·rw[ay.1 c]at D⊢
       exact .inl (hsk.resolve_left fun h=>h D)
    ·rcases F y j p hp E with c|c
     ·exact .inl c
     ·rcases aS.1 c with c|c
      ·exact .inr c
      ·rw[ay.1 c]at E⊢
       exact .inl (hsk.resolve_left fun h=>h E)
   refine Join.intro (fun t2 N=>N=h'∧(t2=true→(¬x∈jZ L∨x∈m.map (·.1)))∧(t2=false→x∈jZ L∧x∉m.map (·.1))) (fun R hR=>?_) ?_
   ·refine Ai g1 x (CondP.intro (fun c=>?_) fun c=>?_)
    ·have c:¬x∈jZ L:=by simpa using c
     exact hR _ _ ⟨rfl,fun _=>.inl c,fun e=>by cases e⟩
    ·have c:x∈jZ L:=by simpa using c
     refine⟨_,_,hm.get x 0,hR _ _ ⟨rfl,?_⟩⟩;cases hl:bP m x with
     |none=>exact⟨fun e=>(by simp at e),fun _=>⟨c,gK.1 hl⟩⟩
     |some v=>
      have:=k x v hl;subst this;refine⟨fun _=>.inr ?_,fun e=>(by simp at e)⟩
      exact cn.2 ⟨_,(mI hm.nodup).1 hl,rfl⟩
   ·rintro t2 N ⟨rfl,e1,e2⟩
    refine CondP.intro (fun e=>skip (e1 e)) fun e=>?_
    obtain⟨C,T⟩:=e2 e;refine⟨_,_,hm.get x 0,_,rfl,hm.isMap,?_⟩;rw[gK.2 T,show IntKind.wrap .i64 ((none:Option Int).getD 0+1)=1 by decide]
    have S:=hm.put x 1;have k1:Upd (fun b=>Q b∨h.size≤b) N (jh N h.size (.int .u32 x) (.int .i64 1)):=lz _ _ _ (.inr (ar _))
    have k1':Upd (· =h.size) N (jh N h.size (.int .u32 x) (.int .i64 1)):=lz _ _ _ rfl
    have U:=hu.tr k1;have g2:=g.upd U fun b w=>w.imp (hQ b) id
    have ho2:OwnS u32 1 c5 (fun b=>(Q b∨h.size≤b)∧b≠h.size) _ _ xs:=hop.upd k1' fun b w=>w.2
    obtain⟨gmm,hgm,hr⟩:=g2.map;have hml:(ic m x 1).length=m.length+1:=by
     have:=congrArg List.length (rb m x 1);rw[if_neg T]at this;simpa using this
    have A:(ic m x 1).map (·.1)=m.map (·.1)++ [x]:=by rw[rb,if_neg T]
    have hmL2:m.length+1≤L.length:=by
     have:=po S.nodup (l':=jZ L) (fun y j=>by
      rw[A]at j
      rcases aS.1 j with c|c
      ·exact(d y c).1
      ·rw[ay.1 c];exact C)
     rw[A]at this;simpa using this
    have O:∀y v,bP (ic m x 1) y=some v→v=1:=fun y v hv=>by
     rw[oY]at hv;split at hv
     ·cases hv;rfl
     ·exact k y v hv
    have upx:∀y,UpG L x y→∃s∈start,UpG L s y:=G x (by simp);refine⟨_,rfl,_,g2.c0,_,_,hgm.get x ⟨none,0,0⟩,?_⟩;rcases hr x with⟨sl,ps,l1,l2,hps⟩|⟨_,l2⟩
    ·rw[l1]
     have B:parV L x=ps:=by simp[parV,l2]
     refine⟨_,hps.srow,?_⟩;have hpl:=hPl x;rw[B]at hpl;refine AppP.own ho2 hps.len rfl (te ps) rfl (by omega) ?_ ⟨.inr U.size,?_⟩ fun s' h3 ho3 k3=>?_
     ·simp only[ae,aN]at o;omega
     ·exact Nat.ne_of_gt S.lt
     ·have hu3:=U.tr (k3.mono fun b w=>.inl w.1)
      refine hI (xs++ps,ic m x 1) _ _ ⟨hu3,ho3,S.upd k3 (fun h=>h.2 rfl),O,?_,?_,?_,?_,?_⟩ ?_
      ·simp only[ae,aN]at o⊢;rw[hml];omega
      ·intro y j
       simp only[A]at j;rcases aS.1 j with c|c
       ·exact d y c
       ·rw[ay.1 c];exact⟨C,upx x (.refl C)⟩
      ·intro z X y hzy
       rcases aS.1 X with c|c
       ·exact G z (by simp[c]) y hzy
       ·exact upx y (.step C (by rw[B];exact c) hzy)
      ·intro s1 V D
       simp only[A];rcases f s1 V D with c|c
       ·exact .inl (cy _ c)
       ·rcases aS.1 c with c|c
        ·exact .inr (cy _ c)
        ·exact .inl (cS _ c)
      ·intro y j p hp E
       simp only[A]at j⊢;rcases aS.1 j with c|c
       ·rcases F y c p hp E with H|H
        ·exact .inl (cy _ H)
        ·rcases aS.1 H with H|H
         ·exact .inr (cy _ H)
         ·exact .inl (cS _ H)
       ·rw[ay.1 c,B]at hp
        exact .inr (cS _ hp)
      ·show(L.length-(ic m x 1).length)*3+(xs++ps).length<(L.length-m.length)*3+(xs++ [x]).length
       rw[hml,ae,ae,aN];omega
    ·exact absurd C (gK.1 l2)
  ·have X:u= []:=by
    rw[Z.len]at X;exact List.length_eq_zero_iff.1 (by omega)
   subst X;refine hk _ _ m (ar _) hm (fun y=>⟨fun j=>(d y j).2,?_⟩) k (hu.mono fun b w=>w)
   rintro⟨s1,V,hup⟩;have hup':∀a b,UpG L a b→a∈m.map (·.1)→b∈m.map (·.1):=by
    intro a b hab;induction hab with
    |refl _=>exact id
    |step c N h3 ih=>
     intro H;rcases F _ H _ N h3.left with Y|Y
     ·exact ih Y
     ·cases Y
   rcases f s1 V hup.left with Y|Y
   ·exact hup' _ _ hup Y
   ·cases Y
end Go.Proofs
namespace Go.Proofs
open Go.Lift
abbrev iv(n:Int):Value:=.int .i64 n
theorem Ig{M:Nat→Prop}(h:ac)(x:Int)(hM:M h.size):OwnS u32 1 c5 M (hnew h [.int .u32 x] c5) ⟨some (aZ h),1,1⟩ [x]:=
 ⟨rfl,j1,ar _,.inr ⟨h.size,[],rfl,hM,bh ..,rfl⟩⟩
structure Small(L:dI):Prop where
 two:∀v∈L,v.2.length≤2
 len:L.length≤100000
theorem CV{W:Nat→Prop}{h:ac}{gp gm:Nat}{L:dI}{nx:Int}(g:GraphAt W h gp gm L nx)(f:Small L)(a:Int)
  {K:Option Nat→ac→Prop}(j:∀r h' m,h.size≤r→MapAt KE iv h' r m→(∀y,y∈m.map (·.1)↔UpG L a y)→(∀y v,bP m y=some v→v=1)→Upd No h h'→K (some r) h'):
  HC PG f9 [.pointer (some ⟨gp,0,none⟩),.slice (some (aZ h)) 1 1] [.c .map] K (hnew h [.int .u32 a] c5):=by
 have k:=Upd.hnew No h [.int .u32 a] c5;have i:=g.more (Q:=(· =h.size)) k fun b c=>by rw[eO];omega
 have d:∀b,W b→b≠h.size:=fun b c e=>absurd (g.lt b c) (by omega)
 refine Ez (Q:=(· =h.size)) i (fun b c=>⟨.inr c,fun e=>d _ g.wp (e▸c),fun e=>d _ g.wm (e▸c)⟩) f.two f.len (s:=⟨some (aZ h),1,1⟩) (Ig h a (.inl rfl)) (by simp) fun r h' m n hm q p o=>?_
 refine j r h' m (by rw[eO]at n;omega) hm (fun y=>(q y).trans ?_) p (k.trans o fun b c=>.inr (db c.symm))
 simp
theorem EA{W:Nat→Prop}{h:ac}{gp gm:Nat}{L:dI}{nx:Int}(g:GraphAt W h gp gm L nx)(j:Small L)(a c:Int)
  {K:Bool→ac→Prop}(e:∀b h',(b=true↔UpG L a c)→Upd No h h'→K b h'):
  HC PG jk [.pointer (some ⟨gp,0,none⟩),.int .u32 a,.int .u32 c] [.c .bool] K h:=by
 refine rx (some ⟨gp,0,none⟩) a c ?_;unfold mw;refine CV g j a fun r h' m k hm d i f=>⟨_,_,hm.get c 0,e _ _ ?_ f⟩
 rw[←d c];cases hl:bP m c with
 |none=>simp[gK.1 hl]
 |some v=>
  rw[i c v hl];simp only[Option.getD_some,gt_iff_lt,Int.zero_lt_one,decide_true,true_iff];exact cn.2 ⟨_,(mI hm.nodup).1 hl,rfl⟩
end Go.Proofs
namespace Go.Proofs
open Go.Lift
structure Good(L:dI):Prop extends Small L where
 up:(jZ L).Pairwise (· < ·)
 par:∀v∈L,∀p∈v.2,p∈jZ L∧p<v.1
theorem Good.nd{L:dI}(g:Good L):(jZ L).Nodup:=g.up.imp fun h=>Int.ne_of_lt h
theorem Good.parV{L:dI}(g:Good L){a p:Int}(h:p∈parV L a):p∈jZ L∧p<a∧a∈jZ L:=by
 unfold Proofs.parV at h;cases hl:bP L a with
 |none=>rw[hl]at h;simp at h
 |some ps=>
  rw[hl]at h;have hm:=(mI g.nd).1 hl;have:=g.par _ hm p (by simpa using h);exact⟨this.1,this.2,cn.2 ⟨_,hm,rfl⟩⟩
theorem UpG.snoc{L:dI}{a z w:Int}(h:UpG L a z)(c:w∈Proofs.parV L z)(hi:w∈jZ L):UpG L a w:=by
 induction h with
 |refl h1=>exact .step h1 c (.refl hi)
 |step h1 h2 _ ih=>exact .step h1 h2 (ih c)
theorem UpG.right{L:dI}{a b:Int}(h:UpG L a b):b∈jZ L:=by
 induction h with
 |refl h=>exact h
 |step _ _ _ ih=>exact ih
theorem UpG.last{L:dI}{a b:Int}(h:UpG L a b):b=a∨∃z,UpG L a z∧b∈Proofs.parV L z:=by
 induction h with
 |refl _=>exact .inl rfl
 | @step a p b h1 h2 h3 ih=>
  rcases ih with rfl|⟨z,c,d⟩
  ·exact .inr ⟨a,.refl h1,h2⟩
  ·exact .inr ⟨z,.step h1 h2 c,d⟩
theorem UpG.le{L:dI}(g:Good L){a b:Int}(h:UpG L a b):b≤a:=by
 induction h with
 |refl _=>exact Int.le_refl _
 |step _ h2 _ ih=>have:=(g.parV h2).2.1;omega
theorem UpG.trans{L:dI}{a b c:Int}(h:UpG L a b)(k:UpG L b c):UpG L a c:=by
 induction h with
 |refl _=>exact k
 |step h1 h2 _ ih=>exact .step h1 h2 (ih k)
end Go.Proofs
namespace Go.Proofs
open Go.Lift
structure Inv(L:dI)(nx:Int):Prop where
 good:Good L
 pos:∀id∈jZ L,1≤id∧id<nx
 nx1:1≤nx
 nx2:nx≤2147483648
 few:L.length≤1024
theorem Inv.nil:Inv [] 1:=⟨⟨⟨fun v a=>(by cases a),by simp⟩,dV,fun v a=>(by cases a)⟩,fun v a=>(by cases a),by omega,by omega,by simp⟩
theorem Al{id:Int}:∀{L:dI},(jZ L).Pairwise (· < ·)→id∉jZ L→∀v∈L.dropWhile (fun v=>decide (v.1<id)),id<v.1
 | [],_,_,v,a=>by cases a
 |u::L,hp,hn,v,a=>by
  simp only[jZ,bN,bf,ao,not_or]at hp hn;rw[List.dropWhile_cons]at a;split at a
  ·exact Al hp.2 hn.2 v a
  ·rename_i h
   have h:¬u.1<id:=by simpa using h
   rcases ao.1 a with rfl|a
   ·omega
   ·have:=hp.1 v.1 (cn.2 ⟨v,a,rfl⟩);omega
theorem Dy{id:Int}:∀{L:dI},∀v∈L.takeWhile (fun v=>decide (v.1<id)),v.1<id
 | [],v,a=>by cases a
 |u::L,v,a=>by
  rw[List.takeWhile_cons]at a;split at a
  ·rename_i h
   rcases ao.1 a with rfl|a
   ·simpa using h
   ·exact Dy v a
  ·cases a
theorem zd{L:dI}(g:Good L){id:Int}{ps:List Int}(i:id∉jZ L)(j:∀p∈ps,p∈jZ L∧p<id)(k:ps.length≤2)(n:L.length<100000):Good (tn L id ps):=by
 have a:=q9 L id ps;refine⟨⟨fun v c=>?_,by rw[a.length_eq];simp;omega⟩,?_,fun v c p d=>?_⟩
 ·rcases ao.1 (a.mem_iff.1 c)with rfl|c
  ·exact k
  ·exact g.two v c
 ·unfold tn jZ
  rw[fO,bN,List.pairwise_append];refine⟨(g.up.sublist ((List.takeWhile_sublist _).map _)),bf.2 ⟨fun y e=>?_,g.up.sublist ((List.dropWhile_sublist _).map _)⟩,fun x hx y e=>?_⟩
  ·obtain⟨v,c,rfl⟩:=cn.1 e
   exact Al g.up i v c
  ·obtain⟨u,m,rfl⟩:=cn.1 hx
   have f:=Dy u m;rcases ao.1 e with rfl|e
   ·exact f
   ·obtain⟨v,c,rfl⟩:=cn.1 e
    have:=Al g.up i v c;omega
 ·rw[insV_ids.mem_iff]
  rcases ao.1 (a.mem_iff.1 c)with rfl|c
  ·exact⟨aC _ (j p d).1,(j p d).2⟩
  ·have:=g.par v c p d
   exact⟨aC _ this.1,this.2⟩
theorem xI{L:dI}{ps:List Int}(h:nG L ps=0):(∀p∈ps,p∈jZ L)∧L.length<1024:=by
 unfold nG at h;split at h
 ·cases h
 ·rename_i h1
  split at h
  ·cases h
  ·rename_i h2
   refine⟨fun p a=>?_,by omega⟩
   by_cases hm:p∈jZ L
   ·exact hm
   ·exact absurd (bF.2 ⟨p,a,by simpa using hm⟩) h1
theorem zb{ps:List Int}(h:tg ps=0):ps.length≤2:=by
 unfold tg at h;split at h
 ·cases h
 ·rename_i h1
  have:=not_or.1 h1;omega
theorem Inv.add{L:dI}{nx:Int}(v:Inv L nx)(ps:List Int):Inv (iW L nx ps).2.1 (iW L nx ps).2.2:=by
 unfold iW;split
 ·exact v
 ·rename_i e
  split
  ·exact v
  ·rename_i d
   split
   ·exact v
   ·rename_i h3
    have e:tg ps=0:=by omega
    have d:nG L ps=0:=by omega
    obtain⟨c,i⟩:=xI d;have g:nx∉jZ L:=fun hm=>by have:=(v.pos nx hm).2;omega
    show Inv (tn L nx ps) (nx+1)
    refine⟨zd v.good g (fun p f=>⟨c p f,(v.pos p (c p f)).2⟩) (zb e) (by have:=v.few;omega),fun id a=>?_,by have:=v.nx1;omega,by omega,?_⟩
    ·rcases ao.1 (insV_ids.mem_iff.1 a)with rfl|h
     ·have:=v.nx1;omega
     ·have:=v.pos id h;omega
    ·rw[(q9 L nx ps).length_eq];simp;omega
theorem Inv.put{L:dI}{nx:Int}(v:Inv L nx){id:Int}(m:0≤id)(ps:List Int):Inv (Iq L nx id ps).2.1 (Iq L nx id ps).2.2:=by
 unfold Iq;split
 ·exact v
 ·rename_i c
  have c:=not_or.1 c;have i:=c.1;have d:=not_or.1 c.2;have e:=not_or.1 d.2;split
  ·exact v
  ·rename_i h2
   split
   ·exact v
   ·rename_i f
    have o:tg ps=0:=by omega
    have f:nG L ps=0:=by omega
    obtain⟨k,s⟩:=xI f;have q:=v.nx1;refine⟨zd v.good h2 (fun p g=>⟨k p g,?_⟩) (zb o) (by have:=v.few;omega),fun j n=>?_,by simp only;split<;>omega,?_,?_⟩
    ·by_cases a:p<id
     ·exact a
     ·exact absurd (bF.2 ⟨p,g,by simpa using a⟩) e.2
    ·rcases ao.1 (insV_ids.mem_iff.1 n)with rfl|h
     ·simp only;split<;>omega
     ·have:=v.pos j h;simp only;split<;>omega
    ·have:=v.nx2;simp only;split<;>omega
    ·rw[(q9 L id ps).length_eq];simp;omega
theorem Inv.drop{L:dI}{nx:Int}(v:Inv L nx){keep st:List Int}(e:∀y,y∈st↔∃k∈keep,UpG L k y):Inv (L.filter fun v=>decide (v.1∈st)) nx:=by
 have a:∀id,id∈jZ (L.filter fun v=>decide (v.1∈st))↔id∈jZ L∧id∈st:=fun id=>by
  unfold jZ;simp only[cn,dt,decide_eq_true_iff];constructor
  ·rintro⟨u,⟨c,d⟩,rfl⟩;exact⟨⟨u,c,rfl⟩,d⟩
  ·rintro⟨⟨u,c,rfl⟩,d⟩;exact⟨u,⟨c,d⟩,rfl⟩
 refine⟨⟨⟨fun u g=>v.good.two u (dt.1 g).1,bI (eg ..) v.good.len⟩,v.good.up.sublist ((List.filter_sublist).map _),fun u g p m=>?_⟩,fun id f=>v.pos id ((a id).1 f).1,v.nx1,v.nx2,bI (eg ..) v.few⟩
 obtain⟨c,d⟩:=dt.1 g;obtain⟨j,o⟩:=v.good.par u c p m;refine⟨(a p).2 ⟨j,?_⟩,o⟩;obtain⟨k,n,i⟩:=(e _).1 (of_decide_eq_true d);refine(e p).2 ⟨k,n,i.snoc ?_ j⟩;have:bP L u.1=some u.2:=(mI v.good.nd).2 c;simp[parV,this,m]
end Go.Proofs
namespace Go.Proofs
inductive Fo where
 |nil:Fo
 |cons (lab:List UInt8) (val:Option ByteArray) (kids rest:Fo):Fo
abbrev Bn:=List UInt8×Option ByteArray×Fo
def Fo.toL:Fo→List Bn
 | .nil=> []
 | .cons lab w kids rest=>(lab,w,kids)::rest.toL
theorem Fo.toL_cons(lab:List UInt8)(w:Option ByteArray)(c a:Fo):(Fo.cons lab w c a).toL=(lab,w,c)::a.toL:=rfl
def Fo.ofL:List Bn→Fo
 | []=>.nil
 |(lab,w,kids)::l=>.cons lab w kids (Fo.ofL l)
theorem Fo.to_of:∀l:List Bn,(Fo.ofL l).toL=l
 | []=>rfl
 |(_,_,_)::l=>by show _::(Fo.ofL l).toL=_;rw[Fo.to_of l]
theorem Fo.of_to:∀F:Fo,Fo.ofL F.toL=F
 | .nil=>rfl
 | .cons lab w kids rest=>by show Fo.cons lab w kids (Fo.ofL rest.toL)=_;rw[Fo.of_to rest]
def qc:Fo→List UInt8→ByteArray→Prop
 | .nil,_,_=>False
 | .cons lab w kids rest,k,v=>(∃r,k=lab++r∧((r= []∧w=some v)∨qc kids r v))∨qc rest k v
def rc(w:Option ByteArray)(F:Fo)(k:List UInt8)(v:ByteArray):Prop:=(k= []∧w=some v)∨qc F k v
def vd(n:Bn)(k:List UInt8)(v:ByteArray):Prop:=∃r,k=n.1++r∧rc n.2.1 n.2.2 r v
theorem fS:∀{F:Fo} {k:List UInt8} {v:ByteArray},qc F k v↔∃n∈F.toL,vd n k v
 | .nil,_,_=>by simp[qc,Fo.toL]
 | .cons lab w kids rest,k,v=>by
  rw[Fo.toL_cons];unfold qc;rw[fS (F:=rest)];constructor
  ·rintro(h|⟨n,a,h⟩)
   ·exact⟨_,aq ..,h⟩
   ·exact⟨n,aC _ a,h⟩
  ·rintro⟨n,a,h⟩
   rcases ao.1 a with rfl|a
   ·exact .inl h
   ·exact .inr ⟨n,a,h⟩
def hd(k:List UInt8):Nat:=(k.headD 0).toNat
theorem ox{a b:List UInt8}(h:a≠[]):hd (a++b)=hd a:=by
 cases a with
 |nil=>exact absurd rfl h
 |cons x a=>rfl
theorem HW(a:List UInt8):hd a<256:=UInt8.toNat_lt _
def ff:Fo→Prop
 | .nil=>True
 | .cons lab w kids rest=>lab≠[]∧(w.isSome∨2≤kids.toL.length)∧ff kids∧(∀n∈rest.toL,hd lab<hd n.1)∧ff rest
def HL(n:Bn):Prop:=n.1≠[]∧(n.2.1.isSome∨2≤n.2.2.toL.length)∧ff n.2.2
theorem eX:∀{F:Fo},ff F↔F.toL.Pairwise (fun m n=>hd m.1<hd n.1)∧∀n∈F.toL,HL n
 | .nil=>by simp[ff,Fo.toL]
 | .cons lab w kids rest=>by
  rw[Fo.toL_cons,bf];show(lab≠[]∧(w.isSome∨2≤kids.toL.length)∧ff kids∧(∀n∈rest.toL,hd lab<hd n.1)∧ff rest)↔_
  rw[eX (F:=rest)];constructor
  ·rintro⟨i,g,f,e,d,c⟩
   refine⟨⟨e,d⟩,fun n a=>?_⟩
   rcases ao.1 a with rfl|a
   ·exact⟨i,g,f⟩
   ·exact c n a
  ·rintro⟨⟨e,d⟩,c⟩
   have:=c _ (aq ..);exact⟨this.1,this.2.1,this.2.2,e,d,fun n a=>c n (aC _ a)⟩
theorem lG:∀{F:Fo},ff F→∀n∈F.toL,∃r v,rc n.2.1 n.2.2 r v
 | .nil,_,n,a=>by simp[Fo.toL]at a
 | .cons lab w kids rest,h,n,a=>by
  rcases ao.1 a with rfl|a
  ·rcases h.2.1 with f|c
   ·obtain⟨v,d⟩:=eF.1 f
    exact⟨[],v,.inl ⟨rfl,d⟩⟩
   ·have e:=lG h.2.2.1
    have⟨m,hm⟩:∃m,m∈kids.toL:=by
     cases hl:kids.toL with
     |nil=>rw[hl]at c;simp at c
     |cons m l=>exact⟨m,aq ..⟩
    obtain⟨r,v,g⟩:=e m hm;exact⟨m.1++r,v,.inr (fS.2 ⟨m,hm,r,rfl,g⟩)⟩
  ·exact lG h.2.2.2.2 n a
theorem l0{F:Fo}(h:ff F){k:List UInt8}{v:ByteArray}(hi:qc F k v):k≠[]:=by
 obtain⟨n,a,r,rfl,_⟩:=fS.1 hi;have:=((eX.1 h).2 n a).1;intro e;exact this (gO.1 e).1
theorem pv{F:Fo}(h:ff F){k:List UInt8}{v:ByteArray}(hi:qc F k v):∃n∈F.toL,hd n.1=hd k∧vd n k v:=by
 obtain⟨n,a,r,e,c⟩:=fS.1 hi;exact⟨n,a,by rw[e,ox ((eX.1 h).2 n a).1],r,e,c⟩
theorem Ao{F:Fo}(h:ff F){m n:Bn}(hm:m∈F.toL)(g:n∈F.toL)(e:hd m.1=hd n.1):m=n:=by
 have f:=(eX.1 h).1;revert hm g;generalize F.toL=l at*;clear h;induction l with
 |nil=>intro hm;simp at hm
 |cons a l ih=>
  have f:=bf.1 f;intro hm g;rcases ao.1 hm with j|d
  ·rcases ao.1 g with i|c
   ·rw[j,i]
   ·have:=f.1 n c;rw[←j]at this;omega
  ·rcases ao.1 g with i|c
   ·have:=f.1 m d;rw[←i]at this;omega
   ·exact ih f.2 d c
def Br(P:List UInt8→ByteArray→Prop):Prop:=(∃v,P [] v)∨∃j k u v,P j u∧P k v∧j≠[]∧k≠[]∧hd j≠hd k
theorem Aq{w:Option ByteArray}{F:Fo}(h:ff F):(w.isSome∨2≤F.toL.length)↔Br (rc w F):=by
 constructor
 ·rintro(B|y)
  ·obtain⟨v,c⟩:=eF.1 B
   exact .inl ⟨v,.inl ⟨rfl,c⟩⟩
  ·right
   have d:=lG h;have hc:=eX.1 h;match hL:F.toL,y with
   |a::b::l,_=>
    have f:a∈F.toL:=by rw[hL];simp
    have o:b∈F.toL:=by rw[hL];simp
    obtain⟨r,v,C⟩:=d a f;obtain⟨s,u,d⟩:=d b o;have q:=(hc.2 a f).1;have p:=(hc.2 b o).1;have:=hc.1;rw[hL]at this;have D:=(bf.1 this).1 b (aq ..);refine⟨a.1++r,b.1++s,v,u,.inr (fS.2 ⟨a,f,r,rfl,C⟩),.inr (fS.2 ⟨b,o,s,rfl,d⟩),?_,?_,?_⟩
    ·intro e;exact q (gO.1 e).1
    ·intro e;exact p (gO.1 e).1
    ·rw[ox q,ox p];omega
 ·rintro(⟨v,c⟩|⟨j,k,u,v,i,g,x,nk,A⟩)
  ·rcases c with⟨_,c⟩|c
   ·left;rw[c];rfl
   ·exact absurd rfl (l0 h c)
  ·right
   rcases i with⟨e,_⟩|i
   ·exact absurd e x
   rcases g with⟨e,_⟩|g
   ·exact absurd e nk
   obtain⟨m,hm,em,_⟩:=pv h i;obtain⟨n,t,z,_⟩:=pv h g;match hL:F.toL with
   | []=>rw[hL]at hm;simp at hm
   | [a]=>
    rw[hL]at hm t;rw[ay.1 hm]at em;rw[ay.1 t]at z;omega
   |a::b::l=>simp
end Go.Proofs
