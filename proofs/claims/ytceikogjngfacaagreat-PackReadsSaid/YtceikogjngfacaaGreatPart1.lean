/- A part of the proof that the named laws of this program answer true, whatever the input. -/
import Derived.Test.YtceikogjngfacaaGreatPart0
open BitVec renaming ofInt→az,ofInt_natCast→iu,getLsbD_ofNat→mX
open Bool renaming eq_iff_iff→fy
open Go.IntKind renaming bits→aj,wrap→ac
open Int renaming fdiv→fa,natCast_nonneg→gX,toNat_natCast→bQ
open List renaming range→eR,range_add→ug,mem_range→jB,mem_cons_self→aD,mem_cons_of_mem→aA,filterMap_append→p6,take_left'→dY,drop_left'→dH,drop_drop→cW,length_append→af,flatMap_cons→aZ,size_toArray→dD,append_assoc→aw,pairwise_cons→bF,mem_cons→ar,length_cons→av,take_succ_cons→iX,append_eq_nil_iff→pL,mem_singleton→aq
open Nat renaming testBit_and→lS,testBit_two_pow_sub_one→mn,le_refl→ai,shiftRight_eq_div_pow→gv,lt_of_le_of_lt→jA,min_eq_left→cr,shiftRight_le→pH,mod_eq_of_lt→gR,mod_lt→oJ,lt_of_lt_of_le→aC,pow_le_pow_right→ip,zero_add→bK,le_of_eq→fA,add_zero→eY,le_trans→co,lt_irrefl→fx,pow_succ→kh,mul_comm→gf,mul_le_mul_right→eo
open Option renaming isSome_iff_exists→ib
open UInt8 renaming ofNat→cR,toNat_inj→lR
namespace Go.Proofs
open Go.Lift
def ww(n d:Nat):Nat:=(eR n).countP (d.testBit ·)
theorem F4(m n d:Nat):ww (m+n) d=ww m d+ww n (d>>>m):=by
 unfold ww;rw[ug,List.countP_append,List.countP_map];congr 1
 refine List.countP_congr fun i _=>?_
 simp[Nat.testBit_shiftRight]
theorem Q7(d:Nat)(i:Nat):∀n,i≤n→ww n (d&&&(2^i-1))=ww i d:=by
 intro n c;obtain⟨m,rfl⟩:=Nat.exists_eq_add_of_le c;rw[F4];have f:ww i (d&&&(2^i-1))=ww i d:=by
  unfold ww;refine List.countP_congr fun j b=>?_
  have:=jB.1 b;simp[this]
 have e:ww m ((d&&&(2^i-1))>>>i)=0:=by
  unfold ww;rw[List.countP_eq_zero];intro j _;simp[Nat.testBit_shiftRight];intro h;omega
 omega
theorem YY(d:Nat):ww 8 (d&&&255)=ww 8 d:=Q7 d 8 8 (ai _)
theorem Bm(n d:Nat):ww n d≤n:=by
 have:=List.countP_le_length (p:=(d.testBit ·)) (l:=eR n)
 simpa[ww]using this
theorem tH(d n:Nat):fa (d:Int) (2^n)=((d>>>n:Nat):Int):=by
 rw[Int.fdiv_eq_ediv_of_nonneg _ (by exact Int.le_of_lt (Int.pow_pos (by decide))),gv];simp
theorem VM(a b:Nat):(az (aj .u32) (a:Int)&&&az (aj .u32) (b:Int)).toNat=(a%4294967296)&&&(b%4294967296):=by
 simp[aj];rfl
theorem BQ{n:Nat}(h:n<4294967296):ac .u32 (n:Int)=(n:Int):=Go.IntWalk.u32_in _ (by omega)
theorem Gz{i:Nat}(hi:i<32){h:ae}{K:Bool→ae→Prop}(b:K true h):f5 279 [.int .i64 i] K h:=by
 refine eM (AM i) .nil Tryz.func279 Tryz.call279 ?_;unfold AM;refine ak (fun _=>?_) fun h=>absurd (gX i) h
 rw[decide_eq_true (by omega)];exact b
theorem L3{a b:Nat}(h:b<4294967296):a&&&b<4294967296:=jA Nat.and_le_right h
theorem LK{d i:Nat}(hd:d<4294967296)(hi:i<32){h:ae}{K:Bool→ae→Prop}(g:K (d.testBit i) h):f5 260 [.int .u32 d,.int .i64 i] K h:=by
 refine eM (wU d i) .nil Tryz.func260 Tryz.call260 ?_;unfold wU;refine Gz hi (aV.2 ⟨by omega,?_⟩);have e:min (i:Int).toNat (aj .u32)=i:=by rw[bQ];exact cr (by show i≤32;omega)
 rw[e,tH];have b:=VM (d>>>i) 1;have c:d>>>i<4294967296:=jA (pH d i) hd;rw[gR c,show(1:Nat)%4294967296=1 from rfl]at b
 simp only[Bd];rw[show((1:Nat):Int)=(1:Int)from rfl]at b
 rw[b,BQ (L3 (by omega))];have f:(((d>>>i&&&1:Nat):Int)==(1:Int))=d.testBit i:=by
  rw[fy,beq_iff_eq,Nat.testBit,Nat.and_comm];simp only[bne_iff_ne,ne_eq,Nat.one_and_eq_mod_two];have:(d>>>i)%2<2:=oJ _ (by omega);omega
 rw[f];exact g
theorem Td{d i:Nat}(hd:d<4294967296)(hi:i<32):∃w:Nat,ac .u32 (az (aj .u32) (d:Int)|||az (aj .u32) (ac .u32 (1*2^(min (i:Int).toNat (aj .u32))))).toNat=(w:Int)∧w<4294967296∧∀j,w.testBit j=(d.testBit j||decide (j=i)):=by
 have e:min (i:Int).toNat (aj .u32)=i:=by rw[bQ];exact cr (by show i≤32;omega)
 have f:2^i<4294967296:=Nat.pow_lt_pow_right (by omega) (show i<32 from hi)
 have c:(1*2^i:Int)=((2^i:Nat):Int):=by simp
 rw[e,c,BQ f];refine⟨_,BQ (BitVec.isLt _),BitVec.isLt _,fun j=>?_⟩
 rw[BitVec.testBit_toNat,BitVec.getLsbD_or,iu,iu,mX,mX,Nat.testBit_two_pow];by_cases b:j<32
 ·have:decide (j<aj .u32)=true:=decide_eq_true b
  rw[this];simp[eq_comm]
 ·have g:decide (j<aj .u32)=false:=decide_eq_false b
  have h2:d.testBit j=false:=Nat.testBit_lt_two_pow (aC hd (ip (n:=2) (by omega) (show 32≤j by omega)))
  rw[g,h2];simp;omega
theorem Qx{d i:Nat}(hd:d<4294967296)(hi:i<32){h:ae}{K:Int→ae→Prop}(b:∀w:Nat,w<4294967296→(∀j,w.testBit j=(d.testBit j||decide (j=i)))→K (w:Int) h):sI 264 [.int .u32 d,.int .i64 i] K h:=by
 refine eM (vt d i) .nil Tryz.func264 Tryz.call264 ?_;unfold vt;refine Gz hi (ay.2 ⟨by omega,?_⟩);obtain⟨w,e,c,h2⟩:=Td hd hi;simp only[Bd];rw[e];exact b w c h2
theorem LY{d i:Nat}(hd:d<4294967296)(hi:i<32):∃w:Nat,ac .u32 (az (aj .u32) (d:Int)&&& ~~~az (aj .u32) (ac .u32 (1*2^(min (i:Int).toNat (aj .u32))))).toNat=(w:Int)∧w<4294967296∧∀j,w.testBit j=(d.testBit j&&decide (j≠i)):=by
 have e:min (i:Int).toNat (aj .u32)=i:=by rw[bQ];exact cr (by show i≤32;omega)
 have f:2^i<4294967296:=Nat.pow_lt_pow_right (by omega) (show i<32 from hi)
 have c:(1*2^i:Int)=((2^i:Nat):Int):=by simp
 rw[e,c,BQ f];refine⟨_,BQ (BitVec.isLt _),BitVec.isLt _,fun j=>?_⟩
 rw[BitVec.testBit_toNat,BitVec.getLsbD_and,BitVec.getLsbD_not,iu,iu,mX,mX,Nat.testBit_two_pow];by_cases b:j<32
 ·have:decide (j<aj .u32)=true:=decide_eq_true b
  rw[this];simp[eq_comm]
 ·have g:decide (j<aj .u32)=false:=decide_eq_false b
  have h2:d.testBit j=false:=Nat.testBit_lt_two_pow (aC hd (ip (n:=2) (by omega) (show 32≤j by omega)))
  rw[g,h2];simp
theorem Gd{d i:Nat}(hd:d<4294967296)(hi:i<32){h:ae}{K:Int→ae→Prop}(b:∀w:Nat,w<4294967296→(∀j,w.testBit j=(d.testBit j&&decide (j≠i)))→K (w:Int) h):sI 283 [.int .u32 d,.int .i64 i] K h:=by
 refine yY d i ?_;unfold ri;refine Gz hi (ay.2 ⟨by omega,?_⟩);obtain⟨w,e,c,h2⟩:=LY hd hi;simp only[Bd];rw[e];exact b w c h2
abbrev ZD:ByteArray:=⟨#[0,1,1,2,1,2,2,3,1,2,2,3,2,3,3,4,1,2,2,3,2,3,3,4,2,3,3,4,3,4,4,5,1,2,2,3,2,3,3,4,2,3,3,4,3,4,4,5,2,3,3,4,3,4,4,5,3,4,4,5,4,5,5,6,1,2,2,3,2,3,3,4,2,3,3,4,3,4,4,5,2,3,3,4,3,4,4,5,3,4,4,5,4,5,5,6,2,3,3,4,3,4,4,5,3,4,4,5,4,5,5,6,3,4,4,5,4,5,5,6,4,5,5,6,5,6,6,7,1,2,2,3,2,3,3,4,2,3,3,4,3,4,4,5,2,3,3,4,3,4,4,5,3,4,4,5,4,5,5,6,2,3,3,4,3,4,4,5,3,4,4,5,4,5,5,6,3,4,4,5,4,5,5,6,4,5,5,6,5,6,6,7,2,3,3,4,3,4,4,5,3,4,4,5,4,5,5,6,3,4,4,5,4,5,5,6,4,5,5,6,5,6,6,7,3,4,4,5,4,5,5,6,4,5,5,6,5,6,6,7,4,5,5,6,5,6,6,7,5,6,6,7,6,7,7,8]⟩
theorem Wz:(eR 256).all (fun b=>decide (ZD[b]? =some (cR (ww 8 b))))=true:=by decide+kernel
theorem K4{b:Nat}(h:b<256):ZD[b]? =some (cR (ww 8 b)):=of_decide_eq_true (List.all_eq_true.1 Wz b (jB.2 h))
theorem LR(b:Nat):(cR (ww 8 b)).toNat=ww 8 b:=by
 have:=Bm 8 b;simp;omega
theorem aa5(d:Nat):ww 32 d=ww 8 (d>>>24)+ww 8 ((d>>>16)&&&255)+ww 8 ((d>>>8)&&&255)+ww 8 (d&&&255):=by
 rw[YY,YY,YY,show(32:Nat)=8+(8+(8+8))from rfl,F4,F4,F4]
 simp only[←Nat.shiftRight_add,Nat.reduceAdd];omega
set_option maxRecDepth 100000 in
theorem WY{d:Nat}(hd:d<4294967296){h:ae}{K:Int→ae→Prop}(m:K (ww 32 d:Int) h):iI 293 [.int .u32 d] K h:=by
 refine eM (oW d) .nil Tryz.func293 Tryz.call293 ?_;dsimp only[oW,XG];have f:fa (d:Int) (2^(min (24:Int).toNat (aj .u32)))=((d>>>24:Nat):Int):=tH d 24;have c:fa (d:Int) (2^(min (16:Int).toNat (aj .u32)))=((d>>>16:Nat):Int):=tH d 16;have p:fa (d:Int) (2^(min (8:Int).toNat (aj .u32)))=((d>>>8:Nat):Int):=tH d 8
 have b:∀x:Nat,x<4294967296→ac .u32 (az (aj .u32) (x:Int)&&&az (aj .u32) 255).toNat=((x&&&255:Nat):Int):=fun x hx=>by
  have:=VM x 255;rw[gR hx]at this;rw[show((255:Nat):Int)=(255:Int)from rfl]at this
  rw[this,BQ (L3 (by omega))]
 have e:d>>>24<256:=by rw[gv];omega
 have j:∀x:Nat,x&&&255<256:=fun x=>jA Nat.and_le_right (by omega)
 have i:d>>>16<4294967296:=jA (pH d 16) hd;have o:d>>>8<4294967296:=jA (pH d 8) hd;simp only[Bd];rw[f,c,p,b _ i,b _ o,b _ hd];refine⟨by decide,_,by omega,K4 (b:=d>>>24) e,by decide,_,by omega,K4 (j _),by decide,_,by omega,K4 (j _),_,by omega,K4 (j _),?_⟩
 rw[LR,LR,LR,LR];simp only[bQ];have s:=Bm 8 (d>>>24);have q:=Bm 8 (d>>>16&&&255);have u:=Bm 8 (d>>>8&&&255);have q4:=Bm 8 (d&&&255);rw[aa5]at m;have g:∀n:Nat,n≤255→ac .u8 (n:Int)=(n:Int):=fun n v=>Go.IntWalk.u8_in _ (by omega)
 rw[←Int.natCast_add,g _ (by omega),←Int.natCast_add,g _ (by omega),←Int.natCast_add,g _ (by omega),dL (by omega)];exact m
theorem uq{d i:Nat}(hd:d<4294967296)(hi:i<32){h:ae}{K:Int→ae→Prop}(b:K (ww i d:Int) h):iI 261 [.int .u32 d,.int .i64 i] K h:=by
 refine eM (vu d i) .nil Tryz.func261 Tryz.call261 ?_;unfold vu;refine ak (fun m=>?_) fun m=>?_
 ·have:i=0:=by omega
  subst this;exact b
 ·refine ak (fun h=>by omega) fun _=>⟨by omega,?_⟩
  have e:min (i:Int).toNat (aj .u32)=i:=by rw[bQ];exact cr (by show i≤32;omega)
  have j:2^i<4294967296:=Nat.pow_lt_pow_right (by omega) (show i<32 from hi)
  have c:0<2^i:=Nat.pow_pos (by omega);have f:(1*2^i:Int)=((2^i:Nat):Int):=by simp
  have g:(((2^i:Nat):Int)-1)=((2^i-1:Nat):Int):=by omega
  simp only[Bd];rw[e,f,BQ j,g,BQ (show 2^i-1<4294967296 by omega),VM,gR hd,gR (show 2^i-1<4294967296 by omega),BQ (L3 (by omega))]
  refine BG _ ?_;unfold uf;refine WY (L3 (by omega)) ?_;rw[Q7 d i 32 (by omega)];exact b
end Go.Proofs
namespace Go.Proofs
open Go.Lift
def fm{β:Type}(g:Nat→Option β)(n:Nat):List β:=(eR n).filterMap g
def upd{β:Type}(g:Nat→Option β)(i:Nat)(x:Option β)(j:Nat):Option β:=if j=i then x else g j
theorem Z9{β:Type}{f g:Nat→Option β}:∀l:List Nat,(∀j∈l,f j=g j)→l.filterMap f=l.filterMap g
 | [],_=>rfl
 |j::l,h=>by
  rw[List.filterMap_cons,List.filterMap_cons,h j (aD ..),Z9 l fun k b=>h k (aA _ b)]
section
variable {β:Type} {g:Nat→Option β} {d:Nat}
theorem Hf(hd:∀c,c<32→d.testBit c=(g c).isSome){i:Nat}(hi:i≤32):(fm g i).length=ww i d:=by
 unfold fm ww;rw[List.length_filterMap_eq_countP];exact List.countP_congr fun j b=>by rw[hd j (by have:=jB.1 b;omega)]
theorem qP{i n:Nat}(hi:i<n):fm g n=fm g i++((g i).toList++(eR (n-(i+1))).filterMap fun j=>g (i+1+j)):=by
 unfold fm;have e:n=i+(1+(n-(i+1))):=by omega
 rw[e,ug,p6,ug];have b:i+(1+(n-(i+1)))-(i+1)=n-(i+1):=by omega
 rw[b];congr 1
 rw[List.map_append,p6,List.map_map];congr 1
 rw[List.filterMap_map];refine Z9 _ fun j _=>?_
 show g (i+(1+j))=_
 rw[Nat.add_assoc]
theorem Bi{i:Nat}{x:Option β}:fm (upd g i x) i=fm g i:=by
 unfold fm;refine Z9 _ fun j b=>?_
 have:=jB.1 b;unfold upd;rw[if_neg (by omega)]
theorem yL{i m:Nat}{x:Option β}:((eR m).filterMap fun j=>upd g i x (i+1+j))=(eR m).filterMap fun j=>g (i+1+j):=by
 refine Z9 _ fun j _=>?_
 unfold upd;rw[if_neg (by omega)]
theorem U5{i:Nat}(hi:i<32)(hd:∀c,c<32→d.testBit c=(g c).isSome)(e:g i=none)(x:β):fm (upd g i (some x)) 32=(fm g 32).take (ww i d)++x::(fm g 32).drop (ww i d):=by
 have b:=Hf hd (i:=i) (by omega);rw[qP (g:=upd g i (some x)) hi,qP (g:=g) hi,Bi,yL,e,dY b,dH b];simp[upd]
theorem U4{i:Nat}(hi:i<32)(hd:∀c,c<32→d.testBit c=(g c).isSome){y:β}(e:g i=some y)(x:β):fm (upd g i (some x)) 32=(fm g 32).take (ww i d)++x::(fm g 32).drop (ww i d+1):=by
 have b:=Hf hd (i:=i) (by omega);rw[qP (g:=upd g i (some x)) hi,qP (g:=g) hi,Bi,yL,e,dY b,←cW,dH b];simp[upd]
theorem U6{i:Nat}(hi:i<32)(hd:∀c,c<32→d.testBit c=(g c).isSome){y:β}(e:g i=some y):fm (upd g i none) 32=(fm g 32).take (ww i d)++(fm g 32).drop (ww i d+1):=by
 have b:=Hf hd (i:=i) (by omega);rw[qP (g:=upd g i none) hi,qP (g:=g) hi,Bi,yL,e,dY b,←cW,dH b];simp[upd]
theorem aaa{i:Nat}(hi:i<32)(hd:∀c,c<32→d.testBit c=(g c).isSome){y:β}(b:g i=some y):(fm g 32)[ww i d]? =some y:=by
 have e:=Hf hd (i:=i) (by omega);rw[qP (g:=g) hi,b,List.getElem?_append_right (by omega),e,Nat.sub_self];rfl
theorem Q3{i:Nat}(hi:i<32)(hd:∀c,c<32→d.testBit c=(g c).isSome){y:β}(b:g i=some y):ww i d<(fm g 32).length:=(List.getElem?_eq_some_iff.1 (aaa hi hd b)).1
theorem X0{i:Nat}(hi:i<32)(hd:∀c,c<32→d.testBit c=(g c).isSome):ww i d≤(fm g 32).length:=by
 have b:=Hf hd (i:=i) (by omega);rw[qP (g:=g) hi,af];omega
theorem Hg:(fm g 32).length≤32:=by
 have:=List.length_filterMap_le g (eR 32);simpa[fm]using this
end
end Go.Proofs
namespace Go.Proofs
open Go.Lift
abbrev sv(s:SliceV):Value:=.slice s.a s.len s.cap
structure Slots where
 p:Nat→Option Pr
 k:Nat→Option (Option Addr)
def gG(d n:Nat)(sp sk:SliceV)(b:Bool)(c:Option Addr):Array Value:= #[.int .u32 (d:Int),.int .u32 (n:Int),sv sp,sv sk,.bool b,.pointer c]
structure BitsOf(d n:Nat)(s:Slots):Prop where
 d32:d<4294967296
 n32:n<4294967296
 dp:∀c,c<32→d.testBit c=(s.p c).isSome
 nk:∀c,c<32→n.testBit c=(s.k c).isSome
structure NodeAt(W:Nat→Prop)(h:ae)(b:Nat)(s:Slots):Prop where
 ex:∃d n sp sk ow,h[b]? =some (.cells (gG d n sp sk false ow) 350 (0,0))∧BitsOf d n s∧Sl fw 2 W h sp (fm s.p 32)∧Sl tE 1 W h sk (fm s.k 32)∧sp.len≤sp.cap∧sk.len≤sk.cap
 nw:¬W b
theorem NodeAt.upd{W M:Nat→Prop}{h c:ae}{b:Nat}{s:Slots}(n:NodeAt W h b s)(k:Upd M h c)(hm:∀b,M b→W b∨h.size≤b):NodeAt W c b s:=by
 obtain⟨d,m,sp,sk,p,e,h2,g,i,f,o⟩:=n.ex;exact⟨⟨d,m,sp,sk,p,k.get e (fun j=>(hm _ j).elim n.nw fun h=>by have:=bc e;omega),h2,g.upd k hm,i.upd k hm,f,o⟩,n.nw⟩
structure OwnN(M:Nat→Prop)(h:ae)(b d n:Nat)(sp sk:SliceV)(s:Slots)(ow:Option Addr):Prop where
 blk:h[b]? =some (.cells (gG d n sp sk false ow) 350 (0,0))
 bits:BitsOf d n s
 ex:∃A B:Nat→Prop,OwnS fw 2 201 A h sp (fm s.p 32)∧OwnS tE 1 98 B h sk (fm s.k 32)∧(∀x,A x→M x∧¬B x∧x≠b∧x<h.size)∧(∀x,B x→M x∧x≠b∧x<h.size)
 mb:M b
theorem GY{h:ae}{K:Bool→ae→Prop}(b:K false h):f5 114 [.pointer none] K h:=by
 refine tM none ?_;dsimp only[oF,jI,dq];exact ay.2 b
theorem JW{b:Nat}{h:ae}{K:Bool→ae→Prop}(c:K false h):f5 274 [gF b,.pointer none] K h:=by
 refine C3 _ none ?_;dsimp only[vg,ce,dq];exact aV.2 (GY (ay.2 c))
theorem OwnN.upd{M M':Nat→Prop}{h g:ae}{b d n:Nat}{sp sk:SliceV}{s:Slots}{i:Option Addr}(o:OwnN M h b d n sp sk s i)(k:Upd M' h g)(hm:∀x,M' x→¬M x):OwnN M g b d n sp sk s i:=by
 obtain⟨A,B,j,h2,c,e⟩:=o.ex;have z:=k.size;exact⟨k.get o.blk fun m=>hm _ m o.mb,o.bits,⟨A,B,j.upd k fun x hx f=>hm _ f (c x hx).1,h2.upd k fun x hx f=>hm _ f (e x hx).1,fun x hx=>⟨(c x hx).1,(c x hx).2.1,(c x hx).2.2.1,by have:=(c x hx).2.2.2;omega⟩,fun x hx=>⟨(e x hx).1,(e x hx).2.1,by have:=(e x hx).2.2;omega⟩⟩,o.mb⟩
set_option maxRecDepth 4000 in
theorem Uw{W:Nat→Prop}{h:ae}{b:Nat}{s:Slots}(nd:NodeAt W h b s){K:Option Addr→ae→Prop}
  (F:∀u d n sp sk,OwnN (fun x=>h.size≤x) u h.size d n sp sk s none→Upd No h u→K (some ⟨h.size,0,none⟩) u):
  fh 256 [gF b,.pointer none] K h:=by
 obtain⟨d,n,sp,sk,q,m,bits,N,O,hcp,hck⟩:=nd.ex;refine xQ _ none ?_;dsimp only[rI,nv,dy,eS,ce,jI,cf,td,Ty,Yc,dq,iv];refine JW (ay.2 ?_);have c:∀{h:ae} {b:Nat} {c:Array Value} {i:Nat},h[b]? =some (.cells c 350 (0,0))→bh h ⟨b,0+i,none⟩=c[i]?:=fun m=>by rw[bK];exact bO m
 refine⟨_,rfl,_,c (i:=0) m,_,c (i:=1) m,sp,c (i:=2) m,sk,c (i:=3) m,_,c (i:=4) m,_,c (i:=5) m,?_⟩;have k1:=Upd.hnew No h [.int .u32 0,.int .u32 0,.slice none 0 0,.slice none 0 0,.bool false,.pointer none] 350;have b1:=cO h [.int .u32 0,.int .u32 0,.slice none 0 0,.slice none 0 0,.bool false,.pointer none] 350;refine cP ?_;simp only[dA h];generalize hnew h [.int .u32 0,.int .u32 0,.slice none 0 0,.slice none 0 0,.bool false,.pointer none] 350=h1 at k1 b1
 have L:iw h1 ⟨h.size,0,none⟩ 0 [.int .u32 (d:Int),.int .u32 (n:Int),.slice sp.a sp.len sp.cap,.slice sk.a sk.len sk.cap,.bool false,.pointer q]=_:=gQ _ h1 0 0 _ b1 (by simp);refine⟨.inr ⟨_,rfl,fun j hj=>by rw[cM];exact fz b1 (by simp at hj⊢;omega)⟩,cP ?_⟩
 rw[L];have b2:=dU (o:=.cells (gG d n sp sk false q) 350 (0,0)) b1;have B:Upd No h _:=k1.trans (M':=(· =h.size)) (Upd.set h1 (.cells (gG d n sp sk false q) 350 (0,0)) rfl) fun x hx=>.inr (fA hx.symm)
 have P:h.size<(h1.setIfInBounds h.size (.cells (gG d n sp sk false q) 350 (0,0))).size:=bc b2;have hbb:h.size≠b:=fun e=>by have:=bc m;omega
 have e2:(Obj.cells (List.take (0+0) [Value.int .u32 0,.int .u32 0,.slice none 0 0,.slice none 0 0,.bool false,.pointer none]++ [Value.int .u32 (d:Int),.int .u32 (n:Int),.slice sp.a sp.len sp.cap,.slice sk.a sk.len sk.cap,.bool false,.pointer q]++List.drop (0+0+ [Value.int .u32 (d:Int),.int .u32 (n:Int),.slice sp.a sp.len sp.cap,.slice sk.a sk.len sk.cap,.bool false,.pointer q].length) [Value.int .u32 0,.int .u32 0,.slice none 0 0,.slice none 0 0,.bool false,.pointer none]).toArray 350 (0,0))=.cells (gG d n sp sk false q) 350 (0,0):=rfl
 rw[e2];generalize h1.setIfInBounds h.size (.cells (gG d n sp sk false q) 350 (0,0))=h2 at b2 B P;have z:=B.get0 m;refine⟨_,rfl,sp,c (i:=2) z,_,rfl,sk,c (i:=3) z,?_⟩;refine Aa (N.upd B fun _ h=>h.elim) (by have:=Hg (g:=s.p);omega) fun D V Q p=>?_
 refine⟨c (i:=3) (p.get0 z),?_⟩;refine D5 ((O.upd B fun _ h=>h.elim).upd p fun _ h=>h.elim) (by have:=Hg (g:=s.k);omega) fun G Y R y=>?_
 have T:=y.get0 (p.get0 b2);have A:=Q.within.upd y fun _ _ h=>h
 have C:=R.within;have z3:=p.size;have z4:=y.size;have w:∀{h:ae} {c:Array Value} {x i:Nat},h[x]? =some (.cells c 350 (0,0))→i<c.size→Wr h ⟨x,0+i,none⟩:=fun m hi=>by rw[bK];exact fz m hi
 have st:∀{h:ae} {c c':Array Value} {x i:Nat} {v:Value} {k:ae→Prop},h[x]? =some (.cells c 350 (0,0))→c.setIfInBounds i v=c'→(∀u,u[x]? =some (.cells c' 350 (0,0))→Upd (· =x) h u→k u)→At (hset h ⟨x,i,none⟩ v) k:=fun m e F=>Bq m fun u I X=>F u (e▸I) X
 refine⟨w (i:=2) T (show 2<6 by decide),st (i:=2) (c':=gG d n D sk false q) T rfl fun h5 S H=>?_⟩
 refine⟨w (i:=3) S (show 3<6 by decide),st (i:=3) (c':=gG d n D G false q) S rfl fun h6 U E=>?_⟩
 refine⟨w (i:=5) U (show 5<6 by decide),st (i:=5) (c':=gG d n D G false none) U rfl fun h7 Z J=>?_⟩
 refine GY (ay.2 ?_);have f:=H.tr (E.tr J);have z7:=f.size;refine F _ d n D G ⟨Z,bits,⟨fun x=>h2.size≤x∧x<V.size,fun x=>V.size≤x∧x<Y.size,A.upd f fun x hx e=>by have e:x=h.size:=e;omega,C.upd f fun x hx e=>by have e:x=h.size:=e;omega,fun x hx=>⟨by omega,by omega,by omega,by omega⟩,fun x hx=>⟨by omega,by omega,by omega⟩⟩,ai _⟩ ?_
 exact((B.tr p).tr y).trans f fun x hx=>.inr (fA hx.symm)
end Go.Proofs
namespace Go.Proofs
open Go.Lift
theorem vV{β:Type}{g:Nat→Option β}{i:Nat}(h:g i=none):upd g i none=g:=by
 funext j;unfold upd;split
 ·rename_i e;rw[e,h]
 ·rfl
theorem gl{h:ae}{b:Nat}{c:Array Value}{t:TypeId}{i:Nat}(d:h[b]? =some (.cells c t (0,0))):bh h ⟨b,0+i,none⟩=c[i]?:=by rw[bK];exact bO d
theorem WZ{h:ae}{b:Nat}{c:Array Value}{t:TypeId}{i:Nat}(d:h[b]? =some (.cells c t (0,0))) (hi:i<c.size):Wr h ⟨b,0+i,none⟩:=by rw[bK];exact fz d hi
theorem Lw{h:ae}{b:Nat}{c c':Array Value}{t:TypeId}{i:Nat}{v:Value}{k:ae→Prop}(m:h[b]? =some (.cells c t (0,0))) (e:c.setIfInBounds i v=c')
 (j:∀d,d[b]? =some (.cells c' t (0,0))→Upd (· =b) h d→k d):At (hset h ⟨b,i,none⟩ v) k:=Bq m fun d f g=>j d (e▸f) g
theorem Q6{M:Nat→Prop}{h:ae}{b d n:Nat}{sp sk:SliceV}{s:Slots}{C:Option Addr}(o:OwnN M h b d n sp sk s C){i:Nat}(hi:i<32){K:Unit→ae→Prop}
  (Y:∀u F L sp' sk',OwnN M u b F L sp' sk' ⟨upd s.p i none,upd s.k i none⟩ C→Upd M h u→K () u):eJ 262 [gF b,.int .i64 i] K h:=by
 obtain⟨A,B,hA,hB,f,p⟩:=o.ex;have bits:=o.bits;refine CZ _ i ?_;dsimp only[u0,dy,Qy,eS,cf,uj,dq,iv,Ai];have Z:∀k:Nat,k≤100→ac .i64 ((k:Int)+1)=((k+1:Nat):Int):=fun k Y=>by rw[dL (by omega)];omega
 have hc1:=Bm i d;have hc2:=Bm i n;have N:∀x,A x→M x∨h.size≤x:=fun x hx=>.inl (f x hx).1
 refine Join.intro (fun _ u=>∃sp',u[b]? =some (.cells (gG d n sp' sk false C) 350 (0,0))∧OwnS fw 2 201 A u sp' (fm (upd s.p i none) 32)∧OwnS tE 1 98 B u sk (fm s.k 32)∧Upd M h u) (fun R E=>?_) ?_
 ·refine⟨_,rfl,_,gl (i:=0) o.blk,LK bits.d32 hi ?_⟩
  rw[bits.dp i hi];cases hp:s.p i with
  |none=>exact ay.2 (E _ _ ⟨sp,o.blk,by rw[vV hp];exact hA,hB,Upd.refl _ _⟩)
  |some y=>
   refine aV.2 ⟨_,rfl,_,gl (i:=0) o.blk,uq bits.d32 hi ⟨_,rfl,sp,gl (i:=2) o.blk,?_⟩⟩;rw[Z _ (by omega)];refine P2 hA (Q3 hi bits.dp hp) (by have:=Hg (g:=s.p);omega) fun G h2 w j=>?_
   rw[←U6 hi bits.dp hp]at w;have b2:=j.get o.blk fun X=>(f b X).2.2.1 rfl
   refine⟨_,rfl,WZ (i:=2) b2 (show 2<6 by decide),Lw (i:=2) (c':=gG d n G sk false C) b2 rfl fun h3 b3 m=>?_⟩
   refine E _ _ ⟨G,b3,w.upd m fun x hx e=>(f x hx).2.2.1 e,(hB.upd j fun x hx W=>(f x W).2.1 hx).upd m fun x hx e=>(p x hx).2.1 e,(j.mono N).tr (m.mono fun x e=>.inl (e▸o.mb))⟩
 rintro _ h1 ⟨v,b1,I,H,J⟩;refine Join.intro (fun _ u=>∃sk',u[b]? =some (.cells (gG d n v sk' false C) 350 (0,0))∧OwnS fw 2 201 A u v (fm (upd s.p i none) 32)∧OwnS tE 1 98 B u sk' (fm (upd s.k i none) 32)∧Upd M h1 u) (fun R E=>?_) ?_
 ·refine⟨_,rfl,_,gl (i:=1) b1,LK bits.n32 hi ?_⟩
  rw[bits.nk i hi];cases hp:s.k i with
  |none=>exact ay.2 (E _ _ ⟨sk,b1,I,by rw[vV hp];exact H,Upd.refl _ _⟩)
  |some y=>
   refine aV.2 ⟨_,rfl,_,gl (i:=1) b1,uq bits.n32 hi ⟨_,rfl,sk,gl (i:=3) b1,?_⟩⟩;rw[Z _ (by omega)];refine P3 H (Q3 hi bits.nk hp) (by have:=Hg (g:=s.k);omega) fun G h2 w j=>?_
   rw[←U6 hi bits.nk hp]at w;have b2:=j.get b1 fun X=>(p b X).2.1 rfl
   refine⟨_,rfl,WZ (i:=3) b2 (show 3<6 by decide),Lw (i:=3) (c':=gG d n v G false C) b2 rfl fun h3 b3 m=>?_⟩
   refine E _ _ ⟨G,b3,(I.upd j fun x hx W=>(f x hx).2.1 W).upd m fun x hx e=>(f x hx).2.2.1 e,w.upd m fun x hx e=>(p x hx).2.1 e,(j.mono fun x hx=>.inl (p x hx).1).tr (m.mono fun x e=>.inl (e▸o.mb))⟩
 rintro _ h2 ⟨D,b2,S,U,j⟩;refine⟨_,rfl,_,gl (i:=0) b2,_,rfl,_,gl (i:=1) b2,?_⟩;refine Gd bits.d32 hi fun F Q V=>⟨gl (i:=1) b2,?_⟩
 refine Gd bits.n32 hi fun L T O=>?_
 refine⟨_,rfl,WZ (i:=0) b2 (show 0<6 by decide),Lw (i:=0) (c':=gG F n v D false C) b2 rfl fun h3 b3 m=>?_⟩
 refine⟨_,rfl,WZ (i:=1) b3 (show 1<6 by decide),Lw (i:=1) (c':=gG F L v D false C) b3 rfl fun h4 b4 P=>?_⟩
 have q:=m.tr P;have z:=(J.tr (j.tr (q.mono (M':=M) fun x e=>.inl (e▸o.mb)))).size
 refine Y h4 F L v D ⟨b4,⟨Q,T,fun c hc=>?_,fun c hc=>?_⟩,⟨A,B,S.upd q fun x hx e=>(f x hx).2.2.1 e,U.upd q fun x hx e=>(p x hx).2.1 e,fun x hx=>⟨(f x hx).1,(f x hx).2.1,(f x hx).2.2.1,by have:=(f x hx).2.2.2;omega⟩,fun x hx=>⟨(p x hx).1,(p x hx).2.1,by have:=(p x hx).2.2;omega⟩⟩,o.mb⟩ (J.tr (j.tr (q.mono fun x e=>.inl (e▸o.mb))))
 ·rw[V,bits.dp c hc];simp only[upd];split<;>simp[*]
 ·rw[O,bits.nk c hc];simp only[upd];split<;>simp[*]
end Go.Proofs
namespace Go.Proofs
open Go.Lift
theorem OwnS.setAt{α:Type}{f:α→List Value}{sz:Nat}{t:TypeId}{M:Nat→Prop}{h:ae}{s:SliceV}{xs:List α}(i:OwnS f sz t M h s xs){k:Nat}(n:k<xs.length)(x:α):
  ∃a,s.a=some a∧M a.block∧xw h (some (adr a (k*sz))) 0 (f x)∧OwnS f sz t M (iw h (adr a (k*sz)) 0 (f x)) s (xs.take k++x::xs.drop (k+1))∧Upd (· =a.block) h (iw h (adr a (k*sz)) 0 (f x)):=by
 have g:∀x,(f x).length=sz∧0<sz:=i.ne;have u:=i.len;have e:=i.cap;rcases i.blk with E|⟨b,d,q,p,hc,y⟩
 ·omega
 have o:((xs.take k).flatMap f).length=k*sz:=by rw[pp g,List.length_take,cr (by omega)]
 have z:xs.flatMap f=(xs.take k).flatMap f++(f xs[k]++(xs.drop (k+1)).flatMap f):=by
  rw[←aZ,←List.drop_eq_getElem_cons n];exact Hq xs k
 rw[z]at hc;have w:=(g xs[k]).1;have C:=(g x).1;have c:(xs.take k++x::xs.drop (k+1)).flatMap f=(xs.take k).flatMap f++(f x++(xs.drop (k+1)).flatMap f):=by rw[List.flatMap_append,aZ]
 generalize (xs.take k).flatMap f=A at o hc c;generalize (xs.drop (k+1)).flatMap f=B at hc c;generalize f xs[k]=X at w hc;have v:k*sz+0+(f x).length≤(A++(X++B)++d).length:=by simp only[af];omega
 have m:adr ⟨b,0,none⟩ (k*sz)=⟨b,k*sz,none⟩:=by rw[cM,bK]
 refine⟨⟨b,0,none⟩,q,p,?_,?_,?_⟩
 ·rw[m]
  refine .inr ⟨_,rfl,fun j D=>?_⟩
  rw[cM];exact fz hc (by rw[dD];omega)
 ·rw[m,gQ (f x) h 0 (k*sz) _ hc v]
  refine⟨by simp;omega,g,e,.inr ⟨b,d,q,p,?_,?_⟩⟩
  ·rw[dU hc,c]
   congr 3
   rw[eY,aw A,dY o,←cW,dH o,aw X,dH (by omega)];simp only[aw]
  ·exact y
 ·rw[m,gQ (f x) h 0 (k*sz) _ hc v]
  exact Upd.set h _ rfl
theorem OwnN.node{M W:Nat→Prop}{h:ae}{b d n:Nat}{sp sk:SliceV}{s:Slots}{f:Option Addr}(o:OwnN M h b d n sp sk s f)(c:∀x,M x→¬W x):NodeAt W h b s:=by
 obtain⟨A,B,e,h2,g,i⟩:=o.ex;exact⟨⟨d,n,sp,sk,f,o.blk,o.bits,e.sl fun x hx _=>c _ (g x hx).1,h2.sl fun x hx _=>c _ (i x hx).1,e.cap,h2.cap⟩,c _ o.mb⟩
theorem NN{W:Nat→Prop}{h:ae}{b:Nat}{s:Slots}(nd:NodeAt W h b s){i:Nat}(hi:i<32){K:Bool→ae→Prop}(e:K true h):f5 259 [gF b,.int .i64 i] K h:=by
 obtain⟨d,n,sp,sk,f,c,_⟩:=nd.ex;refine C2 _ i ?_;dsimp only[vd,jI,dq];refine aV.2 ⟨_,rfl,_,gl (i:=4) c,aV.2 ?_⟩;refine ak (fun _=>?_) fun h=>absurd (gX i) h
 rw[decide_eq_true (by omega)];exact e
theorem QB{β:Type}{g:Nat→Option β}{i:Nat}{x y:Option β}:upd (upd g i x) i y=upd g i y:=by
 funext j;unfold upd;split<;>rfl
theorem vU{β:Type}{g:Nat→Option β}{i:Nat}{x:Option β}:upd g i x i=x:=by simp[upd]
theorem O0{W:Nat→Prop}{h:ae}{b:Nat}{s:Slots}(nd:NodeAt W h b s)(hW:∀x,W x→x<h.size){i:Nat}(hi:i<32)(hx:∀y,s.p i=some y→s.k i=none)(p:Pr){K:Option Addr→ae→Prop}
  (hk:∀h' b',NodeAt W h' b' ⟨upd s.p i (some p),upd s.k i none⟩→Upd No h h'→K (some ⟨b',0,none⟩) h'):
  fh 234 [gF b,.pointer none,.int .i64 i,.agg #[.string p.1,.string p.2]] K h:=by
 refine Al _ none i p ?_;dsimp only[sg,dy,sq,eS,cf,cE,iR,td,xj,uj,dq,iv,j5,HL,vz,ic,ji];have k1:=Upd.hnew No h [.string p.1,.string p.2] 201;have b1:=cO h [.string p.1,.string p.2] 201;refine cP ?_;simp only[dA h];generalize hnew h [.string p.1,.string p.2] 201=h1 at k1 b1;have z1:=bc b1;have V:=nd.upd k1 fun _ h=>h.elim
 refine NN V hi (ay.2 ?_);refine Uw V fun h2 d n sp sk o J=>?_
 have bits:=o.bits;obtain⟨A,B,hA,hB,u,O⟩:=o.ex;have H:=k1.tr J;have z:=J.get0 b1;have S:∀x,h1.size≤x→¬W x:=fun x hx hw=>by have:=hW x hw;omega
 refine⟨_,rfl,_,gl (i:=0) o.blk,LK bits.d32 hi ?_⟩;rw[bits.dp i hi];cases hp:s.p i with
 |some y=>
  refine aV.2 ⟨_,rfl,sp,gl (i:=2) o.blk,_,rfl,_,gl (i:=0) o.blk,p.1,by rw[cM,bO z];rfl,p.2,by rw[cM,bO z];rfl,?_⟩
  refine uq bits.d32 hi ⟨⟨by rw[cM,bO z];rfl,by rw[cM,bO z];rfl⟩,gl (i:=2) o.blk,?_⟩
  have hlt:=Q3 hi bits.dp hp;obtain⟨a,ha,I,hw,X,q⟩:=OwnS.setAt hA hlt p;have hlen:=hA.len;refine⟨by omega,a,ha,?_⟩;rw[bQ];refine⟨hw,cP ?_⟩;rw[←U4 hi bits.dp hp]at X;have ob:=q.get o.blk fun e=>(u _ I).2.2.1 e.symm
  have z3:=q.size;have C:OwnN (fun x=>h1.size≤x) _ h1.size d n sp sk ⟨upd s.p i (some p),upd s.k i none⟩ none:=⟨ob,⟨bits.d32,bits.n32,fun c hc=>by
    rw[bits.dp c hc];simp only[upd];split
    ·rename_i e;rw[e,hp];rfl
    ·rfl,fun c hc=>by rw[bits.nk c hc,vV (hx y hp)]⟩,
   ⟨A,B,X,by rw[vV (hx y hp)];exact hB.upd q fun x hx e=>(u _ I).2.1 (e▸hx),fun x hx=>⟨(u x hx).1,(u x hx).2.1,(u x hx).2.2.1,by have:=(u x hx).2.2.2;omega⟩,fun x hx=>⟨(O x hx).1,(O x hx).2.1,by have:=(O x hx).2.2;omega⟩⟩,o.mb⟩
  refine hk _ _ (C.node S) (H.trans q fun x hx=>.inr ?_)
  have:=(u _ I).1;have hx:x=a.block:=hx;omega
 |none=>
  refine ay.2 ⟨_,rfl,Q6 o hi fun G d3 n3 F L C q=>?_⟩
  have f:=C.bits;obtain⟨A3,B3,hA3,hB3,j,m⟩:=C.ex;have z2:=J.size;have z3:=q.size;have E:=q.get z (show ¬h1.size≤h.size by omega)
  have U:Upd No h G:=H.trans q fun x hx=>.inr (co (Nat.le_of_lt z1) hx)
  refine⟨_,rfl,F,gl (i:=2) C.blk,_,rfl,_,gl (i:=0) C.blk,p.1,by rw[cM,bO E];rfl,p.2,by rw[cM,bO E];rfl,?_⟩
  have T:=Upd.hnew No G [.string p.1,.string p.2] 201;have b4:=cO G [.string p.1,.string p.2] 201;have z4:=eI G [.string p.1,.string p.2] 201;have P:=C.upd T fun _ h=>h.elim
  have fin:fU 263 [.slice F.a F.len F.cap,.int .i64 (ww i d3),.slice (some (aJ G)) 1 1] (fun(N:SliceV) Q=>
       ∃a34:Addr,some (⟨h1.size,0,none⟩:Addr)=some a34∧
       (Wr Q (adr (adr a34 0) 2)∧
        At (hset Q (adr (adr a34 0) 2) (.slice N.a N.len N.cap)) (fun Y=>
         ∃a36:Addr,some (⟨h1.size,0,none⟩:Addr)=some a36∧
         ∃v37:Int,bh Y (adr (adr a36 0) 0)=some (.int .u32 v37)∧
         sI 264 [.int .u32 v37,.int .i64 i] (fun(e38:Int) R=>
          ∃a40:Addr,some (⟨h1.size,0,none⟩:Addr)=some a40∧
          (Wr R (adr (adr a40 0) 0)∧
           At (hset R (adr (adr a40 0) 0) (.int .u32 e38)) (fun h41=>
            K (some ⟨h1.size,0,none⟩) h41))) Y))) (hnew G [.string p.1,.string p.2] 201):=by
   generalize hnew G [.string p.1,.string p.2] 201=h4 at T b4 z4 P;rw[dA G];have hA4:=(hA3.upd T fun _ _ h=>h).more (M':=fun x=>A3 x∨h4.size≤x) fun x hx=>.inl hx
   have hpn:(⟨upd s.p i none,upd s.k i none⟩:Slots).p i=none:=vU;refine PT hA4 (X0 hi f.dp) (by have:=Hg (g:=(⟨upd s.p i none,upd s.k i none⟩:Slots).p);omega) (x:=p) b4 (fun e=>e.elim (fun e=>by have:=(j _ e).2.2.2;omega) fun e=>by omega) (fun x hx=>.inr hx) fun s5 h5 Z D=>?_
   rw[←U5 hi f.dp hpn p]at Z;have hbl:h1.size<G.size:=bc C.blk;have b5:=D.get P.blk fun e=>e.elim (fun e=>(j _ e).2.2.1 rfl) fun e=>by omega
   refine⟨_,rfl,WZ (i:=2) b5 (show 2<6 by decide),Lw (i:=2) (c':=gG d3 n3 s5 L false none) b5 rfl fun h6 b6 hu6=>?_⟩
   refine⟨_,rfl,_,gl (i:=0) b6,Qx f.d32 hi fun w hw hwt=>?_⟩
   refine⟨_,rfl,WZ (i:=0) b6 (show 0<6 by decide),Lw (i:=0) (c':=gG w n3 s5 L false none) b6 rfl fun h7 b7 hu7=>?_⟩
   have v:=hu6.tr hu7;have z5:=D.size;have z7:=v.size;have ho5':=Z.within;have e1:(⟨upd (⟨upd s.p i none,upd s.k i none⟩:Slots).p i (some p),upd s.k i none⟩:Slots)=⟨upd s.p i (some p),upd s.k i none⟩:=by rw[QB]
   have o7:OwnN (fun x=>h1.size≤x) h7 h1.size w n3 s5 L ⟨upd s.p i (some p),upd s.k i none⟩ none:=by
    rw[←e1];refine⟨b7,⟨hw,f.n32,fun c hc=>?_,f.nk⟩,⟨fun x=>(A3 x∨h4.size≤x)∧x<h5.size,B3,ho5'.upd v fun x hx e=>?_,((hB3.upd T fun _ _ h=>h).upd D fun x hx e=>?_).upd v fun x hx e=>(m x hx).2.1 e,fun x hx=>⟨?_,?_,?_,by omega⟩,fun x hx=>⟨(m x hx).1,(m x hx).2.1,by have:=(m x hx).2.2;omega⟩⟩,o.mb⟩
    ·rw[hwt,f.dp c hc];simp only[upd];split<;>simp[*]
    ·have e:x=h1.size:=e
     rcases hx.1 with h|h
     ·exact(j x h).2.2.1 e
     ·omega
    ·rcases e with e|e
     ·exact(j x e).2.1 hx
     ·have:=(m x hx).2.2;omega
    ·rcases hx.1 with h|h
     ·exact(j x h).1
     ·omega
    ·rcases hx.1 with h|h
     ·exact(j x h).2.1
     ·exact fun hb=>by have:=(m x hb).2.2;omega
    ·rcases hx.1 with h|h
     ·exact(j x h).2.2.1
     ·omega
   refine hk _ _ (o7.node S) (((U.tr T).trans D fun x hx=>.inr ?_).trans v fun x hx=>.inr ?_)
   ·rcases hx with h|h
    ·have:=(j x h).1;omega
    ·omega
   ·have hx:x=h1.size:=hx
    omega
  refine⟨uq f.d32 hi ⟨⟨by rw[cM,bO E];rfl,by rw[cM,bO E];rfl⟩,gl (i:=2) C.blk,cP ⟨gl (i:=2) P.blk,fin⟩⟩,cP ⟨gl (i:=0) P.blk,gl (i:=2) P.blk,uq f.d32 hi ⟨gl (i:=2) P.blk,fin⟩⟩⟩
end Go.Proofs
namespace Go.Proofs
open Go.Lift
theorem RX{W:Nat→Prop}{h:ae}{b:Nat}{s:Slots}(nd:NodeAt W h b s)(hW:∀x,W x→x<h.size){i:Nat}(hi:i<32)(hx:∀y,s.k i=some y→s.p i=none)(j:Addr){K:Option Addr→ae→Prop}
  (hk:∀h' Z,NodeAt W h' Z ⟨upd s.p i none,upd s.k i (some (some j))⟩→Upd No h h'→K (some ⟨Z,0,none⟩) h'):
  fh 235 [gF b,.pointer none,.int .i64 i,.pointer (some j)] K h:=by
 refine BC _ none i (some j) ?_;dsimp only[tX,dy,sq,eS,cf,td,uj,Zs,ic,ji,dq,iv];refine ay.2 ?_;refine NN nd hi (ay.2 ?_);refine Uw nd fun h2 d n sp sk o I=>?_
 have bits:=o.bits;obtain⟨A,B,hA,hB,v,z⟩:=o.ex;have Q:∀x,h.size≤x→¬W x:=fun x hx F=>by have:=hW x F;omega
 refine⟨_,rfl,_,gl (i:=1) o.blk,LK bits.n32 hi ?_⟩;rw[bits.nk i hi];cases hp:s.k i with
 |some y=>
  refine aV.2 ⟨_,rfl,sk,gl (i:=3) o.blk,_,rfl,_,gl (i:=1) o.blk,?_⟩;refine uq bits.n32 hi ⟨gl (i:=3) o.blk,?_⟩;have Y:=Q3 hi bits.nk hp;obtain⟨a,ha,H,F,T,q⟩:=OwnS.setAt hB Y (some j);have hlen:=hB.len;refine⟨by omega,a,ha,?_⟩;rw[bQ];have hw1:Wr h2 (adr a (ww i n*1)):=by
   rcases F with F|⟨Z,hb',F⟩
   ·cases F
   ·cases hb';exact F 0 (by simp)
  refine⟨hw1,cP ?_⟩;rw[←U4 hi bits.nk hp]at T;have ob:=q.get o.blk fun e=>(z _ H).2.1 e.symm
  have z3:=q.size;have C:OwnN (fun x=>h.size≤x) _ h.size d n sp sk ⟨upd s.p i none,upd s.k i (some (some j))⟩ none:=⟨ob,⟨bits.d32,bits.n32,fun c hc=>by rw[bits.dp c hc,vV (hx y hp)],fun c hc=>by
    rw[bits.nk c hc];simp only[upd];split
    ·rename_i e;rw[e,hp];rfl
    ·rfl⟩,
   ⟨A,B,by rw[vV (hx y hp)];exact hA.upd q fun x hx e=>(v _ hx).2.1 (e▸H),T,fun x hx=>⟨(v x hx).1,(v x hx).2.1,(v x hx).2.2.1,by have:=(v x hx).2.2.2;omega⟩,fun x hx=>⟨(z x hx).1,(z x hx).2.1,by have:=(z x hx).2.2;omega⟩⟩,o.mb⟩
  refine hk _ _ (C.node Q) (I.trans q fun x hx=>.inr ?_)
  have:=(z _ H).1;have hx:x=a.block:=hx;omega
 |none=>
  refine ay.2 ⟨_,rfl,Q6 o hi fun E d3 n3 L G C q=>?_⟩
  have f:=C.bits;obtain⟨A3,B3,hA3,hB3,m,p⟩:=C.ex;have z2:=I.size;have z3:=q.size;have S:Upd No h E:=I.trans q fun x hx=>.inr hx
  refine⟨_,rfl,G,gl (i:=3) C.blk,_,rfl,_,gl (i:=1) C.blk,?_⟩;have R:=Upd.hnew No E [.pointer (some j)] 98;have b4:=cO E [.pointer (some j)] 98;have z4:=eI E [.pointer (some j)] 98;have N:=C.upd R fun _ h=>h.elim
  have fin:fU 266 [.slice G.a G.len G.cap,.int .i64 (ww i n3),.slice (some (aJ E)) 1 1] (fun(J:SliceV) O=>
       ∃a34:Addr,some (⟨h.size,0,none⟩:Addr)=some a34∧
       (Wr O (adr (adr a34 0) 3)∧
        At (hset O (adr (adr a34 0) 3) (.slice J.a J.len J.cap)) (fun U=>
         ∃a36:Addr,some (⟨h.size,0,none⟩:Addr)=some a36∧
         ∃v37:Int,bh U (adr (adr a36 0) 1)=some (.int .u32 v37)∧
         sI 264 [.int .u32 v37,.int .i64 i] (fun(e38:Int) P=>
          ∃a40:Addr,some (⟨h.size,0,none⟩:Addr)=some a40∧
          (Wr P (adr (adr a40 0) 1)∧
           At (hset P (adr (adr a40 0) 1) (.int .u32 e38)) (fun h41=>
            K (some ⟨h.size,0,none⟩) h41))) U))) (hnew E [.pointer (some j)] 98):=by
   generalize hnew E [.pointer (some j)] 98=h4 at R b4 z4 N;rw[dA E];have hB4:=(hB3.upd R fun _ _ h=>h).more (M':=fun x=>B3 x∨h4.size≤x) fun x hx=>.inl hx
   have hpn:(⟨upd s.p i none,upd s.k i none⟩:Slots).k i=none:=vU;refine PU hB4 (X0 hi f.nk) (by have:=Hg (g:=(⟨upd s.p i none,upd s.k i none⟩:Slots).k);omega) (x:=some j) b4 (fun e=>e.elim (fun e=>by have:=(p _ e).2.2;omega) fun e=>by omega) (fun x hx=>.inr hx) fun s5 h5 V D=>?_
   rw[←U5 hi f.nk hpn (some j)]at V;have hbl:h.size<E.size:=bc C.blk;have b5:=D.get N.blk fun e=>e.elim (fun e=>(p _ e).2.1 rfl) fun e=>by omega
   refine⟨_,rfl,WZ (i:=3) b5 (show 3<6 by decide),Lw (i:=3) (c':=gG d3 n3 L s5 false none) b5 rfl fun h6 b6 hu6=>?_⟩
   refine⟨_,rfl,_,gl (i:=1) b6,Qx f.n32 hi fun w F hwt=>?_⟩
   refine⟨_,rfl,WZ (i:=1) b6 (show 1<6 by decide),Lw (i:=1) (c':=gG d3 w L s5 false none) b6 rfl fun h7 b7 hu7=>?_⟩
   have u:=hu6.tr hu7;have z5:=D.size;have z7:=u.size;have X:=V.within;have e1:(⟨upd s.p i none,upd (⟨upd s.p i none,upd s.k i none⟩:Slots).k i (some (some j))⟩:Slots)=⟨upd s.p i none,upd s.k i (some (some j))⟩:=by rw[QB]
   have o7:OwnN (fun x=>h.size≤x) h7 h.size d3 w L s5 ⟨upd s.p i none,upd s.k i (some (some j))⟩ none:=by
    rw[←e1];refine⟨b7,⟨f.d32,F,f.dp,fun c hc=>?_⟩,⟨A3,fun x=>(B3 x∨h4.size≤x)∧x<h5.size,((hA3.upd R fun _ _ h=>h).upd D fun x hx e=>?_).upd u fun x hx e=>(m x hx).2.2.1 e,X.upd u fun x hx e=>?_,fun x hx=>⟨(m x hx).1,?_,(m x hx).2.2.1,by have:=(m x hx).2.2.2;omega⟩,fun x hx=>⟨?_,?_,by omega⟩⟩,o.mb⟩
    ·rw[hwt,f.nk c hc];simp only[upd];split<;>simp[*]
    ·rcases e with e|e
     ·exact(m x hx).2.1 e
     ·have:=(m x hx).2.2.2;omega
    ·have e:x=h.size:=e
     rcases hx.1 with h|h
     ·exact(p x h).2.1 e
     ·omega
    ·rintro⟨h|h,_⟩
     ·exact(m x hx).2.1 h
     ·have:=(m x hx).2.2.2;omega
    ·rcases hx.1 with h|h
     ·exact(p x h).1
     ·omega
    ·rcases hx.1 with h|h
     ·exact(p x h).2.1
     ·omega
   refine hk _ _ (o7.node Q) (((S.tr R).trans D fun x hx=>.inr ?_).trans u fun x hx=>.inr ?_)
   ·rcases hx with h|h
    ·exact(p x h).1
    ·omega
   ·have hx:x=h.size:=hx
    omega
  refine⟨uq f.n32 hi ⟨gl (i:=3) C.blk,cP ⟨gl (i:=3) N.blk,fin⟩⟩,cP ⟨gl (i:=1) N.blk,gl (i:=3) N.blk,uq f.n32 hi ⟨gl (i:=3) N.blk,fin⟩⟩⟩
end Go.Proofs
namespace Go.Proofs
open Go.Lift
theorem NJ{h:ae}{b d n:Nat}{sp sk:SliceV}{c:Bool}{g:Option Addr}(e:h[b]? =some (.cells (gG d n sp sk c g) 350 (0,0))) {K:Bool→ae→Prop} (f:K c h):f5 255 [gF b] K h:=by
 refine yX _ ?_;dsimp only[rg,jI,dq];exact aV.2 ⟨_,rfl,_,gl (i:=4) e,f⟩
theorem Uu{W:Nat→Prop}{h:ae}{b d n:Nat}{sp sk:SliceV}{c:Bool}{j:Option Addr}{l:List Pr}(f:h[b]? =some (.cells (gG d n sp sk c j) 350 (0,0))) (g:Sl fw 2 W h sp l) (m:l.length≤1000000000) {K:SliceV→ae→Prop}
  (e:∀s' h',OwnS fw 2 201 (fun x=>h.size≤x) h' s' l→Upd No h h'→K s' h'):fU 241 [gF b] K h:=by
 refine uQ _ ?_;dsimp only[pz,cf,dq];exact ay.2 ⟨_,rfl,sp,gl (i:=2) f,Aa g (by omega) e⟩
theorem Xc{W:Nat→Prop}{h:ae}{b d n:Nat}{sp sk:SliceV}{c:Bool}{j:Option Addr}{l:List (Option Addr)}(f:h[b]? =some (.cells (gG d n sp sk c j) 350 (0,0))) (g:Sl tE 1 W h sk l) (m:l.length≤1000000000) {K:SliceV→ae→Prop}
  (e:∀s' h',OwnS tE 1 98 (fun x=>h.size≤x) h' s' l→Upd No h h'→K s' h'):fU 242 [gF b] K h:=by
 refine wz _ ?_;dsimp only[qn,cf,dq];exact ay.2 ⟨_,rfl,sk,gl (i:=3) f,D5 g (by omega) e⟩
structure BuckAt(W:Nat→Prop)(h:ae)(b:Nat)(l:List Pr):Prop where
 ex:∃sp sk ow,h[b]? =some (.cells (gG 0 0 sp sk true ow) 350 (0,0))∧Sl fw 2 W h sp l∧Sl tE 1 W h sk []∧sp.len≤sp.cap∧sk.len≤sk.cap
 nw:¬W b
theorem BuckAt.upd{W M:Nat→Prop}{h c:ae}{b:Nat}{l:List Pr}(n:BuckAt W h b l)(k:Upd M h c)(hm:∀b,M b→W b∨h.size≤b):BuckAt W c b l:=by
 obtain⟨sp,sk,m,d,f,g,e,j⟩:=n.ex;exact⟨⟨sp,sk,m,k.get d (fun i=>(hm _ i).elim n.nw fun h=>by have:=bc d;omega),f.upd k hm,g.upd k hm,e,j⟩,n.nw⟩
end Go.Proofs
namespace Go.Proofs
open Go.Lift
set_option maxRecDepth 4000 in
theorem WX{W:Nat→Prop}{h:ae}{b:Nat}{l:List Pr}(nd:BuckAt W h b l)(hn:l.length≤1000000000){K:Option Addr→ae→Prop}
  (B:∀g sp sk,g[h.size]? =some (.cells (gG 0 0 sp sk true none) 350 (0,0))→OwnS fw 2 201 (fun x=>h.size<x∧x<g.size) g sp l→OwnS tE 1 98 (fun x=>h.size<x∧x<g.size) g sk []→Upd No h g→K (some ⟨h.size,0,none⟩) g):
  fh 256 [gF b,.pointer none] K h:=by
 obtain⟨sp,sk,n,f,H,I,Y,V⟩:=nd.ex;refine xQ _ none ?_;dsimp only[rI,nv,dy,eS,ce,jI,cf,td,Ty,Yc,dq,iv];refine JW (ay.2 ?_);have c:∀{h:ae} {b:Nat} {c:Array Value} {i:Nat},h[b]? =some (.cells c 350 (0,0))→bh h ⟨b,0+i,none⟩=c[i]?:=fun f=>by rw[bK];exact bO f
 refine⟨_,rfl,_,c (i:=0) f,_,c (i:=1) f,sp,c (i:=2) f,sk,c (i:=3) f,_,c (i:=4) f,_,c (i:=5) f,?_⟩;have k1:=Upd.hnew No h [.int .u32 0,.int .u32 0,.slice none 0 0,.slice none 0 0,.bool false,.pointer none] 350;have b1:=cO h [.int .u32 0,.int .u32 0,.slice none 0 0,.slice none 0 0,.bool false,.pointer none] 350;refine cP ?_;simp only[dA h];generalize hnew h [.int .u32 0,.int .u32 0,.slice none 0 0,.slice none 0 0,.bool false,.pointer none] 350=h1 at k1 b1
 have G:iw h1 ⟨h.size,0,none⟩ 0 [.int .u32 ((0:Nat):Int),.int .u32 ((0:Nat):Int),.slice sp.a sp.len sp.cap,.slice sk.a sk.len sk.cap,.bool true,.pointer n]=_:=gQ _ h1 0 0 _ b1 (by simp);refine⟨.inr ⟨_,rfl,fun j T=>by rw[cM];exact fz b1 (by simp at T⊢;omega)⟩,cP ?_⟩
 rw[G];have b2:=dU (o:=.cells (gG 0 0 sp sk true n) 350 (0,0)) b1;have u:Upd No h _:=k1.trans (M':=(· =h.size)) (Upd.set h1 (.cells (gG 0 0 sp sk true n) 350 (0,0)) rfl) fun x hx=>.inr (fA hx.symm)
 have J:h.size<(h1.setIfInBounds h.size (.cells (gG 0 0 sp sk true n) 350 (0,0))).size:=bc b2;have U:h.size≠b:=fun e=>by have:=bc f;omega
 have X:(Obj.cells (List.take (0+0) [Value.int .u32 0,.int .u32 0,.slice none 0 0,.slice none 0 0,.bool false,.pointer none]++ [Value.int .u32 ((0:Nat):Int),.int .u32 ((0:Nat):Int),.slice sp.a sp.len sp.cap,.slice sk.a sk.len sk.cap,.bool true,.pointer n]++List.drop (0+0+ [Value.int .u32 ((0:Nat):Int),.int .u32 ((0:Nat):Int),.slice sp.a sp.len sp.cap,.slice sk.a sk.len sk.cap,.bool true,.pointer n].length) [Value.int .u32 0,.int .u32 0,.slice none 0 0,.slice none 0 0,.bool false,.pointer none]).toArray 350 (0,0))=.cells (gG 0 0 sp sk true n) 350 (0,0):=rfl
 rw[X];generalize h1.setIfInBounds h.size (.cells (gG 0 0 sp sk true n) 350 (0,0))=h2 at b2 u J;have q:=u.get0 f;refine⟨_,rfl,sp,c (i:=2) q,_,rfl,sk,c (i:=3) q,?_⟩;refine Aa (H.upd u fun _ h=>h.elim) (by omega) fun z h3 L m=>?_
 refine⟨c (i:=3) (m.get0 q),?_⟩;refine D5 ((I.upd u fun _ h=>h.elim).upd m fun _ h=>h.elim) (by simp) fun C Z N p=>?_
 have P:=p.get0 (m.get0 b2);have s:=L.within.upd p fun _ _ h=>h
 have y:=N.within;have z3:=m.size;have z4:=p.size;have w:∀{h:ae} {c:Array Value} {x i:Nat},h[x]? =some (.cells c 350 (0,0))→i<c.size→Wr h ⟨x,0+i,none⟩:=fun f hi=>by rw[bK];exact fz f hi
 have st:∀{h:ae} {c c':Array Value} {x i:Nat} {v:Value} {k:ae→Prop},h[x]? =some (.cells c 350 (0,0))→c.setIfInBounds i v=c'→(∀g,g[x]? =some (.cells c' 350 (0,0))→Upd (· =x) h g→k g)→At (hset h ⟨x,i,none⟩ v) k:=fun f e B=>Bq f fun g E R=>B g (e▸E) R
 refine⟨w (i:=2) P (show 2<6 by decide),st (i:=2) (c':=gG 0 0 z sk true n) P rfl fun h5 O D=>?_⟩
 refine⟨w (i:=3) O (show 3<6 by decide),st (i:=3) (c':=gG 0 0 z C true n) O rfl fun h6 Q A=>?_⟩
 refine⟨w (i:=5) Q (show 5<6 by decide),st (i:=5) (c':=gG 0 0 z C true none) Q rfl fun h7 S F=>?_⟩
 refine GY (ay.2 ?_);have d:=D.tr (A.tr F);have z7:=d.size;refine B _ z C S ((s.upd d fun x hx e=>?_).more fun x hx=>?_) ((y.upd d fun x hx e=>?_).more fun x hx=>?_) ?_
 ·have e:x=h.size:=e;omega
 ·omega
 ·have e:x=h.size:=e;omega
 ·omega
 ·exact((u.tr m).tr p).trans d fun x hx=>.inr (fA hx.symm)
theorem Xv{W:Nat→Prop}{h:ae}{b:Nat}{l:List Pr}(G:BuckAt W h b l)(o:∀x,W x→x<h.size)(C:fE l)(y:l.length≤1000000000)(p:Pr){K:Option Addr→ae→Prop}
  (B:∀h' b',BuckAt W h' b' (LB l p)→Upd No h h'→K (some ⟨b',0,none⟩) h'):
  fh 225 [gF b,.pointer none,.agg #[.string p.1,.string p.2]] K h:=by
 refine FJ _ none p ?_;dsimp only[xZ,cf,td,xj,pN,dq,iv,dy,j5,cE];have k1:=Upd.hnew No h [.string p.1,.string p.2] 201;have b1:=cO h [.string p.1,.string p.2] 201;refine cP ?_;simp only[dA h];generalize hnew h [.string p.1,.string p.2] 201=h1 at k1 b1;have O:=bc b1;have j:=G.upd k1 fun _ h=>h.elim
 obtain⟨sp,sk,P,L,F,H,J,I⟩:=j.ex;refine NJ L (ay.2 ?_);refine WX j y fun h2 D w b2 z v d=>?_
 have g:=d.get0 b1;refine⟨_,rfl,D,gl (i:=2) b2,p.1,by rw[cM,bO g];rfl,p.2,by rw[cM,bO g];rfl,?_⟩
 refine PC (z.sl fun _ _ _ h=>h) z.cap C y p fun u Q m f=>?_
 have b3:=f.get0 b2;refine⟨_,rfl,WZ (i:=2) b3 (show 2<6 by decide),Lw (i:=2) (c':=gG 0 0 u w true none) b3 rfl fun A E c=>?_⟩
 have N:=bc b2;have s:=m.upd c fun x hx e=>by have e:x=h1.size:=e;omega
 have q:=(v.upd f fun _ _ h=>h).upd c fun x hx e=>by have e:x=h1.size:=e;omega
 refine B A h1.size ⟨⟨u,w,none,E,s.sl fun x hx _ n=>?_,q.sl fun x hx _ n=>?_,m.cap,v.cap⟩,fun n=>?_⟩ (((k1.tr d).tr f).trans c fun x hx=>.inr ?_)
 ·have:=o x n;have:=d.size;omega
 ·have:=o x n;omega
 ·have:=o _ n;omega
 ·have hx:x=h1.size:=hx
  omega
theorem Tb{W:Nat→Prop}{h:ae}(b:∀x,W x→x<h.size){K:Option Addr→ae→Prop}(c:∀h' b',BuckAt W h' b' []→Upd No h h'→K (some ⟨b',0,none⟩) h'):fh 224 [] K h:=by
 refine eM AH .nil Tryz.func224 Tryz.call224 ?_;unfold AH;exact c _ _ ⟨⟨⟨none,0,0⟩,⟨none,0,0⟩,none,cO h _ _,Sl.nil kj,Sl.nil rr,ai _,ai _⟩,fun hx=>fx _ (b _ hx)⟩ (Upd.hnew No h _ _)
theorem Cq{W:Nat→Prop}{h:ae}(b:∀x,W x→x<h.size){K:Option Addr→ae→Prop}(e:∀h' b',NodeAt W h' b' ⟨fun _=>none,fun _=>none⟩→Upd No h h'→K (some ⟨b',0,none⟩) h'):fh 187 [] K h:=by
 refine eM Dd .nil Tryz.func187 Tryz.call187 ?_;unfold Dd Ty;have f:fm (fun _=>(none:Option Pr)) 32= []:=by simp[fm]
 have d:fm (fun _=>(none:Option (Option Addr))) 32= []:=by simp[fm]
 refine e _ _ ⟨⟨0,0,⟨none,0,0⟩,⟨none,0,0⟩,none,cO h _ _,⟨by decide,by decide,fun c _=>by simp,fun c _=>by simp⟩,?_,?_,ai _,ai _⟩,fun hx=>fx _ (b _ hx)⟩ (Upd.hnew No h _ _)
 ·show Sl fw 2 W _ _ (fm (fun _=>none) 32)
  rw[f];exact Sl.nil kj
 ·show Sl tE 1 W _ _ (fm (fun _=>none) 32)
  rw[d];exact Sl.nil rr
end Go.Proofs
namespace Go.Proofs
open Go.Lift
def vG(p:Pr):List Pr→List Pr
 | []=> [p]
 |q::l=>if kl q.1 p.1 then q::vG p l else if q.1=p.1 then p::l else p::q::l
theorem DX(p q:Pr)(l:List Pr):vG p (q::l)=if kl q.1 p.1 then q::vG p l else if q.1=p.1 then p::l else p::q::l:=rfl
theorem Q0(p:Pr):∀{l:List Pr},fE l→LB l p=vG p l
 | [],_=>by simp[LB,vG,pos,nQ]
 |q::l,f=>by
  have f:=bF.1 f;unfold vG;have b:pos (q::l) p.1=if kl q.1 p.1 then pos l p.1+1 else 0:=by
   unfold pos;rw[List.takeWhile_cons];by_cases h:kl q.1 p.1
   ·rw[if_pos (by simpa using h),if_pos h];rfl
   ·rw[if_neg (by simpa using h),if_neg h];rfl
  have d:nQ (q::l) p.1=(decide (q.1=p.1)||nQ l p.1):=by unfold nQ;rw[List.any_cons]
  by_cases h:kl q.1 p.1
  ·have g:q.1≠p.1:=fun e=>by rw[e]at h;exact dS _ h
   rw[if_pos h,←Q0 p f.2];unfold LB;rw[d,b,if_pos h,decide_eq_false g,Bool.false_or];by_cases c:nQ l p.1=true
   ·rw[if_pos c,if_pos c];rfl
   ·rw[if_neg c,if_neg c];rfl
  ·rw[if_neg h]
   unfold LB;rw[d,b,if_neg h];by_cases e:q.1=p.1
   ·rw[if_pos e,decide_eq_true e,Bool.true_or,if_pos rfl];rfl
   ·have j:=vF h e
    have c:nQ l p.1=false:=by
     unfold nQ;rw[List.any_eq_false];intro r m i;have i:=of_decide_eq_true i;have:=f.1 r m;rw[i]at this;exact dS _ (ii j this)
    rw[if_neg e,decide_eq_false e,c];rfl
theorem Nu{p q:Pr}:∀{l:List Pr},q∈vG p l→q=p∨q∈l
 | [],h=>by simp[vG]at h;exact .inl h
 |r::l,h=>by
  unfold vG at h;split at h
  ·rcases ar.1 h with h|h
   ·exact .inr (h▸aD ..)
   ·exact(Nu h).imp id fun h=>aA _ h
  ·split at h
   ·rcases ar.1 h with h|h
    ·exact .inl h
    ·exact .inr (aA _ h)
   ·rcases ar.1 h with h|h
    ·exact .inl h
    ·exact .inr h
theorem JJ(p:Pr):∀{l:List Pr},fE l→fE (vG p l)
 | [],_=>List.pairwise_singleton ..
 |q::l,b=>by
  have d:=b;have b:=bF.1 b;unfold vG;split
  ·rename_i h
   refine bF.2 ⟨fun r hm=>?_,JJ p b.2⟩
   rcases Nu hm with rfl|hm
   ·exact h
   ·exact b.1 r hm
  ·rename_i h
   split
   ·rename_i e
    exact bF.2 ⟨fun r hm=>e▸b.1 r hm,b.2⟩
   ·rename_i e
    have c:=vF h e;refine bF.2 ⟨fun r hm=>?_,d⟩
    rcases ar.1 hm with rfl|hm
    ·exact c
    ·exact ii c (b.1 r hm)
def ck(x:Hs)(lev:Nat)(k:ByteArray):Nat:=((jZ x k).toNat>>>(5*lev))%32
theorem X4(x:Hs)(lev:Nat)(k:ByteArray):ck x lev k<32:=oJ _ (by omega)
def part(x:Hs)(lev c:Nat)(l:List Pr):List Pr:=l.filter fun p=>decide (ck x lev p.1=c)
def TrieAt(W:Nat→Prop)(x:Hs)(h:ae):Nat→Nat→List Pr→Prop
 |0,b,l=>BuckAt W h b l
 |m+1,b,l=>∃s,NodeAt W h b s∧∀c,c<32→
  ((part x (12-m) c l= []∧s.p c=none∧s.k c=none)∨(∃p,part x (12-m) c l= [p]∧s.p c=some p∧s.k c=none)∨
   (2≤(part x (12-m) c l).length∧s.p c=none∧∃kb,s.k c=some (some ⟨kb,0,none⟩)∧TrieAt W x h m kb (part x (12-m) c l)))
theorem TrieAt.upd0{W:Nat→Prop}{x:Hs}{h e:ae}(k:Upd No h e):∀{m b:Nat} {l:List Pr},TrieAt W x h m b l→TrieAt W x e m b l
 |0,_,_,t=>BuckAt.upd t k fun _ h=>h.elim
 |_+1,_,_,⟨s,nd,hc⟩=>⟨s,nd.upd k fun _ h=>h.elim,fun c d=>(hc c d).imp id fun o=>o.imp id fun⟨i,h2,j,f,g⟩=>⟨i,h2,j,f,TrieAt.upd0 k g⟩⟩
theorem NodeAt.less{W W':Nat→Prop}{h:ae}{b:Nat}{s:Slots}(n:NodeAt W h b s)(hm:∀b,W' b→W b∨h.size≤b):NodeAt W' h b s:=by
 obtain⟨d,m,sp,sk,j,c,h2,f,g,e,i⟩:=n.ex;exact⟨⟨d,m,sp,sk,j,c,h2,f.less hm,g.less hm,e,i⟩,fun hx=>(hm _ hx).elim n.nw fun h=>by have:=bc c;omega⟩
theorem BuckAt.less{W W':Nat→Prop}{h:ae}{b:Nat}{l:List Pr}(n:BuckAt W h b l)(hm:∀b,W' b→W b∨h.size≤b):BuckAt W' h b l:=by
 obtain⟨sp,sk,i,c,e,f,d,g⟩:=n.ex;exact⟨⟨sp,sk,i,c,e.less hm,f.less hm,d,g⟩,fun hx=>(hm _ hx).elim n.nw fun h=>by have:=bc c;omega⟩
theorem TrieAt.less{W W':Nat→Prop}{x:Hs}{h:ae}(hm:∀b,W' b→W b∨h.size≤b):∀{m b:Nat} {l:List Pr},TrieAt W x h m b l→TrieAt W' x h m b l
 |0,_,_,t=>BuckAt.less t hm
 |_+1,_,_,⟨s,nd,hc⟩=>⟨s,nd.less hm,fun c d=>(hc c d).imp id fun o=>o.imp id fun⟨g,h2,i,e,f⟩=>⟨g,h2,i,e,TrieAt.less hm f⟩⟩
theorem TrieAt.updM{W M:Nat→Prop}{x:Hs}{h e:ae}(k:Upd M h e)(hm:∀b,M b→W b∨h.size≤b):∀{m b:Nat} {l:List Pr},TrieAt W x h m b l→TrieAt W x e m b l
 |0,_,_,t=>BuckAt.upd t k hm
 |_+1,_,_,⟨s,nd,hc⟩=>⟨s,nd.upd k hm,fun c d=>(hc c d).imp id fun o=>o.imp id fun⟨i,h2,j,f,g⟩=>⟨i,h2,j,f,TrieAt.updM k hm g⟩⟩
end Go.Proofs
namespace Go.Proofs
open Go.Lift
theorem Y4(a b:Nat):(az (aj .u64) (a:Int)&&&az (aj .u64) (b:Int)).toNat=(a%18446744073709551616)&&&(b%18446744073709551616):=by
 simp[aj];rfl
theorem aai{hv:Int}(f:0≤hv∧hv<18446744073709551616){lev:Nat}(g:lev<13){h:ae}{K:Int→ae→Prop}(c:K (((hv.toNat>>>(5*lev))%32:Nat):Int) h):iI 227 [.int .u64 hv,.int .i64 lev] K h:=by
 refine eM (Ie hv lev) Qs Tryz.func227 Tryz.call227 ?_;unfold Ie;refine Join.plain (ak (fun h=>by omega) fun _=>?_)
 rw[decide_eq_false (by omega)];refine ay.2 ?_;have d:ac .i64 (5*(lev:Int))=((5*lev:Nat):Int):=by rw[dL (by omega)];omega
 rw[d];have em:min (((5*lev:Nat):Int)).toNat (aj .u64)=5*lev:=by rw[bQ];exact cr (by show 5*lev≤64;omega)
 rw[em];obtain⟨n,rfl⟩:=Int.eq_ofNat_of_zero_le f.1;rw[bQ]at c;simp only[Bd];rw[tH];have b:n>>>(5*lev)<18446744073709551616:=jA (pH _ _) (by omega);have e:=Y4 (n>>>(5*lev)) 31;rw[gR b,show((31:Nat):Int)=(31:Int)from rfl,show 31%18446744073709551616=2^5-1 from rfl,Nat.and_two_pow_sub_one_eq_mod]at e
 rw[e];have hm:n>>>(5*lev)%2^5<32:=oJ _ (by omega);rw[Go.IntWalk.u64_in _ (by omega),dL (by omega)];exact⟨by omega,c⟩
theorem aa7{x:Hs}{k:ByteArray}{lev:Nat}(c:lev<13){h:ae}{K:Int→ae→Prop}(b:K (ck x lev k:Int) h):iI 227 [.int .u64 (jZ x k),.int .i64 lev] K h:=aai (NP x k) c b
theorem Ut{x:Hs}{lev c:Nat}{l:List Pr}(h:∀p∈l,ck x lev p.1=c):part x lev c l=l:=List.filter_eq_self.2 fun p b=>decide_eq_true (h p b)
theorem Ci{x:Hs}{lev c:Nat}{l:List Pr}(h:∀p∈l,ck x lev p.1≠c):part x lev c l= []:=List.filter_eq_nil_iff.2 fun p b=>by simpa using h p b
theorem zH{β:Type}{g:Nat→Option β}{i c:Nat}{x:Option β}(h:c≠i):upd g i x c=g c:=by unfold upd;rw[if_neg h]
end Go.Proofs
namespace Go.Proofs
open Go.Lift
noncomputable instance memDec (p:Pr) (l:List Pr):Decidable (p∈l):=Classical.propDecidable _
theorem Gy{l:List Pr}(b:fE l){k v w:ByteArray}(c:(k,v)∈l)(h2:(k,w)∈l):v=w:=by
 induction l with
 |nil=>cases c
 |cons q l ih=>
  have b:=bF.1 b;rcases ar.1 c with e|c<;>rcases ar.1 h2 with d|h2
  ·exact(Prod.mk.inj (e.trans d.symm)).2
  ·have:=b.1 _ h2;rw[←e]at this;exact absurd this (dS _)
  ·have:=b.1 _ c;rw[←d]at this;exact absurd this (dS _)
  ·exact ih b.2 c h2
theorem Cu{x:Hs}{lev c:Nat}{l:List Pr}{p:Pr}:p∈part x lev c l↔p∈l∧ck x lev p.1=c:=by unfold part;rw[List.mem_filter,decide_eq_true_iff]
theorem Pd{x:Hs}{lev c:Nat}{l:List Pr}(b:fE l):fE (part x lev c l):=b.sublist List.filter_sublist
theorem Us{x:Hs}{lev c:Nat}{l:List Pr}:(part x lev c l).length≤l.length:=List.length_filter_le ..
def SlotIs(W:Nat→Prop)(x:Hs)(h:ae)(m:Nat)(s:Slots)(c:Nat)(l:List Pr):Prop:=
 (l= []∧s.p c=none∧s.k c=none)∨(∃p,l= [p]∧s.p c=some p∧s.k c=none)∨(2≤l.length∧s.p c=none∧∃kb,s.k c=some (some ⟨kb,0,none⟩)∧TrieAt W x h m kb l)
theorem SlotIs.upd0{W:Nat→Prop}{x:Hs}{h b:ae}{m:Nat}{s:Slots}{c:Nat}{l:List Pr}(k:Upd No h b)(t:SlotIs W x h m s c l):SlotIs W x b m s c l:=t.imp id fun o=>o.imp id fun⟨f,h2,g,d,e⟩=>⟨f,h2,g,d,TrieAt.upd0 k e⟩
theorem N4{a b:ByteArray}:(a.toList==b.toList)=decide (a=b):=by
 rw[fy,beq_iff_eq,decide_eq_true_iff,Ac]
end Go.Proofs
namespace Go.Proofs
open Go.Lift
theorem TO{W:Nat→Prop}{x:Hs}{h:ae}{m b:Nat}(nd:NodeAt W h b ⟨fun _=>none,fun _=>none⟩):TrieAt W x h (m+1) b []:=⟨_,nd,fun _ _=>.inl ⟨rfl,rfl,rfl⟩⟩
def RootAt(W:Nat→Prop)(x:Hs)(h:ae)(r:Option Addr)(l:List Pr):Prop:=(r=none∧l= [])∨∃b,r=some ⟨b,0,none⟩∧TrieAt W x h 13 b l
theorem RootAt.upd0{W:Nat→Prop}{x:Hs}{h c:ae}{r:Option Addr}{l:List Pr}(k:Upd No h c)(t:RootAt W x h r l):RootAt W x c r l:=t.imp id fun⟨b,e,t⟩=>⟨b,e,TrieAt.upd0 k t⟩
theorem dt{h:ae}{b:Nat}{t:TypeId}{c vs:List Value}(d:h[b]? =some (.cells c.toArray t (0,0))) (g:vs.length=c.length) {k:ae→Prop}
  (f:∀h',h'[b]? =some (.cells vs.toArray t (0,0))→Upd (· =b) h h'→k h'):xw h (some ⟨b,0,none⟩) 0 vs∧At (iw h ⟨b,0,none⟩ 0 vs) k:=by
 have e:=gQ vs h 0 0 c d (by omega);refine⟨.inr ⟨_,rfl,fun j i=>by rw[cM];exact fz d (by rw[dD];omega)⟩,cP ?_⟩
 rw[e];refine f _ ?_ (Upd.set h _ rfl);rw[dU d];congr 3
 simp[g]
end Go.Proofs
namespace Go.Proofs
open Go.Lift
abbrev tK(b:UInt8):List Value:= [.int .u8 (b.toNat:Int)]
theorem rx(b:UInt8):(tK b).length=1∧0<1:=⟨rfl,Nat.one_pos⟩
theorem Ck:∀xs:List UInt8,cF (xs.flatMap tK)=true
 | []=>rfl
 |x::xs=>by rw[aZ];exact jX rfl (Ck xs)
theorem yT(s:ByteArray):dN s=s.data.toList.flatMap tK:=by
 unfold dN;generalize s.data.toList=l;induction l with
 |nil=>rfl
 |cons b l ih=>rw[List.map_cons,aZ,ih];rfl
theorem N9{M:Nat→Prop}{h:ae}{so:SliceV}{out:List UInt8}{v:Int}{b:UInt8}(hv:v=(b.toNat:Int)){K:SliceV→ae→Prop}(e:OwnS tK 1 5 M h so out)(hM:∀b,h.size≤b→M b)(j:out.length+1≤140737488355328)
  (g:∀s' c,OwnS tK 1 5 M c s' (out++ [b])→Upd M h c→K s' c):
  ∃xs,SRow (hnew h [.int .u8 v] 5) (some (aJ h)) (1*1) xs∧AppP (some [.int .u8 0]) 1 1 5 so.a so.len so.cap 1 xs (hnew h [.int .u8 v] 5) K:=by
 subst hv;have k:=Upd.hnew No h [.int .u8 (b.toNat:Int)] 5;have i:OwnS tK 1 5 (fun _=>True) (hnew h [.int .u8 (b.toNat:Int)] 5) ⟨some (aJ h),1,1⟩ [b]:=⟨rfl,rx,ai _,.inr ⟨h.size,[],rfl,trivial,cO ..,rfl⟩⟩
 refine⟨_,(i.sl (W:=No) fun _ _ _ h=>h).srow,?_⟩
 refine AppP.own (ys:= [b]) (e.upd k fun _ _ h=>h) rfl rfl rfl rfl (by omega) (by simp only[List.length_singleton];omega) (hM _ (by rw[eI];omega)) fun s' c d f=>?_
 exact g s' c d ((Upd.hnew M h _ _).tr f)
def yH(n k:Nat):List UInt8:=(eR k).map fun i=>cR (n>>>(8*i))
theorem NA(n k:Nat):(yH n k).length=k:=by simp[yH]
end Go.Proofs
namespace Go.Proofs
open Go Go.Lift
def sE:Nat→Nat→List UInt8→Option (Nat×Nat)
 |_,_,[]=>none
 |i,n,b::p=>if(i=9∧1<b.toNat)∨(b.toNat=0∧0<i)then none
  else if b.toNat<128 then some (n+b.toNat*128^i,i+1)else sE (i+1) (n+(b.toNat-128)*128^i) p
def oC:List UInt8→Nat
 | []=>0
 |b::p=>if 127<b.toNat then oC p+1 else 0
def BT:List UInt8→Nat
 | []=>0
 |b::p=>b.toNat%128+128*BT p
theorem Xb(p:List UInt8):oC p≤p.length:=by
 induction p with
 |nil=>exact ai _
 |cons b p ih=>unfold oC;split<;>simp<;>omega
theorem W1:∀(p:List UInt8) (i n:Nat),i≤9→sE i n p=
  (if p.length≤min (oC p) (9-i)∨(i+min (oC p) (9-i)=9∧1<(p.getD (min (oC p) (9-i)) 0).toNat)∨(0<i+min (oC p) (9-i)∧(p.getD (min (oC p) (9-i)) 0).toNat=0)
   then none else some (n+128^i*BT (p.take (min (oC p) (9-i)+1)),i+min (oC p) (9-i)+1)):=by
 intro p;induction p with
 |nil=>intro i n _;simp[sE]
 |cons b p ih=>
  intro i n hi;have j:=b.toNat_lt;unfold sE;by_cases h:127<b.toNat
  ·have e:oC (b::p)=oC p+1:=by simp[oC,h]
   rw[e];by_cases f:i=9
   ·subst f
    have c:min (oC p+1) (9-9)=0:=by omega
    rw[if_pos (Or.inl ⟨rfl,by omega⟩),c,if_pos (Or.inr (Or.inl ⟨rfl,by show 1<b.toNat;omega⟩))]
   ·have em:min (oC p+1) (9-i)=min (oC p) (9-(i+1))+1:=by omega
    rw[if_neg (by omega),if_neg (by omega),ih (i+1) _ (by omega),em];have g:i+(min (oC p) (9-(i+1))+1)=i+1+min (oC p) (9-(i+1)):=by omega
    rw[g];simp only[av,List.getD_cons_succ,iX,BT,Nat.add_le_add_iff_right];have d:n+(b.toNat-128)*128^i+128^(i+1)*BT (List.take (min (oC p) (9-(i+1))+1) p)=n+128^i*(b.toNat%128+128*BT (List.take (min (oC p) (9-(i+1))+1) p)):=by
     have hm:b.toNat%128=b.toNat-128:=by omega
     rw[hm,Nat.mul_add,kh,gf (b.toNat-128),Nat.mul_assoc];omega
    rw[d]
  ·have e:oC (b::p)=0:=by simp[oC,h]
   rw[e];have hm:b.toNat%128=b.toNat:=by omega
   simp only[Nat.zero_min,av,List.getD_cons_zero,iX,List.take_zero,BT,eY,Nat.mul_zero,hm];by_cases hc:(i=9∧1<b.toNat)∨(b.toNat=0∧0<i)
   ·rw[if_pos hc,if_pos (by omega)]
   ·rw[if_neg hc,if_pos (by omega),if_neg (by omega),gf]
theorem xk:∀(p:List UInt8) (i n:Nat),i≤9→n<128^i→∀{m k:Nat},sE i n p=some (m,k)→i<k∧k≤i+p.length∧m<18446744073709551616:=by
 intro p;induction p with
 |nil=>intro i n _ _ m k h;cases h
 |cons b p ih=>
  intro i n hi g m k h;have f:=b.toNat_lt;unfold sE at h;split at h
  ·cases h
  ·rename_i hc
   split at h
   ·rename_i h1
    cases h;refine⟨by omega,by rw[av];omega,?_⟩
    have d:i=9→b.toNat≤1:=by omega
    rcases Nat.lt_or_ge i 9 with e|e
    ·have h2:128^(i+1)≤128^9:=ip (by omega) (by omega)
     have c:b.toNat*128^i≤127*128^i:=eo _ (by omega);rw[kh]at h2;omega
    ·have:i=9:=by omega
     subst this;have:=d rfl;have c:b.toNat*128^9≤1*128^9:=eo _ this;omega
   ·rename_i h1
    have d:i≠9:=by omega
    have c:(b.toNat-128)*128^i≤127*128^i:=eo _ (by omega);have:=ih (i+1) _ (by omega) (by rw[kh];omega) h;simp only[av];omega
abbrev dV:=List UInt8×Int
def dX(s:dV):Nat×dV:=if s.2=0 then(match sE 0 0 s.1 with|some (n,k)=>(n,s.1.drop k,0)|none=>(0,s.1,9))else(0,s)
def cS(e:Int)(s:dV):dV:=if s.2=0 then(s.1,e)else s
def fH(n:Nat)(s:dV):List UInt8×dV:=if s.2=0 then(if s.1.length<n then([],s.1,9)else(s.1.take n,s.1.drop n,0))else([],s)
def aP(s:dV):Nat×dV:=(((fH 1 s).1.getD 0 0).toNat,(fH 1 s).2)
def sJ:List UInt8→Nat
 | []=>0
 |b::p=>b.toNat+256*sJ p
def f8(s:dV):Nat×dV:=(sJ (fH 8 s).1,(fH 8 s).2)
def VB(l:List UInt8):ByteArray:=⟨l.toArray⟩
def cI(b:Nat)(c:Int)(s:dV):ByteArray×dV:=
 if s.2=0 then(match sE 0 0 s.1 with
  |none=>(⟨#[]⟩,s.1,9)
  |some (n,k)=>if b<n then(⟨#[]⟩,s.1,c)else if s.1.length-k<n then(⟨#[]⟩,s.1,9)else(VB ((s.1.drop k).take n),s.1.drop (k+n),0))
 else(⟨#[]⟩,s)
def xi(s:dV):dV:=if 0<s.1.length then cS 9 s else s
def aS(b:Nat)(s:dV):Nat×dV:=if b<(dX s).1 then(0,cS 9 (dX s).2)else dX s
def Go1(s t:dV):Prop:=t.1.length≤s.1.length∧(s.2≠0→t=s)
theorem Go1.refl(s:dV):Go1 s s:=⟨ai _,fun _=>rfl⟩
theorem Go1.trans{a b c:dV}(h:Go1 a b)(k:Go1 b c):Go1 a c:=
 ⟨co k.1 h.1,fun e=>by have:=h.2 e;subst this;exact k.2 e⟩
theorem tB{e:Int}(s:dV):Go1 s (cS e s):=by
 unfold cS;split
 ·exact⟨ai _,fun h=>absurd (‹_›) h⟩
 ·exact Go1.refl s
theorem jF(s:dV):Go1 s (dX s).2:=by
 unfold dX;split
 ·refine⟨?_,fun h=>absurd (‹_›) h⟩
  split
  ·simp
  ·exact ai _
 ·exact Go1.refl s
theorem GD(n:Nat)(s:dV):Go1 s (fH n s).2:=by
 unfold fH;split
 ·refine⟨?_,fun h=>absurd (‹_›) h⟩
  split
  ·exact ai _
  ·simp
 ·exact Go1.refl s
theorem yD(b:Nat)(c:Int)(s:dV):Go1 s (cI b c s).2:=by
 unfold cI;split
 ·refine⟨?_,fun h=>absurd (‹_›) h⟩
  split
  ·exact ai _
  ·split
   ·exact ai _
   ·split
    ·exact ai _
    ·simp
 ·exact Go1.refl s
theorem dW(b:Nat)(s:dV):Go1 s (aS b s).2:=by
 unfold aS;split
 ·exact(jF s).trans (tB _)
 ·exact jF s
theorem zO(s:dV):(dX s).1<18446744073709551616:=by
 unfold dX;split
 ·split
  ·rename_i n k e;exact(xk _ 0 0 (by omega) (by simp) e).2.2
  ·simp
 ·simp
theorem fK(b:Nat)(s:dV):(aS b s).1≤b:=by
 unfold aS;split
 ·exact Nat.zero_le _
 ·omega
def fc(l:List Pr)(s:dV):List Pr×dV:=
 (l++ [((cI 256 2 s).1,(cI 4096 3 (cI 256 2 s).2).1)],
  match l.getLast? with
  |some q=>if Op.bytesLess q.1.toList (cI 256 2 s).1.toList then(cI 4096 3 (cI 256 2 s).2).2 else cS 13 (cI 4096 3 (cI 256 2 s).2).2
  |none=>(cI 4096 3 (cI 256 2 s).2).2)
def jc:Nat→List Pr→dV→List Pr×dV
 |0,l,s=>(l,s)
 |n+1,l,s=>if s.2=0 then jc n (fc l s).1 (fc l s).2 else(l,s)
def fj(s:dV):List Pr×dV:=jc (dX s).1 [] (dX s).2
def jt{α:Type}(f:dV→α×dV):Nat→List α→dV→List α×dV
 |0,l,s=>(l,s)
 |n+1,l,s=>if s.2=0 then jt f n (l++ [(f s).1]) (f s).2 else(l,s)
def jd{α:Type}(f:dV→α×dV)(s:dV):List α×dV:=jt f (dX s).1 [] (dX s).2
def ph:Nat→List Int→dV→List Int×dV
 |0,l,s=>(l,s)
 |n+1,l,s=>ph n (l++ [((aS 4294967295 s).1:Int)]) (aS 4294967295 s).2
abbrev tL:=Int×List Int×List Pr
def nT(s:dV):tL×dV:=
 let a:=aS 4294967295 s
 let n:=aS 2 a.2
 let p:=ph n.1 [] n.2
 let t:=fj p.2
 ((a.1,p.1,t.1),t.2)
def f7(s:dV):(ByteArray×Int)×dV:=
 let a:=cI 32 9 s
 let n:=aS 4294967295 a.2
 ((a.1,n.1),n.2)
def ig(s:dV):Nat×dV:=let b:=aP s;(b.1,if 1<b.1 then cS 9 b.2 else b.2)
def oB(s:dV):(Int×Bool×List Pr)×dV:=
 let a:=aS 2147483648 s
 let b:=ig a.2
 let t:=fj b.2
 ((a.1,decide (b.1=1),t.1),t.2)
def jW(s:dV):(Nat×Hs)×dV:=
 let a:=aP s
 let b:=if a.1=81 then a.2 else cS 9 a.2
 let k:=aP b
 if k.1=0 then
  let x:=f8 k.2
  let y:=f8 x.2
  let z:=f8 y.2
  ((0,⟨x.1,y.1,z.1⟩),z.2)
 else if k.1=1 then((1,⟨0,0,0⟩),k.2)else((k.1,⟨0,0,0⟩),cS 11 k.2)
structure RParts where
 kind:Int
 x:Hs
 next:Int
 vs:List tL
 bs:List (ByteArray×Int)
 ts:List (ByteArray×Int)
 last:Int
 ss:List (Int×Bool×List Pr)
def tA(s:dV):RParts×dV:=
 let k:=jW s
 let n:=aS 4294967295 k.2
 let v:=jd nT n.2
 let b:=jd f7 v.2
 let t:=jd f7 b.2
 let l:=aS 2147483648 t.2
 let z:=jd oB l.2
 (⟨k.1.1,k.1.2,n.1,v.1,b.1,t.1,l.1,z.1⟩,xi z.2)
end Go.Proofs
namespace Go.Proofs
inductive Fo where
 |nil:Fo
 |cons (lab:List UInt8) (val:Option ByteArray) (kids rest:Fo):Fo
abbrev Bn:=List UInt8×Option ByteArray×Fo
def Fo.toL:Fo→List Bn
 | .nil=> []
 | .cons lab w kids rest=>(lab,w,kids)::rest.toL
theorem Fo.toL_cons(d:List UInt8)(w:Option ByteArray)(b c:Fo):(Fo.cons d w b c).toL=(d,w,b)::c.toL:=rfl
def Fo.ofL:List Bn→Fo
 | []=>.nil
 |(lab,w,kids)::l=>.cons lab w kids (Fo.ofL l)
theorem Fo.to_of:∀l:List Bn,(Fo.ofL l).toL=l
 | []=>rfl
 |(_,_,_)::l=>by show _::(Fo.ofL l).toL=_;rw[Fo.to_of l]
def Rh:Fo→List UInt8→ByteArray→Prop
 | .nil,_,_=>False
 | .cons lab w kids rest,k,v=>(∃r,k=lab++r∧((r= []∧w=some v)∨Rh kids r v))∨Rh rest k v
def Zi(w:Option ByteArray)(F:Fo)(k:List UInt8)(v:ByteArray):Prop:=(k= []∧w=some v)∨Rh F k v
def X8(n:Bn)(k:List UInt8)(v:ByteArray):Prop:=∃r,k=n.1++r∧Zi n.2.1 n.2.2 r v
theorem uu:∀{F:Fo} {k:List UInt8} {v:ByteArray},Rh F k v↔∃n∈F.toL,X8 n k v
 | .nil,_,_=>by simp[Rh,Fo.toL]
 | .cons lab w kids rest,k,v=>by
  rw[Fo.toL_cons];unfold Rh;rw[uu (F:=rest)];constructor
  ·rintro(h|⟨n,b,h⟩)
   ·exact⟨_,aD ..,h⟩
   ·exact⟨n,aA _ b,h⟩
  ·rintro⟨n,b,h⟩
   rcases ar.1 b with rfl|b
   ·exact .inl h
   ·exact .inr ⟨n,b,h⟩
def hd(k:List UInt8):Nat:=(k.headD 0).toNat
theorem Hb{a b:List UInt8}(h:a≠[]):hd (a++b)=hd a:=by
 cases a with
 |nil=>exact absurd rfl h
 |cons x a=>rfl
theorem Z5(a:List UInt8):hd a<256:=UInt8.toNat_lt _
def wW:Fo→Prop
 | .nil=>True
 | .cons lab w kids rest=>lab≠[]∧(w.isSome∨2≤kids.toL.length)∧wW kids∧(∀n∈rest.toL,hd lab<hd n.1)∧wW rest
def To(n:Bn):Prop:=n.1≠[]∧(n.2.1.isSome∨2≤n.2.2.toL.length)∧wW n.2.2
theorem tJ:∀{F:Fo},wW F↔F.toL.Pairwise (fun m n=>hd m.1<hd n.1)∧∀n∈F.toL,To n
 | .nil=>by simp[wW,Fo.toL]
 | .cons lab w kids rest=>by
  rw[Fo.toL_cons,bF];show(lab≠[]∧(w.isSome∨2≤kids.toL.length)∧wW kids∧(∀n∈rest.toL,hd lab<hd n.1)∧wW rest)↔_
  rw[tJ (F:=rest)];constructor
  ·rintro⟨g,h2,f,e,d,c⟩
   refine⟨⟨e,d⟩,fun n b=>?_⟩
   rcases ar.1 b with rfl|b
   ·exact⟨g,h2,f⟩
   ·exact c n b
  ·rintro⟨⟨e,d⟩,c⟩
   have:=c _ (aD ..);exact⟨this.1,this.2.1,this.2.2,e,d,fun n b=>c n (aA _ b)⟩
theorem Cx:∀{F:Fo},wW F→∀n∈F.toL,∃r v,Zi n.2.1 n.2.2 r v
 | .nil,_,n,b=>by simp[Fo.toL]at b
 | .cons lab w kids rest,h,n,b=>by
  rcases ar.1 b with rfl|b
  ·rcases h.2.1 with d|c
   ·obtain⟨v,hv⟩:=ib.1 d
    exact⟨[],v,.inl ⟨rfl,hv⟩⟩
   ·have f:=Cx h.2.2.1
    have⟨m,hm⟩:∃m,m∈kids.toL:=by
     cases hl:kids.toL with
     |nil=>rw[hl]at c;simp at c
     |cons m l=>exact⟨m,aD ..⟩
    obtain⟨r,v,e⟩:=f m hm;exact⟨m.1++r,v,.inr (uu.2 ⟨m,hm,r,rfl,e⟩)⟩
  ·exact Cx h.2.2.2.2 n b
theorem LD{F:Fo}(h:wW F){k:List UInt8}{v:ByteArray}(hi:Rh F k v):k≠[]:=by
 obtain⟨n,b,r,rfl,_⟩:=uu.1 hi;have:=((tJ.1 h).2 n b).1;intro e;exact this (pL.1 e).1
theorem PW{F:Fo}(h:wW F){k:List UInt8}{v:ByteArray}(hi:Rh F k v):∃n∈F.toL,hd n.1=hd k∧X8 n k v:=by
 obtain⟨n,b,r,e,c⟩:=uu.1 hi;exact⟨n,b,by rw[e,Hb ((tJ.1 h).2 n b).1],r,e,c⟩
def Br(P:List UInt8→ByteArray→Prop):Prop:=(∃v,P [] v)∨∃j k u v,P j u∧P k v∧j≠[]∧k≠[]∧hd j≠hd k
theorem Y1{w:Option ByteArray}{F:Fo}(h:wW F):(w.isSome∨2≤F.toL.length)↔Br (Zi w F):=by
 constructor
 ·rintro(z|B)
  ·obtain⟨v,hv⟩:=ib.1 z
   exact .inl ⟨v,.inl ⟨rfl,hv⟩⟩
  ·right
   have c:=Cx h;have hc:=tJ.1 h;match hL:F.toL,B with
   |a::b::l,_=>
    have i:a∈F.toL:=by rw[hL];simp
    have g:b∈F.toL:=by rw[hL];simp
    obtain⟨r,v,A⟩:=c a i;obtain⟨s,u,c⟩:=c b g;have o:=(hc.2 a i).1;have h2:=(hc.2 b g).1;have:=hc.1;rw[hL]at this;have C:=(bF.1 this).1 b (aD ..);refine⟨a.1++r,b.1++s,v,u,.inr (uu.2 ⟨a,i,r,rfl,A⟩),.inr (uu.2 ⟨b,g,s,rfl,c⟩),?_,?_,?_⟩
    ·intro e;exact o (pL.1 e).1
    ·intro e;exact h2 (pL.1 e).1
    ·rw[Hb o,Hb h2];omega
 ·rintro(⟨v,hv⟩|⟨j,k,u,v,d,f,x,nk,q⟩)
  ·rcases hv with⟨_,hv⟩|hv
   ·left;rw[hv];rfl
   ·exact absurd rfl (LD h hv)
  ·right
   rcases d with⟨e,_⟩|d
   ·exact absurd e x
   rcases f with⟨e,_⟩|f
   ·exact absurd e nk
   obtain⟨m,hm,em,_⟩:=PW h d;obtain⟨n,p,y,_⟩:=PW h f;match hL:F.toL with
   | []=>rw[hL]at hm;simp at hm
   | [a]=>
    rw[hL]at hm p;rw[aq.1 hm]at em;rw[aq.1 p]at y;omega
   |a::b::l=>simp
end Go.Proofs
namespace Go.Proofs
def cm:List UInt8→List UInt8→Nat
 |a::x,b::y=>if a=b then cm x y+1 else 0
 |_,_=>0
theorem X3:∀(x y:List UInt8),cm x y≤x.length∧cm x y≤y.length
 | [],_=>by simp[cm]
 |_::_,[]=>by simp[cm]
 |a::x,b::y=>by unfold cm;have:=X3 x y;split<;>simp<;>omega
theorem Q9:∀(x y:List UInt8),cm x y<x.length→cm x y<y.length→hd (x.drop (cm x y))≠hd (y.drop (cm x y))
 | [],_=>by simp[cm]
 |_::_,[]=>by simp[cm]
 |a::x,b::y=>by
  unfold cm;split
  ·rename_i e
   intro c h2;rw[av]at c h2;rw[List.drop_succ_cons,List.drop_succ_cons];exact Q9 x y (by omega) (by omega)
  ·rename_i e
   intro _ _ h;exact e (lR.1 h)
theorem YZ{x y:List UInt8}(hx:x≠[])(c:y≠[])(h:hd x=hd y):0<cm x y:=by
 match x,y,hx,c with
 |a::x,b::y,_,_=>
  unfold cm;rw[if_pos (show a=b from lR.1 h)]
  omega
end Go.Proofs
