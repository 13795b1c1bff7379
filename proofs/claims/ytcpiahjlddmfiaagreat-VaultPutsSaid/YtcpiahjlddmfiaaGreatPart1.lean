/- A part of the proof that the named laws of this program answer true, whatever the input. -/
import Derived.Test.YtcpiahjlddmfiaaGreatPart0
import Derived.Test.YtcpiahjlddmfiaaGreatLift3
import Derived.IntWalk
open BitVec renaming ofInt→af,ofInt_natCast→gd,getLsbD_ofNat→lm
open Bool renaming eq_iff_iff→eV
open Int renaming fdiv→dY,toNat_natCast→aF
open List renaming range→eX,range_add→rL,mem_range→jg,mem_cons_self→au,mem_cons_of_mem→aG,filterMap_append→oB,map_append→eU,take_left'→cX,drop_left'→cn,drop_drop→cS,length_append→ae,take_succ_eq_append_getElem→ax,take_length→ba,getElem_mem→aU,mem_append→bc,mem_singleton→aB,any_eq_true→bS,flatMap_cons→aK,mem_map→bE,nodup_cons→fH,length_singleton→aD,mem_append_left→cK,mem_append_right→dk,map_cons→bT,pairwise_cons→bd,mem_cons→aq,mem_filter→cY,length_filter_le→dq,append_eq_nil_iff→jE
open List.Pairwise renaming nil→cQ
open Nat renaming testBit_and→jR,testBit_two_pow_sub_one→kz,le_refl→aj,shiftRight_eq_div_pow→cr,lt_of_le_of_lt→fW,min_eq_left→bf,shiftRight_le→gu,mod_eq_of_lt→cW,testBit_lt_two_pow→gP,lt_of_lt_of_le→aO,pow_le_pow_right→fh,zero_add→aA,le_of_eq→dP,zero_le→aP,not_lt→gC,lt_irrefl→jV,le_trans→aW
open Option renaming isSome_iff_exists→f3
open UInt8 renaming ofNat→dW
namespace Go.Proofs
open Go.Lift
def ui(n d:Nat):Nat:=(eX n).countP (d.testBit ·)
theorem CE(m n d:Nat):ui (m+n) d=ui m d+ui n (d>>>m):=by
 unfold ui;rw[rL,List.countP_append,List.countP_map];congr 1
 refine List.countP_congr fun i _=>?_
 simp[Nat.testBit_shiftRight]
theorem Mv(d:Nat)(i:Nat):∀n,i≤n→ui n (d&&&(2^i-1))=ui i d:=by
 intro n b;obtain⟨m,rfl⟩:=Nat.exists_eq_add_of_le b;rw[CE];have c:ui i (d&&&(2^i-1))=ui i d:=by
  unfold ui;refine List.countP_congr fun j a=>?_
  have:=jg.1 a;simp[jR,kz,this]
 have e:ui m ((d&&&(2^i-1))>>>i)=0:=by
  unfold ui;rw[List.countP_eq_zero];intro j _;simp[Nat.testBit_shiftRight,jR,kz];intro h;omega
 omega
theorem SX(d:Nat):ui 8 (d&&&255)=ui 8 d:=Mv d 8 8 (aj _)
theorem yr(n d:Nat):ui n d≤n:=by
 have:=List.countP_le_length (p:=(d.testBit ·)) (l:=eX n)
 simpa[ui]using this
theorem kT(d n:Nat):dY (d:Int) (2^n)=((d>>>n:Nat):Int):=by
 rw[Int.fdiv_eq_ediv_of_nonneg _ (by exact Int.le_of_lt (Int.pow_pos (by decide))),cr];simp
theorem P3(a b:Nat):(af (IntKind.bits .u32) (a:Int)&&&af (IntKind.bits .u32) (b:Int)).toNat=(a%4294967296)&&&(b%4294967296):=by
 simp[IntKind.bits,BitVec.toNat_and,BitVec.toNat_ofInt];rfl
theorem yN{n:Nat}(h:n<4294967296):IntKind.wrap .u32 (n:Int)=(n:Int):=Go.IntWalk.u32_in _ (by omega)
theorem Db{i:Nat}(hi:i<32){h:ac}{K:Bool→ac→Prop}(a:K true h):HC PG l8 [.int .i64 i] [.c .bool] K h:=by
 refine EV i ?_;unfold xO;refine aw (fun _=>?_) fun h=>absurd (Int.natCast_nonneg i) h
 rw[decide_eq_true (by omega)];exact a
theorem G1{a b:Nat}(h:b<4294967296):a&&&b<4294967296:=fW Nat.and_le_right h
theorem AN{d i:Nat}(hd:d<4294967296)(hi:i<32){h:ac}{K:Bool→ac→Prop}(c:K (d.testBit i) h):HC PG ff [.int .u32 d,.int .i64 i] [.c .bool] K h:=by
 refine Bi d i ?_;unfold ug;refine Db hi (ay.2 ⟨by omega,?_⟩);have e:min (i:Int).toNat (IntKind.bits .u32)=i:=by rw[aF];exact bf (by show i≤32;omega)
 rw[e,kT];have b:=P3 (d>>>i) 1;have a:d>>>i<4294967296:=fW (gu d i) hd;rw[cW a,show(1:Nat)%4294967296=1 from rfl]at b
 simp only[Bd];rw[show((1:Nat):Int)=(1:Int)from rfl]at b
 rw[b,yN (G1 (by omega))];have f:(((d>>>i&&&1:Nat):Int)==(1:Int))=d.testBit i:=by
  rw[eV,beq_iff_eq,Nat.testBit,Nat.and_comm];simp only[bne_iff_ne,ne_eq,Nat.one_and_eq_mod_two];have:(d>>>i)%2<2:=Nat.mod_lt _ (by omega);omega
 rw[f];exact c
theorem NK{d i:Nat}(hd:d<4294967296)(hi:i<32):∃w:Nat,IntKind.wrap .u32 (af (IntKind.bits .u32) (d:Int)|||af (IntKind.bits .u32) (IntKind.wrap .u32 (1*2^(min (i:Int).toNat (IntKind.bits .u32))))).toNat=(w:Int)∧w<4294967296∧∀j,w.testBit j=(d.testBit j||decide (j=i)):=by
 have e:min (i:Int).toNat (IntKind.bits .u32)=i:=by rw[aF];exact bf (by show i≤32;omega)
 have g:2^i<4294967296:=Nat.pow_lt_pow_right (by omega) (show i<32 from hi)
 have b:(1*2^i:Int)=((2^i:Nat):Int):=by simp
 rw[e,b,yN g];refine⟨_,yN (BitVec.isLt _),BitVec.isLt _,fun j=>?_⟩
 rw[BitVec.testBit_toNat,BitVec.getLsbD_or,gd,gd,lm,lm,Nat.testBit_two_pow];by_cases a:j<32
 ·have:decide (j<IntKind.bits .u32)=true:=decide_eq_true a
  rw[this];simp[eq_comm]
 ·have f:decide (j<IntKind.bits .u32)=false:=decide_eq_false a
  have c:d.testBit j=false:=gP (aO hd (fh (n:=2) (by omega) (show 32≤j by omega)))
  rw[f,c];simp;omega
theorem LN{d i:Nat}(hd:d<4294967296)(hi:i<32){h:ac}{K:Int→ac→Prop}(b:∀w:Nat,w<4294967296→(∀j,w.testBit j=(d.testBit j||decide (j=i)))→K (w:Int) h):HC PG eE [.int .u32 d,.int .i64 i] [.c (.int .u32)] K h:=by
 refine zY d i ?_;unfold sS;refine Db hi (ah.2 ⟨by omega,?_⟩);obtain⟨w,e,c,a⟩:=NK hd hi;simp only[Bd];rw[e];exact b w c a
theorem GY{d i:Nat}(hd:d<4294967296)(hi:i<32):∃w:Nat,IntKind.wrap .u32 (af (IntKind.bits .u32) (d:Int)&&& ~~~af (IntKind.bits .u32) (IntKind.wrap .u32 (1*2^(min (i:Int).toNat (IntKind.bits .u32))))).toNat=(w:Int)∧w<4294967296∧∀j,w.testBit j=(d.testBit j&&decide (j≠i)):=by
 have e:min (i:Int).toNat (IntKind.bits .u32)=i:=by rw[aF];exact bf (by show i≤32;omega)
 have g:2^i<4294967296:=Nat.pow_lt_pow_right (by omega) (show i<32 from hi)
 have b:(1*2^i:Int)=((2^i:Nat):Int):=by simp
 rw[e,b,yN g];refine⟨_,yN (BitVec.isLt _),BitVec.isLt _,fun j=>?_⟩
 rw[BitVec.testBit_toNat,BitVec.getLsbD_and,BitVec.getLsbD_not,gd,gd,lm,lm,Nat.testBit_two_pow];by_cases a:j<32
 ·have:decide (j<IntKind.bits .u32)=true:=decide_eq_true a
  rw[this];simp[eq_comm]
 ·have f:decide (j<IntKind.bits .u32)=false:=decide_eq_false a
  have c:d.testBit j=false:=gP (aO hd (fh (n:=2) (by omega) (show 32≤j by omega)))
  rw[f,c];simp
theorem CJ{d i:Nat}(hd:d<4294967296)(hi:i<32){h:ac}{K:Int→ac→Prop}(b:∀w:Nat,w<4294967296→(∀j,w.testBit j=(d.testBit j&&decide (j≠i)))→K (w:Int) h):HC PG iR [.int .u32 d,.int .i64 i] [.c (.int .u32)] K h:=by
 refine wE d i ?_;unfold pW;refine Db hi (ah.2 ⟨by omega,?_⟩);obtain⟨w,e,c,a⟩:=GY hd hi;simp only[Bd];rw[e];exact b w c a
abbrev Tu:ByteArray:=⟨#[0,1,1,2,1,2,2,3,1,2,2,3,2,3,3,4,1,2,2,3,2,3,3,4,2,3,3,4,3,4,4,5,1,2,2,3,2,3,3,4,2,3,3,4,3,4,4,5,2,3,3,4,3,4,4,5,3,4,4,5,4,5,5,6,1,2,2,3,2,3,3,4,2,3,3,4,3,4,4,5,2,3,3,4,3,4,4,5,3,4,4,5,4,5,5,6,2,3,3,4,3,4,4,5,3,4,4,5,4,5,5,6,3,4,4,5,4,5,5,6,4,5,5,6,5,6,6,7,1,2,2,3,2,3,3,4,2,3,3,4,3,4,4,5,2,3,3,4,3,4,4,5,3,4,4,5,4,5,5,6,2,3,3,4,3,4,4,5,3,4,4,5,4,5,5,6,3,4,4,5,4,5,5,6,4,5,5,6,5,6,6,7,2,3,3,4,3,4,4,5,3,4,4,5,4,5,5,6,3,4,4,5,4,5,5,6,4,5,5,6,5,6,6,7,3,4,4,5,4,5,5,6,4,5,5,6,5,6,6,7,4,5,5,6,5,6,6,7,5,6,6,7,6,7,7,8]⟩
theorem QH:(eX 256).all (fun b=>decide (Tu[b]? =some (dW (ui 8 b))))=true:=by decide+kernel
theorem Ge{b:Nat}(h:b<256):Tu[b]? =some (dW (ui 8 b)):=of_decide_eq_true (List.all_eq_true.1 QH b (jg.2 h))
theorem GR(b:Nat):(dW (ui 8 b)).toNat=ui 8 b:=by
 have:=yr 8 b;simp;omega
theorem UO(d:Nat):ui 32 d=ui 8 (d>>>24)+ui 8 ((d>>>16)&&&255)+ui 8 ((d>>>8)&&&255)+ui 8 (d&&&255):=by
 rw[SX,SX,SX,show(32:Nat)=8+(8+(8+8))from rfl,CE,CE,CE]
 simp only[←Nat.shiftRight_add,Nat.reduceAdd];omega
set_option maxRecDepth 100000 in
theorem Ra{d:Nat}(hd:d<4294967296){h:ac}{K:Int→ac→Prop}(j:K (ui 32 d:Int) h):HC PG jd [.int .u32 d] [.c (.int .i64)] K h:=by
 refine tU d ?_;unfold na;have c:dY (d:Int) (2^(min (24:Int).toNat (IntKind.bits .u32)))=((d>>>24:Nat):Int):=kT d 24;have e:dY (d:Int) (2^(min (16:Int).toNat (IntKind.bits .u32)))=((d>>>16:Nat):Int):=kT d 16;have k:dY (d:Int) (2^(min (8:Int).toNat (IntKind.bits .u32)))=((d>>>8:Nat):Int):=kT d 8;have b:∀x:Nat,x<4294967296→IntKind.wrap .u32 (af (IntKind.bits .u32) (x:Int)&&&af (IntKind.bits .u32) 255).toNat=((x&&&255:Nat):Int):=fun x hx=>by
  have:=P3 x 255;rw[cW hx]at this;rw[show((255:Nat):Int)=(255:Int)from rfl]at this
  rw[this,yN (G1 (by omega))]
 have f:d>>>24<256:=by rw[cr];omega
 have i:∀x:Nat,x&&&255<256:=fun x=>fW Nat.and_le_right (by omega)
 have a:d>>>16<4294967296:=fW (gu d 16) hd;have m:d>>>8<4294967296:=fW (gu d 8) hd;simp only[Bd];rw[c,e,k,b _ a,b _ m,b _ hd];refine⟨by decide,_,by omega,Ge (b:=d>>>24) f,by decide,_,by omega,Ge (i _),by decide,_,by omega,Ge (i _),_,by omega,Ge (i _),?_⟩
 rw[GR,GR,GR,GR];simp only[aF];have s:=yr 8 (d>>>24);have q:=yr 8 (d>>>16&&&255);have p:=yr 8 (d>>>8&&&255);have q4:=yr 8 (d&&&255);rw[UO]at j;have g:∀n:Nat,n≤255→IntKind.wrap .u8 (n:Int)=(n:Int):=fun n o=>Go.IntWalk.u8_in _ (by omega)
 rw[←Int.natCast_add,g _ (by omega),←Int.natCast_add,g _ (by omega),←Int.natCast_add,g _ (by omega),kE (by omega)];exact j
theorem pd{d i:Nat}(hd:d<4294967296)(hi:i<32){h:ac}{K:Int→ac→Prop}(a:K (ui i d:Int) h):HC PG cO [.int .u32 d,.int .i64 i] [.c (.int .i64)] K h:=by
 refine zZ d i ?_;unfold sU;refine aw (fun f=>?_) fun f=>?_
 ·have:i=0:=by omega
  subst this;exact a
 ·refine aw (fun h=>by omega) fun _=>⟨by omega,?_⟩
  have e:min (i:Int).toNat (IntKind.bits .u32)=i:=by rw[aF];exact bf (by show i≤32;omega)
  have j:2^i<4294967296:=Nat.pow_lt_pow_right (by omega) (show i<32 from hi)
  have c:0<2^i:=Nat.pow_pos (by omega);have b:(1*2^i:Int)=((2^i:Nat):Int):=by simp
  have g:(((2^i:Nat):Int)-1)=((2^i-1:Nat):Int):=by omega
  simp only[Bd];rw[e,b,yN j,g,yN (show 2^i-1<4294967296 by omega),P3,cW hd,cW (show 2^i-1<4294967296 by omega),yN (G1 (by omega))]
  refine yH _ ?_;unfold rK;refine Ra (G1 (by omega)) ?_;rw[Mv d i 32 (by omega)];exact a
end Go.Proofs
namespace Go.Proofs
open Go.Lift
def fm{β:Type}(g:Nat→Option β)(n:Nat):List β:=(eX n).filterMap g
def upd{β:Type}(g:Nat→Option β)(i:Nat)(x:Option β)(j:Nat):Option β:=if j=i then x else g j
theorem T2{β:Type}{f g:Nat→Option β}:∀l:List Nat,(∀j∈l,f j=g j)→l.filterMap f=l.filterMap g
 | [],_=>rfl
 |j::l,h=>by
  rw[List.filterMap_cons,List.filterMap_cons,h j (au ..),T2 l fun k a=>h k (aG _ a)]
section
variable {β:Type} {g:Nat→Option β} {d:Nat}
theorem Dv(hd:∀c,c<32→d.testBit c=(g c).isSome){i:Nat}(hi:i≤32):(fm g i).length=ui i d:=by
 unfold fm ui;rw[List.length_filterMap_eq_countP];exact List.countP_congr fun j a=>by rw[hd j (by have:=jg.1 a;omega)]
theorem pE{i n:Nat}(hi:i<n):fm g n=fm g i++((g i).toList++(eX (n-(i+1))).filterMap fun j=>g (i+1+j)):=by
 unfold fm;have e:n=i+(1+(n-(i+1))):=by omega
 rw[e,rL,oB,rL];have a:i+(1+(n-(i+1)))-(i+1)=n-(i+1):=by omega
 rw[a];congr 1
 rw[eU,oB,List.map_map];congr 1
 rw[List.filterMap_map];refine T2 _ fun j _=>?_
 show g (i+(1+j))=_
 rw[Nat.add_assoc]
theorem yd{i:Nat}{x:Option β}:fm (upd g i x) i=fm g i:=by
 unfold fm;refine T2 _ fun j a=>?_
 have:=jg.1 a;unfold upd;rw[if_neg (by omega)]
theorem vR{i m:Nat}{x:Option β}:((eX m).filterMap fun j=>upd g i x (i+1+j))=(eX m).filterMap fun j=>g (i+1+j):=by
 refine T2 _ fun j _=>?_
 unfold upd;rw[if_neg (by omega)]
theorem PA{i:Nat}(hi:i<32)(hd:∀c,c<32→d.testBit c=(g c).isSome)(b:g i=none)(x:β):fm (upd g i (some x)) 32=(fm g 32).take (ui i d)++x::(fm g 32).drop (ui i d):=by
 have a:=Dv hd (i:=i) (by omega);rw[pE (g:=upd g i (some x)) hi,pE (g:=g) hi,yd,vR,b,cX a,cn a];simp[upd]
theorem Pz{i:Nat}(hi:i<32)(hd:∀c,c<32→d.testBit c=(g c).isSome){y:β}(b:g i=some y)(x:β):fm (upd g i (some x)) 32=(fm g 32).take (ui i d)++x::(fm g 32).drop (ui i d+1):=by
 have a:=Dv hd (i:=i) (by omega);rw[pE (g:=upd g i (some x)) hi,pE (g:=g) hi,yd,vR,b,cX a,←cS,cn a];simp[upd]
theorem PB{i:Nat}(hi:i<32)(hd:∀c,c<32→d.testBit c=(g c).isSome){y:β}(b:g i=some y):fm (upd g i none) 32=(fm g 32).take (ui i d)++(fm g 32).drop (ui i d+1):=by
 have a:=Dv hd (i:=i) (by omega);rw[pE (g:=upd g i none) hi,pE (g:=g) hi,yd,vR,b,cX a,←cS,cn a];simp[upd]
theorem PC{i:Nat}(hi:i<32)(hd:∀c,c<32→d.testBit c=(g c).isSome){y:β}(b:g i=some y):(fm g 32)[ui i d]? =some y:=by
 have a:=Dv hd (i:=i) (by omega);rw[pE (g:=g) hi,b,List.getElem?_append_right (by omega),a,Nat.sub_self];rfl
theorem FG{i:Nat}(hi:i<32)(hd:∀c,c<32→d.testBit c=(g c).isSome){y:β}(a:g i=some y):ui i d<(fm g 32).length:=(List.getElem?_eq_some_iff.1 (PC hi hd a)).1
theorem Sc{i:Nat}(hi:i<32)(hd:∀c,c<32→d.testBit c=(g c).isSome):ui i d≤(fm g 32).length:=by
 have a:=Dv hd (i:=i) (by omega);rw[pE (g:=g) hi,ae];omega
theorem BI:(fm g 32).length≤32:=by
 have:=List.length_filterMap_le g (eX 32);simpa[fm]using this
end
end Go.Proofs
namespace Go.Proofs
open Go.Lift
abbrev sv(s:SliceV):Value:=.slice s.a s.len s.cap
structure Slots where
 p:Nat→Option Pr
 k:Nat→Option (Option Addr)
def eZ(d n:Nat)(sp sk:SliceV)(a:Bool)(ow:Option Addr):Array Value:= #[.int .u32 (d:Int),.int .u32 (n:Int),sv sp,sv sk,.bool a,.pointer ow]
structure BitsOf(d n:Nat)(s:Slots):Prop where
 d32:d<4294967296
 n32:n<4294967296
 dp:∀c,c<32→d.testBit c=(s.p c).isSome
 nk:∀c,c<32→n.testBit c=(s.k c).isSome
structure NodeAt(W:Nat→Prop)(h:ac)(b:Nat)(s:Slots):Prop where
 ex:∃d n sp sk ow,h[b]? =some (.cells (eZ d n sp sk false ow) bo (0,0))∧BitsOf d n s∧Sl il 2 W h sp (fm s.p 32)∧Sl qL 1 W h sk (fm s.k 32)∧sp.len≤sp.cap∧sk.len≤sk.cap
 nw:¬W b
theorem NodeAt.upd{W M:Nat→Prop}{h h':ac}{b:Nat}{s:Slots}(n:NodeAt W h b s)(k:Upd M h h')(hm:∀b,M b→W b∨h.size≤b):NodeAt W h' b s:=by
 obtain⟨d,m,sp,sk,ow,a,f,i,g,c,e⟩:=n.ex;exact⟨⟨d,m,sp,sk,ow,k.get a (fun hb=>(hm _ hb).elim n.nw fun h=>by have:=bF a;omega),f,i.upd k hm,g.upd k hm,c,e⟩,n.nw⟩
structure OwnN(M:Nat→Prop)(h:ac)(b d n:Nat)(sp sk:SliceV)(s:Slots)(ow:Option Addr):Prop where
 blk:h[b]? =some (.cells (eZ d n sp sk false ow) bo (0,0))
 bits:BitsOf d n s
 ex:∃A B:Nat→Prop,OwnS il 2 ar A h sp (fm s.p 32)∧OwnS qL 1 bH B h sk (fm s.k 32)∧(∀x,A x→M x∧¬B x∧x≠b∧x<h.size)∧(∀x,B x→M x∧x≠b∧x<h.size)
 mb:M b
theorem vN{h:ac}{K:Bool→ac→Prop}(a:K false h):HC PG fS [.pointer none] [.c .bool] K h:=by
 refine yx none ?_;unfold rA eY;exact ah.2 a
theorem Fg{b:Nat}{h:ac}{K:Bool→ac→Prop}(a:K false h):HC PG nF [.pointer (some ⟨b,0,none⟩),.pointer none] [.c .bool] K h:=by
 refine zP _ none ?_;unfold sI bw;exact ay.2 (vN (ah.2 a))
theorem OwnN.upd{M M':Nat→Prop}{h h':ac}{b d n:Nat}{sp sk:SliceV}{s:Slots}{ow:Option Addr}(o:OwnN M h b d n sp sk s ow)(k:Upd M' h h')(hm:∀x,M' x→¬M x):OwnN M h' b d n sp sk s ow:=by
 obtain⟨A,B,g,f,a,c⟩:=o.ex;have z:=k.size;exact⟨k.get o.blk fun hb=>hm _ hb o.mb,o.bits,⟨A,B,g.upd k fun x hx e=>hm _ e (a x hx).1,f.upd k fun x hx e=>hm _ e (c x hx).1,fun x hx=>⟨(a x hx).1,(a x hx).2.1,(a x hx).2.2.1,by have:=(a x hx).2.2.2;omega⟩,fun x hx=>⟨(c x hx).1,(c x hx).2.1,by have:=(c x hx).2.2;omega⟩⟩,o.mb⟩
set_option maxRecDepth 4000 in
theorem Pd{W:Nat→Prop}{h:ac}{b:Nat}{s:Slots}(nd:NodeAt W h b s){K:Option Addr→ac→Prop}
  (C:∀h' d n sp sk,OwnN (fun x=>h.size≤x) h' h.size d n sp sk s none→Upd No h h'→K (some ⟨h.size,0,none⟩) h'):
  HC PG iA [.pointer (some ⟨b,0,none⟩),.pointer none] [.c .ptr] K h:=by
 obtain⟨d,n,sp,sk,ow,hb,bits,E,B,V,X⟩:=nd.ex;refine ve _ none ?_;unfold qj ci bw bj nv Bo c9 eY Og Sg;refine Fg (ah.2 ?_);have c:∀{h:ac} {b:Nat} {c:Array Value} {i:Nat},h[b]? =some (.cells c bo (0,0))→aX h ⟨b,0+i,none⟩=c[i]?:=fun hb=>by rw[aA];exact aL hb
 refine⟨_,rfl,_,c (i:=0) hb,_,c (i:=1) hb,sp,c (i:=2) hb,sk,c (i:=3) hb,_,c (i:=4) hb,_,c (i:=5) hb,?_⟩;have k1:=Upd.hnew No h [.int .u32 0,.int .u32 0,.slice none 0 0,.slice none 0 0,.bool false,.pointer none] bo;have b1:=bG h [.int .u32 0,.int .u32 0,.slice none 0 0,.slice none 0 0,.bool false,.pointer none] bo;refine bq ?_;simp only[bZ h];generalize hnew h [.int .u32 0,.int .u32 0,.slice none 0 0,.slice none 0 0,.bool false,.pointer none] bo=h1 at k1 b1
 have L:iJ h1 ⟨h.size,0,none⟩ 0 [.int .u32 (d:Int),.int .u32 (n:Int),.slice sp.a sp.len sp.cap,.slice sk.a sk.len sk.cap,.bool false,.pointer ow]=_:=gj _ h1 0 0 _ b1 (by simp);refine⟨.inr ⟨_,rfl,fun j T=>by rw[bB];exact f6 b1 (by simp at T⊢;omega)⟩,bq ?_⟩
 rw[L];have b2:=gg (o:=.cells (eZ d n sp sk false ow) bo (0,0)) b1;have u:Upd No h _:=k1.trans (M':=(· =h.size)) (Upd.set h1 (.cells (eZ d n sp sk false ow) bo (0,0)) rfl) fun x hx=>.inr (dP hx.symm)
 have H:h.size<(h1.setIfInBounds h.size (.cells (eZ d n sp sk false ow) bo (0,0))).size:=bF b2;have U:h.size≠b:=fun e=>by have:=bF hb;omega
 have Y:(Obj.cells (List.take (0+0) [Value.int .u32 0,.int .u32 0,.slice none 0 0,.slice none 0 0,.bool false,.pointer none]++ [Value.int .u32 (d:Int),.int .u32 (n:Int),.slice sp.a sp.len sp.cap,.slice sk.a sk.len sk.cap,.bool false,.pointer ow]++List.drop (0+0+ [Value.int .u32 (d:Int),.int .u32 (n:Int),.slice sp.a sp.len sp.cap,.slice sk.a sk.len sk.cap,.bool false,.pointer ow].length) [Value.int .u32 0,.int .u32 0,.slice none 0 0,.slice none 0 0,.bool false,.pointer none]).toArray bo (0,0))=.cells (eZ d n sp sk false ow) bo (0,0):=rfl
 rw[Y];generalize h1.setIfInBounds h.size (.cells (eZ d n sp sk false ow) bo (0,0))=h2 at b2 u H;have p:=u.get0 hb;refine⟨_,rfl,sp,c (i:=2) p,_,rfl,sk,c (i:=3) p,?_⟩;refine A0 (E.upd u fun _ h=>h.elim) (by have:=BI (g:=s.p);omega) fun y Q G f=>?_
 refine⟨c (i:=3) (f.get0 p),?_⟩;refine A1 ((B.upd u fun _ h=>h.elim).upd f fun _ h=>h.elim) (by have:=BI (g:=s.k);omega) fun z R A m=>?_
 have P:=m.get0 (f.get0 b2);have t:=G.within.upd m fun _ _ h=>h
 have q:=A.within;have z3:=f.size;have z4:=m.size;have w:∀{h:ac} {c:Array Value} {x i:Nat},h[x]? =some (.cells c bo (0,0))→i<c.size→Wr h ⟨x,0+i,none⟩:=fun hb hi=>by rw[aA];exact f6 hb hi
 have st:∀{h:ac} {c c':Array Value} {x i:Nat} {v:Value} {k:ac→Prop},h[x]? =some (.cells c bo (0,0))→c.setIfInBounds i v=c'→(∀h',h'[x]? =some (.cells c' bo (0,0))→Upd (· =x) h h'→k h')→At (hset h ⟨x,i,none⟩ v) k:=fun hb e C=>yv hb fun h' F Z=>C h' (e▸F) Z
 refine⟨w (i:=2) P (show 2<6 by decide),st (i:=2) (c':=eZ d n y sk false ow) P rfl fun h5 O I=>?_⟩
 refine⟨w (i:=3) O (show 3<6 by decide),st (i:=3) (c':=eZ d n y z false ow) O rfl fun h6 N D=>?_⟩
 refine⟨w (i:=5) N (show 5<6 by decide),st (i:=5) (c':=eZ d n y z false none) N rfl fun h7 S J=>?_⟩
 refine vN (ah.2 ?_);have a:=I.tr (D.tr J);have z7:=a.size;refine C _ d n y z ⟨S,bits,⟨fun x=>h2.size≤x∧x<Q.size,fun x=>Q.size≤x∧x<R.size,t.upd a fun x hx e=>by have e:x=h.size:=e;omega,q.upd a fun x hx e=>by have e:x=h.size:=e;omega,fun x hx=>⟨by omega,by omega,by omega,by omega⟩,fun x hx=>⟨by omega,by omega,by omega⟩⟩,aj _⟩ ?_
 exact((u.tr f).tr m).trans a fun x hx=>.inr (dP hx.symm)
end Go.Proofs
namespace Go.Proofs
open Go.Lift
abbrev u32(x:Int):List Value:= [.int .u32 x]
theorem qV(x:Int):(u32 x).length=1∧0<1:=⟨rfl,Nat.one_pos⟩
abbrev Nums(W:Nat→Prop)(h:ac)(s:SliceV)(xs:List Int):Prop:=Sl u32 1 W h s xs
theorem Nums.at{W:Nat→Prop}{h:ac}{s:SliceV}{xs:List Int}(b:Nums W h s xs){i:Nat}(hi:i<xs.length):∃a,s.a=some a∧¬W a.block∧aX h (adr a (((i:Int)).toNat*1))=some (.int .u32 xs[i]):=
 b.at0 (g:=fun x=>.int .u32 x) (List.getElem?_eq_getElem hi)
theorem PF{W W':Nat→Prop}{h:ac}{s s':SliceV}{xs ys:List Int}(g:Nums W h s xs)(j:Nums W' h s' ys)(p:xs.length≤4611686018427387904){K:Bool→ac→Prop}(d:K (decide (xs=ys)) h):
  HC PG iU [.slice s.a s.len s.cap,.slice s'.a s'.len s'.cap] [.c .bool] K h:=by
 refine tq s s' ?_;unfold me aR cx;refine CondP.intro (fun c=>?_) (fun f=>?_)
 ·have:xs≠ys:=fun e=>by
   rw[g.len,j.len,e]at c;simp at c
  rw[decide_eq_false this]at d;exact d
 ·have m:xs.length=ys.length:=by
   rw[g.len,j.len]at f;have:(xs.length:Int)=ys.length:=by simpa using f
   omega
  refine LoopP.ghost (fun(i:Nat) (t:Int) h'=>t=(i:Int)∧h'=h∧i≤xs.length∧xs.take i=ys.take i) (fun i=>xs.length-i) 0 ⟨rfl,rfl,aP _,rfl⟩ ?_
  rintro I i t h' ⟨rfl,rfl,hi,o⟩ u;refine aw (fun b=>?_) (fun k=>?_)
  ·rw[g.len]at b
   have b:i<xs.length:=by omega
   obtain⟨a,q,_,hx⟩:=Nums.at g b;obtain⟨a',n,_,v⟩:=Nums.at j (m▸b);refine⟨by rw[g.len];omega,a,q,_,hx,by rw[j.len];omega,a',n,_,v,?_⟩
   refine CondP.intro (fun c=>?_) (fun f=>?_)
   ·have:xs≠ys:=fun e=>by subst e;simp at c
    rw[decide_eq_false this]at d;exact d
   ·have f:xs[i]=ys[i]:=by simpa using f
    rw[bN b p];refine u (i+1) _ _ ⟨rfl,rfl,b,?_⟩ (by omega);rw[ax b,ax (m▸b),o,f]
  ·rw[g.len]at k
   have:i=xs.length:=by omega
   subst this;have:xs=ys:=by
    rw[ba,m,ba]at o;exact o
   rw[decide_eq_true this]at d;exact d
theorem GI{W:Nat→Prop}{s:SliceV}{xs:List Int}{f:Value}{p:Int→Bool}(St:ac→Prop)(k:∀h,St h→Nums W h s xs)
  (w:∀h x (K:Bool→ac→Prop),St h→x∈xs→(∀h',St h'→K (p x) h')→HV PG f [.int .u32 x] [.c .bool] K h)
  (u:xs.length≤4611686018427387904){h:ac}(y:St h){K:Int→ac→Prop}(o:∀(n:Int) h',St h'→(n≥0↔∃x∈xs,p x=true)→K n h'):
  HC PG eS [.slice s.a s.len s.cap,f] [.c (.int .i64)] K h:=by
 refine jM s f ?_;unfold gB aR cx;refine LoopP.ghost (fun(i:Nat) (t:Int) h'=>t=(i:Int)∧St h'∧i≤xs.length∧∀x∈xs.take i,p x=false) (fun i=>xs.length-i) 0 ⟨rfl,y,aP _,by simp⟩ ?_
 rintro I i t h' ⟨rfl,m,hi,g⟩ z;have d:=k _ m;refine aw (fun b=>?_) (fun e=>?_)
 ·rw[d.len]at b
  have b:i<xs.length:=by omega
  obtain⟨a,v,_,hx⟩:=Nums.at d b;refine⟨by rw[d.len];omega,a,v,_,hx,?_⟩;refine w _ _ _ m (aU b) fun A c=>?_
  refine CondP.intro (fun q=>?_) (fun j=>?_)
  ·exact o _ _ c ⟨fun _=>⟨_,aU b,q⟩,fun _=>by omega⟩
  ·rw[bN b u]
   refine z (i+1) _ _ ⟨rfl,c,b,?_⟩ (by omega);rw[ax b];intro x hx;rcases bc.1 hx with h|h
   ·exact g x h
   ·rw[aB.1 h];exact j
 ·rw[d.len]at e
  have:i=xs.length:=by omega
  subst this;rw[ba]at g;exact o _ _ m ⟨fun h=>by omega,fun⟨x,hx,h⟩=>by rw[g x hx]at h;cases h⟩
theorem uZ{W:Nat→Prop}{s:SliceV}{xs:List Int}{b:Value}{p:Int→Bool}(St:ac→Prop)(c:∀h,St h→Nums W h s xs)
  (e:∀h x (K:Bool→ac→Prop),St h→x∈xs→(∀h',St h'→K (p x) h')→HV PG b [.int .u32 x] [.c .bool] K h)
  (a:xs.length≤4611686018427387904){h:ac}(f:St h){K:Bool→ac→Prop}(d:∀h',St h'→K (xs.any p) h'):
  HC PG dT [.slice s.a s.len s.cap,b] [.c .bool] K h:=by
 refine ot s b ?_;unfold iV;refine GI St c e a f fun n h' g a=>?_
 have:decide (n≥0)=xs.any p:=by
  rw[eV,decide_eq_true_iff,a,bS]
 rw[this];exact d _ g
theorem zt{W:Nat→Prop}{h:ac}{s:SliceV}{xs:List Int}(d:Nums W h s xs)(j:xs.length*4≤140737488355328){K:SliceV→ac→Prop}
  (g:∀s' h',OwnS u32 1 eM (fun b=>h.size≤b) h' s' xs→Upd No h h'→(s.a=none→xs= [])→K s' h'):HC PG eP [.slice s.a s.len s.cap] [.c .slice] K h:=by
 refine tu s ?_;unfold mf;refine CondP.intro (fun i=>?_) (fun c=>?_)
 ·have i:s.a=none:=by simpa using i
  have hx:xs= []:=by
   by_cases hx:xs= []
   ·exact hx
   ·obtain⟨a,k,_⟩:=d.row hx
    rw[i]at k;cases k
  subst hx;exact g _ _ (OwnS.nil qV) (Upd.refl _ _) fun _=>rfl
 ·have m:=d.upd (Upd.hnew No h [] eM) (fun _ h=>h.elim)
  refine⟨_,m.srow,?_⟩;refine AppP.own (f:=u32) (M:=fun b=>h.size≤b) (xs:= []) (ys:=xs) ⟨rfl,qV,aj _,.inl rfl⟩ d.len rfl ?_ rfl (by omega) (by simpa using j) (by rw[eI];omega) fun s' h' n o=>?_
  ·clear g d m j
   induction xs with
   |nil=>rfl
   |cons x xs ih=>rw[aK];exact ih
  ·refine g _ _ n ((Upd.hnew No h [] eM).trans o fun b hb=>.inr hb) fun e=>?_
   rw[e]at c;cases c
end Go.Proofs
namespace Go.Proofs
open Go.Lift
abbrev KE:KeyE Int:=UG .u32
abbrev de:=List (Int×List Int)
def Rep(W:Nat→Prop)(h:ac)(m:List (Int×SliceV))(L:de):Prop:=
 ∀id,(∃s ps,cE m id=some s∧cE L id=some ps∧Nums W h s ps)∨(cE m id=none∧cE L id=none)
structure GraphAt(W:Nat→Prop)(h:ac)(gp gm:Nat)(L:de)(nx:Int):Prop where
 blk:h[gp]? =some (.cells #[.map (some gm),.int .u32 nx] fY (0,0))
 map:∃m,MapAt KE sv h gm m∧Rep W h m L
 wp:W gp
 wm:W gm
 lt:∀b,W b→b<h.size
 nd:(L.map (·.1)).Nodup
theorem Rep.upd{W M:Nat→Prop}{h h':ac}{m:List (Int×SliceV)}{L:de}(r:Rep W h m L)(k:Upd M h h')(hm:∀b,M b→W b∨h.size≤b):Rep W h' m L:=fun id=>by
 rcases r id with⟨s,ps,d,a,e⟩|c
 ·exact .inl ⟨s,ps,d,a,e.upd k hm⟩
 ·exact .inr c
theorem GraphAt.upd{W M:Nat→Prop}{h h':ac}{gp gm:Nat}{L:de}{nx:Int}(g:GraphAt W h gp gm L nx)(k:Upd M h h')(hm:∀b,M b→(W b∧b≠gp∧b≠gm)∨h.size≤b):GraphAt W h' gp gm L nx:=by
 have a:=g.lt;have i:¬M gp:=fun e=>(hm _ e).elim (fun e=>e.2.1 rfl) fun e=>absurd (a _ g.wp) (gC.2 e)
 have d:¬M gm:=fun e=>(hm _ e).elim (fun e=>e.2.2 rfl) fun e=>absurd (a _ g.wm) (gC.2 e)
 obtain⟨m,c,f⟩:=g.map;exact⟨k.get g.blk i,⟨m,c.upd k d,f.upd k fun b hb=>(hm b hb).imp (·.1) id⟩,g.wp,g.wm,fun b hb=>aO (a b hb) k.size,g.nd⟩
theorem GraphAt.upd0{W:Nat→Prop}{h h':ac}{gp gm:Nat}{L:de}{nx:Int}(g:GraphAt W h gp gm L nx)(k:Upd No h h'):GraphAt W h' gp gm L nx:=g.upd k fun _ h=>h.elim
theorem GraphAt.c0{W:Nat→Prop}{h:ac}{gp gm:Nat}{L:de}{nx:Int}(g:GraphAt W h gp gm L nx):aX h ⟨gp,0,none⟩=some (.map (some gm)):=by rw[aL g.blk];rfl
theorem GraphAt.c1{W:Nat→Prop}{h:ac}{gp gm:Nat}{L:de}{nx:Int}(g:GraphAt W h gp gm L nx):aX h ⟨gp,1,none⟩=some (.int .u32 nx):=by rw[aL g.blk];rfl
abbrev kC(L:de):List Int:=L.map (·.1)
theorem Pp{L:de}{id:Int}:(cE L id).isSome=decide (id∈kC L):=by
 cases h:cE L id with
 |none=>rw[decide_eq_false (hJ.1 h)];rfl
 |some v=>
  have:id∈kC L:=by
   by_cases hm:id∈kC L
   ·exact hm
   ·rw[hJ.2 hm]at h;cases h
  rw[decide_eq_true this];rfl
theorem Rep.some{W:Nat→Prop}{h:ac}{m:List (Int×SliceV)}{L:de}(r:Rep W h m L)(id:Int):(cE m id).isSome=decide (id∈kC L):=by
 rw[←Pp];rcases r id with⟨s,ps,b,a,_⟩|⟨b,a⟩<;>rw[b,a]<;>rfl
theorem Rep.len{W:Nat→Prop}{h:ac}{m:List (Int×SliceV)}{L:de}(r:Rep W h m L)(b:(m.map (·.1)).Nodup)(a:(kC L).Nodup):m.length=L.length:=by
 have:(m.map (·.1)).Perm (kC L):=by
  rw[List.perm_ext_iff_of_nodup b a];intro id;have:=r.some id;have c:id∈m.map (·.1)↔(cE m id).isSome=true:=by
   cases hl:cE m id with
   |none=>simp[hJ.1 hl]
   |some v=>
    simp only[Option.isSome_some,iff_true];by_cases hm:id∈m.map (·.1)
    ·exact hm
    ·rw[hJ.2 hm]at hl;cases hl
  rw[c,this,decide_eq_true_iff]
 have:=this.length_eq;simpa using this
def T3:List Int→Bool
 | [a,b]=>a==b
 |_=>false
def pz(ps:List Int):Int:=if ps.length>2∨T3 ps=true then 1 else 0
def lK(L:de)(ps:List Int):Int:=if ps.any (fun p=> !decide (p∈kC L))then 4 else if L.length≥1024 then 6 else 0
theorem CC{W:Nat→Prop}{h:ac}{gp gm:Nat}{L:de}{nx:Int}(g:GraphAt W h gp gm L nx)(id:Int){K:Bool→ac→Prop}(b:K (decide (id∈kC L)) h):
  HC PG gl [.pointer (some ⟨gp,0,none⟩),.int .u32 id] [.c .bool] K h:=by
 refine zV (some ⟨gp,0,none⟩) id ?_;unfold sO aR;obtain⟨m,hm,a⟩:=g.map;refine CondP.intro (fun e=>by cases e) fun _=>⟨_,rfl,_,g.c0,_,_,hm.get id ⟨none,0,0⟩,?_⟩
 rw[a.some id];exact b
theorem RA{W:Nat→Prop}{h:ac}{gp gm:Nat}{L:de}{nx:Int}(g:GraphAt W h gp gm L nx){K:Int→ac→Prop}(b:K (L.length:Int) h):
  HC PG nJ [.pointer (some ⟨gp,0,none⟩)] [.c (.int .i64)] K h:=by
 refine zU (some ⟨gp,0,none⟩) ?_;unfold sN aR;obtain⟨m,hm,a⟩:=g.map;refine CondP.intro (fun e=>by cases e) fun _=>⟨_,rfl,_,g.c0,_,hm.len,?_⟩
 rw[a.len hm.nodup g.nd];exact b
theorem Px{W:Nat→Prop}{h:ac}{gp gm:Nat}{L:de}{nx:Int}(g:GraphAt W h gp gm L nx){K:Int→ac→Prop}(a:K nx h):
  HC PG mN [.pointer (some ⟨gp,0,none⟩)] [.c (.int .u32)] K h:=by
 refine yF (some ⟨gp,0,none⟩) ?_;unfold rI ci;exact CondP.intro (fun e=>by cases e) fun _=>⟨_,rfl,_,g.c1,a⟩
theorem Mi{W:Nat→Prop}{h:ac}{p:Option Addr}{s:SliceV}{ps:List Int}(d:Nums W h s ps){K:Int→ac→Prop}(c:K (pz ps) h):
  HC PG ki [.pointer p,.slice s.a s.len s.cap] [.c (.int .i64)] K h:=by
 refine zS p s ?_;unfold sL aR cx;refine Join.plain (aw (fun g=>?_) fun k=>CondP.intro (fun f=>?_) fun b=>?_)
 ·rw[d.len]at g
  rw[show pz ps=1 from if_pos (.inl (by omega))]at c
  exact ay.2 c
 ·rw[d.len]at f
  have f:ps.length=2:=by
   have:(ps.length:Int)=2:=by simpa using f
   omega
  obtain⟨a,n,_,hx⟩:=Nums.at d (i:=0) (by omega);obtain⟨a',m,_,o⟩:=Nums.at d (i:=1) (by omega);refine⟨by rw[d.len];omega,a,n,_,hx,by rw[d.len];omega,a',m,_,o,?_⟩
  have e:pz ps=if(ps[0]==ps[1])=true then 1 else 0:=by
   match ps,f with
   | [x,y],_=>simp[pz,T3]
  rw[e]at c;exact CondP.intro (fun j=>by rw[if_pos j]at c;exact c) fun j=>by rw[if_neg (by rw[j];decide)]at c;exact c
 ·rw[d.len]at k b
  have b:ps.length≠2:=fun e=>by rw[e]at b;exact absurd b (by decide)
  have hd:T3 ps=false:=by
   match ps,b with
   | [],_=>rfl
   | [_],_=>rfl
   | [_,_],h=>exact absurd rfl h
   |_::_::_::_,_=>rfl
  rw[show pz ps=0 from if_neg (by rw[hd];simp;omega)]at c
  exact ah.2 c
theorem Iu{W:Nat→Prop}{h:ac}{gp gm:Nat}{L:de}{nx:Int}(g:GraphAt W h gp gm L nx){s:SliceV}{ps:List Int}(u:Nums W h s ps)(o:ps.length≤4611686018427387904)
  {K:Int→ac→Prop}(b:∀h',Upd No h h'→K (lK L ps) h'):HC PG jy [.pointer (some ⟨gp,0,none⟩),.slice s.a s.len s.cap] [.c (.int .i64)] K h:=by
 refine yE (some ⟨gp,0,none⟩) s ?_;unfold rH aR;have j:=Upd.hnew No h [.pointer (some ⟨gp,0,none⟩)] p7;refine uZ (p:=fun p=> !decide (p∈kC L)) (fun h'=>GraphAt W h' gp gm L nx∧Nums W h' s ps∧h'[h.size]? =some (.cells #[.pointer (some ⟨gp,0,none⟩)] p7 (0,0))∧Upd No h h') (fun h' f=>f.2.1) ?_ o ⟨g.upd0 j,u.upd j fun _ h=>h.elim,bG h _ _,j⟩ ?_
 ·rintro h' x K ⟨c,d,hb,a⟩ _ i
  refine HV.mk' (wD x ⟨h.size,0,none⟩ ?_);unfold pU rP;refine⟨_,by rw[aL hb];rfl,?_⟩
  exact CC c x (i h' ⟨c,d,hb,a⟩)
 ·rintro h' ⟨c,d,hb,a⟩
  obtain⟨m,hm,t⟩:=c.map;refine CondP.intro (fun n=>?_) fun e=>?_
  ·rw[show lK L ps=4 from if_pos n]at b
   exact b h' a
  ·refine⟨_,by rw[bZ,aL hb];rfl,_,rfl,_,c.c0,_,hm.len,?_⟩
   rw[t.len hm.nodup c.nd];refine aw (fun k=>?_) fun q=>?_
   ·rw[show lK L ps=6 from(if_neg (by rw[e];decide)).trans (if_pos (by omega))]at b
    exact b h' a
   ·rw[show lK L ps=0 from(if_neg (by rw[e];decide)).trans (if_neg (by omega))]at b
    exact b h' a
end Go.Proofs
namespace Go.Proofs
open Go.Lift
def uw(L:de)(id:Int)(ps:List Int):de:=L.takeWhile (fun v=>decide (v.1<id))++(id,ps)::L.dropWhile (fun v=>decide (v.1<id))
def mR(L:de)(nx:Int)(ps:List Int):(Int×Int)×de×Int:=
 if pz ps≠0 then((0,pz ps),L,nx)else if lK L ps≠0 then((0,lK L ps),L,nx)else if nx≥2147483648 then((0,6),L,nx)else((nx,0),uw L nx ps,nx+1)
def gA(L:de)(nx:Int)(id:Int)(ps:List Int):Int×de×Int:=
 if pz ps≠0∨id=0∨id≥2147483648∨ps.any (fun p=>decide (p≥id))=true then(1,L,nx)else if id∈kC L then(7,L,nx)else if lK L ps≠0 then(lK L ps,L,nx)else(0,uw L id ps,if id+1>nx then id+1 else nx)
abbrev uP(a b:Nat):Nat→Prop:=fun x=>x=a∨x=b
theorem FT{κ β:Type}[DecidableEq κ](l l':List (κ×β))(k:κ):cE (l++l') k=(cE l k).or (cE l' k):=by
 induction l with
 |nil=>simp[cE]
 |cons p l ih=>
  obtain⟨k',u⟩:=p;simp only[List.cons_append,cE,ih];split<;>simp
theorem Nt{L:de}{id:Int}{ps:List Int}(c:id∉kC L)(j:Int):cE (uw L id ps) j=if j=id then some ps else cE L j:=by
 have b:∀p:Int×List Int→Bool,cE L j=(cE (L.takeWhile p) j).or (cE (L.dropWhile p) j):=fun p=>by rw[←FT,List.takeWhile_append_dropWhile]
 unfold uw;rw[FT];simp only[cE];by_cases a:j=id
 ·subst a
  have:cE (L.takeWhile fun v=>decide (v.1<j)) j=none:=hJ.2 fun hm=>c (by
   obtain⟨x,hx,e⟩:=bE.1 hm
   exact bE.2 ⟨x,List.takeWhile_subset _ hx,e⟩)
  rw[this];simp
 ·simp only[a,if_false]
  exact(b _).symm
theorem wV(L:de)(id:Int)(ps:List Int):(uw L id ps).Perm ((id,ps)::L):=by
 unfold uw;refine List.perm_middle.trans ?_;rw[List.takeWhile_append_dropWhile]
theorem insV_ids{L:de}{id:Int}{ps:List Int}:(kC (uw L id ps)).Perm (id::kC L):=(wV L id ps).map _
theorem KL{L:de}{id:Int}{ps:List Int}(h:(kC L).Nodup)(a:id∉kC L):(kC (uw L id ps)).Nodup:=by
 rw[insV_ids.nodup_iff];exact fH.2 ⟨a,h⟩
theorem Rep.put{W:Nat→Prop}{h h':ac}{m:List (Int×SliceV)}{L:de}(r:Rep W h m L){id:Int}{s:SliceV}{ps:List Int}(g:∀s xs,Nums W h s xs→Nums W h' s xs)(i:Nums W h' s ps)(b:id∉kC L):Rep W h' (jZ m id s) (uw L id ps):=fun j=>by
 rw[FS,Nt b];by_cases a:j=id
 ·simp only[a,if_true];exact .inl ⟨s,ps,rfl,rfl,i⟩
 ·simp only[a,if_false]
  rcases r j with⟨s,ps,e,c,f⟩|d
  ·exact .inl ⟨s,ps,e,c,g s ps f⟩
  ·exact .inr d
theorem GraphAt.ne{W:Nat→Prop}{h:ac}{gp gm:Nat}{L:de}{nx:Int}(g:GraphAt W h gp gm L nx):gm≠gp:=fun e=>by
 obtain⟨m,⟨ms,c,hm,_⟩,_⟩:=g.map;have:=hm.here;rw[e,g.blk]at this;cases this
theorem GraphAt.put{W:Nat→Prop}{h:ac}{gp gm:Nat}{L:de}{nx:Int}(g:GraphAt W h gp gm L nx){id:Int}{s:SliceV}{ps:List Int}(j:Nums W h s ps)(n:id∉kC L)(d:Int):
  GraphAt W (hset (kP h gm (.int .u32 id) (sv s)) ⟨gp,1,none⟩ (.int .u32 d)) gp gm (uw L id ps) d∧Upd (uP gp gm) h (hset (kP h gm (.int .u32 id) (sv s)) ⟨gp,1,none⟩ (.int .u32 d))∧
   Wr (kP h gm (.int .u32 id) (sv s)) ⟨gp,1,none⟩∧aX (kP h gm (.int .u32 id) (sv s)) ⟨gp,1,none⟩=some (.int .u32 nx)∧Upd (uP gp gm) h (kP h gm (.int .u32 id) (sv s)):=by
 obtain⟨m,hm,p⟩:=g.map;have f:=g.ne;have k1:Upd (· =gm) h (kP h gm (.int .u32 id) (sv s)):=pt h _ _ rfl
 have a:=k1.get g.blk (Ne.symm f);have o:Upd (· =gp) (kP h gm (.int .u32 id) (sv s)) (hset (kP h gm (.int .u32 id) (sv s)) ⟨gp,1,none⟩ (.int .u32 d)):=Upd.hset _ _ rfl
 have i:Upd (uP gp gm) h (kP h gm (.int .u32 id) (sv s)):=k1.mono fun b hb=>.inl (.inr hb)
 have k:Upd (uP gp gm) h (hset (kP h gm (.int .u32 id) (sv s)) ⟨gp,1,none⟩ (.int .u32 d)):=i.trans o fun b hb=>.inl (.inl hb)
 have c:∀b,uP gp gm b→W b∨h.size≤b:=fun b hb=>.inl (hb.elim (fun e=>e▸g.wp) fun e=>e▸g.wm)
 refine⟨⟨?_,⟨_,(MapAt.put hm id s).upd o f,p.put (fun s xs j=>j.upd k c) (j.upd k c) n⟩,g.wp,g.wm,fun b hb=>aO (g.lt b hb) k.size,KL g.nd n⟩,k,f6 a (by simp),by rw[aL a];rfl,i⟩
 rw[tO a,gg a];rfl
theorem RB{W:Nat→Prop}{h:ac}{gp gm:Nat}{L:de}{nx:Int}(g:GraphAt W h gp gm L nx)(x:0≤nx)(p:nx∉kC L){s:SliceV}{ps:List Int}(n:Nums W h s ps)(z:ps.length*4≤140737488355328)
  {K:Int×Int→ac→Prop}(c:∀h',Upd (uP gp gm) h h'→GraphAt W h' gp gm (mR L nx ps).2.1 (mR L nx ps).2.2→K (mR L nx ps).1 h'):
  HC PG nL [.pointer (some ⟨gp,0,none⟩),.slice s.a s.len s.cap] [.c (.int .u32),.c (.int .i64)] K h:=by
 refine zW (some ⟨gp,0,none⟩) s ?_;unfold sQ aR ci c9 tG;refine CondP.intro (fun e=>by cases e) fun _=>Mi n ?_
 refine CondP.intro (fun a=>?_) fun a=>?_
 ·have a:pz ps≠0:=by simpa using a
  rw[show mR L nx ps=_ from if_pos a]at c
  exact c h (Upd.refl _ _) g
 ·have a:¬pz ps≠0:=by simpa using a
  refine Iu g n (by omega) fun h' i=>?_
  refine CondP.intro (fun d=>?_) fun d=>?_
  ·have d:lK L ps≠0:=by simpa using d
   rw[show mR L nx ps=_ from(if_neg a).trans (if_pos d)]at c
   exact c h' i.wide (g.upd0 i)
  ·have d:¬lK L ps≠0:=by simpa using d
   have f:=g.upd0 i;have u:=n.upd i fun _ h=>h.elim
   refine⟨_,rfl,_,f.c1,aw (fun q=>?_) fun q=>?_⟩
   ·rw[show mR L nx ps=_ from(if_neg a).trans ((if_neg d).trans (if_pos q))]at c
    exact c h' i.wide f
   ·refine⟨_,rfl,_,f.c1,_,rfl,_,f.c0,zt u z fun s' t C j _=>?_⟩
    have k:=f.upd0 j;obtain⟨m,hm,D⟩:=k.map;have o:Nums W t s' ps:=C.sl fun b hb _ v=>absurd (f.lt b v) (gC.2 hb)
    obtain⟨y,B,w,A,_⟩:=k.put o p (nx+1);refine⟨k.c0,_,rfl,hm.isMap,_,rfl,_,A,_,rfl,w,?_⟩;rw[show IntKind.wrap .u32 (nx+1)=nx+1 from Go.IntWalk.u32_in _ (by omega)]
    rw[show mR L nx ps=_ from(if_neg a).trans ((if_neg d).trans (if_neg q))]at c
    exact c _ ((i.wide.tr j.wide).tr B) y
end Go.Proofs
namespace Go.Proofs
open Go.Lift
theorem Ry{W:Nat→Prop}{h:ac}{gp gm:Nat}{L:de}{nx:Int}(g:GraphAt W h gp gm L nx){id:Int}(V:0≤id){s:SliceV}{ps:List Int}(N:Nums W h s ps)(S:ps.length*4≤140737488355328)
  {K:Int→ac→Prop}(n:∀h',Upd (uP gp gm) h h'→GraphAt W h' gp gm (gA L nx id ps).2.1 (gA L nx id ps).2.2→K (gA L nx id ps).1 h'):
  HC PG nI [.pointer (some ⟨gp,0,none⟩),.int .u32 id,.slice s.a s.len s.cap] [.c (.int .i64)] K h:=by
 refine zT (some ⟨gp,0,none⟩) id s ?_;unfold sM aR ci rP c9 tG;have f:=Upd.hnew No h [.int .u32 id] eM;have I:=g.upd0 f;have q:Nums W _ s ps:=N.upd f fun _ h=>h.elim
 have u:(hnew h [.int .u32 id] eM)[h.size]? =some (.cells #[.int .u32 id] eM (0,0)):=bG ..;have hc:∀{h':ac},Upd No (hnew h [.int .u32 id] eM) h'→aX h' (aH h)=some (.int .u32 id):=fun k=>by rw[bZ,aL (k.get0 u)];rfl
 refine CondP.intro (fun e=>by cases e) fun _=>Mi q ?_
 refine Join.intro (fun t h'=>Upd No (hnew h [.int .u32 id] eM) h'∧t=decide (pz ps≠0∨id=0∨id≥2147483648∨ps.any (fun p=>decide (p≥id))=true)) (fun R A=>?_) ?_
 ·refine CondP.intro (fun d=>?_) fun d=>?_
  ·have d:pz ps≠0:=by simpa using d
   exact A _ _ ⟨Upd.refl _ _,(decide_eq_true (.inl d)).symm⟩
  ·have d:¬pz ps≠0:=by simpa using d
   refine⟨_,hc (Upd.refl _ _),CondP.intro (fun c=>?_) fun c=>?_⟩
   ·have c:id=0:=by simpa using c
    exact A _ _ ⟨Upd.refl _ _,(decide_eq_true (.inr (.inl c))).symm⟩
   ·have c:¬id=0:=by simpa using c
    refine⟨_,hc (Upd.refl _ _),aw (fun i=>?_) fun i=>?_⟩
    ·exact A _ _ ⟨Upd.refl _ _,(decide_eq_true (.inr (.inr (.inl i)))).symm⟩
    ·refine uZ (p:=fun p=>decide (p≥id)) (fun h'=>h'=hnew h [.int .u32 id] eM) (fun h' e=>by rw[e];exact q) ?_ (by omega) rfl fun h' e=>?_
     ·rintro h' x K rfl _ E
      refine HV.mk' (xk x ⟨h.size,0,none⟩ ?_);unfold qE;exact⟨_,hc (Upd.refl _ _),E _ rfl⟩
     ·subst e
      refine A _ _ ⟨Upd.refl _ _,?_⟩;rw[eV,decide_eq_true_iff];simp[d,c,i]
 ·rintro t h' ⟨j,rfl⟩
  refine aw (fun d=>?_) fun d=>?_
  ·rw[show gA L nx id ps=_ from if_pos d]at n
   exact n h' (f.wide.tr j.wide) (I.upd0 j)
  ·have z:=I.upd0 j
   have v:=q.upd j fun _ h=>h.elim
   refine⟨_,hc j,CC z id (aw (fun c=>?_) fun c=>?_)⟩
   ·rw[show gA L nx id ps=_ from(if_neg d).trans (if_pos c)]at n
    exact n h' (f.wide.tr j.wide) z
   ·refine Iu z v (by omega) fun Y a=>?_
    have y:=z.upd0 a;have F:=v.upd a fun _ h=>h.elim
    refine CondP.intro (fun i=>?_) fun i=>?_
    ·have i:lK L ps≠0:=by simpa using i
     rw[show gA L nx id ps=_ from(if_neg d).trans ((if_neg c).trans (if_pos i))]at n
     exact n _ ((f.wide.tr j.wide).tr a.wide) y
    ·have i:¬lK L ps≠0:=by simpa using i
     refine⟨_,rfl,_,y.c0,_,hc (j.tr a),zt F S fun s' C X o _=>?_⟩
     have H:=y.upd0 o;obtain⟨m,hm,Z⟩:=H.map;have B:Nums W C s' ps:=X.sl fun b hb _ J=>absurd (y.lt b J) (gC.2 hb)
     obtain⟨Q,U,O,T,P⟩:=H.put B c (if id+1>nx then id+1 else nx)
     have hi:id<2147483648:=by omega
     have D:¬uP gp gm h.size:=fun e=>e.elim (fun e=>absurd (g.lt _ (e▸g.wp)) (jV _)) fun e=>absurd (g.lt _ (e▸g.wm)) (jV _)
     have w:=((j.tr a).tr o).get0 u;have G:=P.get w D;refine⟨by rw[bZ,aL w];rfl,H.c0,_,rfl,hm.isMap,_,rfl,_,T,id,by rw[bZ,aL G];rfl,_,rfl,O,?_⟩
     rw[show IntKind.wrap .u32 (id+1)=id+1 from Go.IntWalk.u32_in _ (by omega)]
     rw[show gA L nx id ps=_ from(if_neg d).trans ((if_neg c).trans (if_neg i))]at n
     exact n _ ((((f.wide.tr j.wide).tr a.wide).tr o.wide).tr U) Q
theorem Is{W:Nat→Prop}{h:ac}{gp gm:Nat}{L:de}{nx:Int}(g:GraphAt W h gp gm L nx)(n:Int)
  {K:Bool→ac→Prop}(c:∀h',Upd (uP gp gm) h h'→GraphAt W h' gp gm L (if n<nx∨n>2147483648 then nx else n)→K (!decide (n<nx∨n>2147483648)) h'):
  HC PG jX [.pointer (some ⟨gp,0,none⟩),.int .u32 n] [.c .bool] K h:=by
 refine vv (some ⟨gp,0,none⟩) n ?_;unfold oy ci c9;refine Join.intro (fun t h'=>h'=h∧t=decide (n<nx∨n>2147483648)) (fun R d=>?_) ?_
 ·refine CondP.intro (fun e=>by cases e) fun _=>⟨_,rfl,_,g.c1,aw (fun a=>?_) fun a=>?_⟩
  ·exact d _ _ ⟨rfl,(decide_eq_true (.inl a)).symm⟩
  ·refine d _ _ ⟨rfl,?_⟩
   rw[eV,decide_eq_true_iff,decide_eq_true_iff];simp[a]
 ·rintro t h' ⟨rfl,rfl⟩
  refine aw (fun a=>?_) fun a=>?_
  ·rw[if_pos a,decide_eq_true a]at c
   exact c h' (Upd.refl _ _) g
  ·rw[if_neg a,decide_eq_false a]at c
   refine⟨_,rfl,f6 g.blk (by simp),?_⟩;have k:Upd (· =gp) h' (hset h' ⟨gp,1,none⟩ (.int .u32 n)):=Upd.hset _ _ rfl
   obtain⟨m,hm,f⟩:=g.map;refine c _ (k.mono fun b hb=>.inl (.inl hb)) ⟨?_,⟨m,hm.upd k g.ne,f.upd k fun b hb=>.inl (hb▸g.wp)⟩,g.wp,g.wm,fun b hb=>aO (g.lt b hb) k.size,g.nd⟩
   show(hset h' ⟨gp,0+1,none⟩ _)[gp]? =_
   rw[tO g.blk,gg g.blk];rfl
theorem It{W:Nat→Prop}{h:ac}{gp gm:Nat}{L:de}{nx:Int}(g:GraphAt W h gp gm L nx)(id:Int)(j:∀v∈L,v.2.length*4≤140737488355328)
  {K:SliceV→ac→Prop}(a:∀s' h',OwnS u32 1 eM (fun b=>h.size≤b) h' s' ((cE L id).getD [])→Upd No h h'→K s' h'):
  HC PG jY [.pointer (some ⟨gp,0,none⟩),.int .u32 id] [.c .slice] K h:=by
 refine vx (some ⟨gp,0,none⟩) id ?_;unfold oz aR;obtain⟨m,hm,k⟩:=g.map;refine CondP.intro (fun e=>by cases e) fun _=>⟨_,rfl,_,g.c0,_,_,hm.get id ⟨none,0,0⟩,?_⟩
 rcases k id with⟨s,ps,d,c,n⟩|⟨d,c⟩
 ·rw[d]
  rw[c]at a;exact zt n (j _ ((m9 g.nd).1 c)) fun s' h' f i _=>a s' h' f i
 ·rw[d]
  rw[c]at a;exact zt (W:=No) (xs:= []) (Sl.nil qV) (by simp) fun s' h' f i _=>a s' h' f i
theorem Rz{h:ac}{K:Option Addr→ac→Prop}(d:∀h',Upd No h h'→GraphAt (uP (h.size+1) h.size) h' (h.size+1) h.size [] 1→K (some ⟨h.size+1,0,none⟩) h'):
  HC PG db [] [.c .ptr] K h:=by
 refine Je ?_;unfold B6;have k1:=Upd.push No h (.map #[] 0);have hm:MapAt KE sv (h.push (.map #[] 0)) h.size []:=MapAt.new h;have c:=Upd.hnew No (h.push (.map #[] 0)) [.map (some h.size),.int .u32 1] fY;have a:(h.push (.map #[] 0)).size=h.size+1:=by simp
 have:=d _ (k1.tr c) ⟨by
  have:=bG (h.push (.map #[] 0)) [.map (some h.size),.int .u32 1] fY
  rw[a]at this;exact this,⟨[],hm.upd c id,fun id=>.inr ⟨rfl,rfl⟩⟩,.inl rfl,.inr rfl,fun b hb=>by rw[eI,a];rcases hb with rfl|rfl<;>omega,List.nodup_nil⟩
 rw[←a]at this;exact this
end Go.Proofs
namespace Go.Proofs
open Go.Lift
theorem ut:∀xs:List Int,bU (xs.flatMap u32)=true
 | []=>rfl
 |x::xs=>by rw[aK];exact ut xs
abbrev parV(L:de)(id:Int):List Int:=(cE L id).getD []
inductive UpG(L:de):Int→Int→Prop
 |refl {a:Int}:a∈kC L→UpG L a a
 |step {a p b:Int}:a∈kC L→p∈parV L a→UpG L p b→UpG L a b
theorem UpG.left{L:de}{a b:Int}(h:UpG L a b):a∈kC L:=by cases h<;>assumption
theorem GraphAt.more{W Q:Nat→Prop}{a h:ac}{gp gm:Nat}{L:de}{nx:Int}(g:GraphAt W a gp gm L nx)(k:Upd No a h)(c:∀b,Q b→a.size≤b∧b<h.size):GraphAt (fun b=>W b∨Q b) h gp gm L nx:=by
 obtain⟨m,hm,e⟩:=g.map;refine⟨k.get0 g.blk,⟨m,hm.upd k id,fun j=>?_⟩,.inl g.wp,.inl g.wm,fun b hb=>hb.elim (fun hb=>aO (g.lt b hb) k.size) fun hb=>(c b hb).2,g.nd⟩
 rcases e j with⟨s,ps,f,d,i⟩|a
 ·exact .inl ⟨s,ps,f,d,(i.less fun b hb=>hb.imp id fun hb=>(c b hb).1).upd k fun _ h=>h.elim⟩
 ·exact .inr a
theorem GraphAt.less{W W':Nat→Prop}{h:ac}{gp gm:Nat}{L:de}{nx:Int}(g:GraphAt W h gp gm L nx)(d:∀b,W' b→W b)(c:W' gp)(a:W' gm):GraphAt W' h gp gm L nx:=by
 obtain⟨m,hm,e⟩:=g.map;refine⟨g.blk,⟨m,hm,fun j=>?_⟩,c,a,fun b hb=>g.lt b (d b hb),g.nd⟩
 rcases e j with⟨s,ps,c,a,i⟩|f
 ·exact .inl ⟨s,ps,c,a,i.less fun b hb=>.inl (d b hb)⟩
 ·exact .inr f
theorem OwnS.popG{α:Type}{f:α→List Value}{d:Nat}{t:TypeId}{M:Nat→Prop}{h:ac}{a:Option Addr}{len cap:Nat}{xs:List α}{x:α}(e:OwnS f d t M h ⟨a,len,cap⟩ (xs++ [x])){n:Nat}(m:n=xs.length):OwnS f d t M h ⟨aS a 0 cap d,n-0,cap-0⟩ xs:=by
 have o:len=(xs++ [x]).length:=e.len;have j:len≤cap:=e.cap;rw[ae,aD]at o;subst m;refine⟨rfl,e.ne,by show xs.length-0≤cap-0;omega,?_⟩
 rcases e.blk with k|⟨b,c,g,hb,hc,i⟩
 ·have k:cap=0:=k
  omega
 ·have g:a=some ⟨b,0,none⟩:=g
  have i:c.length=(cap-len)*d:=i;refine .inr ⟨b,f x++c,?_,hb,?_,?_⟩
  ·show aS a 0 cap d=_
   unfold aS;rw[if_neg (by omega),g];simp
  ·rw[hc,List.flatMap_append,aK,List.flatMap_nil,List.append_nil,List.append_assoc]
  ·show(f x++c).length=(cap-0-(xs.length-0))*d
   rw[ae,(e.ne x).1,i,show cap-0-(xs.length-0)=(cap-len)+1 by omega,Nat.succ_mul];omega
theorem um:∀{l l':List Int},l.Nodup→(∀x∈l,x∈l')→l.length≤l'.length
 | [],_,_,_=>aP _
 |x::l,l',hn,h=>by
  rw[fH]at hn;have hx:=h x (au ..);have:=um (l':=l'.erase x) hn.2 fun y c=>(List.mem_erase_of_ne (a:=y) (b:=x) fun e=>hn.1 (by rw[←e];exact c)).2 (h y (aG _ c))
  rw[List.length_erase_of_mem hx]at this;have:0<l'.length:=List.length_pos_of_mem hx;rw[List.length_cons];omega
theorem Nx{W Q:Nat→Prop}{h:ac}{gp gm:Nat}{L:de}{nx:Int}(g:GraphAt W h gp gm L nx)(hQ:∀b,Q b→W b∧b≠gp∧b≠gm)(hP:∀v∈L,v.2.length≤2)(hL:L.length≤100000)
  {s:SliceV}{start:List Int}(Z:OwnS u32 1 eM (fun b=>Q b∨h.size≤b) h s start)(hn:start.length≤1000000000)
  {K:Option Nat→ac→Prop}(hk:∀r h' m,h.size≤r→MapAt KE (fun n:Int=>.int .i64 n) h' r m→(∀y,y∈m.map (·.1)↔∃s∈start,UpG L s y)→(∀y v,cE m y=some v→v=1)→Upd Q h h'→K (some r) h'):
  HC PG iZ [.pointer (some ⟨gp,0,none⟩),.slice s.a s.len s.cap] [.c .map] K h:=by
 refine xj (some ⟨gp,0,none⟩) s ?_;unfold qD aR cx rP;have k0:=Upd.push No h (.map #[] 0);have hPl:∀id,(parV L id).length≤2:=fun id=>by
  cases hl:cE L id with
  |none=>simp[parV,hl]
  |some ps=>simp only[parV,hl,Option.getD_some];exact hP _ ((m9 g.nd).1 hl)
 refine LoopP.ghost (fun(q:List Int×List (Int×Int)) (t:SliceV) h'=>Upd (fun b=>Q b∨h.size≤b) h h'∧OwnS u32 1 eM (fun b=>(Q b∨h.size≤b)∧b≠h.size) h' t q.1∧MapAt KE (fun n:Int=>.int .i64 n) h' h.size q.2∧
   (∀y v,cE q.2 y=some v→v=1)∧q.1.length≤start.length+2*q.2.length∧
   (∀y∈q.2.map (·.1),y∈kC L∧∃s∈start,UpG L s y)∧(∀x∈q.1,∀y,UpG L x y→∃s∈start,UpG L s y)∧
   (∀s∈start,s∈kC L→s∈q.2.map (·.1)∨s∈q.1)∧(∀y∈q.2.map (·.1),∀p∈parV L y,p∈kC L→p∈q.2.map (·.1)∨p∈q.1))
  (fun q=>(L.length-q.2.length)*3+q.1.length) (start,[]) ?_ ?_
 ·refine⟨k0.wide,?_,MapAt.new h,fun y v e=>(by cases e),Nat.le_add_right _ _,fun y j=>(by cases j),fun x hx y j=>⟨x,hx,j⟩,fun s Z _=>.inr Z,fun y j=>(by cases j)⟩
  have:=Z.upd k0 fun _ _=>id
  refine⟨this.len,this.ne,this.cap,?_⟩;rcases Z.blk with hb|⟨b,rest,e1,e2,e3,e4⟩
  ·exact .inl hb
  ·exact .inr ⟨b,rest,e1,⟨e2,Nat.ne_of_lt (bF e3)⟩,k0.get0 e3,e4⟩
 ·rintro I ⟨u,m⟩ t h' ⟨hu,V,hm,o,k,d,F,f,G⟩ hI
  have g1:=g.upd hu fun b hb=>hb.imp (hQ b) id
  simp only at V hm o k d F f G;refine aw (fun H=>?_) fun S=>?_
  ·rw[V.len]at H
   obtain⟨xs,x,rfl⟩:∃xs x,u=xs++ [x]:=by
    rcases List.eq_nil_or_concat u with e|⟨xs,x,e⟩
    ·subst e;simp at H
    ·exact⟨xs,x,by rw[e,List.concat_eq_append]⟩
   have N:t.len=xs.length+1:=by rw[V.len];simp
   have hw:IntKind.wrap .i64 ((t.len:Int)-1)=(xs.length:Int):=by
    rw[Go.IntWalk.i64_in _ ?_,N]
    ·omega
    ·rw[N];simp only[ae,aD]at k
     have:m.length≤L.length:=by
      have:=um (hm.nodup) (fun y j=>(d y j).1)
      simpa using this
     omega
   rw[hw];have hmL:m.length≤L.length:=by
    have:=um (hm.nodup) (fun y j=>(d y j).1)
    simpa using this
   have hsl:Nums No h' t (xs++ [x]):=V.sl fun _ _ _=>id
   obtain⟨a,ha,_,hx⟩:=Nums.at hsl (i:=xs.length) (by simp);rw[show(xs++ [x])[xs.length]=x by simp]at hx
   have hcap:=V.cap;have hop:OwnS u32 1 eM (fun b=>(Q b∨h.size≤b)∧b≠h.size) h' ⟨aS t.a 0 t.cap 1,((xs.length:Int)).toNat-0,t.cap-0⟩ xs:=OwnS.popG V (by simp)
   refine⟨by rw[N];omega,a,ha,_,hx,by omega,?_⟩
   have skip:(¬x∈kC L∨x∈m.map (·.1))→I ⟨aS t.a 0 t.cap 1,((xs.length:Int)).toNat-0,t.cap-0⟩ h':=fun hsk=>by
    refine hI (xs,m) _ _ ⟨hu,hop,hm,o,?_,d,fun z S=>F z (by simp[S]),fun s Z w=>?_,fun y j p hp A=>?_⟩ (by simp)
    ·simp only[ae,aD]at k⊢;omega
    ·rcases f s Z w with c|c
     ·exact .inl c
     ·rcases bc.1 c with c|c
      ·exact .inr c
      ·rw[aB.1 c]at w⊢
       exact .inl (hsk.resolve_left fun h=>h w)
    ·rcases G y j p hp A with c|c
     ·exact .inl c
     ·rcases bc.1 c with c|c
      ·exact .inr c
      ·rw[aB.1 c]at A⊢
       exact .inl (hsk.resolve_left fun h=>h A)
   refine Join.intro (fun t2 J=>J=h'∧(t2=true→(¬x∈kC L∨x∈m.map (·.1)))∧(t2=false→x∈kC L∧x∉m.map (·.1))) (fun R hR=>?_) ?_
   ·refine CC g1 x (CondP.intro (fun c=>?_) fun c=>?_)
    ·have c:¬x∈kC L:=by simpa using c
     exact hR _ _ ⟨rfl,fun _=>.inl c,fun e=>by cases e⟩
    ·have c:x∈kC L:=by simpa using c
     refine⟨_,_,hm.get x 0,hR _ _ ⟨rfl,?_⟩⟩;cases hl:cE m x with
     |none=>exact⟨fun e=>(by simp at e),fun _=>⟨c,hJ.1 hl⟩⟩
     |some v=>
      have:=o x v hl;subst this;refine⟨fun _=>.inr ?_,fun e=>(by simp at e)⟩
      exact bE.2 ⟨_,(m9 hm.nodup).1 hl,rfl⟩
   ·rintro t2 J ⟨rfl,e1,e2⟩
    refine CondP.intro (fun e=>skip (e1 e)) fun e=>?_
    obtain⟨D,P⟩:=e2 e;refine⟨_,_,hm.get x 0,_,rfl,hm.isMap,?_⟩;rw[hJ.2 P,show IntKind.wrap .i64 ((none:Option Int).getD 0+1)=1 by decide]
    have U:=hm.put x 1;have k1:Upd (fun b=>Q b∨h.size≤b) J (kP J h.size (.int .u32 x) (.int .i64 1)):=pt _ _ _ (.inr (aj _))
    have k1':Upd (· =h.size) J (kP J h.size (.int .u32 x) (.int .i64 1)):=pt _ _ _ rfl
    have O:=hu.tr k1;have g2:=g.upd O fun b hb=>hb.imp (hQ b) id
    have ho2:OwnS u32 1 eM (fun b=>(Q b∨h.size≤b)∧b≠h.size) _ _ xs:=hop.upd k1' fun b hb=>hb.2
    obtain⟨gmm,hgm,hr⟩:=g2.map;have hml:(jZ m x 1).length=m.length+1:=by
     have:=congrArg List.length (tR m x 1);rw[if_neg P]at this;simpa using this
    have C:(jZ m x 1).map (·.1)=m.map (·.1)++ [x]:=by rw[tR,if_neg P]
    have hmL2:m.length+1≤L.length:=by
     have:=um U.nodup (l':=kC L) (fun y j=>by
      rw[C]at j
      rcases bc.1 j with c|c
      ·exact(d y c).1
      ·rw[aB.1 c];exact D)
     rw[C]at this;simpa using this
    have X:∀y v,cE (jZ m x 1) y=some v→v=1:=fun y v hv=>by
     rw[FS]at hv;split at hv
     ·cases hv;rfl
     ·exact o y v hv
    have upx:∀y,UpG L x y→∃s∈start,UpG L s y:=F x (by simp);refine⟨_,rfl,_,g2.c0,_,_,hgm.get x ⟨none,0,0⟩,?_⟩;rcases hr x with⟨sl,ps,l1,l2,hps⟩|⟨_,l2⟩
    ·rw[l1]
     have B:parV L x=ps:=by simp[parV,l2]
     refine⟨_,hps.srow,?_⟩;have hpl:=hPl x;rw[B]at hpl;refine AppP.own ho2 hps.len rfl (ut ps) rfl (by omega) ?_ ⟨.inr O.size,?_⟩ fun s' h3 ho3 k3=>?_
     ·simp only[ae,aD]at k;omega
     ·exact Nat.ne_of_gt U.lt
     ·have hu3:=O.tr (k3.mono fun b hb=>.inl hb.1)
      refine hI (xs++ps,jZ m x 1) _ _ ⟨hu3,ho3,U.upd k3 (fun h=>h.2 rfl),X,?_,?_,?_,?_,?_⟩ ?_
      ·simp only[ae,aD]at k⊢;rw[hml];omega
      ·intro y j
       simp only[C]at j;rcases bc.1 j with c|c
       ·exact d y c
       ·rw[aB.1 c];exact⟨D,upx x (.refl D)⟩
      ·intro z S y hzy
       rcases bc.1 S with c|c
       ·exact F z (by simp[c]) y hzy
       ·exact upx y (.step D (by rw[B];exact c) hzy)
      ·intro s1 Y w
       simp only[C];rcases f s1 Y w with c|c
       ·exact .inl (cK _ c)
       ·rcases bc.1 c with c|c
        ·exact .inr (cK _ c)
        ·exact .inl (dk _ c)
      ·intro y j p hp A
       simp only[C]at j⊢;rcases bc.1 j with c|c
       ·rcases G y c p hp A with E|E
        ·exact .inl (cK _ E)
        ·rcases bc.1 E with E|E
         ·exact .inr (cK _ E)
         ·exact .inl (dk _ E)
       ·rw[aB.1 c,B]at hp
        exact .inr (dk _ hp)
      ·show(L.length-(jZ m x 1).length)*3+(xs++ps).length<(L.length-m.length)*3+(xs++ [x]).length
       rw[hml,ae,ae,aD];omega
    ·exact absurd D (hJ.1 l2)
  ·have S:u= []:=by
    rw[V.len]at S;exact List.length_eq_zero_iff.1 (by omega)
   subst S;refine hk _ _ m (aj _) hm (fun y=>⟨fun j=>(d y j).2,?_⟩) o (hu.mono fun b hb=>hb)
   rintro⟨s1,Y,hup⟩;have hup':∀a b,UpG L a b→a∈m.map (·.1)→b∈m.map (·.1):=by
    intro a b hab;induction hab with
    |refl _=>exact id
    |step c J h3 ih=>
     intro E;rcases G _ E _ J h3.left with T|T
     ·exact ih T
     ·cases T
   rcases f s1 Y hup.left with T|T
   ·exact hup' _ _ hup T
   ·cases T
end Go.Proofs
namespace Go.Proofs
open Go.Lift
abbrev iv(n:Int):Value:=.int .i64 n
theorem Sv{M:Nat→Prop}(h:ac)(x:Int)(hM:M h.size):OwnS u32 1 eM M (hnew h [.int .u32 x] eM) ⟨some (aH h),1,1⟩ [x]:=
 ⟨rfl,qV,aj _,.inr ⟨h.size,[],rfl,hM,bG ..,rfl⟩⟩
structure Small(L:de):Prop where
 two:∀v∈L,v.2.length≤2
 len:L.length≤100000
theorem KT{W:Nat→Prop}{h:ac}{gp gm:Nat}{L:de}{nx:Int}(g:GraphAt W h gp gm L nx)(d:Small L)(a:Int)
  {K:Option Nat→ac→Prop}(f:∀r h' m,h.size≤r→MapAt KE iv h' r m→(∀y,y∈m.map (·.1)↔UpG L a y)→(∀y v,cE m y=some v→v=1)→Upd No h h'→K (some r) h'):
  HC PG iZ [.pointer (some ⟨gp,0,none⟩),.slice (some (aH h)) 1 1] [.c .map] K (hnew h [.int .u32 a] eM):=by
 have k:=Upd.hnew No h [.int .u32 a] eM;have o:=g.more (Q:=(· =h.size)) k fun b hb=>by rw[eI];omega
 have c:∀b,W b→b≠h.size:=fun b hb e=>absurd (g.lt b hb) (by omega)
 refine Nx (Q:=(· =h.size)) o (fun b hb=>⟨.inr hb,fun e=>c _ g.wp (e▸hb),fun e=>c _ g.wm (e▸hb)⟩) d.two d.len (s:=⟨some (aH h),1,1⟩) (Sv h a (.inl rfl)) (by simp) fun r h' m i hm p j n=>?_
 refine f r h' m (by rw[eI]at i;omega) hm (fun y=>(p y).trans ?_) j (k.trans n fun b hb=>.inr (dP hb.symm))
 simp
theorem Ny{W:Nat→Prop}{h:ac}{gp gm:Nat}{L:de}{nx:Int}(g:GraphAt W h gp gm L nx)(i:Small L)(a c:Int)
  {K:Bool→ac→Prop}(d:∀b h',(b=true↔UpG L a c)→Upd No h h'→K b h'):
  HC PG lQ [.pointer (some ⟨gp,0,none⟩),.int .u32 a,.int .u32 c] [.c .bool] K h:=by
 refine xm (some ⟨gp,0,none⟩) a c ?_;unfold qF;refine KT g i a fun r h' m k hm j e f=>⟨_,_,hm.get c 0,d _ _ ?_ f⟩
 rw[←j c];cases hl:cE m c with
 |none=>simp[hJ.1 hl]
 |some v=>
  rw[e c v hl];simp only[Option.getD_some,gt_iff_lt,Int.zero_lt_one,decide_true,true_iff];exact bE.2 ⟨_,(m9 hm.nodup).1 hl,rfl⟩
end Go.Proofs
namespace Go.Proofs
open Go.Lift
structure Good(L:de):Prop extends Small L where
 up:(kC L).Pairwise (· < ·)
 par:∀v∈L,∀p∈v.2,p∈kC L∧p<v.1
theorem Good.nd{L:de}(g:Good L):(kC L).Nodup:=g.up.imp fun h=>Int.ne_of_lt h
theorem Good.parV{L:de}(g:Good L){a p:Int}(h:p∈parV L a):p∈kC L∧p<a∧a∈kC L:=by
 unfold Proofs.parV at h;cases hl:cE L a with
 |none=>rw[hl]at h;simp at h
 |some ps=>
  rw[hl]at h;have hm:=(m9 g.nd).1 hl;have:=g.par _ hm p (by simpa using h);exact⟨this.1,this.2,bE.2 ⟨_,hm,rfl⟩⟩
theorem UpG.snoc{L:de}{a z w:Int}(h:UpG L a z)(b:w∈Proofs.parV L z)(hi:w∈kC L):UpG L a w:=by
 induction h with
 |refl h1=>exact .step h1 b (.refl hi)
 |step h1 h2 _ ih=>exact .step h1 h2 (ih b)
theorem UpG.right{L:de}{a b:Int}(h:UpG L a b):b∈kC L:=by
 induction h with
 |refl h=>exact h
 |step _ _ _ ih=>exact ih
theorem UpG.last{L:de}{a b:Int}(h:UpG L a b):b=a∨∃z,UpG L a z∧b∈Proofs.parV L z:=by
 induction h with
 |refl _=>exact .inl rfl
 | @step a p b h1 h2 h3 ih=>
  rcases ih with rfl|⟨z,c,hb⟩
  ·exact .inr ⟨a,.refl h1,h2⟩
  ·exact .inr ⟨z,.step h1 h2 c,hb⟩
theorem UpG.le{L:de}(g:Good L){a b:Int}(h:UpG L a b):b≤a:=by
 induction h with
 |refl _=>exact Int.le_refl _
 |step _ h2 _ ih=>have:=(g.parV h2).2.1;omega
theorem UpG.trans{L:de}{a b c:Int}(h:UpG L a b)(k:UpG L b c):UpG L a c:=by
 induction h with
 |refl _=>exact k
 |step h1 h2 _ ih=>exact .step h1 h2 (ih k)
end Go.Proofs
namespace Go.Proofs
open Go.Lift
structure Inv(L:de)(nx:Int):Prop where
 good:Good L
 pos:∀id∈kC L,1≤id∧id<nx
 nx1:1≤nx
 nx2:nx≤2147483648
 few:L.length≤1024
theorem Inv.nil:Inv [] 1:=⟨⟨⟨fun v hv=>(by cases hv),by simp⟩,cQ,fun v hv=>(by cases hv)⟩,fun v hv=>(by cases hv),by omega,by omega,by simp⟩
theorem GP{id:Int}:∀{L:de},(kC L).Pairwise (· < ·)→id∉kC L→∀v∈L.dropWhile (fun v=>decide (v.1<id)),id<v.1
 | [],_,_,v,hv=>by cases hv
 |u::L,hp,hn,v,hv=>by
  simp only[kC,bT,bd,aq,not_or]at hp hn;rw[List.dropWhile_cons]at hv;split at hv
  ·exact GP hp.2 hn.2 v hv
  ·rename_i h
   have h:¬u.1<id:=by simpa using h
   rcases aq.1 hv with rfl|hv
   ·omega
   ·have:=hp.1 v.1 (bE.2 ⟨v,hv,rfl⟩);omega
theorem LX{id:Int}:∀{L:de},∀v∈L.takeWhile (fun v=>decide (v.1<id)),v.1<id
 | [],v,hv=>by cases hv
 |u::L,v,hv=>by
  rw[List.takeWhile_cons]at hv;split at hv
  ·rename_i h
   rcases aq.1 hv with rfl|hv
   ·simpa using h
   ·exact LX v hv
  ·cases hv
theorem Fy{L:de}(g:Good L){id:Int}{ps:List Int}(e:id∉kC L)(f:∀p∈ps,p∈kC L∧p<id)(i:ps.length≤2)(k:L.length<100000):Good (uw L id ps):=by
 have a:=wV L id ps;refine⟨⟨fun v hv=>?_,by rw[a.length_eq];simp;omega⟩,?_,fun v hv p b=>?_⟩
 ·rcases aq.1 (a.mem_iff.1 hv)with rfl|hv
  ·exact i
  ·exact g.two v hv
 ·unfold uw kC
  rw[eU,bT,List.pairwise_append];refine⟨(g.up.sublist ((List.takeWhile_sublist _).map _)),bd.2 ⟨fun y c=>?_,g.up.sublist ((List.dropWhile_sublist _).map _)⟩,fun x hx y c=>?_⟩
  ·obtain⟨v,hv,rfl⟩:=bE.1 c
   exact GP g.up e v hv
  ·obtain⟨u,j,rfl⟩:=bE.1 hx
   have d:=LX u j;rcases aq.1 c with rfl|c
   ·exact d
   ·obtain⟨v,hv,rfl⟩:=bE.1 c
    have:=GP g.up e v hv;omega
 ·rw[insV_ids.mem_iff]
  rcases aq.1 (a.mem_iff.1 hv)with rfl|hv
  ·exact⟨aG _ (f p b).1,(f p b).2⟩
  ·have:=g.par v hv p b
   exact⟨aG _ this.1,this.2⟩
theorem Dw{L:de}{ps:List Int}(h:lK L ps=0):(∀p∈ps,p∈kC L)∧L.length<1024:=by
 unfold lK at h;split at h
 ·cases h
 ·rename_i h1
  split at h
  ·cases h
  ·rename_i h2
   refine⟨fun p a=>?_,by omega⟩
   by_cases hm:p∈kC L
   ·exact hm
   ·exact absurd (bS.2 ⟨p,a,by simpa using hm⟩) h1
theorem Fq{ps:List Int}(h:pz ps=0):ps.length≤2:=by
 unfold pz at h;split at h
 ·cases h
 ·rename_i h1
  have:=not_or.1 h1;omega
theorem Inv.add{L:de}{nx:Int}(v:Inv L nx)(ps:List Int):Inv (mR L nx ps).2.1 (mR L nx ps).2.2:=by
 unfold mR;split
 ·exact v
 ·rename_i d
  split
  ·exact v
  ·rename_i c
   split
   ·exact v
   ·rename_i h3
    have d:pz ps=0:=by omega
    have c:lK L ps=0:=by omega
    obtain⟨b,g⟩:=Dw c;have f:nx∉kC L:=fun hm=>by have:=(v.pos nx hm).2;omega
    show Inv (uw L nx ps) (nx+1)
    refine⟨Fy v.good f (fun p e=>⟨b p e,(v.pos p (b p e)).2⟩) (Fq d) (by have:=v.few;omega),fun id a=>?_,by have:=v.nx1;omega,by omega,?_⟩
    ·rcases aq.1 (insV_ids.mem_iff.1 a)with rfl|h
     ·have:=v.nx1;omega
     ·have:=v.pos id h;omega
    ·rw[(wV L nx ps).length_eq];simp;omega
theorem Inv.put{L:de}{nx:Int}(v:Inv L nx){id:Int}(k:0≤id)(ps:List Int):Inv (gA L nx id ps).2.1 (gA L nx id ps).2.2:=by
 unfold gA;split
 ·exact v
 ·rename_i b
  have b:=not_or.1 b;have m:=b.1;have d:=not_or.1 b.2;have c:=not_or.1 d.2;split
  ·exact v
  ·rename_i h2
   split
   ·exact v
   ·rename_i e
    have o:pz ps=0:=by omega
    have e:lK L ps=0:=by omega
    obtain⟨i,q⟩:=Dw e;have g:=v.nx1;refine⟨Fy v.good h2 (fun p f=>⟨i p f,?_⟩) (Fq o) (by have:=v.few;omega),fun j n=>?_,by simp only;split<;>omega,?_,?_⟩
    ·by_cases a:p<id
     ·exact a
     ·exact absurd (bS.2 ⟨p,f,by simpa using a⟩) c.2
    ·rcases aq.1 (insV_ids.mem_iff.1 n)with rfl|h
     ·simp only;split<;>omega
     ·have:=v.pos j h;simp only;split<;>omega
    ·have:=v.nx2;simp only;split<;>omega
    ·rw[(wV L id ps).length_eq];simp;omega
theorem Inv.drop{L:de}{nx:Int}(v:Inv L nx){keep st:List Int}(d:∀y,y∈st↔∃k∈keep,UpG L k y):Inv (L.filter fun v=>decide (v.1∈st)) nx:=by
 have a:∀id,id∈kC (L.filter fun v=>decide (v.1∈st))↔id∈kC L∧id∈st:=fun id=>by
  unfold kC;simp only[bE,cY,decide_eq_true_iff];constructor
  ·rintro⟨u,⟨b,c⟩,rfl⟩;exact⟨⟨u,b,rfl⟩,c⟩
  ·rintro⟨⟨u,b,rfl⟩,c⟩;exact⟨u,⟨b,c⟩,rfl⟩
 refine⟨⟨⟨fun u f=>v.good.two u (cY.1 f).1,aW (dq ..) v.good.len⟩,v.good.up.sublist ((List.filter_sublist).map _),fun u f p j=>?_⟩,fun id e=>v.pos id ((a id).1 e).1,v.nx1,v.nx2,aW (dq ..) v.few⟩
 obtain⟨b,c⟩:=cY.1 f;obtain⟨i,n⟩:=v.good.par u b p j;refine⟨(a p).2 ⟨i,?_⟩,n⟩;obtain⟨k,m,g⟩:=(d _).1 (of_decide_eq_true c);refine(d p).2 ⟨k,m,g.snoc ?_ i⟩;have:cE L u.1=some u.2:=(m9 v.good.nd).2 b;simp[parV,this,j]
end Go.Proofs
namespace Go.Proofs
inductive Fo where
 |nil:Fo
 |cons (lab:List UInt8) (val:Option ByteArray) (kids rest:Fo):Fo
abbrev Bn:=List UInt8×Option ByteArray×Fo
def Fo.toL:Fo→List Bn
 | .nil=> []
 | .cons lab w kids rest=>(lab,w,kids)::rest.toL
theorem Fo.toL_cons(lab:List UInt8)(w:Option ByteArray)(a b:Fo):(Fo.cons lab w a b).toL=(lab,w,a)::b.toL:=rfl
def Fo.ofL:List Bn→Fo
 | []=>.nil
 |(lab,w,kids)::l=>.cons lab w kids (Fo.ofL l)
theorem Fo.to_of:∀l:List Bn,(Fo.ofL l).toL=l
 | []=>rfl
 |(_,_,_)::l=>by show _::(Fo.ofL l).toL=_;rw[Fo.to_of l]
theorem Fo.of_to:∀F:Fo,Fo.ofL F.toL=F
 | .nil=>rfl
 | .cons lab w kids rest=>by show Fo.cons lab w kids (Fo.ofL rest.toL)=_;rw[Fo.of_to rest]
def vd:Fo→List UInt8→ByteArray→Prop
 | .nil,_,_=>False
 | .cons lab w kids rest,k,v=>(∃r,k=lab++r∧((r= []∧w=some v)∨vd kids r v))∨vd rest k v
def wz(w:Option ByteArray)(F:Fo)(k:List UInt8)(v:ByteArray):Prop:=(k= []∧w=some v)∨vd F k v
def yL(n:Bn)(k:List UInt8)(v:ByteArray):Prop:=∃r,k=n.1++r∧wz n.2.1 n.2.2 r v
theorem iI:∀{F:Fo} {k:List UInt8} {v:ByteArray},vd F k v↔∃n∈F.toL,yL n k v
 | .nil,_,_=>by simp[vd,Fo.toL]
 | .cons lab w kids rest,k,v=>by
  rw[Fo.toL_cons];unfold vd;rw[iI (F:=rest)];constructor
  ·rintro(h|⟨n,a,h⟩)
   ·exact⟨_,au ..,h⟩
   ·exact⟨n,aG _ a,h⟩
  ·rintro⟨n,a,h⟩
   rcases aq.1 a with rfl|a
   ·exact .inl h
   ·exact .inr ⟨n,a,h⟩
def hd(k:List UInt8):Nat:=(k.headD 0).toNat
theorem rh{a b:List UInt8}(h:a≠[]):hd (a++b)=hd a:=by
 cases a with
 |nil=>exact absurd rfl h
 |cons x a=>rfl
theorem Sb(a:List UInt8):hd a<256:=UInt8.toNat_lt _
def gf:Fo→Prop
 | .nil=>True
 | .cons lab w kids rest=>lab≠[]∧(w.isSome∨2≤kids.toL.length)∧gf kids∧(∀n∈rest.toL,hd lab<hd n.1)∧gf rest
def NZ(n:Bn):Prop:=n.1≠[]∧(n.2.1.isSome∨2≤n.2.2.toL.length)∧gf n.2.2
theorem gJ:∀{F:Fo},gf F↔F.toL.Pairwise (fun m n=>hd m.1<hd n.1)∧∀n∈F.toL,NZ n
 | .nil=>by simp[gf,Fo.toL]
 | .cons lab w kids rest=>by
  rw[Fo.toL_cons,bd];show(lab≠[]∧(w.isSome∨2≤kids.toL.length)∧gf kids∧(∀n∈rest.toL,hd lab<hd n.1)∧gf rest)↔_
  rw[gJ (F:=rest)];constructor
  ·rintro⟨f,e,g,d,c,b⟩
   refine⟨⟨d,c⟩,fun n a=>?_⟩
   rcases aq.1 a with rfl|a
   ·exact⟨f,e,g⟩
   ·exact b n a
  ·rintro⟨⟨d,c⟩,b⟩
   have:=b _ (au ..);exact⟨this.1,this.2.1,this.2.2,d,c,fun n a=>b n (aG _ a)⟩
theorem pB:∀{F:Fo},gf F→∀n∈F.toL,∃r v,wz n.2.1 n.2.2 r v
 | .nil,_,n,a=>by simp[Fo.toL]at a
 | .cons lab w kids rest,h,n,a=>by
  rcases aq.1 a with rfl|a
  ·rcases h.2.1 with d|b
   ·obtain⟨v,hv⟩:=f3.1 d
    exact⟨[],v,.inl ⟨rfl,hv⟩⟩
   ·have c:=pB h.2.2.1
    have⟨m,hm⟩:∃m,m∈kids.toL:=by
     cases hl:kids.toL with
     |nil=>rw[hl]at b;simp at b
     |cons m l=>exact⟨m,au ..⟩
    obtain⟨r,v,e⟩:=c m hm;exact⟨m.1++r,v,.inr (iI.2 ⟨m,hm,r,rfl,e⟩)⟩
  ·exact pB h.2.2.2.2 n a
theorem qa{F:Fo}(h:gf F){k:List UInt8}{v:ByteArray}(hi:vd F k v):k≠[]:=by
 obtain⟨n,a,r,rfl,_⟩:=iI.1 hi;have:=((gJ.1 h).2 n a).1;intro e;exact this (jE.1 e).1
theorem ux{F:Fo}(h:gf F){k:List UInt8}{v:ByteArray}(hi:vd F k v):∃n∈F.toL,hd n.1=hd k∧yL n k v:=by
 obtain⟨n,a,r,e,b⟩:=iI.1 hi;exact⟨n,a,by rw[e,rh ((gJ.1 h).2 n a).1],r,e,b⟩
theorem GV{F:Fo}(h:gf F){m n:Bn}(hm:m∈F.toL)(f:n∈F.toL)(e:hd m.1=hd n.1):m=n:=by
 have d:=(gJ.1 h).1;revert hm f;generalize F.toL=l at*;clear h;induction l with
 |nil=>intro hm;simp at hm
 |cons a l ih=>
  have d:=bd.1 d;intro hm f;rcases aq.1 hm with i|c
  ·rcases aq.1 f with g|b
   ·rw[i,g]
   ·have:=d.1 n b;rw[←i]at this;omega
  ·rcases aq.1 f with g|b
   ·have:=d.1 m c;rw[←g]at this;omega
   ·exact ih d.2 c b
def Br(P:List UInt8→ByteArray→Prop):Prop:=(∃v,P [] v)∨∃j k u v,P j u∧P k v∧j≠[]∧k≠[]∧hd j≠hd k
theorem DX{w:Option ByteArray}{F:Fo}(h:gf F):(w.isSome∨2≤F.toL.length)↔Br (wz w F):=by
 constructor
 ·rintro(y|x)
  ·obtain⟨v,hv⟩:=f3.1 y
   exact .inl ⟨v,.inl ⟨rfl,hv⟩⟩
  ·right
   have c:=pB h;have hc:=gJ.1 h;match hL:F.toL,x with
   |a::b::l,_=>
    have g:a∈F.toL:=by rw[hL];simp
    have hb:b∈F.toL:=by rw[hL];simp
    obtain⟨r,v,z⟩:=c a g;obtain⟨s,u,c⟩:=c b hb;have p:=(hc.2 a g).1;have o:=(hc.2 b hb).1;have:=hc.1;rw[hL]at this;have B:=(bd.1 this).1 b (au ..);refine⟨a.1++r,b.1++s,v,u,.inr (iI.2 ⟨a,g,r,rfl,z⟩),.inr (iI.2 ⟨b,hb,s,rfl,c⟩),?_,?_,?_⟩
    ·intro e;exact p (jE.1 e).1
    ·intro e;exact o (jE.1 e).1
    ·rw[rh p,rh o];omega
 ·rintro(⟨v,hv⟩|⟨j,k,u,v,f,d,q,nk,A⟩)
  ·rcases hv with⟨_,hv⟩|hv
   ·left;rw[hv];rfl
   ·exact absurd rfl (qa h hv)
  ·right
   rcases f with⟨e,_⟩|f
   ·exact absurd e q
   rcases d with⟨e,_⟩|d
   ·exact absurd e nk
   obtain⟨m,hm,em,_⟩:=ux h f;obtain⟨n,i,t,_⟩:=ux h d;match hL:F.toL with
   | []=>rw[hL]at hm;simp at hm
   | [a]=>
    rw[hL]at hm i;rw[aB.1 hm]at em;rw[aB.1 i]at t;omega
   |a::b::l=>simp
end Go.Proofs
