/- A part of the proof that the named laws of this program answer true, whatever the input. -/
import Derived.Test.YtfmnhpbjeapjaaaGreatPart0
open BitVec renaming ofInt→aj,ofInt_natCast→jW,getLsbD_ofNat→jX
open Int renaming fdiv→eR,toNat_natCast→aL
open List renaming range→dH,range_add→p7,mem_range→gH,mem_cons_self→ay,mem_cons_of_mem→aI,filterMap_append→mF,take_left'→de,drop_left'→cp,drop_drop→cV,length_append→ad,flatMap_cons→bi,append_assoc→ax,pairwise_cons→aQ,mem_cons→au,pairwise_singleton→bX,filter_cons→cD,mem_singleton→aw
open List.Pairwise renaming nil→dC
open Nat renaming testBit_and→jf,testBit_two_pow_sub_one→jz,le_refl→aq,shiftRight_eq_div_pow→kw,lt_of_le_of_lt→gF,min_eq_left→bK,shiftRight_le→ml,mod_eq_of_lt→ix,mod_lt→p5,lt_of_lt_of_le→aG,zero_add→aC,le_of_eq→dG,lt_irrefl→ni
open UInt8 renaming ofNat→jU
namespace Go.Proofs
open Go.Lift
def rE(n d:Nat):Nat:=(dH n).countP (d.testBit ·)
theorem z6(m n d:Nat):rE (m+n) d=rE m d+rE n (d>>>m):=by
 unfold rE;rw[p7,List.countP_append,List.countP_map];congr 1
 refine List.countP_congr fun i _=>?_
 simp[Nat.testBit_shiftRight]
theorem IG(d:Nat)(i:Nat):∀n,i≤n→rE n (d&&&(2^i-1))=rE i d:=by
 intro n b;obtain⟨m,rfl⟩:=Nat.exists_eq_add_of_le b;rw[z6];have e:rE i (d&&&(2^i-1))=rE i d:=by
  unfold rE;refine List.countP_congr fun j a=>?_
  have:=gH.1 a;simp[jf,jz,this]
 have c:rE m ((d&&&(2^i-1))>>>i)=0:=by
  unfold rE;rw[List.countP_eq_zero];intro j _;simp[Nat.testBit_shiftRight,jf,jz];intro h;omega
 omega
theorem Oa(d:Nat):rE 8 (d&&&255)=rE 8 d:=IG d 8 8 (aq _)
theorem vB(n d:Nat):rE n d≤n:=by
 have:=List.countP_le_length (p:=(d.testBit ·)) (l:=dH n)
 simpa[rE]using this
theorem pt(d n:Nat):eR (d:Int) (2^n)=((d>>>n:Nat):Int):=by
 rw[Int.fdiv_eq_ediv_of_nonneg _ (by exact Int.le_of_lt (Int.pow_pos (by decide))),kw];simp
theorem LQ(a b:Nat):(aj (IntKind.bits .u32) (a:Int)&&&aj (IntKind.bits .u32) (b:Int)).toNat=(a%4294967296)&&&(b%4294967296):=by
 simp[IntKind.bits,BitVec.toNat_and,BitVec.toNat_ofInt];rfl
theorem wd{n:Nat}(h:n<4294967296):IntKind.wrap .u32 (n:Int)=(n:Int):=Go.IntWalk.u32_in _ (by omega)
theorem AF{i:Nat}(hi:i<32){h:ac}{K:Bool→ac→Prop}(a:K true h):HC PG kR [.int .i64 i] [.c .bool] K h:=by
 refine Co i ?_;unfold uP;refine aE (fun _=>?_) fun h=>absurd (Int.natCast_nonneg i) h
 rw[decide_eq_true (by omega)];exact a
theorem Eg{a b:Nat}(h:b<4294967296):a&&&b<4294967296:=gF Nat.and_le_right h
theorem yc{d i:Nat}(hd:d<4294967296)(hi:i<32){h:ac}{K:Bool→ac→Prop}(f:K (d.testBit i) h):HC PG eO [.int .u32 d,.int .i64 i] [.c .bool] K h:=by
 refine yG d i ?_;unfold rC;refine AF hi (aB.2 ⟨by omega,?_⟩);have e:min (i:Int).toNat (IntKind.bits .u32)=i:=by rw[aL];exact bK (by show i≤32;omega)
 rw[e,pt];have a:=LQ (d>>>i) 1;have b:d>>>i<4294967296:=gF (ml d i) hd;rw[ix b,show(1:Nat)%4294967296=1 from rfl]at a
 simp only[Bd];rw[show((1:Nat):Int)=(1:Int)from rfl]at a
 rw[a,wd (Eg (by omega))];have c:(((d>>>i&&&1:Nat):Int)==(1:Int))=d.testBit i:=by
  rw[Bool.eq_iff_iff,beq_iff_eq,Nat.testBit,Nat.and_comm];simp only[bne_iff_ne,ne_eq,Nat.one_and_eq_mod_two];have:(d>>>i)%2<2:=p5 _ (by omega);omega
 rw[c];exact f
theorem JJ{d i:Nat}(hd:d<4294967296)(hi:i<32):∃w:Nat,IntKind.wrap .u32 (aj (IntKind.bits .u32) (d:Int)|||aj (IntKind.bits .u32) (IntKind.wrap .u32 (1*2^(min (i:Int).toNat (IntKind.bits .u32))))).toNat=(w:Int)∧w<4294967296∧∀j,w.testBit j=(d.testBit j||decide (j=i)):=by
 have e:min (i:Int).toNat (IntKind.bits .u32)=i:=by rw[aL];exact bK (by show i≤32;omega)
 have b:2^i<4294967296:=Nat.pow_lt_pow_right (by omega) (show i<32 from hi)
 have f:(1*2^i:Int)=((2^i:Nat):Int):=by simp
 rw[e,f,wd b];refine⟨_,wd (BitVec.isLt _),BitVec.isLt _,fun j=>?_⟩
 rw[BitVec.testBit_toNat,BitVec.getLsbD_or,jW,jW,jX,jX,Nat.testBit_two_pow];by_cases a:j<32
 ·have:decide (j<IntKind.bits .u32)=true:=decide_eq_true a
  rw[this];simp[eq_comm]
 ·have c:decide (j<IntKind.bits .u32)=false:=decide_eq_false a
  have g:d.testBit j=false:=Nat.testBit_lt_two_pow (aG hd (Nat.pow_le_pow_right (n:=2) (by omega) (show 32≤j by omega)))
  rw[c,g];simp;omega
theorem H5{d i:Nat}(hd:d<4294967296)(hi:i<32){h:ac}{K:Int→ac→Prop}(c:∀w:Nat,w<4294967296→(∀j,w.testBit j=(d.testBit j||decide (j=i)))→K (w:Int) h):HC PG eu [.int .u32 d,.int .i64 i] [.c (.int .u32)] K h:=by
 refine xn d i ?_;unfold qH;refine AF hi (ak.2 ⟨by omega,?_⟩);obtain⟨w,e,a,b⟩:=JJ hd hi;simp only[Bd];rw[e];exact c w a b
theorem Ed{d i:Nat}(hd:d<4294967296)(hi:i<32):∃w:Nat,IntKind.wrap .u32 (aj (IntKind.bits .u32) (d:Int)&&& ~~~aj (IntKind.bits .u32) (IntKind.wrap .u32 (1*2^(min (i:Int).toNat (IntKind.bits .u32))))).toNat=(w:Int)∧w<4294967296∧∀j,w.testBit j=(d.testBit j&&decide (j≠i)):=by
 have e:min (i:Int).toNat (IntKind.bits .u32)=i:=by rw[aL];exact bK (by show i≤32;omega)
 have b:2^i<4294967296:=Nat.pow_lt_pow_right (by omega) (show i<32 from hi)
 have f:(1*2^i:Int)=((2^i:Nat):Int):=by simp
 rw[e,f,wd b];refine⟨_,wd (BitVec.isLt _),BitVec.isLt _,fun j=>?_⟩
 rw[BitVec.testBit_toNat,BitVec.getLsbD_and,BitVec.getLsbD_not,jW,jW,jX,jX,Nat.testBit_two_pow];by_cases a:j<32
 ·have:decide (j<IntKind.bits .u32)=true:=decide_eq_true a
  rw[this];simp[eq_comm]
 ·have c:decide (j<IntKind.bits .u32)=false:=decide_eq_false a
  have g:d.testBit j=false:=Nat.testBit_lt_two_pow (aG hd (Nat.pow_le_pow_right (n:=2) (by omega) (show 32≤j by omega)))
  rw[c,g];simp
theorem Af{d i:Nat}(hd:d<4294967296)(hi:i<32){h:ac}{K:Int→ac→Prop}(c:∀w:Nat,w<4294967296→(∀j,w.testBit j=(d.testBit j&&decide (j≠i)))→K (w:Int) h):HC PG hE [.int .u32 d,.int .i64 i] [.c (.int .u32)] K h:=by
 refine tL d i ?_;unfold nT;refine AF hi (ak.2 ⟨by omega,?_⟩);obtain⟨w,e,a,b⟩:=Ed hd hi;simp only[Bd];rw[e];exact c w a b
abbrev OJ:ByteArray:=⟨#[0,1,1,2,1,2,2,3,1,2,2,3,2,3,3,4,1,2,2,3,2,3,3,4,2,3,3,4,3,4,4,5,1,2,2,3,2,3,3,4,2,3,3,4,3,4,4,5,2,3,3,4,3,4,4,5,3,4,4,5,4,5,5,6,1,2,2,3,2,3,3,4,2,3,3,4,3,4,4,5,2,3,3,4,3,4,4,5,3,4,4,5,4,5,5,6,2,3,3,4,3,4,4,5,3,4,4,5,4,5,5,6,3,4,4,5,4,5,5,6,4,5,5,6,5,6,6,7,1,2,2,3,2,3,3,4,2,3,3,4,3,4,4,5,2,3,3,4,3,4,4,5,3,4,4,5,4,5,5,6,2,3,3,4,3,4,4,5,3,4,4,5,4,5,5,6,3,4,4,5,4,5,5,6,4,5,5,6,5,6,6,7,2,3,3,4,3,4,4,5,3,4,4,5,4,5,5,6,3,4,4,5,4,5,5,6,4,5,5,6,5,6,6,7,3,4,4,5,4,5,5,6,4,5,5,6,5,6,6,7,4,5,5,6,5,6,6,7,5,6,6,7,6,7,7,8]⟩
theorem Mb:(dH 256).all (fun b=>decide (OJ[b]? =some (jU (rE 8 b))))=true:=by decide+kernel
theorem Dx{b:Nat}(h:b<256):OJ[b]? =some (jU (rE 8 b)):=of_decide_eq_true (List.all_eq_true.1 Mb b (gH.2 h))
theorem D9(b:Nat):(jU (rE 8 b)).toNat=rE 8 b:=by
 have:=vB 8 b;simp;omega
theorem PV(d:Nat):rE 32 d=rE 8 (d>>>24)+rE 8 ((d>>>16)&&&255)+rE 8 ((d>>>8)&&&255)+rE 8 (d&&&255):=by
 rw[Oa,Oa,Oa,show(32:Nat)=8+(8+(8+8))from rfl,z6,z6,z6]
 simp only[←Nat.shiftRight_add,Nat.reduceAdd];omega
set_option maxRecDepth 100000 in
theorem Mw{d:Nat}(hd:d<4294967296){h:ac}{K:Int→ac→Prop}(j:K (rE 32 d:Int) h):HC PG iv [.int .u32 d] [.c (.int .i64)] K h:=by
 refine rm d ?_;unfold lN;have a:eR (d:Int) (2^(min (24:Int).toNat (IntKind.bits .u32)))=((d>>>24:Nat):Int):=pt d 24;have e:eR (d:Int) (2^(min (16:Int).toNat (IntKind.bits .u32)))=((d>>>16:Nat):Int):=pt d 16;have k:eR (d:Int) (2^(min (8:Int).toNat (IntKind.bits .u32)))=((d>>>8:Nat):Int):=pt d 8;have b:∀x:Nat,x<4294967296→IntKind.wrap .u32 (aj (IntKind.bits .u32) (x:Int)&&&aj (IntKind.bits .u32) 255).toNat=((x&&&255:Nat):Int):=fun x hx=>by
  have:=LQ x 255;rw[ix hx]at this;rw[show((255:Nat):Int)=(255:Int)from rfl]at this
  rw[this,wd (Eg (by omega))]
 have f:d>>>24<256:=by rw[kw];omega
 have g:∀x:Nat,x&&&255<256:=fun x=>gF Nat.and_le_right (by omega)
 have c:d>>>16<4294967296:=gF (ml d 16) hd;have m:d>>>8<4294967296:=gF (ml d 8) hd;simp only[Bd];rw[a,e,k,b _ c,b _ m,b _ hd];refine⟨by decide,_,by omega,Dx (b:=d>>>24) f,by decide,_,by omega,Dx (g _),by decide,_,by omega,Dx (g _),_,by omega,Dx (g _),?_⟩
 rw[D9,D9,D9,D9];simp only[aL];have q:=vB 8 (d>>>24);have o:=vB 8 (d>>>16&&&255);have p:=vB 8 (d>>>8&&&255);have q4:=vB 8 (d&&&255);rw[PV]at j;have i:∀n:Nat,n≤255→IntKind.wrap .u8 (n:Int)=(n:Int):=fun n s=>Go.IntWalk.u8_in _ (by omega)
 rw[←Int.natCast_add,i _ (by omega),←Int.natCast_add,i _ (by omega),←Int.natCast_add,i _ (by omega),gi (by omega)];exact j
theorem m6{d i:Nat}(hd:d<4294967296)(hi:i<32){h:ac}{K:Int→ac→Prop}(a:K (rE i d:Int) h):HC PG cS [.int .u32 d,.int .i64 i] [.c (.int .i64)] K h:=by
 refine xo d i ?_;unfold qI;refine aE (fun g=>?_) fun g=>?_
 ·have:i=0:=by omega
  subst this;exact a
 ·refine aE (fun h=>by omega) fun _=>⟨by omega,?_⟩
  have e:min (i:Int).toNat (IntKind.bits .u32)=i:=by rw[aL];exact bK (by show i≤32;omega)
  have c:2^i<4294967296:=Nat.pow_lt_pow_right (by omega) (show i<32 from hi)
  have j:0<2^i:=Nat.pow_pos (by omega);have f:(1*2^i:Int)=((2^i:Nat):Int):=by simp
  have b:(((2^i:Nat):Int)-1)=((2^i-1:Nat):Int):=by omega
  simp only[Bd];rw[e,f,wd c,b,wd (show 2^i-1<4294967296 by omega),LQ,ix hd,ix (show 2^i-1<4294967296 by omega),wd (Eg (by omega))]
  refine vU _ ?_;unfold pZ;refine Mw (Eg (by omega)) ?_;rw[IG d i 32 (by omega)];exact a
end Go.Proofs
namespace Go.Proofs
open Go.Lift
def fm{β:Type}(g:Nat→Option β)(n:Nat):List β:=(dH n).filterMap g
def upd{β:Type}(g:Nat→Option β)(i:Nat)(x:Option β)(j:Nat):Option β:=if j=i then x else g j
theorem Pa{β:Type}{f g:Nat→Option β}:∀l:List Nat,(∀j∈l,f j=g j)→l.filterMap f=l.filterMap g
 | [],_=>rfl
 |j::l,h=>by
  rw[List.filterMap_cons,List.filterMap_cons,h j (ay ..),Pa l fun k a=>h k (aI _ a)]
section
variable {β:Type} {g:Nat→Option β} {d:Nat}
theorem AX(hd:∀c,c<32→d.testBit c=(g c).isSome){i:Nat}(hi:i≤32):(fm g i).length=rE i d:=by
 unfold fm rE;rw[List.length_filterMap_eq_countP];exact List.countP_congr fun j a=>by rw[hd j (by have:=gH.1 a;omega)]
theorem nC{i n:Nat}(hi:i<n):fm g n=fm g i++((g i).toList++(dH (n-(i+1))).filterMap fun j=>g (i+1+j)):=by
 unfold fm;have e:n=i+(1+(n-(i+1))):=by omega
 rw[e,p7,mF,p7];have a:i+(1+(n-(i+1)))-(i+1)=n-(i+1):=by omega
 rw[a];congr 1
 rw[List.map_append,mF,List.map_map];congr 1
 rw[List.filterMap_map];refine Pa _ fun j _=>?_
 show g (i+(1+j))=_
 rw[Nat.add_assoc]
theorem vl{i:Nat}{x:Option β}:fm (upd g i x) i=fm g i:=by
 unfold fm;refine Pa _ fun j a=>?_
 have:=gH.1 a;unfold upd;rw[if_neg (by omega)]
theorem sQ{i m:Nat}{x:Option β}:((dH m).filterMap fun j=>upd g i x (i+1+j))=(dH m).filterMap fun j=>g (i+1+j):=by
 refine Pa _ fun j _=>?_
 unfold upd;rw[if_neg (by omega)]
theorem Lo{i:Nat}(hi:i<32)(hd:∀c,c<32→d.testBit c=(g c).isSome)(b:g i=none)(x:β):fm (upd g i (some x)) 32=(fm g 32).take (rE i d)++x::(fm g 32).drop (rE i d):=by
 have a:=AX hd (i:=i) (by omega);rw[nC (g:=upd g i (some x)) hi,nC (g:=g) hi,vl,sQ,b,de a,cp a];simp[upd]
theorem Ln{i:Nat}(hi:i<32)(hd:∀c,c<32→d.testBit c=(g c).isSome){y:β}(b:g i=some y)(x:β):fm (upd g i (some x)) 32=(fm g 32).take (rE i d)++x::(fm g 32).drop (rE i d+1):=by
 have a:=AX hd (i:=i) (by omega);rw[nC (g:=upd g i (some x)) hi,nC (g:=g) hi,vl,sQ,b,de a,←cV,cp a];simp[upd]
theorem Lp{i:Nat}(hi:i<32)(hd:∀c,c<32→d.testBit c=(g c).isSome){y:β}(b:g i=some y):fm (upd g i none) 32=(fm g 32).take (rE i d)++(fm g 32).drop (rE i d+1):=by
 have a:=AX hd (i:=i) (by omega);rw[nC (g:=upd g i none) hi,nC (g:=g) hi,vl,sQ,b,de a,←cV,cp a];simp[upd]
theorem Lq{i:Nat}(hi:i<32)(hd:∀c,c<32→d.testBit c=(g c).isSome){y:β}(a:g i=some y):(fm g 32)[rE i d]? =some y:=by
 have b:=AX hd (i:=i) (by omega);rw[nC (g:=g) hi,a,List.getElem?_append_right (by omega),b,Nat.sub_self];rfl
theorem Db{i:Nat}(hi:i<32)(hd:∀c,c<32→d.testBit c=(g c).isSome){y:β}(a:g i=some y):rE i d<(fm g 32).length:=(List.getElem?_eq_some_iff.1 (Lq hi hd a)).1
theorem Nt{i:Nat}(hi:i<32)(hd:∀c,c<32→d.testBit c=(g c).isSome):rE i d≤(fm g 32).length:=by
 have a:=AX hd (i:=i) (by omega);rw[nC (g:=g) hi,ad];omega
theorem AY:(fm g 32).length≤32:=by
 have:=List.length_filterMap_le g (dH 32);simpa[fm]using this
end
end Go.Proofs
namespace Go.Proofs
open Go.Lift
abbrev sv(s:SliceV):Value:=.slice s.a s.len s.cap
structure Slots where
 p:Nat→Option Pr
 k:Nat→Option (Option Addr)
def eW(d n:Nat)(sp sk:SliceV)(a:Bool)(ow:Option Addr):Array Value:= #[.int .u32 (d:Int),.int .u32 (n:Int),sv sp,sv sk,.bool a,.pointer ow]
structure BitsOf(d n:Nat)(s:Slots):Prop where
 d32:d<4294967296
 n32:n<4294967296
 dp:∀c,c<32→d.testBit c=(s.p c).isSome
 nk:∀c,c<32→n.testBit c=(s.k c).isSome
structure NodeAt(W:Nat→Prop)(h:ac)(b:Nat)(s:Slots):Prop where
 ex:∃d n sp sk ow,h[b]? =some (.cells (eW d n sp sk false ow) aZ (0,0))∧BitsOf d n s∧Sl eA 2 W h sp (fm s.p 32)∧Sl pn 1 W h sk (fm s.k 32)∧sp.len≤sp.cap∧sk.len≤sk.cap
 nw:¬W b
theorem NodeAt.upd{W M:Nat→Prop}{h h':ac}{b:Nat}{s:Slots}(n:NodeAt W h b s)(k:Upd M h h')(hm:∀b,M b→W b∨h.size≤b):NodeAt W h' b s:=by
 obtain⟨d,m,sp,sk,ow,a,j,g,f,i,c⟩:=n.ex;exact⟨⟨d,m,sp,sk,ow,k.get a (fun e=>(hm _ e).elim n.nw fun h=>by have:=aW a;omega),j,g.upd k hm,f.upd k hm,i,c⟩,n.nw⟩
structure OwnN(M:Nat→Prop)(h:ac)(b d n:Nat)(sp sk:SliceV)(s:Slots)(ow:Option Addr):Prop where
 blk:h[b]? =some (.cells (eW d n sp sk false ow) aZ (0,0))
 bits:BitsOf d n s
 ex:∃A B:Nat→Prop,OwnS eA 2 af A h sp (fm s.p 32)∧OwnS pn 1 bl B h sk (fm s.k 32)∧(∀x,A x→M x∧¬B x∧x≠b∧x<h.size)∧(∀x,B x→M x∧x≠b∧x<h.size)
 mb:M b
theorem sJ{h:ac}{K:Bool→ac→Prop}(a:K false h):HC PG fE [.pointer none] [.c .bool] K h:=by
 refine vH none ?_;unfold pM eh;exact ak.2 a
theorem CR{b:Nat}{h:ac}{K:Bool→ac→Prop}(a:K false h):HC PG l4 [.pointer (some ⟨b,0,none⟩),.pointer none] [.c .bool] K h:=by
 refine xg _ none ?_;unfold qB gt;exact aB.2 (sJ (ak.2 a))
theorem OwnN.upd{M M':Nat→Prop}{h h':ac}{b d n:Nat}{sp sk:SliceV}{s:Slots}{ow:Option Addr}(o:OwnN M h b d n sp sk s ow)(k:Upd M' h h')(hm:∀x,M' x→¬M x):OwnN M h' b d n sp sk s ow:=by
 obtain⟨A,B,f,i,a,c⟩:=o.ex;have z:=k.size;exact⟨k.get o.blk fun g=>hm _ g o.mb,o.bits,⟨A,B,f.upd k fun x hx e=>hm _ e (a x hx).1,i.upd k fun x hx e=>hm _ e (c x hx).1,fun x hx=>⟨(a x hx).1,(a x hx).2.1,(a x hx).2.2.1,by have:=(a x hx).2.2.2;omega⟩,fun x hx=>⟨(c x hx).1,(c x hx).2.1,by have:=(c x hx).2.2;omega⟩⟩,o.mb⟩
set_option maxRecDepth 4000 in
theorem KY{W:Nat→Prop}{h:ac}{b:Nat}{s:Slots}(nd:NodeAt W h b s){K:Option Addr→ac→Prop}
  (J:∀h' d n sp sk,OwnN (fun x=>h.size≤x) h' h.size d n sp sk s none→Upd No h h'→K (some ⟨h.size,0,none⟩) h'):
  HC PG gY [.pointer (some ⟨b,0,none⟩),.pointer none] [.c .ptr] K h:=by
 obtain⟨d,n,sp,sk,ow,a,bits,D,I,S,hck⟩:=nd.ex;refine se _ none ?_;unfold oq eC dJ nv gt eh bW Kd oQ NB;refine CR (ak.2 ?_);have c:∀{h:ac} {b:Nat} {c:Array Value} {i:Nat},h[b]? =some (.cells c aZ (0,0))→aF h ⟨b,0+i,none⟩=c[i]?:=fun a=>by rw[aC];exact aP a
 refine⟨_,rfl,_,c (i:=0) a,_,c (i:=1) a,sp,c (i:=2) a,sk,c (i:=3) a,_,c (i:=4) a,_,c (i:=5) a,?_⟩;have k1:=Upd.hnew No h [.int .u32 0,.int .u32 0,.slice none 0 0,.slice none 0 0,.bool false,.pointer none] aZ;have b1:=bN h [.int .u32 0,.int .u32 0,.slice none 0 0,.slice none 0 0,.bool false,.pointer none] aZ;refine aX ?_;simp only[cr h];generalize hnew h [.int .u32 0,.int .u32 0,.slice none 0 0,.slice none 0 0,.bool false,.pointer none] aZ=h1 at k1 b1
 have E:ie h1 ⟨h.size,0,none⟩ 0 [.int .u32 (d:Int),.int .u32 (n:Int),.slice sp.a sp.len sp.cap,.slice sk.a sk.len sk.cap,.bool false,.pointer ow]=_:=gV _ h1 0 0 _ b1 (by simp);refine⟨.inr ⟨_,rfl,fun j U=>by rw[bO];exact gR b1 (by simp at U⊢;omega)⟩,aX ?_⟩
 rw[E];have b2:=gL (o:=.cells (eW d n sp sk false ow) aZ (0,0)) b1;have y:Upd No h _:=k1.trans (M':=(· =h.size)) (Upd.set h1 (.cells (eW d n sp sk false ow) aZ (0,0)) rfl) fun x hx=>.inr (dG hx.symm)
 have G:h.size<(h1.setIfInBounds h.size (.cells (eW d n sp sk false ow) aZ (0,0))).size:=aW b2;have Y:h.size≠b:=fun e=>by have:=aW a;omega
 have T:(Obj.cells (List.take (0+0) [Value.int .u32 0,.int .u32 0,.slice none 0 0,.slice none 0 0,.bool false,.pointer none]++ [Value.int .u32 (d:Int),.int .u32 (n:Int),.slice sp.a sp.len sp.cap,.slice sk.a sk.len sk.cap,.bool false,.pointer ow]++List.drop (0+0+ [Value.int .u32 (d:Int),.int .u32 (n:Int),.slice sp.a sp.len sp.cap,.slice sk.a sk.len sk.cap,.bool false,.pointer ow].length) [Value.int .u32 0,.int .u32 0,.slice none 0 0,.slice none 0 0,.bool false,.pointer none]).toArray aZ (0,0))=.cells (eW d n sp sk false ow) aZ (0,0):=rfl
 rw[T];generalize h1.setIfInBounds h.size (.cells (eW d n sp sk false ow) aZ (0,0))=h2 at b2 y G;have q:=y.get0 a;refine⟨_,rfl,sp,c (i:=2) q,_,rfl,sk,c (i:=3) q,?_⟩;refine ua (D.upd y fun _ h=>h.elim) (by have:=AY (g:=s.p);omega) fun z P C m=>?_
 refine⟨c (i:=3) (m.get0 q),?_⟩;refine yi ((I.upd y fun _ h=>h.elim).upd m fun _ h=>h.elim) (by have:=AY (g:=s.k);omega) fun H X L p=>?_
 have R:=p.get0 (m.get0 b2);have t:=C.within.upd p fun _ _ h=>h
 have u:=L.within;have z3:=m.size;have z4:=p.size;have w:∀{h:ac} {c:Array Value} {x i:Nat},h[x]? =some (.cells c aZ (0,0))→i<c.size→Wr h ⟨x,0+i,none⟩:=fun a hi=>by rw[aC];exact gR a hi
 have st:∀{h:ac} {c c':Array Value} {x i:Nat} {v:Value} {k:ac→Prop},h[x]? =some (.cells c aZ (0,0))→c.setIfInBounds i v=c'→(∀h',h'[x]? =some (.cells c' aZ (0,0))→Upd (· =x) h h'→k h')→At (hset h ⟨x,i,none⟩ v) k:=fun a e J=>vD a fun h' F V=>J h' (e▸F) V
 refine⟨w (i:=2) R (show 2<6 by decide),st (i:=2) (c':=eW d n z sk false ow) R rfl fun h5 O N=>?_⟩
 refine⟨w (i:=3) O (show 3<6 by decide),st (i:=3) (c':=eW d n z H false ow) O rfl fun h6 Q A=>?_⟩
 refine⟨w (i:=5) Q (show 5<6 by decide),st (i:=5) (c':=eW d n z H false none) Q rfl fun h7 Z B=>?_⟩
 refine sJ (ak.2 ?_);have f:=N.tr (A.tr B);have z7:=f.size;refine J _ d n z H ⟨Z,bits,⟨fun x=>h2.size≤x∧x<P.size,fun x=>P.size≤x∧x<X.size,t.upd f fun x hx e=>by have e:x=h.size:=e;omega,u.upd f fun x hx e=>by have e:x=h.size:=e;omega,fun x hx=>⟨by omega,by omega,by omega,by omega⟩,fun x hx=>⟨by omega,by omega,by omega⟩⟩,aq _⟩ ?_
 exact((y.tr m).tr p).trans f fun x hx=>.inr (dG hx.symm)
end Go.Proofs
namespace Go.Proofs
open Go.Lift
theorem ra{β:Type}{g:Nat→Option β}{i:Nat}(h:g i=none):upd g i none=g:=by
 funext j;unfold upd;split
 ·rename_i e;rw[e,h]
 ·rfl
theorem d8{h:ac}{b:Nat}{c:Array Value}{t:TypeId}{i:Nat}(a:h[b]? =some (.cells c t (0,0))):aF h ⟨b,0+i,none⟩=c[i]?:=by rw[aC];exact aP a
theorem Mx{h:ac}{b:Nat}{c:Array Value}{t:TypeId}{i:Nat}(a:h[b]? =some (.cells c t (0,0))) (hi:i<c.size):Wr h ⟨b,0+i,none⟩:=by rw[aC];exact gR a hi
theorem DT{h:ac}{b:Nat}{c c':Array Value}{t:TypeId}{i:Nat}{v:Value}{k:ac→Prop}(g:h[b]? =some (.cells c t (0,0))) (e:c.setIfInBounds i v=c')
 (f:∀h',h'[b]? =some (.cells c' t (0,0))→Upd (· =b) h h'→k h'):At (hset h ⟨b,i,none⟩ v) k:=vD g fun h' a d=>f h' (e▸a) d
theorem IC{M:Nat→Prop}{h:ac}{b d n:Nat}{sp sk:SliceV}{s:Slots}{ow:Option Addr}(o:OwnN M h b d n sp sk s ow){i:Nat}(hi:i<32){K:Unit→ac→Prop}
  (W:∀h' F G sp' sk',OwnN M h' b F G sp' sk' ⟨upd s.p i none,upd s.k i none⟩ ow→Upd M h h'→K () h'):HC PG jt [.pointer (some ⟨b,0,none⟩),.int .i64 i] [] K h:=by
 obtain⟨A,B,Z,Y,a,m⟩:=o.ex;have bits:=o.bits;refine xe _ i ?_;unfold qz eC dJ kP bW Kl;have U:∀k:Nat,k≤100→IntKind.wrap .i64 ((k:Int)+1)=((k+1:Nat):Int):=fun k W=>by rw[gi (by omega)];omega
 have hc1:=vB i d;have hc2:=vB i n;have I:∀x,A x→M x∨h.size≤x:=fun x hx=>.inl (a x hx).1
 refine Join.intro (fun _ h'=>∃sp',h'[b]? =some (.cells (eW d n sp' sk false ow) aZ (0,0))∧OwnS eA 2 af A h' sp' (fm (upd s.p i none) 32)∧OwnS pn 1 bl B h' sk (fm s.k 32)∧Upd M h h') (fun R E=>?_) ?_
 ·refine⟨_,rfl,_,d8 (i:=0) o.blk,yc bits.d32 hi ?_⟩
  rw[bits.dp i hi];cases hp:s.p i with
  |none=>exact ak.2 (E _ _ ⟨sp,o.blk,by rw[ra hp];exact Z,Y,Upd.refl _ _⟩)
  |some y=>
   refine aB.2 ⟨_,rfl,_,d8 (i:=0) o.blk,m6 bits.d32 hi ⟨_,rfl,sp,d8 (i:=2) o.blk,?_⟩⟩;rw[U _ (by omega)];refine Hv Z (Db hi bits.dp hp) (by have:=AY (g:=s.p);omega) fun D X t f=>?_
   rw[←Lp hi bits.dp hp]at t;have b2:=f.get o.blk fun J=>(a b J).2.2.1 rfl
   refine⟨_,rfl,Mx (i:=2) b2 (show 2<6 by decide),DT (i:=2) (c':=eW d n D sk false ow) b2 rfl fun V b3 j=>?_⟩
   refine E _ _ ⟨D,b3,t.upd j fun x hx e=>(a x hx).2.2.1 e,(Y.upd f fun x hx P=>(a x P).2.1 hx).upd j fun x hx e=>(m x hx).2.1 e,(f.mono I).tr (j.mono fun x e=>.inl (e▸o.mb))⟩
 rintro _ h1 ⟨q,b1,w,C,v⟩;refine Join.intro (fun _ h'=>∃sk',h'[b]? =some (.cells (eW d n q sk' false ow) aZ (0,0))∧OwnS eA 2 af A h' q (fm (upd s.p i none) 32)∧OwnS pn 1 bl B h' sk' (fm (upd s.k i none) 32)∧Upd M h1 h') (fun R E=>?_) ?_
 ·refine⟨_,rfl,_,d8 (i:=1) b1,yc bits.n32 hi ?_⟩
  rw[bits.nk i hi];cases hp:s.k i with
  |none=>exact ak.2 (E _ _ ⟨sk,b1,w,by rw[ra hp];exact C,Upd.refl _ _⟩)
  |some y=>
   refine aB.2 ⟨_,rfl,_,d8 (i:=1) b1,m6 bits.n32 hi ⟨_,rfl,sk,d8 (i:=3) b1,?_⟩⟩;rw[U _ (by omega)];refine Hw C (Db hi bits.nk hp) (by have:=AY (g:=s.k);omega) fun D X t f=>?_
   rw[←Lp hi bits.nk hp]at t;have b2:=f.get b1 fun J=>(m b J).2.1 rfl
   refine⟨_,rfl,Mx (i:=3) b2 (show 3<6 by decide),DT (i:=3) (c':=eW d n q D false ow) b2 rfl fun V b3 j=>?_⟩
   refine E _ _ ⟨D,b3,(w.upd f fun x hx P=>(a x hx).2.1 P).upd j fun x hx e=>(a x hx).2.2.1 e,t.upd j fun x hx e=>(m x hx).2.1 e,(f.mono fun x hx=>.inl (m x hx).1).tr (j.mono fun x e=>.inl (e▸o.mb))⟩
 rintro _ X ⟨u,b2,L,Q,f⟩;refine⟨_,rfl,_,d8 (i:=0) b2,_,rfl,_,d8 (i:=1) b2,?_⟩;refine Af bits.d32 hi fun F O S=>⟨d8 (i:=1) b2,?_⟩
 refine Af bits.n32 hi fun G H T=>?_
 refine⟨_,rfl,Mx (i:=0) b2 (show 0<6 by decide),DT (i:=0) (c':=eW F n q u false ow) b2 rfl fun V b3 j=>?_⟩
 refine⟨_,rfl,Mx (i:=1) b3 (show 1<6 by decide),DT (i:=1) (c':=eW F G q u false ow) b3 rfl fun h4 b4 N=>?_⟩
 have p:=j.tr N;have z:=(v.tr (f.tr (p.mono (M':=M) fun x e=>.inl (e▸o.mb)))).size
 refine W h4 F G q u ⟨b4,⟨O,H,fun c hc=>?_,fun c hc=>?_⟩,⟨A,B,L.upd p fun x hx e=>(a x hx).2.2.1 e,Q.upd p fun x hx e=>(m x hx).2.1 e,fun x hx=>⟨(a x hx).1,(a x hx).2.1,(a x hx).2.2.1,by have:=(a x hx).2.2.2;omega⟩,fun x hx=>⟨(m x hx).1,(m x hx).2.1,by have:=(m x hx).2.2;omega⟩⟩,o.mb⟩ (v.tr (f.tr (p.mono fun x e=>.inl (e▸o.mb))))
 ·rw[S,bits.dp c hc];simp only[upd];split<;>simp[*]
 ·rw[T,bits.nk c hc];simp only[upd];split<;>simp[*]
end Go.Proofs
namespace Go.Proofs
open Go.Lift
theorem OwnS.setAt{α:Type}{f:α→List Value}{c:Nat}{t:TypeId}{M:Nat→Prop}{h:ac}{s:SliceV}{xs:List α}(i:OwnS f c t M h s xs){k:Nat}(n:k<xs.length)(x:α):
  ∃a,s.a=some a∧M a.block∧rk h (some (adr a (k*c))) 0 (f x)∧OwnS f c t M (ie h (adr a (k*c)) 0 (f x)) s (xs.take k++x::xs.drop (k+1))∧Upd (· =a.block) h (ie h (adr a (k*c)) 0 (f x)):=by
 have m:∀x,(f x).length=c∧0<c:=i.ne;have w:=i.len;have g:=i.cap;rcases i.blk with F|⟨b,e,q,u,hc,z⟩
 ·omega
 have p:((xs.take k).flatMap f).length=k*c:=by rw[iT m,List.length_take,bK (by omega)]
 have C:xs.flatMap f=(xs.take k).flatMap f++(f xs[k]++(xs.drop (k+1)).flatMap f):=by
  rw[←bi,←List.drop_eq_getElem_cons n];exact vz xs k
 rw[C]at hc;have y:=(m xs[k]).1;have D:=(m x).1;have d:(xs.take k++x::xs.drop (k+1)).flatMap f=(xs.take k).flatMap f++(f x++(xs.drop (k+1)).flatMap f):=by rw[List.flatMap_append,bi]
 generalize (xs.take k).flatMap f=A at p hc d;generalize (xs.drop (k+1)).flatMap f=B at hc d;generalize f xs[k]=X at y hc;have v:k*c+0+(f x).length≤(A++(X++B)++e).length:=by simp only[ad];omega
 have o:adr ⟨b,0,none⟩ (k*c)=⟨b,k*c,none⟩:=by rw[bO,aC]
 refine⟨⟨b,0,none⟩,q,u,?_,?_,?_⟩
 ·rw[o]
  refine .inr ⟨_,rfl,fun j E=>?_⟩
  rw[bO];exact gR hc (by rw[List.size_toArray];omega)
 ·rw[o,gV (f x) h 0 (k*c) _ hc v]
  refine⟨by simp;omega,m,g,.inr ⟨b,e,q,u,?_,?_⟩⟩
  ·rw[gL hc,d]
   congr 3
   rw[Nat.add_zero,ax A,de p,←cV,cp p,ax X,cp (by omega)];simp only[ax]
  ·exact z
 ·rw[o,gV (f x) h 0 (k*c) _ hc v]
  exact Upd.set h _ rfl
theorem OwnN.node{M W:Nat→Prop}{h:ac}{b d n:Nat}{sp sk:SliceV}{s:Slots}{ow:Option Addr}(o:OwnN M h b d n sp sk s ow)(a:∀x,M x→¬W x):NodeAt W h b s:=by
 obtain⟨A,B,c,e,g,f⟩:=o.ex;exact⟨⟨d,n,sp,sk,ow,o.blk,o.bits,c.sl fun x hx _=>a _ (g x hx).1,e.sl fun x hx _=>a _ (f x hx).1,c.cap,e.cap⟩,a _ o.mb⟩
theorem Fz{W:Nat→Prop}{h:ac}{b:Nat}{s:Slots}(nd:NodeAt W h b s){i:Nat}(hi:i<32){K:Bool→ac→Prop}(a:K true h):HC PG ju [.pointer (some ⟨b,0,none⟩),.int .i64 i] [.c .bool] K h:=by
 obtain⟨d,n,sp,sk,ow,c,_⟩:=nd.ex;refine xf _ i ?_;unfold qA eh;refine aB.2 ⟨_,rfl,_,d8 (i:=4) c,aB.2 ?_⟩;refine aE (fun _=>?_) fun h=>absurd (Int.natCast_nonneg i) h
 rw[decide_eq_true (by omega)];exact a
theorem H6{β:Type}{g:Nat→Option β}{i:Nat}{x y:Option β}:upd (upd g i x) i y=upd g i y:=by
 funext j;unfold upd;split<;>rfl
theorem jF{β:Type}{g:Nat→Option β}{i:Nat}{x:Option β}:upd g i x i=x:=by simp[upd]
theorem rK{W:Nat→Prop}{h:ac}{b:Nat}{s:Slots}(nd:NodeAt W h b s)(hW:∀x,W x→x<h.size){i:Nat}(hi:i<32)(hx:∀y,s.p i=some y→s.k i=none)(p:Pr){K:Option Addr→ac→Prop}
  (hk:∀h' b',NodeAt W h' b' ⟨upd s.p i (some p),upd s.k i none⟩→Upd No h h'→K (some ⟨b',0,none⟩) h'):
  HC PG ff [.pointer (some ⟨b,0,none⟩),.pointer none,.int .i64 i,.agg #[.string p.1,.string p.2]] [.c .ptr] K h:=by
 refine um _ none i p ?_;unfold oN dw eC al dJ kB sF kP bW qb oQ mB;have k1:=Upd.hnew No h [.string p.1,.string p.2] af;have b1:=bN h [.string p.1,.string p.2] af;refine aX ?_;simp only[cr h];generalize hnew h [.string p.1,.string p.2] af=h1 at k1 b1;have z1:=aW b1;have P:=nd.upd k1 fun _ h=>h.elim
 refine Fz P hi (ak.2 ?_);refine KY P fun h2 d n sp sk o G=>?_
 have bits:=o.bits;obtain⟨A,B,hA,hB,q,H⟩:=o.ex;have F:=k1.tr G;have u:=G.get0 b1;have T:∀x,h1.size≤x→¬W x:=fun x hx Z=>by have:=hW x Z;omega
 refine⟨_,rfl,_,d8 (i:=0) o.blk,yc bits.d32 hi ?_⟩;rw[bits.dp i hi];cases hp:s.p i with
 |some y=>
  refine aB.2 ⟨_,rfl,sp,d8 (i:=2) o.blk,_,rfl,_,d8 (i:=0) o.blk,p.1,by rw[bO,aP u];rfl,p.2,by rw[bO,aP u];rfl,?_⟩
  refine m6 bits.d32 hi ⟨⟨by rw[bO,aP u];rfl,by rw[bO,aP u];rfl⟩,d8 (i:=2) o.blk,?_⟩
  have hlt:=Db hi bits.dp hp;obtain⟨a,ha,L,Z,R,m⟩:=OwnS.setAt hA hlt p;have hlen:=hA.len;refine⟨by omega,a,ha,?_⟩;rw[aL];refine⟨Z,aX ?_⟩;rw[←Ln hi bits.dp hp]at R;have ob:=m.get o.blk fun e=>(q _ L).2.2.1 e.symm
  have z3:=m.size;have z:OwnN (fun x=>h1.size≤x) _ h1.size d n sp sk ⟨upd s.p i (some p),upd s.k i none⟩ none:=⟨ob,⟨bits.d32,bits.n32,fun c hc=>by
    rw[bits.dp c hc];simp only[upd];split
    ·rename_i e;rw[e,hp];rfl
    ·rfl,fun c hc=>by rw[bits.nk c hc,ra (hx y hp)]⟩,
   ⟨A,B,R,by rw[ra (hx y hp)];exact hB.upd m fun x hx e=>(q _ L).2.1 (e▸hx),fun x hx=>⟨(q x hx).1,(q x hx).2.1,(q x hx).2.2.1,by have:=(q x hx).2.2.2;omega⟩,fun x hx=>⟨(H x hx).1,(H x hx).2.1,by have:=(H x hx).2.2;omega⟩⟩,o.mb⟩
  refine hk _ _ (z.node T) (F.trans m fun x hx=>.inr ?_)
  have:=(q _ L).1;have hx:x=a.block:=hx;omega
 |none=>
  refine ak.2 ⟨_,rfl,IC o hi fun C d3 n3 D I z m=>?_⟩
  have f:=z.bits;obtain⟨A3,B3,hA3,hB3,j,k⟩:=z.ex;have z2:=G.size;have z3:=m.size;have v:=m.get u (show ¬h1.size≤h.size by omega)
  have Y:Upd No h C:=F.trans m fun x hx=>.inr (Nat.le_trans (Nat.le_of_lt z1) hx)
  refine⟨_,rfl,D,d8 (i:=2) z.blk,_,rfl,_,d8 (i:=0) z.blk,p.1,by rw[bO,aP v];rfl,p.2,by rw[bO,aP v];rfl,?_⟩
  have V:=Upd.hnew No C [.string p.1,.string p.2] af;have b4:=bN C [.string p.1,.string p.2] af;have z4:=gX C [.string p.1,.string p.2] af;have N:=z.upd V fun _ h=>h.elim
  have fin:HC PG cB [.slice D.a D.len D.cap,.int .i64 (rE i d3),.slice (some (bc C)) 1 1] [.c .slice] (fun(J:SliceV) U=>
       ∃a34:Addr,some (⟨h1.size,0,none⟩:Addr)=some a34∧
       (Wr U (adr (adr a34 0) 2)∧
        At (hset U (adr (adr a34 0) 2) (.slice J.a J.len J.cap)) (fun O=>
         ∃a36:Addr,some (⟨h1.size,0,none⟩:Addr)=some a36∧
         ∃v37:Int,aF O (adr (adr a36 0) 0)=some (.int .u32 v37)∧
         HC PG eu [.int .u32 v37,.int .i64 i] [.c (.int .u32)] (fun(e38:Int) S=>
          ∃a40:Addr,some (⟨h1.size,0,none⟩:Addr)=some a40∧
          (Wr S (adr (adr a40 0) 0)∧
           At (hset S (adr (adr a40 0) 0) (.int .u32 e38)) (fun h41=>
            K (some ⟨h1.size,0,none⟩) h41))) O))) (hnew C [.string p.1,.string p.2] af):=by
   generalize hnew C [.string p.1,.string p.2] af=h4 at V b4 z4 N;rw[cr C];have hA4:=(hA3.upd V fun _ _ h=>h).more (M':=fun x=>A3 x∨h4.size≤x) fun x hx=>.inl hx
   have hpn:(⟨upd s.p i none,upd s.k i none⟩:Slots).p i=none:=jF;refine Hi hA4 (Nt hi f.dp) (by have:=AY (g:=(⟨upd s.p i none,upd s.k i none⟩:Slots).p);omega) (x:=p) b4 (fun e=>e.elim (fun e=>by have:=(j _ e).2.2.2;omega) fun e=>by omega) (fun x hx=>.inr hx) fun s5 h5 X E=>?_
   rw[←Lo hi f.dp hpn p]at X;have hbl:h1.size<C.size:=aW z.blk;have b5:=E.get N.blk fun e=>e.elim (fun e=>(j _ e).2.2.1 rfl) fun e=>by omega
   refine⟨_,rfl,Mx (i:=2) b5 (show 2<6 by decide),DT (i:=2) (c':=eW d3 n3 s5 I false none) b5 rfl fun h6 b6 hu6=>?_⟩
   refine⟨_,rfl,_,d8 (i:=0) b6,H5 f.d32 hi fun w Z hwt=>?_⟩
   refine⟨_,rfl,Mx (i:=0) b6 (show 0<6 by decide),DT (i:=0) (c':=eW w n3 s5 I false none) b6 rfl fun h7 b7 hu7=>?_⟩
   have t:=hu6.tr hu7;have z5:=E.size;have z7:=t.size;have Q:=X.within;have e1:(⟨upd (⟨upd s.p i none,upd s.k i none⟩:Slots).p i (some p),upd s.k i none⟩:Slots)=⟨upd s.p i (some p),upd s.k i none⟩:=by rw[H6]
   have o7:OwnN (fun x=>h1.size≤x) h7 h1.size w n3 s5 I ⟨upd s.p i (some p),upd s.k i none⟩ none:=by
    rw[←e1];refine⟨b7,⟨Z,f.n32,fun c hc=>?_,f.nk⟩,⟨fun x=>(A3 x∨h4.size≤x)∧x<h5.size,B3,Q.upd t fun x hx e=>?_,((hB3.upd V fun _ _ h=>h).upd E fun x hx e=>?_).upd t fun x hx e=>(k x hx).2.1 e,fun x hx=>⟨?_,?_,?_,by omega⟩,fun x hx=>⟨(k x hx).1,(k x hx).2.1,by have:=(k x hx).2.2;omega⟩⟩,o.mb⟩
    ·rw[hwt,f.dp c hc];simp only[upd];split<;>simp[*]
    ·have e:x=h1.size:=e
     rcases hx.1 with h|h
     ·exact(j x h).2.2.1 e
     ·omega
    ·rcases e with e|e
     ·exact(j x e).2.1 hx
     ·have:=(k x hx).2.2;omega
    ·rcases hx.1 with h|h
     ·exact(j x h).1
     ·omega
    ·rcases hx.1 with h|h
     ·exact(j x h).2.1
     ·exact fun hb=>by have:=(k x hb).2.2;omega
    ·rcases hx.1 with h|h
     ·exact(j x h).2.2.1
     ·omega
   refine hk _ _ (o7.node T) (((Y.tr V).trans E fun x hx=>.inr ?_).trans t fun x hx=>.inr ?_)
   ·rcases hx with h|h
    ·have:=(j x h).1;omega
    ·omega
   ·have hx:x=h1.size:=hx
    omega
  refine⟨m6 f.d32 hi ⟨⟨by rw[bO,aP v];rfl,by rw[bO,aP v];rfl⟩,d8 (i:=2) z.blk,aX ⟨d8 (i:=2) N.blk,fin⟩⟩,aX ⟨d8 (i:=0) N.blk,d8 (i:=2) N.blk,m6 f.d32 hi ⟨d8 (i:=2) N.blk,fin⟩⟩⟩
end Go.Proofs
namespace Go.Proofs
open Go.Lift
theorem xL{W:Nat→Prop}{h:ac}{b:Nat}{s:Slots}(nd:NodeAt W h b s)(hW:∀x,W x→x<h.size){i:Nat}(hi:i<32)(hx:∀y,s.k i=some y→s.p i=none)(j:Addr){K:Option Addr→ac→Prop}
  (hk:∀h' b',NodeAt W h' b' ⟨upd s.p i none,upd s.k i (some (some j))⟩→Upd No h h'→K (some ⟨b',0,none⟩) h'):
  HC PG gB [.pointer (some ⟨b,0,none⟩),.pointer none,.int .i64 i,.pointer (some j)] [.c .ptr] K h:=by
 refine vS _ none i (some j) ?_;unfold pX dw eC dJ kP bW qb oQ Km;refine ak.2 ?_;refine Fz nd hi (ak.2 ?_);refine KY nd fun h2 d n sp sk o F=>?_
 have bits:=o.bits;obtain⟨A,B,hA,hB,u,t⟩:=o.ex;have Q:∀x,h.size≤x→¬W x:=fun x hx D=>by have:=hW x D;omega
 refine⟨_,rfl,_,d8 (i:=1) o.blk,yc bits.n32 hi ?_⟩;rw[bits.nk i hi];cases hp:s.k i with
 |some y=>
  refine aB.2 ⟨_,rfl,sk,d8 (i:=3) o.blk,_,rfl,_,d8 (i:=1) o.blk,?_⟩;refine m6 bits.n32 hi ⟨d8 (i:=3) o.blk,?_⟩;have hlt:=Db hi bits.nk hp;obtain⟨a,ha,I,D,O,p⟩:=OwnS.setAt hB hlt (some j);have hlen:=hB.len;refine⟨by omega,a,ha,?_⟩;rw[aL];have hw1:Wr h2 (adr a (rE i n*1)):=by
   rcases D with D|⟨b',hb',D⟩
   ·cases D
   ·cases hb';exact D 0 (by simp)
  refine⟨hw1,aX ?_⟩;rw[←Ln hi bits.nk hp]at O;have ob:=p.get o.blk fun e=>(t _ I).2.1 e.symm
  have z3:=p.size;have v:OwnN (fun x=>h.size≤x) _ h.size d n sp sk ⟨upd s.p i none,upd s.k i (some (some j))⟩ none:=⟨ob,⟨bits.d32,bits.n32,fun c hc=>by rw[bits.dp c hc,ra (hx y hp)],fun c hc=>by
    rw[bits.nk c hc];simp only[upd];split
    ·rename_i e;rw[e,hp];rfl
    ·rfl⟩,
   ⟨A,B,by rw[ra (hx y hp)];exact hA.upd p fun x hx e=>(u _ hx).2.1 (e▸I),O,fun x hx=>⟨(u x hx).1,(u x hx).2.1,(u x hx).2.2.1,by have:=(u x hx).2.2.2;omega⟩,fun x hx=>⟨(t x hx).1,(t x hx).2.1,by have:=(t x hx).2.2;omega⟩⟩,o.mb⟩
  refine hk _ _ (v.node Q) (F.trans p fun x hx=>.inr ?_)
  have:=(t _ I).1;have hx:x=a.block:=hx;omega
 |none=>
  refine ak.2 ⟨_,rfl,IC o hi fun C d3 n3 G z v p=>?_⟩
  have f:=v.bits;obtain⟨A3,B3,hA3,hB3,k,m⟩:=v.ex;have z2:=F.size;have z3:=p.size;have U:Upd No h C:=F.trans p fun x hx=>.inr hx
  refine⟨_,rfl,z,d8 (i:=3) v.blk,_,rfl,_,d8 (i:=1) v.blk,?_⟩;have R:=Upd.hnew No C [.pointer (some j)] bl;have b4:=bN C [.pointer (some j)] bl;have z4:=gX C [.pointer (some j)] bl;have J:=v.upd R fun _ h=>h.elim
  have V:HC PG ci [.slice z.a z.len z.cap,.int .i64 (rE i n3),.slice (some (bc C)) 1 1] [.c .slice] (fun(H:SliceV) S=>
       ∃a34:Addr,some (⟨h.size,0,none⟩:Addr)=some a34∧
       (Wr S (adr (adr a34 0) 3)∧
        At (hset S (adr (adr a34 0) 3) (.slice H.a H.len H.cap)) (fun L=>
         ∃a36:Addr,some (⟨h.size,0,none⟩:Addr)=some a36∧
         ∃v37:Int,aF L (adr (adr a36 0) 1)=some (.int .u32 v37)∧
         HC PG eu [.int .u32 v37,.int .i64 i] [.c (.int .u32)] (fun(e38:Int) P=>
          ∃a40:Addr,some (⟨h.size,0,none⟩:Addr)=some a40∧
          (Wr P (adr (adr a40 0) 1)∧
           At (hset P (adr (adr a40 0) 1) (.int .u32 e38)) (fun h41=>
            K (some ⟨h.size,0,none⟩) h41))) L))) (hnew C [.pointer (some j)] bl):=by
   generalize hnew C [.pointer (some j)] bl=h4 at R b4 z4 J;rw[cr C];have hB4:=(hB3.upd R fun _ _ h=>h).more (M':=fun x=>B3 x∨h4.size≤x) fun x hx=>.inl hx
   have hpn:(⟨upd s.p i none,upd s.k i none⟩:Slots).k i=none:=jF;refine Hj hB4 (Nt hi f.nk) (by have:=AY (g:=(⟨upd s.p i none,upd s.k i none⟩:Slots).k);omega) (x:=some j) b4 (fun e=>e.elim (fun e=>by have:=(m _ e).2.2;omega) fun e=>by omega) (fun x hx=>.inr hx) fun s5 h5 T E=>?_
   rw[←Lo hi f.nk hpn (some j)]at T;have hbl:h.size<C.size:=aW v.blk;have b5:=E.get J.blk fun e=>e.elim (fun e=>(m _ e).2.1 rfl) fun e=>by omega
   refine⟨_,rfl,Mx (i:=3) b5 (show 3<6 by decide),DT (i:=3) (c':=eW d3 n3 G s5 false none) b5 rfl fun h6 b6 X=>?_⟩
   refine⟨_,rfl,_,d8 (i:=1) b6,H5 f.n32 hi fun w D Z=>?_⟩
   refine⟨_,rfl,Mx (i:=1) b6 (show 1<6 by decide),DT (i:=1) (c':=eW d3 w G s5 false none) b6 rfl fun h7 b7 Y=>?_⟩
   have q:=X.tr Y;have z5:=E.size;have z7:=q.size;have N:=T.within;have e1:(⟨upd s.p i none,upd (⟨upd s.p i none,upd s.k i none⟩:Slots).k i (some (some j))⟩:Slots)=⟨upd s.p i none,upd s.k i (some (some j))⟩:=by rw[H6]
   have o7:OwnN (fun x=>h.size≤x) h7 h.size d3 w G s5 ⟨upd s.p i none,upd s.k i (some (some j))⟩ none:=by
    rw[←e1];refine⟨b7,⟨f.d32,D,f.dp,fun c hc=>?_⟩,⟨A3,fun x=>(B3 x∨h4.size≤x)∧x<h5.size,((hA3.upd R fun _ _ h=>h).upd E fun x hx e=>?_).upd q fun x hx e=>(k x hx).2.2.1 e,N.upd q fun x hx e=>?_,fun x hx=>⟨(k x hx).1,?_,(k x hx).2.2.1,by have:=(k x hx).2.2.2;omega⟩,fun x hx=>⟨?_,?_,by omega⟩⟩,o.mb⟩
    ·rw[Z,f.nk c hc];simp only[upd];split<;>simp[*]
    ·rcases e with e|e
     ·exact(k x hx).2.1 e
     ·have:=(k x hx).2.2.2;omega
    ·have e:x=h.size:=e
     rcases hx.1 with h|h
     ·exact(m x h).2.1 e
     ·omega
    ·rintro⟨h|h,_⟩
     ·exact(k x hx).2.1 h
     ·have:=(k x hx).2.2.2;omega
    ·rcases hx.1 with h|h
     ·exact(m x h).1
     ·omega
    ·rcases hx.1 with h|h
     ·exact(m x h).2.1
     ·omega
   refine hk _ _ (o7.node Q) (((U.tr R).trans E fun x hx=>.inr ?_).trans q fun x hx=>.inr ?_)
   ·rcases hx with h|h
    ·exact(m x h).1
    ·omega
   ·have hx:x=h.size:=hx
    omega
  refine⟨m6 f.n32 hi ⟨d8 (i:=3) v.blk,aX ⟨d8 (i:=3) J.blk,V⟩⟩,aX ⟨d8 (i:=1) J.blk,d8 (i:=3) J.blk,m6 f.n32 hi ⟨d8 (i:=3) J.blk,V⟩⟩⟩
end Go.Proofs
namespace Go.Proofs
open Go.Lift
theorem MR{h:ac}{b d n:Nat}{sp sk:SliceV}{a:Bool}{ow:Option Addr}(e:h[b]? =some (.cells (eW d n sp sk a ow) aZ (0,0))) {K:Int→ac→Prop} (c:K (d:Int) h):HC PG mQ [.pointer (some ⟨b,0,none⟩)] [.c (.int .u32)] K h:=by
 refine yF _ ?_;unfold rB eC;exact ak.2 ⟨_,rfl,_,d8 (i:=0) e,c⟩
theorem K3{h:ac}{b d n:Nat}{sp sk:SliceV}{a:Bool}{ow:Option Addr}(e:h[b]? =some (.cells (eW d n sp sk a ow) aZ (0,0))) {K:Int→ac→Prop} (c:K (n:Int) h):HC PG l5 [.pointer (some ⟨b,0,none⟩)] [.c (.int .u32)] K h:=by
 refine xh _ ?_;unfold qC eC;exact ak.2 ⟨_,rfl,_,d8 (i:=1) e,c⟩
theorem nA{h:ac}{b d n:Nat}{sp sk:SliceV}{a:Bool}{ow:Option Addr}(e:h[b]? =some (.cells (eW d n sp sk a ow) aZ (0,0))) {K:Bool→ac→Prop} (c:K a h):HC PG fR [.pointer (some ⟨b,0,none⟩)] [.c .bool] K h:=by
 refine tJ _ ?_;unfold nR eh;exact aB.2 ⟨_,rfl,_,d8 (i:=4) e,c⟩
def MI(o:Option Pr):Pr:=o.getD (⟨#[]⟩,⟨#[]⟩)
theorem KV{h:ac}{b:Nat}{q p:Pr}(a:h[b]? =some (.cells #[.string q.1,.string q.2] af (0,0))) {k:ac→Prop}
  (d:∀h',h'[b]? =some (.cells #[.string p.1,.string p.2] af (0,0))→Upd (· =b) h h'→k h'):rk h (some ⟨b,0,none⟩) 0 [.string p.1,.string p.2]∧At (ie h ⟨b,0,none⟩ 0 [.string p.1,.string p.2]) k:=by
 have e:=gV [.string p.1,.string p.2] h 0 0 [.string q.1,.string q.2] a (by simp);refine⟨.inr ⟨_,rfl,fun j c=>by rw[bO];exact gR a (by simp at c⊢;omega)⟩,aX ?_⟩
 rw[e];refine d _ ?_ (Upd.set h _ rfl);rw[gL a];rfl
theorem Fj{W:Nat→Prop}{h:ac}{b:Nat}{s:Slots}(nd:NodeAt W h b s){i:Nat}(hi:i<32){K:Pr×Bool→ac→Prop}(k:∀h',Upd No h h'→K (MI (s.p i),(s.p i).isSome) h'):
  HC PG j8 [.pointer (some ⟨b,0,none⟩),.int .i64 i] [.agg [.str,.str],.c .bool] K h:=by
 refine yE _ i ?_;unfold rA dw eC bD al eg nW kB kP bW;obtain⟨d,n,sp,sk,ow,u,bits,g,q,w,A⟩:=nd.ex;have k1:=Upd.hnew No h [.string (⟨#[]⟩:ByteArray),.string (⟨#[]⟩:ByteArray)] af;have b1:=bN h [.string (⟨#[]⟩:ByteArray),.string (⟨#[]⟩:ByteArray)] af;refine aX ?_;simp only[cr h];generalize hnew h [.string (⟨#[]⟩:ByteArray),.string (⟨#[]⟩:ByteArray)] af=h1 at k1 b1
 have c:=k1.get0 u;have j:h1[h.size]? =some (.cells #[.string Nx.1,.string Nx.2] af (0,0)):=b1;refine MR c (yc bits.d32 hi ?_);rw[bits.dp i hi];cases hp:s.p i with
 |none=>
  rw[hp]at k;refine aB.2 (KV (p:=Nx) j fun v b2 e=>⟨_,by rw[bO,aP b2];rfl,_,by rw[bO,aP b2];rfl,k _ (k1.trans e fun x hx=>.inr (dG hx.symm))⟩)
 |some y=>
  rw[hp]at k;refine ak.2 ⟨_,rfl,sp,d8 (i:=2) c,_,rfl,_,d8 (i:=0) c,m6 bits.d32 hi ⟨d8 (i:=2) c,?_⟩⟩;have t:=Db hi bits.dp hp;have f:=g.upd k1 fun _ h=>h.elim
  obtain⟨a,z,_,o⟩:=f.at (Lq hi bits.dp hp);have m:=g.len;refine⟨by omega,a,z,y.1,o 0 _ rfl,y.2,o 1 _ rfl,?_⟩;refine KV (p:=y) j fun v b2 e=>⟨_,by rw[bO,aP b2];rfl,_,by rw[bO,aP b2];rfl,k _ (k1.trans e fun x hx=>.inr (dG hx.symm))⟩
theorem DX{W:Nat→Prop}{h:ac}{b:Nat}{s:Slots}(nd:NodeAt W h b s){i:Nat}(hi:i<32){K:Option Addr×Bool→ac→Prop}(f:K ((s.k i).getD none,(s.k i).isSome) h):
  HC PG lf [.pointer (some ⟨b,0,none⟩),.int .i64 i] [.c .ptr,.c .bool] K h:=by
 refine zL _ i ?_;unfold sq bB dw eC kP bW;obtain⟨d,n,sp,sk,ow,e,bits,p,c,k,o⟩:=nd.ex;refine K3 e (yc bits.n32 hi ?_);rw[bits.nk i hi];cases hp:s.k i with
 |none=>rw[hp]at f;exact aB.2 f
 |some y=>
  rw[hp]at f;refine ak.2 ⟨_,rfl,sk,d8 (i:=3) e,_,rfl,_,d8 (i:=1) e,m6 bits.n32 hi ⟨d8 (i:=3) e,?_⟩⟩;have j:=Db hi bits.nk hp;obtain⟨a,m,_,q⟩:=c.at (Lq hi bits.nk hp);have g:=c.len;exact⟨by omega,a,m,y,q 0 _ rfl,f⟩
theorem Fe{W:Nat→Prop}{h:ac}{b d n:Nat}{sp sk:SliceV}{e:Bool}{ow:Option Addr}{l:List Pr}(c:h[b]? =some (.cells (eW d n sp sk e ow) aZ (0,0))) (a:Sl eA 2 W h sp l) (g:l.length≤1000000000) {K:SliceV→ac→Prop}
  (f:∀s' h',OwnS eA 2 af (fun x=>h.size≤x) h' s' l→Upd No h h'→K s' h'):HC PG jv [.pointer (some ⟨b,0,none⟩)] [.c .slice] K h:=by
 refine qq _ ?_;unfold me bW;exact ak.2 ⟨_,rfl,sp,d8 (i:=2) c,ua a (by omega) f⟩
theorem MF{W:Nat→Prop}{h:ac}{b d n:Nat}{sp sk:SliceV}{e:Bool}{ow:Option Addr}{l:List (Option Addr)}(c:h[b]? =some (.cells (eW d n sp sk e ow) aZ (0,0))) (a:Sl pn 1 W h sk l) (g:l.length≤1000000000) {K:SliceV→ac→Prop}
  (f:∀s' h',OwnS pn 1 bl (fun x=>h.size≤x) h' s' l→Upd No h h'→K s' h'):HC PG mP [.pointer (some ⟨b,0,none⟩)] [.c .slice] K h:=by
 refine rl _ ?_;unfold mV bW;exact ak.2 ⟨_,rfl,sk,d8 (i:=3) c,yi a (by omega) f⟩
structure BuckAt(W:Nat→Prop)(h:ac)(b:Nat)(l:List Pr):Prop where
 ex:∃sp sk ow,h[b]? =some (.cells (eW 0 0 sp sk true ow) aZ (0,0))∧Sl eA 2 W h sp l∧Sl pn 1 W h sk []∧sp.len≤sp.cap∧sk.len≤sk.cap
 nw:¬W b
theorem BuckAt.upd{W M:Nat→Prop}{h h':ac}{b:Nat}{l:List Pr}(n:BuckAt W h b l)(k:Upd M h h')(hm:∀b,M b→W b∨h.size≤b):BuckAt W h' b l:=by
 obtain⟨sp,sk,ow,a,f,e,g,c⟩:=n.ex;exact⟨⟨sp,sk,ow,k.get a (fun d=>(hm _ d).elim n.nw fun h=>by have:=aW a;omega),f.upd k hm,e.upd k hm,g,c⟩,n.nw⟩
theorem Lf{W:Nat→Prop}{h:ac}{b:Nat}{l:List Pr}(w:BuckAt W h b l)(n:di l)(o:l.length≤1000000000)(k:ByteArray){K:ByteArray×Bool→ac→Prop}
  (i:∀h' v,Upd No h h'→(dQ l k=true→(k,v)∈l)→(dQ l k=false→v=⟨#[]⟩)→K (v,dQ l k) h'):HC PG pF [.pointer (some ⟨b,0,none⟩),.string k] [.c .str,.c .bool] K h:=by
 refine HS _ k ?_;unfold BM dw bD Nf;obtain⟨sp,sk,ow,x,m,z,u,s⟩:=w.ex;refine Fe x m o fun q A j f=>?_
 have d:Sl eA 2 No A q l:=j.sl fun _ _ _ h=>h
 refine IB d n o k fun B c=>?_
 cases ht:dQ l k with
 |false=>rw[ht]at i;exact aB.2 (i _ _ (f.tr c) (fun h=>by cases h) fun _=>rfl)
 |true=>
  rw[ht]at i;obtain⟨g,e⟩:=GV n ht;obtain⟨a,t,_,y⟩:=(d.upd c fun _ h=>h.elim).at (List.getElem?_eq_getElem g)
  have p:=d.len;refine ak.2 ⟨by simp only;omega,a,t,_,y 1 _ rfl,i _ _ (f.tr c) (fun _=>?_) fun h=>by cases h⟩
  have:(k,l[pos l k].2)=l[pos l k]:=Prod.ext e.symm rfl;rw[this];exact List.getElem_mem g
theorem O8{W:Nat→Prop}{h:ac}{b:Nat}{l:List Pr}(f:BuckAt W h b l)(c:di l)(e:l.length≤1000000000)(k:ByteArray){K:ByteArray×Bool→ac→Prop}
 (d:∀h' v,Upd No h h'→(dQ l k=true→(k,v)∈l)→K (v,dQ l k) h'):HC PG pF [.pointer (some ⟨b,0,none⟩),.string k] [.c .str,.c .bool] K h:=Lf f c e k fun h' v a g _=>d h' v a g
end Go.Proofs
namespace Go.Proofs
open Go.Lift
set_option maxRecDepth 4000 in
theorem Mu{W:Nat→Prop}{h:ac}{b:Nat}{l:List Pr}(nd:BuckAt W h b l)(Y:l.length≤1000000000){K:Option Addr→ac→Prop}
  (F:∀h' sp sk,h'[h.size]? =some (.cells (eW 0 0 sp sk true none) aZ (0,0))→OwnS eA 2 af (fun x=>h.size<x∧x<h'.size) h' sp l→OwnS pn 1 bl (fun x=>h.size<x∧x<h'.size) h' sk []→Upd No h h'→K (some ⟨h.size,0,none⟩) h'):
  HC PG gY [.pointer (some ⟨b,0,none⟩),.pointer none] [.c .ptr] K h:=by
 obtain⟨sp,sk,ow,a,z,E,N,T⟩:=nd.ex;refine se _ none ?_;unfold oq eC dJ nv gt eh bW Kd oQ NB;refine CR (ak.2 ?_);have c:∀{h:ac} {b:Nat} {c:Array Value} {i:Nat},h[b]? =some (.cells c aZ (0,0))→aF h ⟨b,0+i,none⟩=c[i]?:=fun a=>by rw[aC];exact aP a
 refine⟨_,rfl,_,c (i:=0) a,_,c (i:=1) a,sp,c (i:=2) a,sk,c (i:=3) a,_,c (i:=4) a,_,c (i:=5) a,?_⟩;have k1:=Upd.hnew No h [.int .u32 0,.int .u32 0,.slice none 0 0,.slice none 0 0,.bool false,.pointer none] aZ;have b1:=bN h [.int .u32 0,.int .u32 0,.slice none 0 0,.slice none 0 0,.bool false,.pointer none] aZ;refine aX ?_;simp only[cr h];generalize hnew h [.int .u32 0,.int .u32 0,.slice none 0 0,.slice none 0 0,.bool false,.pointer none] aZ=h1 at k1 b1
 have A:ie h1 ⟨h.size,0,none⟩ 0 [.int .u32 ((0:Nat):Int),.int .u32 ((0:Nat):Int),.slice sp.a sp.len sp.cap,.slice sk.a sk.len sk.cap,.bool true,.pointer ow]=_:=gV _ h1 0 0 _ b1 (by simp);refine⟨.inr ⟨_,rfl,fun j P=>by rw[bO];exact gR b1 (by simp at P⊢;omega)⟩,aX ?_⟩
 rw[A];have b2:=gL (o:=.cells (eW 0 0 sp sk true ow) aZ (0,0)) b1;have q:Upd No h _:=k1.trans (M':=(· =h.size)) (Upd.set h1 (.cells (eW 0 0 sp sk true ow) aZ (0,0)) rfl) fun x hx=>.inr (dG hx.symm)
 have C:h.size<(h1.setIfInBounds h.size (.cells (eW 0 0 sp sk true ow) aZ (0,0))).size:=aW b2;have R:h.size≠b:=fun e=>by have:=aW a;omega
 have O:(Obj.cells (List.take (0+0) [Value.int .u32 0,.int .u32 0,.slice none 0 0,.slice none 0 0,.bool false,.pointer none]++ [Value.int .u32 ((0:Nat):Int),.int .u32 ((0:Nat):Int),.slice sp.a sp.len sp.cap,.slice sk.a sk.len sk.cap,.bool true,.pointer ow]++List.drop (0+0+ [Value.int .u32 ((0:Nat):Int),.int .u32 ((0:Nat):Int),.slice sp.a sp.len sp.cap,.slice sk.a sk.len sk.cap,.bool true,.pointer ow].length) [Value.int .u32 0,.int .u32 0,.slice none 0 0,.slice none 0 0,.bool false,.pointer none]).toArray aZ (0,0))=.cells (eW 0 0 sp sk true ow) aZ (0,0):=rfl
 rw[O];generalize h1.setIfInBounds h.size (.cells (eW 0 0 sp sk true ow) aZ (0,0))=h2 at b2 q C;have m:=q.get0 a;refine⟨_,rfl,sp,c (i:=2) m,_,rfl,sk,c (i:=3) m,?_⟩;refine ua (z.upd q fun _ h=>h.elim) (by omega) fun s X y f=>?_
 refine⟨c (i:=3) (f.get0 m),?_⟩;refine yi ((E.upd q fun _ h=>h.elim).upd f fun _ h=>h.elim) (by simp) fun D h4 G g=>?_
 have L:=g.get0 (f.get0 b2);have n:=y.within.upd g fun _ _ h=>h
 have p:=G.within;have Z:=f.size;have U:=g.size;have w:∀{h:ac} {c:Array Value} {x i:Nat},h[x]? =some (.cells c aZ (0,0))→i<c.size→Wr h ⟨x,0+i,none⟩:=fun a hi=>by rw[aC];exact gR a hi
 have st:∀{h:ac} {c c':Array Value} {x i:Nat} {v:Value} {k:ac→Prop},h[x]? =some (.cells c aZ (0,0))→c.setIfInBounds i v=c'→(∀h',h'[x]? =some (.cells c' aZ (0,0))→Upd (· =x) h h'→k h')→At (hset h ⟨x,i,none⟩ v) k:=fun a e F=>vD a fun h' B Q=>F h' (e▸B) Q
 refine⟨w (i:=2) L (show 2<6 by decide),st (i:=2) (c':=eW 0 0 s sk true ow) L rfl fun h5 I H=>?_⟩
 refine⟨w (i:=3) I (show 3<6 by decide),st (i:=3) (c':=eW 0 0 s D true ow) I rfl fun V J t=>?_⟩
 refine⟨w (i:=5) J (show 5<6 by decide),st (i:=5) (c':=eW 0 0 s D true none) J rfl fun h7 S u=>?_⟩
 refine sJ (ak.2 ?_);have d:=H.tr (t.tr u);have z7:=d.size;refine F _ s D S ((n.upd d fun x hx e=>?_).more fun x hx=>?_) ((p.upd d fun x hx e=>?_).more fun x hx=>?_) ?_
 ·have e:x=h.size:=e;omega
 ·omega
 ·have e:x=h.size:=e;omega
 ·omega
 ·exact((q.tr f).tr g).trans d fun x hx=>.inr (dG hx.symm)
theorem Ef{W:Nat→Prop}{h:ac}{b:Nat}{l:List Pr}(z:BuckAt W h b l)(m:∀x,W x→x<h.size)(B:di l)(t:l.length≤1000000000)(p:Pr){K:Option Addr→ac→Prop}
  (E:∀h' b',BuckAt W h' b' (D0 l p)→Upd No h h'→K (some ⟨b',0,none⟩) h'):
  HC PG gZ [.pointer (some ⟨b,0,none⟩),.pointer none,.agg #[.string p.1,.string p.2]] [.c .ptr] K h:=by
 refine zK _ none p ?_;unfold sn al dJ pf sF bW oQ;have k1:=Upd.hnew No h [.string p.1,.string p.2] af;have b1:=bN h [.string p.1,.string p.2] af;refine aX ?_;simp only[cr h];generalize hnew h [.string p.1,.string p.2] af=h1 at k1 b1;have L:=aW b1;have f:=z.upd k1 fun _ h=>h.elim
 obtain⟨sp,sk,ow,A,y,C,w,G⟩:=f.ex;refine nA A (ak.2 ?_);refine Mu f t fun N F s b2 v u a=>?_
 have j:=a.get0 b1;refine⟨_,rfl,F,d8 (i:=2) b2,p.1,by rw[bO,aP j];rfl,p.2,by rw[bO,aP j];rfl,?_⟩
 refine G3 (v.sl fun _ _ _ h=>h) v.cap B t p fun q J g d=>?_
 have b3:=d.get0 b2;refine⟨_,rfl,Mx (i:=2) b3 (show 2<6 by decide),DT (i:=2) (c':=eW 0 0 q s true none) b3 rfl fun D H c=>?_⟩
 have I:=aW b2;have o:=g.upd c fun x hx e=>by have e:x=h1.size:=e;omega
 have n:=(u.upd d fun _ _ h=>h).upd c fun x hx e=>by have e:x=h1.size:=e;omega
 refine E D h1.size ⟨⟨q,s,none,H,o.sl fun x hx _ k=>?_,n.sl fun x hx _ k=>?_,g.cap,u.cap⟩,fun k=>?_⟩ (((k1.tr a).tr d).trans c fun x hx=>.inr ?_)
 ·have:=m x k;have:=a.size;omega
 ·have:=m x k;omega
 ·have:=m _ k;omega
 ·have hx:x=h1.size:=hx
  omega
theorem JI{W:Nat→Prop}{h:ac}(b:∀x,W x→x<h.size){K:Option Addr→ac→Prop}(a:∀h' b',BuckAt W h' b' []→Upd No h h'→K (some ⟨b',0,none⟩) h'):HC PG qT [] [.c .ptr] K h:=by
 refine Cn ?_;unfold uO;exact a _ _ ⟨⟨⟨none,0,0⟩,⟨none,0,0⟩,none,bN h _ _,Sl.nil ia,Sl.nil oc,aq _,aq _⟩,fun hx=>ni _ (b _ hx)⟩ (Upd.hnew No h _ _)
theorem oV{W:Nat→Prop}{h:ac}(d:∀x,W x→x<h.size){K:Option Addr→ac→Prop}(b:∀h' b',NodeAt W h' b' ⟨fun _=>none,fun _=>none⟩→Upd No h h'→K (some ⟨b',0,none⟩) h'):HC PG l6 [] [.c .ptr] K h:=by
 refine Er ?_;unfold xw Kd;have e:fm (fun _=>(none:Option Pr)) 32= []:=by simp[fm]
 have a:fm (fun _=>(none:Option (Option Addr))) 32= []:=by simp[fm]
 refine b _ _ ⟨⟨0,0,⟨none,0,0⟩,⟨none,0,0⟩,none,bN h _ _,⟨by decide,by decide,fun c _=>by simp,fun c _=>by simp⟩,?_,?_,aq _,aq _⟩,fun hx=>ni _ (d _ hx)⟩ (Upd.hnew No h _ _)
 ·show Sl eA 2 W _ _ (fm (fun _=>none) 32)
  rw[e];exact Sl.nil ia
 ·show Sl pn 1 W _ _ (fm (fun _=>none) 32)
  rw[a];exact Sl.nil oc
end Go.Proofs
namespace Go.Proofs
open Go.Lift
def eX(p:Pr):List Pr→List Pr
 | []=> [p]
 |q::l=>if kl q.1 p.1 then q::eX p l else if q.1=p.1 then p::l else p::q::l
theorem fC(p q:Pr)(l:List Pr):eX p (q::l)=if kl q.1 p.1 then q::eX p l else if q.1=p.1 then p::l else p::q::l:=rfl
theorem zV(p:Pr):∀{l:List Pr},di l→D0 l p=eX p l
 | [],_=>by simp[D0,eX,pos,dQ]
 |q::l,d=>by
  have d:=aQ.1 d;unfold eX;have a:pos (q::l) p.1=if kl q.1 p.1 then pos l p.1+1 else 0:=by
   unfold pos;rw[List.takeWhile_cons];by_cases h:kl q.1 p.1
   ·rw[if_pos (by simpa using h),if_pos h];rfl
   ·rw[if_neg (by simpa using h),if_neg h];rfl
  have c:dQ (q::l) p.1=(decide (q.1=p.1)||dQ l p.1):=by unfold dQ;rw[List.any_cons]
  by_cases h:kl q.1 p.1
  ·have g:q.1≠p.1:=fun e=>by rw[e]at h;exact cP _ h
   rw[if_pos h,←zV p d.2];unfold D0;rw[c,a,if_pos h,decide_eq_false g,Bool.false_or];by_cases b:dQ l p.1=true
   ·rw[if_pos b,if_pos b];rfl
   ·rw[if_neg b,if_neg b];rfl
  ·rw[if_neg h]
   unfold D0;rw[c,a,if_neg h];by_cases e:q.1=p.1
   ·rw[if_pos e,decide_eq_true e,Bool.true_or,if_pos rfl];rfl
   ·have j:=qM h e
    have b:dQ l p.1=false:=by
     unfold dQ;rw[List.any_eq_false];intro r f i;have i:=of_decide_eq_true i;have:=d.1 r f;rw[i]at this;exact cP _ (g5 j this)
    rw[if_neg e,decide_eq_false e,b];rfl
theorem wC{p q:Pr}:∀{l:List Pr},q∈eX p l→q=p∨q∈l
 | [],h=>by simp[eX]at h;exact .inl h
 |r::l,h=>by
  unfold eX at h;split at h
  ·rcases au.1 h with h|h
   ·exact .inr (h▸ay ..)
   ·exact(wC h).imp id fun h=>aI _ h
  ·split at h
   ·rcases au.1 h with h|h
    ·exact .inl h
    ·exact .inr (aI _ h)
   ·rcases au.1 h with h|h
    ·exact .inl h
    ·exact .inr h
theorem xP(p:Pr):∀{l:List Pr},di l→di (eX p l)
 | [],_=>bX ..
 |q::l,a=>by
  have c:=a;have a:=aQ.1 a;unfold eX;split
  ·rename_i h
   refine aQ.2 ⟨fun r hm=>?_,xP p a.2⟩
   rcases wC hm with rfl|hm
   ·exact h
   ·exact a.1 r hm
  ·rename_i h
   split
   ·rename_i e
    exact aQ.2 ⟨fun r hm=>e▸a.1 r hm,a.2⟩
   ·rename_i e
    have b:=qM h e;refine aQ.2 ⟨fun r hm=>?_,c⟩
    rcases au.1 hm with rfl|hm
    ·exact b
    ·exact g5 b (a.1 r hm)
theorem A2(p:Pr)(g:ByteArray→Bool):∀{l:List Pr},di l→(eX p l).filter (fun q=>g q.1)=if g p.1 then eX p (l.filter fun q=>g q.1)else l.filter fun q=>g q.1
 | [],_=>by
  unfold eX;rw[cD,List.filter_nil]
 |q::l,c=>by
  have i:=c;have c:=aQ.1 c;have j:=A2 p g c.2;rw[fC];by_cases h:kl q.1 p.1
  ·rw[if_pos h,cD,cD,j]
   by_cases f:g q.1=true
   ·rw[if_pos f,if_pos f]
    split
    ·rw[fC,if_pos h]
    ·rfl
   ·rw[if_neg f,if_neg f]
  ·rw[if_neg h]
   by_cases e:q.1=p.1
   ·rw[if_pos e,cD,cD,e]
    by_cases a:g p.1=true
    ·rw[if_pos a,if_pos a,if_pos a,fC,if_neg h,if_pos e]
    ·rw[if_neg a,if_neg a,if_neg a]
   ·rw[if_neg e]
    have d:=qM h e;rw[cD];by_cases a:g p.1=true
    ·rw[if_pos a,if_pos a]
     have:∀r∈(q::l).filter (fun q=>g q.1),kl p.1 r.1:=fun r hm=>by
      rcases au.1 (List.mem_filter.1 hm).1 with rfl|hm
      ·exact d
      ·exact g5 d (c.1 r hm)
     cases hf:(q::l).filter (fun q=>g q.1)with
     |nil=>rfl
     |cons r rs=>
      have b:=this r (by rw[hf];exact ay ..);rw[fC,if_neg fun k=>cP _ (g5 b k),if_neg fun e=>by rw[e]at b;exact cP _ b]
    ·rw[if_neg a,if_neg a]
theorem zU{p:Pr}:∀{l:List Pr},di l→p∈l→eX p l=l
 |q::l,a,hm=>by
  have a:=aQ.1 a;unfold eX;rcases au.1 hm with rfl|hm
  ·rw[if_neg (cP _),if_pos rfl]
  ·rw[if_pos (a.1 p hm),zU a.2 hm]
def ck(x:Hs)(lev:Nat)(k:ByteArray):Nat:=((ir x k).toNat>>>(5*lev))%32
theorem FM(x:Hs)(lev:Nat)(k:ByteArray):ck x lev k<32:=p5 _ (by omega)
def part(x:Hs)(lev c:Nat)(l:List Pr):List Pr:=l.filter fun p=>decide (ck x lev p.1=c)
def TrieAt(W:Nat→Prop)(x:Hs)(h:ac):Nat→Nat→List Pr→Prop
 |0,b,l=>BuckAt W h b l
 |m+1,b,l=>∃s,NodeAt W h b s∧∀c,c<32→
  ((part x (12-m) c l= []∧s.p c=none∧s.k c=none)∨(∃p,part x (12-m) c l= [p]∧s.p c=some p∧s.k c=none)∨
   (2≤(part x (12-m) c l).length∧s.p c=none∧∃kb,s.k c=some (some ⟨kb,0,none⟩)∧TrieAt W x h m kb (part x (12-m) c l)))
theorem TrieAt.upd0{W:Nat→Prop}{x:Hs}{h h':ac}(k:Upd No h h'):∀{m b:Nat} {l:List Pr},TrieAt W x h m b l→TrieAt W x h' m b l
 |0,_,_,t=>BuckAt.upd t k fun _ h=>h.elim
 |m+1,_,_,⟨s,nd,hc⟩=>⟨s,nd.upd k fun _ h=>h.elim,fun c a=>(hc c a).imp id fun o=>o.imp id fun⟨d,i,e,g,f⟩=>⟨d,i,e,g,TrieAt.upd0 k f⟩⟩
theorem NodeAt.less{W W':Nat→Prop}{h:ac}{b:Nat}{s:Slots}(n:NodeAt W h b s)(hm:∀b,W' b→W b∨h.size≤b):NodeAt W' h b s:=by
 obtain⟨d,m,sp,sk,ow,a,i,f,e,g,c⟩:=n.ex;exact⟨⟨d,m,sp,sk,ow,a,i,f.less hm,e.less hm,g,c⟩,fun hx=>(hm _ hx).elim n.nw fun h=>by have:=aW a;omega⟩
theorem BuckAt.less{W W':Nat→Prop}{h:ac}{b:Nat}{l:List Pr}(n:BuckAt W h b l)(hm:∀b,W' b→W b∨h.size≤b):BuckAt W' h b l:=by
 obtain⟨sp,sk,ow,a,e,d,f,c⟩:=n.ex;exact⟨⟨sp,sk,ow,a,e.less hm,d.less hm,f,c⟩,fun hx=>(hm _ hx).elim n.nw fun h=>by have:=aW a;omega⟩
theorem TrieAt.less{W W':Nat→Prop}{x:Hs}{h:ac}(hm:∀b,W' b→W b∨h.size≤b):∀{m b:Nat} {l:List Pr},TrieAt W x h m b l→TrieAt W' x h m b l
 |0,_,_,t=>BuckAt.less t hm
 |m+1,_,_,⟨s,nd,hc⟩=>⟨s,nd.less hm,fun c a=>(hc c a).imp id fun o=>o.imp id fun⟨d,i,e,g,f⟩=>⟨d,i,e,g,TrieAt.less hm f⟩⟩
theorem TrieAt.updM{W M:Nat→Prop}{x:Hs}{h h':ac}(k:Upd M h h')(hm:∀b,M b→W b∨h.size≤b):∀{m b:Nat} {l:List Pr},TrieAt W x h m b l→TrieAt W x h' m b l
 |0,_,_,t=>BuckAt.upd t k hm
 |m+1,_,_,⟨s,nd,hc⟩=>⟨s,nd.upd k hm,fun c a=>(hc c a).imp id fun o=>o.imp id fun⟨d,i,e,g,f⟩=>⟨d,i,e,g,TrieAt.updM k hm f⟩⟩
end Go.Proofs
namespace Go.Proofs
open Go.Lift
theorem Oj(a b:Nat):(aj (IntKind.bits .u64) (a:Int)&&&aj (IntKind.bits .u64) (b:Int)).toNat=(a%18446744073709551616)&&&(b%18446744073709551616):=by
 simp[IntKind.bits,BitVec.toNat_and,BitVec.toNat_ofInt];rfl
theorem Pj{a:Int}(f:0≤a∧a<18446744073709551616){lev:Nat}(g:lev<13){h:ac}{K:Int→ac→Prop}(c:K (((a.toNat>>>(5*lev))%32:Nat):Int) h):HC PG lC [.int .u64 a,.int .i64 lev] [.c (.int .i64)] K h:=by
 refine HR a lev ?_;unfold BL;refine Join.plain (aE (fun h=>by omega) fun _=>?_)
 rw[decide_eq_false (by omega)];refine ak.2 ?_;have d:IntKind.wrap .i64 (5*(lev:Int))=((5*lev:Nat):Int):=by rw[gi (by omega)];omega
 rw[d];have em:min (((5*lev:Nat):Int)).toNat (IntKind.bits .u64)=5*lev:=by rw[aL];exact bK (by show 5*lev≤64;omega)
 rw[em];obtain⟨n,rfl⟩:=Int.eq_ofNat_of_zero_le f.1;rw[aL]at c;simp only[Bd];rw[pt];have b:n>>>(5*lev)<18446744073709551616:=gF (ml _ _) (by omega);have e:=Oj (n>>>(5*lev)) 31;rw[ix b,show((31:Nat):Int)=(31:Int)from rfl,show 31%18446744073709551616=2^5-1 from rfl,Nat.and_two_pow_sub_one_eq_mod]at e
 rw[e];have hm:n>>>(5*lev)%2^5<32:=p5 _ (by omega);rw[Go.IntWalk.u64_in _ (by omega),gi (by omega)];exact⟨by omega,c⟩
theorem MW{x:Hs}{k:ByteArray}{lev:Nat}(b:lev<13){h:ac}{K:Int→ac→Prop}(a:K (ck x lev k:Int) h):HC PG lC [.int .u64 (ir x k),.int .i64 lev] [.c (.int .i64)] K h:=Pj (FB x k) b a
abbrev Nc(x:Hs)(k:ByteArray):Value:=.agg #[.int .u64 x.k0,.int .u64 x.k1,.int .u64 x.mask,.pointer none,.string k,.int .u64 (ir x k)]
theorem Fb{x:Hs}{lev c:Nat}{l:List Pr}(h:∀p∈l,ck x lev p.1=c):part x lev c l=l:=List.filter_eq_self.2 fun p a=>decide_eq_true (h p a)
theorem Im{x:Hs}{lev c:Nat}{l:List Pr}(h:∀p∈l,ck x lev p.1≠c):part x lev c l= []:=List.filter_eq_nil_iff.2 fun p a=>by simpa using h p a
theorem Fa{x:Hs}{lev c:Nat}{p:Pr}{l:List Pr}(a:di l):part x lev c (eX p l)=if ck x lev p.1=c then eX p (part x lev c l)else part x lev c l:=by
 have:=A2 p (fun k=>decide (ck x lev k=c)) a
 unfold part;rw[this];by_cases h:ck x lev p.1=c
 ·rw[if_pos h,if_pos (decide_eq_true h)]
 ·rw[if_neg h,if_neg (by simpa using h)]
theorem H7{p q:Pr}(h:p.1≠q.1):(eX q [p]).length=2:=by
 rw[fC];by_cases a:kl p.1 q.1
 ·rw[if_pos a];rfl
 ·rw[if_neg a,if_neg h];rfl
theorem Ir{p q r:Pr}(h:r∈eX q [p]):r=p∨r=q:=(wC h).symm.imp (fun h=>aw.1 h) id
theorem jZ{β:Type}{g:Nat→Option β}{i c:Nat}{x:Option β}(h:c≠i):upd g i x c=g c:=by unfold upd;rw[if_neg h]
theorem M2{W:Nat→Prop}{x:Hs}:∀(m:Nat) (p q:Pr),m≤13→p.1≠q.1→∀{h:ac},(∀y,W y→y<h.size)→∀{K:Option Addr→ac→Prop},(∀h' b',TrieAt W x h' m b' (eX q [p])→Upd No h h'→K (some ⟨b',0,none⟩) h')→
  HC PG jy [Nc x q.1,.agg #[.string p.1,.string p.2],.agg #[.string q.1,.string q.2],.int .i64 ((13-m:Nat):Int)] [.c .ptr] K h:=by
 intro m;induction m with
 |zero=>
  intro p q _ F h R K P;have B:∀{h'},Upd No h h'→∀y,W y→y<h'.size:=fun k y T=>aG (R y T) k.size
  refine qr (x.k0,x.k1,x.mask,none,q.1,ir x q.1) p q ((13-0:Nat):Int) ?_;unfold mf ae al Cy pf sF ai gr BV su Jk ED;have k1:=Upd.hnew No h [.int .u64 x.k0,.int .u64 x.k1,.int .u64 x.mask,.pointer none,.string q.1,.int .u64 (ir x q.1)] cq;have b1:=bN h [.int .u64 x.k0,.int .u64 x.k1,.int .u64 x.mask,.pointer none,.string q.1,.int .u64 (ir x q.1)] cq
  refine aX ?_;simp only[cr h];generalize hnew h [.int .u64 x.k0,.int .u64 x.k1,.int .u64 x.mask,.pointer none,.string q.1,.int .u64 (ir x q.1)] cq=h1 at k1 b1;have C:=Upd.hnew No h1 [.string p.1,.string p.2] af;have b2:=bN h1 [.string p.1,.string p.2] af;refine aX ?_;simp only[cr h1];generalize hnew h1 [.string p.1,.string p.2] af=h2 at C b2
  have z:=Upd.hnew No h2 [.string q.1,.string q.2] af;have b3:=bN h2 [.string q.1,.string q.2] af;refine aX ?_;simp only[cr h2];generalize hnew h2 [.string q.1,.string q.2] af=h3 at z b3;have d:∀{h':ac},Upd No h3 h'→∀i,aF h' (adr ⟨h.size,0,none⟩ i)=(#[.int .u64 x.k0,.int .u64 x.k1,.int .u64 x.mask,.pointer none,.string q.1,.int .u64 (ir x q.1)]:Array Value)[i]?:=fun k i=>by
   rw[bO,aP (k.get0 (z.get0 (C.get0 b1))),aC]
  have u:∀{h':ac},Upd No h3 h'→∀i,aF h' (adr ⟨h1.size,0,none⟩ i)=(#[.string p.1,.string p.2]:Array Value)[i]?:=fun k i=>by rw[bO,aP (k.get0 (z.get0 b2)),aC]
  have n:∀{h':ac},Upd No h3 h'→∀i,aF h' (adr ⟨h2.size,0,none⟩ i)=(#[.string q.1,.string q.2]:Array Value)[i]?:=fun k i=>by rw[bO,aP (k.get0 b3),aC]
  have r:=Upd.refl No h3;refine aB.2 ⟨none,d r 3,p.1,u r 0,p.2,u r 1,none,d r 3,q.1,n r 0,q.2,n r 1,?_⟩;refine JI (B ((k1.tr C).tr z)) fun h4 b4 V b=>⟨⟨n b 0,n b 1⟩,d b 3,⟨u b 0,u b 1⟩,d b 3,?_⟩
  refine Ef V (B (((k1.tr C).tr z).tr b)) dC (by simp) p fun h5 Y O A=>?_
  have o:=b.tr A;refine⟨⟨n o 0,n o 1⟩,d o 3,?_⟩;have L:D0 [] p= [p]:=zV p dC;rw[L]at O;refine Ef O (B (((k1.tr C).tr z).tr o)) (bX ..) (by simp) q fun Q N J v=>?_
  rw[zV q (bX ..)]at J;exact P Q N J ((((k1.tr C).tr z).tr o).tr v)
 |succ m ih=>
  intro p q hm F h R K P;have B:∀{h'},Upd No h h'→∀y,W y→y<h'.size:=fun k y T=>aG (R y T) k.size
  have Z:13-(m+1)<13:=by omega
  have g:13-(m+1)=12-m:=by omega
  refine qr (x.k0,x.k1,x.mask,none,q.1,ir x q.1) p q ((13-(m+1):Nat):Int) ?_;unfold mf ae al Cy pf sF ai gr BV su Jk ED;have k1:=Upd.hnew No h [.int .u64 x.k0,.int .u64 x.k1,.int .u64 x.mask,.pointer none,.string q.1,.int .u64 (ir x q.1)] cq;have b1:=bN h [.int .u64 x.k0,.int .u64 x.k1,.int .u64 x.mask,.pointer none,.string q.1,.int .u64 (ir x q.1)] cq
  refine aX ?_;simp only[cr h];generalize hnew h [.int .u64 x.k0,.int .u64 x.k1,.int .u64 x.mask,.pointer none,.string q.1,.int .u64 (ir x q.1)] cq=h1 at k1 b1;have C:=Upd.hnew No h1 [.string p.1,.string p.2] af;have b2:=bN h1 [.string p.1,.string p.2] af;refine aX ?_;simp only[cr h1];generalize hnew h1 [.string p.1,.string p.2] af=h2 at C b2
  have z:=Upd.hnew No h2 [.string q.1,.string q.2] af;have b3:=bN h2 [.string q.1,.string q.2] af;refine aX ?_;simp only[cr h2];generalize hnew h2 [.string q.1,.string q.2] af=h3 at z b3;have d:∀{h':ac},Upd No h3 h'→∀i,aF h' (adr ⟨h.size,0,none⟩ i)=(#[.int .u64 x.k0,.int .u64 x.k1,.int .u64 x.mask,.pointer none,.string q.1,.int .u64 (ir x q.1)]:Array Value)[i]?:=fun k i=>by
   rw[bO,aP (k.get0 (z.get0 (C.get0 b1))),aC]
  have u:∀{h':ac},Upd No h3 h'→∀i,aF h' (adr ⟨h1.size,0,none⟩ i)=(#[.string p.1,.string p.2]:Array Value)[i]?:=fun k i=>by rw[bO,aP (k.get0 (z.get0 b2)),aC]
  have n:∀{h':ac},Upd No h3 h'→∀i,aF h' (adr ⟨h2.size,0,none⟩ i)=(#[.string q.1,.string q.2]:Array Value)[i]?:=fun k i=>by rw[bO,aP (k.get0 b3),aC]
  have r:=Upd.refl No h3;have ne:(((13-(m+1):Nat):Int)==(13:Int))=false:=by rw[beq_eq_false_iff_ne];omega
  rw[ne];refine ak.2 ⟨_,d r 0,_,d r 1,_,d r 2,_,u r 0,_,d r 5,?_⟩;refine zX fun h4 b=>⟨d b 5,MW Z ⟨d b 5,MW Z ?_⟩⟩
  have hi:=FM x (13-(m+1)) p.1;have hj:=FM x (13-(m+1)) q.1;have j:=((k1.tr C).tr z);have hcl:=H7 F;refine CondP.intro (fun e=>?_) fun e=>?_
  ·have e:ck x (13-(m+1)) p.1=ck x (13-(m+1)) q.1:=by have:=eq_of_beq e;omega
   refine⟨_,d b 3,_,d b 0,_,d b 1,_,d b 2,_,d b 3,_,d b 4,_,d b 5,_,u b 0,_,u b 1,_,n b 0,_,n b 1,?_⟩;refine oV (B (j.tr b)) fun h5 Y I A=>?_
   have a:=b.tr A;refine⟨⟨n a 0,n a 1⟩,⟨u a 0,u a 1⟩,⟨d a 0,d a 1,d a 2,d a 3,d a 4,d a 5⟩,d a 3,?_⟩;have ew:IntKind.wrap .i64 (((13-(m+1):Nat):Int)+1)=((13-m:Nat):Int):=by rw[gi (by omega)];omega
   rw[ew];refine ih p q (by omega) F (B (j.tr a)) fun Q N t6 v=>?_
   have f:=a.tr v;refine⟨d f 3,?_⟩;refine xL (I.upd v fun _ h=>h.elim) (B (j.tr f)) hi (fun y h=>by cases h) ⟨N,0,none⟩ fun S X H D=>?_
   refine P S X ⟨_,H,fun c hc=>?_⟩ ((j.tr f).tr D)
   rw[g]at e;by_cases t:c=ck x (13-(m+1)) p.1
   ·refine .inr (.inr ?_)
    have ea:part x (12-m) c (eX q [p])=eX q [p]:=Fb fun r G=>by
     rcases Ir G with rfl|rfl
     ·rw[t,g]
     ·rw[t,g,e]
    rw[ea];exact⟨by omega,by simp[upd],N,by rw[t];exact jF,TrieAt.upd0 D t6⟩
   ·refine .inl ⟨Im fun r G=>?_,by simp[upd],jZ t⟩
    rw[g]at t;rcases Ir G with rfl|rfl
    ·exact fun e=>t e.symm
    ·rw[←e];exact fun e=>t e.symm
  ·have e:ck x (13-(m+1)) p.1≠ck x (13-(m+1)) q.1:=fun h=>by rw[h]at e;simp at e
   refine⟨_,d b 3,_,u b 0,_,u b 1,_,d b 3,_,n b 0,_,n b 1,?_⟩;refine oV (B (j.tr b)) fun h5 Y I A=>?_
   have a:=b.tr A;refine⟨⟨n a 0,n a 1⟩,d a 3,⟨u a 0,u a 1⟩,d a 3,?_⟩;refine rK I (B (j.tr a)) hi (fun y h=>by cases h) p fun Q N U v=>?_
   have f:=a.tr v;refine⟨⟨n f 0,n f 1⟩,d f 3,?_⟩;refine rK U (B (j.tr f)) hj (fun y h=>by simp[upd]) q fun S X H D=>?_
   refine P S X ⟨_,H,fun c hc=>?_⟩ ((j.tr f).tr D)
   have s:=Fa (x:=x) (lev:=12-m) (c:=c) (p:=q) (l:= [p]) (bX ..);rw[g]at e;by_cases E:c=ck x (12-m) p.1
   ·have w:ck x (12-m) q.1≠c:=fun h=>e (by omega)
    have L:part x (12-m) c [p]= [p]:=Fb fun r G=>by rw[aw.1 G,E]
    rw[if_neg w,L]at s;exact .inr (.inl ⟨p,s,by simp[upd,g,E,e],by simp[upd]⟩)
   ·have L:part x (12-m) c [p]= []:=Im fun r G=>by rw[aw.1 G];exact fun h=>E h.symm
    rw[L]at s;by_cases w:c=ck x (12-m) q.1
    ·rw[if_pos w.symm]at s
     exact .inr (.inl ⟨q,s,by simp[upd,g,w],by simp[upd]⟩)
    ·rw[if_neg fun h=>w h.symm]at s
     exact .inl ⟨s,by simp[upd,g,w,E],by simp[upd]⟩
end Go.Proofs
