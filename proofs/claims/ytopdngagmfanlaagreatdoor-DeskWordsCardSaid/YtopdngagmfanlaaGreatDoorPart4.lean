/- A part of the proof that the named laws of this program answer true, whatever the input. -/
import Derived.Test.YtopdngagmfanlaaGreatDoorPart3
import Derived.Shelf.Strconv.Itoa1
import Derived.Shelf.Strconv.Itoa2
import Derived.Lib.ItoaNum
import Derived.Lib.ItoaMem
import Derived.Lib.ItoaLen
import Derived.Shelf.LaysM
import Derived.Lib.ParseIntB
import Derived.Shelf.Pu.Lays
import Derived.Test.YtopdngagmfanlaaGreatDoorTreeF0
import Derived.Test.YtopdngagmfanlaaGreatDoorTreeF1
import Derived.Test.YtopdngagmfanlaaGreatDoorTreeF2
import Derived.Shelf.Pu.ParseUintPublic10
import Derived.Test.YtopdngagmfanlaaGreatDoorPart1
import Derived.Test.YtopdngagmfanlaaGreatDoorLift3
import Derived.IntWalk
open Array renaming replicate→hG,size_replicate→iy
open Bool renaming true_and→jK,false_and→qX
open ByteArray renaming data_extract→gw
open Go.IntKind renaming wrap→ac
open Int renaming toNat_natCast→aB
open List renaming length_map→jG,getElem?_eq_some_iff→bi,replicate→bw,all_cons→sC,mem_cons→au,length_cons→aV,flatMap_cons→be,map_cons→cn,replicate_succ→gq,append_assoc→aF,length_append→ai,length_singleton→bZ,map_append→jF,getElem?_eq_getElem→aJ,getElem_mem→ce,take_succ_eq_append_getElem→cc,mem_append→bS,mem_singleton→aN,take_length→bW,any_eq_true→bI,mem_map→dX,nodup_cons→lY,pairwise_cons→bE,mem_cons_of_mem→bj,mem_filter→c5,length_filter_le→fE,length_set→l4,length_take→aP,drop_drop→cE,drop_left'→bT,filter_append→eG
open List.Pairwise renaming nil→ix
open Nat renaming beq→ax,one_pos→mw,le_refl→az,zero_le→cu,not_lt→gO,lt_of_lt_of_le→aC,le_trans→bR
namespace Go.Proofs
open Go Go.Lift Go.RowKit Go.Sort
def Tab10(h:ad):Prop:=∃t fz,h[3]? =some (.cells (Lib.pow10Tab.map fun z=>Value.int .u64 z).toArray t fz)
theorem Tab10.upd{M:Nat→Prop}{h h':ad}(t:Tab10 h)(k:Upd M h h')(d:¬M 3):Tab10 h':=let⟨a,b,c⟩:=t;⟨a,b,k.get c d⟩
theorem Tab10.upd0{h h':ad}(t:Tab10 h)(k:Upd No h h'):Tab10 h':=t.upd k id
theorem yH(n:Nat):gM n=Lib.decDigits n:=by
 induction n using Nat.strongRecOn with
 |ind n ih=>
  by_cases h:n<10
  ·rw[lV h,Lib.decDigits,dif_pos h]
  ·rw[tN h,Lib.decDigits,dif_neg h,ih (n/10) (by omega)]
theorem N9{n:Nat}(b:n<100){h:ad}{K:ByteArray→ad→Prop}(a:K (bN (gM n)) h):HC PG lF [.int .i64 (n:Int)] [.c .str] K h:=
 HC.same (v:=.string (bN (gM n))) Tryz.call103 (bN (gM n)) rfl (fun w=>by rw[yH];exact Any.internal_strconv_small Eh n b w) a
theorem RB:PG.globalNamed "internal/strconv.uint64pow10" =some 3:=by kernel_rfl
theorem Gl{u:Nat}(g:1≤u)(i:u<18446744073709551616){h:ad}(b:Tab10 h){K:Int→ad→Prop}(c:K (Lib.nDigits u:Int) h):HC PG gg [.int .u64 (u:Int)] [.c (.int .i64)] K h:=by
 refine HC.shelf Tryz.call104 fun w f=>?_
 subst f;obtain⟨t,j,b⟩:=b;refine(Any.internal_strconv_numDigits CZ u g i w ?_).mono fun e w' ⟨d,a⟩=>?_
 ·unfold Lib.TabIs World.var?
  rw[RB];simp[b]
 ·subst a
  exact⟨⟨rfl,rfl,rfl⟩,(Lib.nDigits u:Int),d,c⟩
theorem M8{u g:Nat}(B:u<18446744073709551616){h:ad}{t:TypeId}(y:h[g]? =some (.cells Lib.zeros24 t (0,0))) {K:Unit→ad→Prop} (D:∀h',SRow h' (some ⟨g,0,none⟩) (Lib.nDigits u) (cj (bN (gM u)))→Upd (· =g) h h'→K () h'):
  HC PG iB [.slice (some ⟨g,0,none⟩) (Lib.nDigits u) 24,.int .u64 (u:Int)] [] K h:=by
 refine HC.shelf Tryz.call105 fun w E=>?_
 subst E;have s:=Lib.nDigits_le20 u B;have A:Holds (fun(b:UInt8)=>Value.int .u8 (b.toNat:Int)) w g 0 (hG (Lib.nDigits u) 0):=fun j p=>by
  have p:j<Lib.nDigits u:=by simpa using p
  refine⟨?_,by simp[World.frozen?,y]⟩
  rw[show(hG (Lib.nDigits u) (0:UInt8))[j]! =0 from by simp[p]]
  have:=Lib.zeros24_at j (by omega);simp[World.cell?,y,this]
 have x:=Any.internal_strconv_formatBase10 Ef g 0 24 u _ w A (by rw[iy];exact Lib.lt_pow_nDigits u) B (by rw[iy];omega);rw[iy]at x;refine x.mono ?_;rintro e w' ⟨C,k,F,n,f,m⟩;have a:(gM u).length=Lib.nDigits u:=by rw[yH,Lib.decDigits_length]
 have o:w'.heap=(putRow (fun(b:UInt8)=>Value.int .u8 (b.toNat:Int)) w g 0 n).heap:=by rw[f];rfl
 refine⟨by rw[f];exact⟨rfl,rfl,rfl⟩,(),C,D _ ⟨?_,.inr ⟨_,rfl,fun i v z=>?_⟩⟩ ⟨?_,fun c _ s=>?_⟩⟩
 ·rw[mr,yC,jG];exact a
 ·rw[mr,yC,List.getElem?_map]at z
  obtain⟨b,d,rfl⟩:=Option.map_eq_some_iff.1 z;have hi:i<(gM u).length:=(bi.1 d).1;have hc:=cell?_putRow _ w g 0 _ n A (by rw[m.size,iy]) i (by rw[m.size];omega);have q:b=n[i]!:=by
   rw[←Lib.row_is_numeral m i (by rw[←yH];exact hi)];have d:(gM u)[i]? =some b:=d;rw[yH]at d;exact(bi.1 d).2.symm
  rw[o,bJ,q];exact hc
 ·rw[o];simp[putRow,mapBlock]
 ·rw[o]
  simp only[putRow,mapBlock,Array.getElem?_modify];rw[if_neg (fun e=>s e.symm)]
theorem wG{n:Nat}(a:n<18446744073709551616){h:ad}(f:Tab10 h){K:ByteArray→ad→Prop}(b:∀h',Upd No h h'→K (bN (gM n)) h'):HC PG ie [.int .u64 (n:Int),.int .i64 10] [.c .str] K h:=by
 refine vx (n:Int) 10 ?_;unfold o9 xX;refine o0 (n:Int) 10 ?_;unfold jj RW;refine CondP.intro (fun _=>aG (fun c=>?_) fun c=>?_) fun e=>absurd e (by decide)
 ·rw[j2 (by omega)]
  exact N9 (by omega) (b h (Upd.refl _ _))
 ·have b1:=bh h (bw 24 (.int .u8 0)) vL
  have k1:=Upd.hnew No h (bw 24 (.int .u8 0)) vL;refine aU ?_;show HC PG gg _ _ _ (hnew h (bw 24 (.int .u8 0)) vL)
  generalize hnew h (bw 24 (.int .u8 0)) vL=h1 at b1 k1;have i:=Lib.nDigits_le20 n a;refine Gl (by omega) a (f.upd0 k1) ⟨⟨by omega,by omega⟩,?_⟩
  rw[show aM (some (aR h)) 0 24 1=some ⟨h.size,0,none⟩from rfl,aB,Nat.sub_zero]
  refine M8 a (g:=h.size) (t:=vL) b1 fun j r u=>⟨⟨by omega,by omega⟩,bN (gM n),r,b j (k1.trans u fun y d=>.inr (by have d:y=h.size:=d;omega))⟩
end Go.Proofs
namespace Go.Proofs
open Go Go.Lift
abbrev Fq(l:List UInt8)(a:Nat):Nat:=l.foldl (fun a c=>10*a+(c.toNat-48)) a
theorem Al:∀(l:List UInt8) (a u:Nat),Lib.parseUintM 18446744073709551615 a l=.ok u→l.all El=true∧Fq l a=u∧(a<18446744073709551616→u<18446744073709551616)
 | [],a,u,h=>by
  have h:(Lib.NumEnd.ok a:Lib.NumEnd Nat)=.ok u:=h;cases h;exact⟨rfl,rfl,id⟩
 |c::l,a,u,h=>by
  unfold Lib.parseUintM at h;split at h
  ·rename_i hc
   split at h
   ·cases h
   ·split at h
    ·cases h
    ·obtain⟨d,e,b⟩:=Al l _ u h
     refine⟨by rw[sC,d,Cf.2 hc];rfl,?_,fun _=>b (by omega)⟩
     show Fq l (10*a+(c.toNat-48))=u
     rw[Nat.mul_comm 10 a];exact e
  ·cases h
theorem CS:∀(l:List UInt8) (a:Nat),l.all El=true→Fq l a<18446744073709551616→Lib.parseUintM 18446744073709551615 a l=.ok (Fq l a)
 | [],a,_,_=>rfl
 |c::l,a,b,d=>by
  rw[sC,Bool.and_eq_true]at b;obtain⟨hc,b⟩:=b;have hc:=Cf.1 hc;have d:Fq l (10*a+(c.toNat-48))<18446744073709551616:=d;have e:=Gx l (10*a+(c.toNat-48));have e:10*a+(c.toNat-48)≤Fq l (10*a+(c.toNat-48)):=e;unfold Lib.parseUintM;rw[if_pos hc,if_neg (by omega),if_neg (by omega),Nat.mul_comm a 10,CS l _ b d];rfl
theorem JZ(l:List UInt8):nA l=match Lib.parseUintB 64 l with
  | .ok u=>if gM u=l then some u else none
  |_=>none:=by
 have b:2^64-1=18446744073709551615:=by decide
 unfold Lib.parseUintB nA;by_cases a:l= []
 ·subst a;rfl
 ·rw[if_neg a,b]
  by_cases hc:l.all El=true∧j6 l<18446744073709551616
  ·have e:=CS l 0 hc.1 hc.2
   have e:Lib.parseUintM 18446744073709551615 0 l=.ok (j6 l):=e;rw[e];by_cases hd:gM (j6 l)=l
   ·rw[if_pos ⟨a,hc.1,hc.2,hd⟩];simp only[if_pos hd]
   ·rw[if_neg fun h=>hd h.2.2.2];simp only[if_neg hd]
  ·rw[if_neg fun h=>hc ⟨h.2.1,h.2.2.1⟩]
   cases e:Lib.parseUintM 18446744073709551615 0 l
   ·rename_i u
    obtain⟨f,c,d⟩:=Al l 0 u e;have c:j6 l=u:=c;exact absurd ⟨f,by rw[c];exact d (by omega)⟩ hc
   ·rfl
   ·rfl
end Go.Proofs
set_option maxRecDepth 100000
namespace Go.Proofs
open Go Go.Lift Go.Shelf
def renP:Ren:=⟨fun n=>bif ax n 14 then 39 else bif ax n 16 then 71 else bif ax n 17 then 72 else bif ax n 19 then 97 else bif ax n 20 then 98 else bif ax n 21 then 99 else bif ax n 22 then 100 else bif ax n 23 then 101 else bif ax n 24 then 102 else bif ax n 25 then 127 else bif ax n 26 then 128 else bif ax n 27 then 63 else bif ax n 28 then 91 else bif ax n 29 then 125 else bif ax n 30 then 103 else bif ax n 31 then 104 else bif ax n 32 then 105 else bif ax n 33 then 106 else bif ax n 34 then 129 else bif ax n 35 then 130 else bif ax n 36 then 131 else bif ax n 37 then 132 else bif ax n 38 then 133 else bif ax n 39 then 189 else bif ax n 40 then 190 else 0,
 fun n=>bif ax n 0 then 0 else bif ax n 2 then 2 else bif ax n 3 then 3 else bif ax n 4 then 4 else bif ax n 5 then 5 else bif ax n 9 then 9 else bif ax n 20 then 20 else bif ax n 21 then 21 else bif ax n 22 then 52 else bif ax n 24 then 99 else bif ax n 25 then 100 else bif ax n 34 then 159 else bif ax n 36 then 32 else bif ax n 37 then 95 else bif ax n 39 then 160 else bif ax n 44 then 198 else bif ax n 47 then 141 else bif ax n 48 then 253 else bif ax n 50 then 255 else bif ax n 52 then 163 else bif ax n 55 then 166 else bif ax n 59 then 202 else bif ax n 60 then 23 else bif ax n 61 then 203 else bif ax n 65 then 333 else bif ax n 66 then 334 else bif ax n 67 then 107 else 0,
 fun n=>bif ax n 0 then 1 else bif ax n 1 then 2 else bif ax n 2 then 3 else bif ax n 3 then 6 else bif ax n 4 then 7 else 0⟩
theorem qm:LaysPu.n14 PG renP:=by constructor<;>first|kernel_rfl|(intro w;kernel_rfl)
end Go.Proofs
namespace Go.Proofs
open Go Go.Lift Go.RowKit
theorem AD{w w':World}(b:Below w.heap.size w w'):Upd No w.heap w'.heap:=⟨b.size,fun k a _=>b.block k a⟩
theorem xA{B:Nat}{w w':World}(b:Below B w w'):Tame w w':=⟨b.os,b.tape,b.output⟩
structure Laid(h:ad):Prop where
 tab:Tab10 h
 e1:∃t v,aE h ⟨1,0,none⟩=some (.iface t v)
 e2:∃t v,aE h ⟨2,0,none⟩=some (.iface t v)
theorem Laid.upd{M:Nat→Prop}{h h':ad}(l:Laid h)(k:Upd M h h')(d:∀y,M y→4≤y):Laid h':=
 ⟨l.tab.upd k fun e=>absurd (d _ e) (by omega),let⟨a,b,c⟩:=l.e1;⟨a,b,k.cell c fun e=>absurd (d _ e) (by decide)⟩,let⟨a,b,c⟩:=l.e2;⟨a,b,k.cell c fun e=>absurd (d _ e) (by decide)⟩⟩
theorem Laid.upd0{h h':ad}(l:Laid h)(k:Upd No h h'):Laid h':=l.upd k fun _ h=>h.elim
theorem Ge{x:ByteArray}(hx:x.size≤1000000){h:ad}(l:Laid h){K:Int×Value→ad→Prop}
  (a:∀h' e,Upd No h h'→Qm e.2=true→(match Lib.parseUintB 64 x.data.toList with| .ok u=>e=((u:Int),Value.nilIface)|_=>Mv e.2=false)→K e h'):
  HC PG pD [.string x,.int .i64 10,.int .i64 64] [.c (.int .u64),.c .raw] K h:=by
 refine HC.shelf Tryz.call39 fun w g=>?_
 subst g;obtain⟨k,j,c1⟩:=l.e1;obtain⟨m,i,f⟩:=l.e2;cases hp:Lib.parseUintB 64 x.data.toList
 ·rename_i u
  rw[hp]at a;refine(Any.strconv_ParseUint_10_at64_ok qm x (by omega) u hp w).mono fun e w' ⟨c,d⟩=>?_
  rcases d with rfl|rfl
  ·exact⟨⟨rfl,rfl,rfl⟩,((u:Int),Value.nilIface),c,a _ _ (Upd.refl _ _) rfl rfl⟩
  ·have b:=Lib.bytesWorld_below w (renP.t 5) x
   exact⟨xA b,((u:Int),Value.nilIface),c,a _ _ (AD b) rfl rfl⟩
 ·rw[hp]at a
  refine(Any.strconv_ParseUint_10_at64_syntax qm x (by omega) hp _ w c1 (.inr ⟨_,_,rfl⟩)).mono fun e w' ⟨N,c,_,_,b⟩=>?_
  exact⟨xA b,((0:Int),Value.iface (renP.t 39) (.pointer (some ⟨N,0,none⟩))),c,a _ _ (AD b) rfl rfl⟩
 ·rw[hp]at a
  refine(Any.strconv_ParseUint_10_at64_range qm x (by omega) hp _ w f (.inr ⟨_,_,rfl⟩)).mono fun e w' ⟨N,c,_,_,b⟩=>?_
  exact⟨xA b,((18446744073709551615:Int),Value.iface (renP.t 39) (.pointer (some ⟨N,0,none⟩))),c,a _ _ (AD b) rfl rfl⟩
theorem Oo{l:List UInt8}{u:Nat}(h:Lib.parseUintB 64 l=.ok u):u<18446744073709551616:=by
 unfold Lib.parseUintB at h;split at h
 ·cases h
 ·exact(Al l 0 u h).2.2 (by omega)
theorem qd{x:ByteArray}(hx:x.size≤1000000){h:ad}(l:Laid h){K:Int×Bool→ad→Prop}(a:∀h',Upd No h h'→K (Gj (nA x.data.toList)) h'):HC PG gy [.string x] [.c (.int .u64),.c .bool] K h:=by
 refine EA x ?_;unfold wU vl5 xX;rw[JZ]at a;refine Ge hx l fun f e k1 c b=>Join.plain ⟨c,?_⟩
 cases hp:Lib.parseUintB 64 x.data.toList
 ·rename_i u
  rw[hp]at b a;have a:∀h',Upd No h h'→K (Gj (if gM u=x.data.toList then some u else none)) h':=a
  have b:e=((u:Int),Value.nilIface):=b;subst b;refine ag.2 (wG (Oo hp) (l.tab.upd0 k1) fun g d=>?_)
  rw[f8];by_cases hd:gM u=x.data.toList
  ·have e:bN (gM u)=x:=by rw[hd]
   rw[if_pos hd]at a;rw[e,decide_eq_true rfl];exact ag.2 (a _ (k1.tr d))
  ·have e:bN (gM u)≠x:=fun e=>hd (by rw[←e])
   rw[if_neg hd]at a;rw[decide_eq_false e];exact ay.2 (a _ (k1.tr d))
 ·rw[hp]at b a
  have b:Mv e.2=false:=b;rw[b];exact ay.2 (ay.2 (a _ k1))
 ·rw[hp]at b a
  have b:Mv e.2=false:=b;rw[b];exact ay.2 (ay.2 (a _ k1))
end Go.Proofs
namespace Go.Proofs
open Go Go.Lift
def mC(c:UInt8):List UInt8→List (List UInt8)
 | []=> [[]]
 |a::l=>if a=c then[]::mC c l else match mC c l with
  | []=> [[a]]
  |w::ws=>(a::w)::ws
theorem Ay{c:UInt8}:∀{l:List UInt8},c∉l→mC c l= [l]
 | [],_=>rfl
 |a::l,h=>by
  unfold mC;rw[if_neg (fun e=>h (by rw[e];simp)),Ay fun e=>h (by simp[e])]
theorem Dt{c:UInt8}{r:List UInt8}:∀{l:List UInt8},c∉l→mC c (l++c::r)=l::mC c r
 | [],_=>by show mC c (c::r)=_;rw[mC,if_pos rfl]
 |a::l,h=>by
  show mC c (a::(l++c::r))=_
  rw[mC,if_neg (fun e=>h (by rw[e];simp)),Dt fun e=>h (by simp[e])]
theorem C5(c:UInt8):∀l:List UInt8,c∈l→∃u r,l=u++c::r∧c∉u∧Lib.indexByte l c=(u.length:Int)
 | [],h=>by simp at h
 |a::l,h=>by
  by_cases e:a=c
  ·subst e
   exact⟨[],l,rfl,by simp,by simp[Lib.indexByte]⟩
  ·have h:c∈l:=by
    rcases au.1 h with h|h
    ·exact absurd h.symm e
    ·exact h
   obtain⟨u,r,e1,e2,b⟩:=C5 c l h;refine⟨a::u,r,by rw[e1];rfl,by simp[e2,Ne.symm e],?_⟩
   have d:(a==c)=false:=by simpa using e
   have f:(Lib.indexByte l c== -1)=false:=by rw[b,beq_eq_false_iff_ne];omega
   simp only[Lib.indexByte,d,f,Bool.false_eq_true,if_false,aV];rw[b];omega
abbrev Sj(w:List UInt8):List Value:= [.string (bN w)]
theorem Rj(w:List UInt8):(Sj w).length=1∧0<1:=⟨rfl,mw⟩
theorem Ii:∀l:List (List UInt8),l.flatMap Sj=l.map fun w=>Value.string (bN w)
 | []=>rfl
 |a::l=>by rw[be,cn,Ii l];rfl
theorem Hu{l:List Value}{k:Nat}{z v:Value}:((l++bw (k+1) z).toArray).setIfInBounds (l.length*1) v=(l++ [v]++bw k z).toArray:=by
 apply Array.ext';rw[Array.toList_setIfInBounds];simp[gq]
theorem OX(u r:List UInt8):(bN (u++r)).extract 0 u.length=bN u:=by
 apply ByteArray.ext;rw[gw];simp
theorem OW(u r:List UInt8)(n:Nat)(a:n=(u++r).length):(bN (u++r)).extract u.length n=bN r:=by
 subst a;apply ByteArray.ext;rw[gw];simp
theorem Nu(n:Nat)(v:Value):cL n [v]=bw n v:=by
 unfold cL;induction n with
 |zero=>rfl
 |succ n ih=>rw[gq,List.flatten_cons,ih];rfl
theorem CG{x:ByteArray}{c:UInt8}(hx:x.size≤1000000){h:ad}{K:SliceV→ad→Prop}(O:∀h' s,OwnS Sj 1 eS (fun y=>h.size≤y) h' s (mC c x.data.toList)→Upd No h h'→K s h'):
  HC PG mQ [.string x,.string ⟨#[c]⟩] [.c .slice] K h:=by
 refine GU x ⟨#[c]⟩ ?_;unfold zu Rc;refine BU x ⟨#[c]⟩ 0 (-1) ?_;unfold ul dU eI cg R9;refine CondP.intro (fun e=>absurd e (by decide)) fun _=>CondP.intro (fun e=>?_) fun _=>Join.plain (aG (fun _=>MX ?_) fun c=>absurd (by decide) c)
 ·rw[Gm]at e;simp at e
 have E:=List.count_le_length (a:=c) (l:=x.data.toList);have W:=rY x;obtain⟨n,J⟩:∃n,x.data.toList.count c=n:=⟨_,rfl⟩;rw[J]at E⊢;have e1:ac .i64 ((n:Int)+1)=((n+1:Nat):Int):=by rw[j2 (by omega)];omega
 have e2:ac .i64 ((x.size:Int)+1)=((x.size+1:Nat):Int):=by rw[j2 (by omega)];omega
 rw[e1,e2];refine LR ?_;rw[if_neg (by omega)];refine⟨⟨by omega,Int.le_refl _,by omega,by omega⟩,aU ?_⟩
 rw[aB,Nu];have k1:=Upd.hnew No h (bw (n+1) (Value.string ⟨#[]⟩)) eS;have b1:=bh h (bw (n+1) (Value.string ⟨#[]⟩)) eS;generalize hnew h (bw (n+1) (Value.string ⟨#[]⟩)) eS=h1 at k1 b1;have N:ac .i64 (((n+1:Nat):Int)-1)=(n:Int):=by rw[j2 (by omega)];omega
 refine Join.intro (fun(t:ByteArray×Int) f=>∃(done:List (List UInt8)) (r:List UInt8),t=(bN r,(done.length:Int))∧done.length=n∧c∉r∧mC c x.data.toList=done++ [r]∧f[h.size]? =some (.cells ((done.map fun w=>Value.string (bN w))++bw 1 (Value.string ⟨#[]⟩)).toArray eS (0,0))∧Upd (· =h.size) h1 f) (fun R L=>?_) ?_
 ·refine LoopP.ghost (fun(g:List (List UInt8)×List UInt8) (t:ByteArray×Int) f=>t=(bN g.2,(g.1.length:Int))∧g.1.length+g.2.count c=n∧g.2.length≤1000000∧mC c x.data.toList=g.1++mC c g.2∧f[h.size]? =some (.cells ((g.1.map fun w=>Value.string (bN w))++bw (n+1-g.1.length) (Value.string ⟨#[]⟩)).toArray eS (0,0))∧Upd (· =h.size) h1 f) (fun g=>g.2.length) ([],x.data.toList) ⟨rfl,by simpa using J,by simp only;omega,rfl,by simpa using b1,Upd.refl _ _⟩ ?_
  rintro I ⟨done,r⟩ t f ⟨rfl,hc,P,b,b2,u⟩ T;simp only at hc P b b2;rw[N];refine aG (fun A=>?_) fun D=>?_
  ·have i:done.length<n:=by have:(done.length:Int)<(n:Int):=A;omega
   clear A;have j:c∈r:=List.count_pos_iff.1 (by omega);obtain⟨p,q,rfl,H,B⟩:=C5 c r j;have F:p.count c=0:=List.count_eq_zero.2 H;have o:(p++c::q).length=p.length+(q.length+1):=by simp
   refine Ff ?_;rw[show Lib.indexByte (bN (p++c::q)).data.toList c=(p.length:Int)from by rw[show(bN (p++c::q)).data.toList=p++c::q from by simp];exact B]
   refine aG (fun Q=>absurd Q (by omega)) fun _=>?_
   have V:ac .i64 ((p.length:Int)+0)=(p.length:Int):=by rw[j2 (by omega)];omega
   have S:ac .i64 ((p.length:Int)+((⟨#[c]⟩:ByteArray).size:Int))=((p.length+1:Nat):Int):=by rw[show((⟨#[c]⟩:ByteArray).size:Int)=1 from rfl,j2 (by omega)];omega
   have es:(bN (p++c::q)).size=p.length+(q.length+1):=by rw[ga,o]
   simp only[V,S,es,aB];refine⟨⟨by omega,by omega⟩,⟨by omega,by omega⟩,_,rfl,?_⟩
   rw[show n+1-done.length=(n-done.length)+1 from by omega]at b2
   have hset:=Hu (l:=done.map fun w=>Value.string (bN w)) (k:=n-done.length) (z:=Value.string ⟨#[]⟩) (v:=.string (bN p))
   rw[jG]at hset;rw[OX];refine tq b2 (by simp) hset fun G b3 C=>⟨⟨by omega,by omega⟩,LR ?_⟩
   have U:(bN (p++c::q)).extract (p.length+1) (p.length+(q.length+1))=bN q:=by
    have:=OW (p++ [c]) q (p.length+(q.length+1)) (by simp<;>omega)
    rw[aF]at this;simpa using this
   rw[U,eu (n:=n) i (by omega)];refine T (done++ [p],q) _ _ ⟨by simp,?_,by simp only;omega,?_,?_,u.tr C⟩ (by simp only;omega)
   ·rw[List.count_append,List.count_cons_self,F]at hc
    simp only[ai,bZ];omega
   ·rw[b,Dt H,aF];rfl
   ·simp only[jF,cn,List.map_nil,ai,bZ]
    rw[show n+1-(done.length+1)=n-done.length from by omega];exact b3
  ·have hd:done.length=n:=by have:¬(done.length:Int)<(n:Int):=D;omega
   have d:c∉r:=List.count_eq_zero.1 (by omega);refine L _ _ ⟨done,r,rfl,hd,d,by rw[b,Ay d],?_,u⟩
   rw[hd,show n+1-n=1 from by omega]at b2;exact b2
 ·rintro t f ⟨done,r,rfl,hd,d,b,b2,u⟩
  have hset:=Hu (l:=done.map fun w=>Value.string (bN w)) (k:=0) (z:=Value.string ⟨#[]⟩) (v:=.string (bN r))
  rw[jG]at hset;rw[show ac .i64 ((done.length:Int)+1)=((done.length+1:Nat):Int)from by rw[j2 (by omega)];omega]
  simp only[aB];refine⟨⟨by omega,by omega⟩,_,rfl,tq b2 (by simp) hset fun G b3 C=>⟨⟨by omega,by omega⟩,LR (LR (LR ?_))⟩⟩
  refine O G _ ⟨?_,Rj,by simp only;omega,.inr ⟨h.size,[],?_,az _,?_,?_⟩⟩ ((k1.trans u fun y m=>.inr (by have m:y=h.size:=m;omega)).trans C fun y m=>.inr (by have m:y=h.size:=m;omega))
  ·rw[b];simp
  ·show aM (some (aR h)) 0 (n+1) 1=_
   unfold aM;rw[if_neg (by omega)];rfl
  ·rw[b,Ii];simpa using b3
  ·simp only[List.length_nil];omega
end Go.Proofs
namespace Go.Proofs
open Go.Lift
abbrev u32(x:Int):List Value:= [.int .u32 x]
theorem w6(x:Int):(u32 x).length=1∧0<1:=⟨rfl,mw⟩
abbrev Nums(W:Nat→Prop)(h:ad)(s:SliceV)(xs:List Int):Prop:=Sl u32 1 W h s xs
theorem Nums.at{W:Nat→Prop}{h:ad}{s:SliceV}{xs:List Int}(b:Nums W h s xs){i:Nat}(hi:i<xs.length):∃a,s.a=some a∧¬W a.block∧aE h (adr a (((i:Int)).toNat*1))=some (.int .u32 xs[i]):=
 b.at0 (g:=fun x=>.int .u32 x) (aJ hi)
theorem Gt{W:Nat→Prop}{s:SliceV}{xs:List Int}{k:Value}{p:Int→Bool}(St:ad→Prop)(m:∀h,St h→Nums W h s xs)
  (y:∀h x (K:Bool→ad→Prop),St h→x∈xs→(∀h',St h'→K (p x) h')→HV PG k [.int .u32 x] [.c .bool] K h)
  (w:xs.length≤4611686018427387904){h:ad}(v:St h){K:Int→ad→Prop}(o:∀(n:Int) h',St h'→(n≥0↔∃x∈xs,p x=true)→K n h'):
  HC PG eE [.slice s.a s.len s.cap,k] [.c (.int .i64)] K h:=by
 refine jz s k ?_;unfold gh bA dU;refine LoopP.ghost (fun(i:Nat) (t:Int) h'=>t=(i:Int)∧St h'∧i≤xs.length∧∀x∈xs.take i,p x=false) (fun i=>xs.length-i) 0 ⟨rfl,v,cu _,by simp⟩ ?_
 rintro I i t h' ⟨rfl,f,hi,g⟩ z;have d:=m _ f;refine aG (fun b=>?_) (fun j=>?_)
 ·rw[d.len]at b
  have b:i<xs.length:=by omega
  obtain⟨a,u,_,hx⟩:=Nums.at d b;refine⟨by rw[d.len];omega,a,u,_,hx,?_⟩;refine y _ _ _ f (ce b) fun A c=>?_
  refine CondP.intro (fun q=>?_) (fun e=>?_)
  ·exact o _ _ c ⟨fun _=>⟨_,ce b,q⟩,fun _=>by omega⟩
  ·rw[eu b w]
   refine z (i+1) _ _ ⟨rfl,c,b,?_⟩ (by omega);rw[cc b];intro x hx;rcases bS.1 hx with h|h
   ·exact g x h
   ·rw[aN.1 h];exact e
 ·rw[d.len]at j
  have:i=xs.length:=by omega
  subst this;rw[bW]at g;exact o _ _ f ⟨fun h=>by omega,fun⟨x,hx,h⟩=>by rw[g x hx]at h;cases h⟩
theorem BQ{W:Nat→Prop}{s:SliceV}{xs:List Int}{b:Value}{p:Int→Bool}(St:ad→Prop)(c:∀h,St h→Nums W h s xs)
  (g:∀h x (K:Bool→ad→Prop),St h→x∈xs→(∀h',St h'→K (p x) h')→HV PG b [.int .u32 x] [.c .bool] K h)
  (a:xs.length≤4611686018427387904){h:ad}(e:St h){K:Bool→ad→Prop}(d:∀h',St h'→K (xs.any p) h'):
  HC PG fw [.slice s.a s.len s.cap,b] [.c .bool] K h:=by
 refine nB s b ?_;unfold iC;refine Gt St c g a e fun n h' f a=>?_
 have:decide (n≥0)=xs.any p:=by
  rw[Bool.eq_iff_iff,decide_eq_true_iff,a,bI]
 rw[this];exact d _ f
theorem Pd{W:Nat→Prop}{h:ad}{s:SliceV}{xs:List Int}(d:Nums W h s xs)(k:xs.length*4≤140737488355328){K:SliceV→ad→Prop}
  (i:∀s' h',OwnS u32 1 qf (fun b=>h.size≤b) h' s' xs→Upd No h h'→(s.a=none→xs= [])→K s' h'):HC PG iA [.slice s.a s.len s.cap] [.c .slice] K h:=by
 refine sx s ?_;unfold lM;refine CondP.intro (fun g=>?_) (fun c=>?_)
 ·have g:s.a=none:=by simpa using g
  have hx:xs= []:=by
   by_cases hx:xs= []
   ·exact hx
   ·obtain⟨a,j,_⟩:=d.row hx
    rw[g]at j;cases j
  subst hx;exact i _ _ (OwnS.nil w6) (Upd.refl _ _) fun _=>rfl
 ·have m:=d.upd (Upd.hnew No h [] qf) (fun _ h=>h.elim)
  refine⟨_,m.srow,?_⟩;refine AppP.own (f:=u32) (M:=fun b=>h.size≤b) (xs:= []) (ys:=xs) ⟨rfl,w6,az _,.inl rfl⟩ d.len rfl ?_ rfl (by omega) (by simpa using k) (by rw[fe];omega) fun s' h' p o=>?_
  ·clear i d m k
   induction xs with
   |nil=>rfl
   |cons x xs ih=>rw[be];exact ih
  ·refine i _ _ p ((Upd.hnew No h [] qf).trans o fun b n=>.inr n) fun e=>?_
   rw[e]at c;cases c
end Go.Proofs
namespace Go.Proofs
open Go.Lift
abbrev KE:KeyE Int:=TE .u32
abbrev fL:=List (Int×List Int)
def Rep(W:Nat→Prop)(h:ad)(m:List (Int×SliceV))(L:fL):Prop:=
 ∀id,(∃s ps,cV m id=some s∧cV L id=some ps∧Nums W h s ps)∨(cV m id=none∧cV L id=none)
structure GraphAt(W:Nat→Prop)(h:ad)(gp gm:Nat)(L:fL)(nx:Int):Prop where
 blk:h[gp]? =some (.cells #[.map (some gm),.int .u32 nx] ol (0,0))
 map:∃m,MapAt KE sv h gm m∧Rep W h m L
 wp:W gp
 wm:W gm
 lt:∀b,W b→b<h.size
 nd:(L.map (·.1)).Nodup
theorem Rep.upd{W M:Nat→Prop}{h h':ad}{m:List (Int×SliceV)}{L:fL}(r:Rep W h m L)(k:Upd M h h')(hm:∀b,M b→W b∨h.size≤b):Rep W h' m L:=fun id=>by
 rcases r id with⟨s,ps,a,d,c⟩|e
 ·exact .inl ⟨s,ps,a,d,c.upd k hm⟩
 ·exact .inr e
theorem GraphAt.upd{W M:Nat→Prop}{h h':ad}{gp gm:Nat}{L:fL}{nx:Int}(g:GraphAt W h gp gm L nx)(k:Upd M h h')(hm:∀b,M b→(W b∧b≠gp∧b≠gm)∨h.size≤b):GraphAt W h' gp gm L nx:=by
 have a:=g.lt;have i:¬M gp:=fun e=>(hm _ e).elim (fun e=>e.2.1 rfl) fun e=>absurd (a _ g.wp) (gO.2 e)
 have j:¬M gm:=fun e=>(hm _ e).elim (fun e=>e.2.2 rfl) fun e=>absurd (a _ g.wm) (gO.2 e)
 obtain⟨m,d,f⟩:=g.map;exact⟨k.get g.blk i,⟨m,d.upd k j,f.upd k fun b c=>(hm b c).imp (·.1) id⟩,g.wp,g.wm,fun b c=>aC (a b c) k.size,g.nd⟩
theorem GraphAt.upd0{W:Nat→Prop}{h h':ad}{gp gm:Nat}{L:fL}{nx:Int}(g:GraphAt W h gp gm L nx)(k:Upd No h h'):GraphAt W h' gp gm L nx:=g.upd k fun _ h=>h.elim
theorem GraphAt.c0{W:Nat→Prop}{h:ad}{gp gm:Nat}{L:fL}{nx:Int}(g:GraphAt W h gp gm L nx):aE h ⟨gp,0,none⟩=some (.map (some gm)):=by rw[aI g.blk];rfl
theorem GraphAt.c1{W:Nat→Prop}{h:ad}{gp gm:Nat}{L:fL}{nx:Int}(g:GraphAt W h gp gm L nx):aE h ⟨gp,1,none⟩=some (.int .u32 nx):=by rw[aI g.blk];rfl
abbrev ids(L:fL):List Int:=L.map (·.1)
theorem OI{L:fL}{id:Int}:(cV L id).isSome=decide (id∈ids L):=by
 cases h:cV L id with
 |none=>rw[decide_eq_false (nW.1 h)];rfl
 |some v=>
  have:id∈ids L:=by
   by_cases hm:id∈ids L
   ·exact hm
   ·rw[nW.2 hm]at h;cases h
  rw[decide_eq_true this];rfl
theorem Rep.some{W:Nat→Prop}{h:ad}{m:List (Int×SliceV)}{L:fL}(r:Rep W h m L)(id:Int):(cV m id).isSome=decide (id∈ids L):=by
 rw[←OI];rcases r id with⟨s,ps,a,b,_⟩|⟨a,b⟩<;>rw[a,b]<;>rfl
theorem Rep.len{W:Nat→Prop}{h:ad}{m:List (Int×SliceV)}{L:fL}(r:Rep W h m L)(b:(m.map (·.1)).Nodup)(c:(ids L).Nodup):m.length=L.length:=by
 have:(m.map (·.1)).Perm (ids L):=by
  rw[List.perm_ext_iff_of_nodup b c];intro id;have:=r.some id;have a:id∈m.map (·.1)↔(cV m id).isSome=true:=by
   cases hl:cV m id with
   |none=>simp[nW.1 hl]
   |some v=>
    simp only[Option.isSome_some,iff_true];by_cases hm:id∈m.map (·.1)
    ·exact hm
    ·rw[nW.2 hm]at hl;cases hl
  rw[a,this,decide_eq_true_iff]
 have:=this.length_eq;simpa using this
def TN:List Int→Bool
 | [a,b]=>a==b
 |_=>false
def yp(ps:List Int):Int:=if ps.length>2∨TN ps=true then 1 else 0
def rb(L:fL)(ps:List Int):Int:=if ps.any (fun p=> !decide (p∈ids L))then 4 else if L.length≥1024 then 6 else 0
theorem LD{W:Nat→Prop}{h:ad}{gp gm:Nat}{L:fL}{nx:Int}(g:GraphAt W h gp gm L nx)(id:Int){K:Bool→ad→Prop}(a:K (decide (id∈ids L)) h):
  HC PG jW [.pointer (some ⟨gp,0,none⟩),.int .u32 id] [.c .bool] K h:=by
 refine zg (some ⟨gp,0,none⟩) id ?_;unfold rM bA;obtain⟨m,hm,b⟩:=g.map;refine CondP.intro (fun e=>by cases e) fun _=>⟨_,rfl,_,g.c0,_,_,hm.get id ⟨none,0,0⟩,?_⟩
 rw[b.some id];exact a
theorem Qt{W:Nat→Prop}{h:ad}{p:Option Addr}{s:SliceV}{ps:List Int}(d:Nums W h s ps){K:Int→ad→Prop}(c:K (yp ps) h):
  HC PG mZ [.pointer p,.slice s.a s.len s.cap] [.c (.int .i64)] K h:=by
 refine ze p s ?_;unfold rL bA dU;refine Join.plain (aG (fun k=>?_) fun g=>CondP.intro (fun f=>?_) fun b=>?_)
 ·rw[d.len]at k
  rw[show yp ps=1 from if_pos (.inl (by omega))]at c
  exact ay.2 c
 ·rw[d.len]at f
  have f:ps.length=2:=by
   have:(ps.length:Int)=2:=by simpa using f
   omega
  obtain⟨a,o,_,hx⟩:=Nums.at d (i:=0) (by omega);obtain⟨a',j,_,n⟩:=Nums.at d (i:=1) (by omega);refine⟨by rw[d.len];omega,a,o,_,hx,by rw[d.len];omega,a',j,_,n,?_⟩
  have e:yp ps=if(ps[0]==ps[1])=true then 1 else 0:=by
   match ps,f with
   | [x,y],_=>simp[yp,TN]
  rw[e]at c;exact CondP.intro (fun m=>by rw[if_pos m]at c;exact c) fun m=>by rw[if_neg (by rw[m];decide)]at c;exact c
 ·rw[d.len]at g b
  have b:ps.length≠2:=fun e=>by rw[e]at b;exact absurd b (by decide)
  have hd:TN ps=false:=by
   match ps,b with
   | [],_=>rfl
   | [_],_=>rfl
   | [_,_],h=>exact absurd rfl h
   |_::_::_::_,_=>rfl
  rw[show yp ps=0 from if_neg (by rw[hd];simp;omega)]at c
  exact ag.2 c
theorem OL{W:Nat→Prop}{h:ad}{gp gm:Nat}{L:fL}{nx:Int}(g:GraphAt W h gp gm L nx){s:SliceV}{ps:List Int}(u:Nums W h s ps)(t:ps.length≤4611686018427387904)
  {K:Int→ad→Prop}(b:∀h',Upd No h h'→K (rb L ps) h'):HC PG me [.pointer (some ⟨gp,0,none⟩),.slice s.a s.len s.cap] [.c (.int .i64)] K h:=by
 refine xM (some ⟨gp,0,none⟩) s ?_;unfold qP bA;have j:=Upd.hnew No h [.pointer (some ⟨gp,0,none⟩)] pk;refine BQ (p:=fun p=> !decide (p∈ids L)) (fun h'=>GraphAt W h' gp gm L nx∧Nums W h' s ps∧h'[h.size]? =some (.cells #[.pointer (some ⟨gp,0,none⟩)] pk (0,0))∧Upd No h h') (fun h' i=>i.2.1) ?_ t ⟨g.upd0 j,u.upd j fun _ h=>h.elim,bh h _ _,j⟩ ?_
 ·rintro h' x K ⟨c,e,f,a⟩ _ k
  refine HV.mk' (vA x ⟨h.size,0,none⟩ ?_);unfold pe zV;refine⟨_,by rw[aI f];rfl,?_⟩
  exact LD c x (k h' ⟨c,e,f,a⟩)
 ·rintro h' ⟨c,e,f,a⟩
  obtain⟨m,hm,q⟩:=c.map;refine CondP.intro (fun n=>?_) fun d=>?_
  ·rw[show rb L ps=4 from if_pos n]at b
   exact b h' a
  ·refine⟨_,by rw[cG,aI f];rfl,_,rfl,_,c.c0,_,hm.len,?_⟩
   rw[q.len hm.nodup c.nd];refine aG (fun v=>?_) fun o=>?_
   ·rw[show rb L ps=6 from(if_neg (by rw[d];decide)).trans (if_pos (by omega))]at b
    exact b h' a
   ·rw[show rb L ps=0 from(if_neg (by rw[d];decide)).trans (if_neg (by omega))]at b
    exact b h' a
end Go.Proofs
namespace Go.Proofs
open Go.Lift
def yv(L:fL)(id:Int)(ps:List Int):fL:=L.takeWhile (fun v=>decide (v.1<id))++(id,ps)::L.dropWhile (fun v=>decide (v.1<id))
def j3(L:fL)(nx:Int)(ps:List Int):(Int×Int)×fL×Int:=
 if yp ps≠0 then((0,yp ps),L,nx)else if rb L ps≠0 then((0,rb L ps),L,nx)else if nx≥2147483648 then((0,6),L,nx)else((nx,0),yv L nx ps,nx+1)
def Rs(L:fL)(nx:Int)(id:Int)(ps:List Int):Int×fL×Int:=
 if yp ps≠0∨id=0∨id≥2147483648∨ps.any (fun p=>decide (p≥id))=true then(1,L,nx)else if id∈ids L then(7,L,nx)else if rb L ps≠0 then(rb L ps,L,nx)else(0,yv L id ps,if id+1>nx then id+1 else nx)
abbrev DG(a b:Nat):Nat→Prop:=fun x=>x=a∨x=b
theorem FF{κ β:Type}[DecidableEq κ](l a:List (κ×β))(k:κ):cV (l++a) k=(cV l k).or (cV a k):=by
 induction l with
 |nil=>simp[cV]
 |cons p l ih=>
  obtain⟨k',u⟩:=p;simp only[List.cons_append,cV,ih];split<;>simp
theorem MF{L:fL}{id:Int}{ps:List Int}(c:id∉ids L)(j:Int):cV (yv L id ps) j=if j=id then some ps else cV L j:=by
 have b:∀p:Int×List Int→Bool,cV L j=(cV (L.takeWhile p) j).or (cV (L.dropWhile p) j):=fun p=>by rw[←FF,List.takeWhile_append_dropWhile]
 unfold yv;rw[FF];simp only[cV];by_cases a:j=id
 ·subst a
  have:cV (L.takeWhile fun v=>decide (v.1<j)) j=none:=nW.2 fun hm=>c (by
   obtain⟨x,hx,e⟩:=dX.1 hm
   exact dX.2 ⟨x,List.takeWhile_subset _ hx,e⟩)
  rw[this];simp
 ·simp only[a,if_false]
  exact(b _).symm
theorem vR(L:fL)(id:Int)(ps:List Int):(yv L id ps).Perm ((id,ps)::L):=by
 unfold yv;refine List.perm_middle.trans ?_;rw[List.takeWhile_append_dropWhile]
theorem insV_ids{L:fL}{id:Int}{ps:List Int}:(ids (yv L id ps)).Perm (id::ids L):=(vR L id ps).map _
theorem Kr{L:fL}{id:Int}{ps:List Int}(h:(ids L).Nodup)(a:id∉ids L):(ids (yv L id ps)).Nodup:=by
 rw[insV_ids.nodup_iff];exact lY.2 ⟨a,h⟩
theorem Rep.put{W:Nat→Prop}{h h':ad}{m:List (Int×SliceV)}{L:fL}(r:Rep W h m L){id:Int}{s:SliceV}{ps:List Int}(g:∀s xs,Nums W h s xs→Nums W h' s xs)(e:Nums W h' s ps)(d:id∉ids L):Rep W h' (m5 m id s) (yv L id ps):=fun j=>by
 rw[Na,MF d];by_cases a:j=id
 ·simp only[a,if_true];exact .inl ⟨s,ps,rfl,rfl,e⟩
 ·simp only[a,if_false]
  rcases r j with⟨s,ps,f,i,b⟩|c
  ·exact .inl ⟨s,ps,f,i,g s ps b⟩
  ·exact .inr c
theorem GraphAt.ne{W:Nat→Prop}{h:ad}{gp gm:Nat}{L:fL}{nx:Int}(g:GraphAt W h gp gm L nx):gm≠gp:=fun e=>by
 obtain⟨m,⟨ms,c,hm,_⟩,_⟩:=g.map;have:=hm.here;rw[e,g.blk]at this;cases this
theorem GraphAt.put{W:Nat→Prop}{h:ad}{gp gm:Nat}{L:fL}{nx:Int}(g:GraphAt W h gp gm L nx){id:Int}{s:SliceV}{ps:List Int}(n:Nums W h s ps)(p:id∉ids L)(j:Int):
  GraphAt W (hset (kJ h gm (.int .u32 id) (sv s)) ⟨gp,1,none⟩ (.int .u32 j)) gp gm (yv L id ps) j∧Upd (DG gp gm) h (hset (kJ h gm (.int .u32 id) (sv s)) ⟨gp,1,none⟩ (.int .u32 j))∧
   Wr (kJ h gm (.int .u32 id) (sv s)) ⟨gp,1,none⟩∧aE (kJ h gm (.int .u32 id) (sv s)) ⟨gp,1,none⟩=some (.int .u32 nx)∧Upd (DG gp gm) h (kJ h gm (.int .u32 id) (sv s)):=by
 obtain⟨m,hm,q⟩:=g.map;have f:=g.ne;have k1:Upd (· =gm) h (kJ h gm (.int .u32 id) (sv s)):=sI h _ _ rfl
 have a:=k1.get g.blk (Ne.symm f);have o:Upd (· =gp) (kJ h gm (.int .u32 id) (sv s)) (hset (kJ h gm (.int .u32 id) (sv s)) ⟨gp,1,none⟩ (.int .u32 j)):=Upd.hset _ _ rfl
 have i:Upd (DG gp gm) h (kJ h gm (.int .u32 id) (sv s)):=k1.mono fun b d=>.inl (.inr d)
 have k:Upd (DG gp gm) h (hset (kJ h gm (.int .u32 id) (sv s)) ⟨gp,1,none⟩ (.int .u32 j)):=i.trans o fun b d=>.inl (.inl d)
 have c:∀b,DG gp gm b→W b∨h.size≤b:=fun b d=>.inl (d.elim (fun e=>e▸g.wp) fun e=>e▸g.wm)
 refine⟨⟨?_,⟨_,(MapAt.put hm id s).upd o f,q.put (fun s xs n=>n.upd k c) (n.upd k c) p⟩,g.wp,g.wm,fun b d=>aC (g.lt b d) k.size,Kr g.nd p⟩,k,gI a (by simp),by rw[aI a];rfl,i⟩
 rw[C6 a,hT a];rfl
theorem Qu{W:Nat→Prop}{h:ad}{gp gm:Nat}{L:fL}{nx:Int}(g:GraphAt W h gp gm L nx)(C:0≤nx)(q:nx∉ids L){s:SliceV}{ps:List Int}(o:Nums W h s ps)(D:ps.length*4≤140737488355328)
  {K:Int×Int→ad→Prop}(c:∀h',Upd (DG gp gm) h h'→GraphAt W h' gp gm (j3 L nx ps).2.1 (j3 L nx ps).2.2→K (j3 L nx ps).1 h'):
  HC PG m0 [.pointer (some ⟨gp,0,none⟩),.slice s.a s.len s.cap] [.c (.int .u32),.c (.int .i64)] K h:=by
 refine zi (some ⟨gp,0,none⟩) s ?_;unfold rN bA cg PC fg;refine CondP.intro (fun e=>by cases e) fun _=>Qt o ?_
 refine CondP.intro (fun a=>?_) fun a=>?_
 ·have a:yp ps≠0:=by simpa using a
  rw[show j3 L nx ps=_ from if_pos a]at c
  exact c h (Upd.refl _ _) g
 ·have a:¬yp ps≠0:=by simpa using a
  refine OL g o (by omega) fun h' f=>?_
  refine CondP.intro (fun d=>?_) fun d=>?_
  ·have d:rb L ps≠0:=by simpa using d
   rw[show j3 L nx ps=_ from(if_neg a).trans (if_pos d)]at c
   exact c h' f.wide (g.upd0 f)
  ·have d:¬rb L ps≠0:=by simpa using d
   have i:=g.upd0 f;have u:=o.upd f fun _ h=>h.elim
   refine⟨_,rfl,_,i.c1,aG (fun n=>?_) fun n=>?_⟩
   ·rw[show j3 L nx ps=_ from(if_neg a).trans ((if_neg d).trans (if_pos n))]at c
    exact c h' f.wide i
   ·refine⟨_,rfl,_,i.c1,_,rfl,_,i.c0,Pd u D fun s' k z j _=>?_⟩
    have t:=i.upd0 j;obtain⟨m,hm,E⟩:=t.map;have p:Nums W k s' ps:=z.sl fun b v _ w=>absurd (i.lt b w) (gO.2 v)
    obtain⟨x,A,y,B,_⟩:=t.put p q (nx+1);refine⟨t.c0,_,rfl,hm.isMap,_,rfl,_,B,_,rfl,y,?_⟩;rw[show ac .u32 (nx+1)=nx+1 from Go.IntWalk.u32_in _ (by omega)]
    rw[show j3 L nx ps=_ from(if_neg a).trans ((if_neg d).trans (if_neg n))]at c
    exact c _ ((f.wide.tr j.wide).tr A) x
end Go.Proofs
namespace Go.Proofs
open Go.Lift
theorem Qs{h:ad}{K:Option Addr→ad→Prop}(e:∀h',Upd No h h'→GraphAt (DG (h.size+1) h.size) h' (h.size+1) h.size [] 1→K (some ⟨h.size+1,0,none⟩) h'):
  HC PG cT [] [.c .ptr] K h:=by
 refine IW ?_;unfold BB;have k1:=Upd.push No h (.map #[] 0);have hm:MapAt KE sv (h.push (.map #[] 0)) h.size []:=MapAt.new h;have c:=Upd.hnew No (h.push (.map #[] 0)) [.map (some h.size),.int .u32 1] ol;have a:(h.push (.map #[] 0)).size=h.size+1:=by simp
 have:=e _ (k1.tr c) ⟨by
  have:=bh (h.push (.map #[] 0)) [.map (some h.size),.int .u32 1] ol
  rw[a]at this;exact this,⟨[],hm.upd c id,fun id=>.inr ⟨rfl,rfl⟩⟩,.inl rfl,.inr rfl,fun b d=>by rw[fe,a];rcases d with rfl|rfl<;>omega,List.nodup_nil⟩
 rw[←a]at this;exact this
end Go.Proofs
namespace Go.Proofs
open Go.Lift
abbrev parV(L:fL)(id:Int):List Int:=(cV L id).getD []
inductive UpG(L:fL):Int→Int→Prop
 |refl {a:Int}:a∈ids L→UpG L a a
 |step {a p b:Int}:a∈ids L→p∈parV L a→UpG L p b→UpG L a b
theorem UpG.left{L:fL}{a b:Int}(h:UpG L a b):a∈ids L:=by cases h<;>assumption
theorem GraphAt.more{W Q:Nat→Prop}{c h:ad}{gp gm:Nat}{L:fL}{nx:Int}(g:GraphAt W c gp gm L nx)(k:Upd No c h)(d:∀b,Q b→c.size≤b∧b<h.size):GraphAt (fun b=>W b∨Q b) h gp gm L nx:=by
 obtain⟨m,hm,f⟩:=g.map;refine⟨k.get0 g.blk,⟨m,hm.upd k id,fun j=>?_⟩,.inl g.wp,.inl g.wm,fun b a=>a.elim (fun a=>aC (g.lt b a) k.size) fun a=>(d b a).2,g.nd⟩
 rcases f j with⟨s,ps,i,n,e⟩|c
 ·exact .inl ⟨s,ps,i,n,(e.less fun b a=>a.imp id fun a=>(d b a).1).upd k fun _ h=>h.elim⟩
 ·exact .inr c
theorem GraphAt.less{W W':Nat→Prop}{h:ad}{gp gm:Nat}{L:fL}{nx:Int}(g:GraphAt W h gp gm L nx)(e:∀b,W' b→W b)(c:W' gp)(d:W' gm):GraphAt W' h gp gm L nx:=by
 obtain⟨m,hm,k⟩:=g.map;refine⟨g.blk,⟨m,hm,fun j=>?_⟩,c,d,fun b a=>g.lt b (e b a),g.nd⟩
 rcases k j with⟨s,ps,c,d,f⟩|i
 ·exact .inl ⟨s,ps,c,d,f.less fun b a=>.inl (e b a)⟩
 ·exact .inr i
end Go.Proofs
namespace Go.Proofs
open Go.Lift
structure Small(L:fL):Prop where
 two:∀v∈L,v.2.length≤2
 len:L.length≤100000
end Go.Proofs
namespace Go.Proofs
open Go.Lift
structure Good(L:fL):Prop extends Small L where
 up:(ids L).Pairwise (· < ·)
 par:∀v∈L,∀p∈v.2,p∈ids L∧p<v.1
theorem Good.nd{L:fL}(g:Good L):(ids L).Nodup:=g.up.imp fun h=>Int.ne_of_lt h
theorem Good.parV{L:fL}(g:Good L){a p:Int}(h:p∈parV L a):p∈ids L∧p<a∧a∈ids L:=by
 unfold Proofs.parV at h;cases hl:cV L a with
 |none=>rw[hl]at h;simp at h
 |some ps=>
  rw[hl]at h;have hm:=(FE g.nd).1 hl;have:=g.par _ hm p (by simpa using h);exact⟨this.1,this.2,dX.2 ⟨_,hm,rfl⟩⟩
theorem UpG.snoc{L:fL}{a z w:Int}(h:UpG L a z)(b:w∈Proofs.parV L z)(hi:w∈ids L):UpG L a w:=by
 induction h with
 |refl h1=>exact .step h1 b (.refl hi)
 |step h1 h2 _ ih=>exact .step h1 h2 (ih b)
theorem UpG.right{L:fL}{a b:Int}(h:UpG L a b):b∈ids L:=by
 induction h with
 |refl h=>exact h
 |step _ _ _ ih=>exact ih
theorem UpG.last{L:fL}{a b:Int}(h:UpG L a b):b=a∨∃z,UpG L a z∧b∈Proofs.parV L z:=by
 induction h with
 |refl _=>exact .inl rfl
 | @step a p b h1 h2 h3 ih=>
  rcases ih with rfl|⟨z,d,c⟩
  ·exact .inr ⟨a,.refl h1,h2⟩
  ·exact .inr ⟨z,.step h1 h2 d,c⟩
theorem UpG.trans{L:fL}{a b c:Int}(h:UpG L a b)(k:UpG L b c):UpG L a c:=by
 induction h with
 |refl _=>exact k
 |step h1 h2 _ ih=>exact .step h1 h2 (ih k)
end Go.Proofs
namespace Go.Proofs
open Go.Lift
structure Inv(L:fL)(nx:Int):Prop where
 good:Good L
 pos:∀id∈ids L,1≤id∧id<nx
 nx1:1≤nx
 nx2:nx≤2147483648
 few:L.length≤1024
theorem Inv.nil:Inv [] 1:=⟨⟨⟨fun v a=>(by cases a),by simp⟩,ix,fun v a=>(by cases a)⟩,fun v a=>(by cases a),by omega,by omega,by simp⟩
theorem GE{id:Int}:∀{L:fL},(ids L).Pairwise (· < ·)→id∉ids L→∀v∈L.dropWhile (fun v=>decide (v.1<id)),id<v.1
 | [],_,_,v,a=>by cases a
 |u::L,hp,hn,v,a=>by
  simp only[ids,cn,bE,au,not_or]at hp hn;rw[List.dropWhile_cons]at a;split at a
  ·exact GE hp.2 hn.2 v a
  ·rename_i h
   have h:¬u.1<id:=by simpa using h
   rcases au.1 a with rfl|a
   ·omega
   ·have:=hp.1 v.1 (dX.2 ⟨v,a,rfl⟩);omega
theorem Lo{id:Int}:∀{L:fL},∀v∈L.takeWhile (fun v=>decide (v.1<id)),v.1<id
 | [],v,a=>by cases a
 |u::L,v,a=>by
  rw[List.takeWhile_cons]at a;split at a
  ·rename_i h
   rcases au.1 a with rfl|a
   ·simpa using h
   ·exact Lo v a
  ·cases a
theorem Fc{L:fL}(g:Good L){id:Int}{ps:List Int}(f:id∉ids L)(i:∀p∈ps,p∈ids L∧p<id)(k:ps.length≤2)(m:L.length<100000):Good (yv L id ps):=by
 have a:=vR L id ps;refine⟨⟨fun v b=>?_,by rw[a.length_eq];simp;omega⟩,?_,fun v b p c=>?_⟩
 ·rcases au.1 (a.mem_iff.1 b)with rfl|b
  ·exact k
  ·exact g.two v b
 ·unfold yv ids
  rw[jF,cn,List.pairwise_append];refine⟨(g.up.sublist ((List.takeWhile_sublist _).map _)),bE.2 ⟨fun y d=>?_,g.up.sublist ((List.dropWhile_sublist _).map _)⟩,fun x hx y d=>?_⟩
  ·obtain⟨v,b,rfl⟩:=dX.1 d
   exact GE g.up f v b
  ·obtain⟨u,j,rfl⟩:=dX.1 hx
   have e:=Lo u j;rcases au.1 d with rfl|d
   ·exact e
   ·obtain⟨v,b,rfl⟩:=dX.1 d
    have:=GE g.up f v b;omega
 ·rw[insV_ids.mem_iff]
  rcases au.1 (a.mem_iff.1 b)with rfl|b
  ·exact⟨bj _ (i p c).1,(i p c).2⟩
  ·have:=g.par v b p c
   exact⟨bj _ this.1,this.2⟩
theorem Db{L:fL}{ps:List Int}(h:rb L ps=0):(∀p∈ps,p∈ids L)∧L.length<1024:=by
 unfold rb at h;split at h
 ·cases h
 ·rename_i h1
  split at h
  ·cases h
  ·rename_i h2
   refine⟨fun p a=>?_,by omega⟩
   by_cases hm:p∈ids L
   ·exact hm
   ·exact absurd (bI.2 ⟨p,a,by simpa using hm⟩) h1
theorem E6{ps:List Int}(h:yp ps=0):ps.length≤2:=by
 unfold yp at h;split at h
 ·cases h
 ·rename_i h1
  have:=not_or.1 h1;omega
theorem Inv.add{L:fL}{nx:Int}(v:Inv L nx)(ps:List Int):Inv (j3 L nx ps).2.1 (j3 L nx ps).2.2:=by
 unfold j3;split
 ·exact v
 ·rename_i b
  split
  ·exact v
  ·rename_i e
   split
   ·exact v
   ·rename_i h3
    have b:yp ps=0:=by omega
    have e:rb L ps=0:=by omega
    obtain⟨d,g⟩:=Db e;have f:nx∉ids L:=fun hm=>by have:=(v.pos nx hm).2;omega
    show Inv (yv L nx ps) (nx+1)
    refine⟨Fc v.good f (fun p c=>⟨d p c,(v.pos p (d p c)).2⟩) (E6 b) (by have:=v.few;omega),fun id a=>?_,by have:=v.nx1;omega,by omega,?_⟩
    ·rcases au.1 (insV_ids.mem_iff.1 a)with rfl|h
     ·have:=v.nx1;omega
     ·have:=v.pos id h;omega
    ·rw[(vR L nx ps).length_eq];simp;omega
theorem Inv.put{L:fL}{nx:Int}(v:Inv L nx){id:Int}(k:0≤id)(ps:List Int):Inv (Rs L nx id ps).2.1 (Rs L nx id ps).2.2:=by
 unfold Rs;split
 ·exact v
 ·rename_i b
  have b:=not_or.1 b;have g:=b.1;have c:=not_or.1 b.2;have d:=not_or.1 c.2;split
  ·exact v
  ·rename_i h2
   split
   ·exact v
   ·rename_i e
    have n:yp ps=0:=by omega
    have e:rb L ps=0:=by omega
    obtain⟨o,q⟩:=Db e;have i:=v.nx1;refine⟨Fc v.good h2 (fun p f=>⟨o p f,?_⟩) (E6 n) (by have:=v.few;omega),fun j m=>?_,by simp only;split<;>omega,?_,?_⟩
    ·by_cases a:p<id
     ·exact a
     ·exact absurd (bI.2 ⟨p,f,by simpa using a⟩) d.2
    ·rcases au.1 (insV_ids.mem_iff.1 m)with rfl|h
     ·simp only;split<;>omega
     ·have:=v.pos j h;simp only;split<;>omega
    ·have:=v.nx2;simp only;split<;>omega
    ·rw[(vR L id ps).length_eq];simp;omega
theorem Inv.drop{L:fL}{nx:Int}(v:Inv L nx){keep st:List Int}(c:∀y,y∈st↔∃k∈keep,UpG L k y):Inv (L.filter fun v=>decide (v.1∈st)) nx:=by
 have a:∀id,id∈ids (L.filter fun v=>decide (v.1∈st))↔id∈ids L∧id∈st:=fun id=>by
  unfold ids;simp only[dX,c5,decide_eq_true_iff];constructor
  ·rintro⟨u,⟨b,d⟩,rfl⟩;exact⟨⟨u,b,rfl⟩,d⟩
  ·rintro⟨⟨u,b,rfl⟩,d⟩;exact⟨u,⟨b,d⟩,rfl⟩
 refine⟨⟨⟨fun u g=>v.good.two u (c5.1 g).1,bR (fE ..) v.good.len⟩,v.good.up.sublist ((List.filter_sublist).map _),fun u g p j=>?_⟩,fun id f=>v.pos id ((a id).1 f).1,v.nx1,v.nx2,bR (fE ..) v.few⟩
 obtain⟨b,d⟩:=c5.1 g;obtain⟨i,n⟩:=v.good.par u b p j;refine⟨(a p).2 ⟨i,?_⟩,n⟩;obtain⟨k,m,e⟩:=(c _).1 (of_decide_eq_true d);refine(c p).2 ⟨k,m,e.snoc ?_ i⟩;have:cV L u.1=some u.2:=(FE v.good.nd).2 b;simp[parV,this,j]
end Go.Proofs
namespace Go.Proofs
open Go Go.Lift
def H6(t u:Tr):Bool:=(t.1==u.1)&&((((t.2.1==u.2.1)&&((t.2.2.1==u.2.2.1)&&true)))&&((t.2.2.2.1==u.2.2.2.1)&&true))
theorem N0{t u:Tr}{h:ad}{K:Bool→ad→Prop}(b:∀h',Upd No h h'→K (H6 t u) h'):HC PG uY [L4 t,L4 u] [.c .bool] K h:=by
 refine IK t u ?_;unfold Bp ao kH fZ;refine cf fun d b1 k1=>cf fun c b2 a=>?_
 have c1:=a.get0 b1;refine⟨_,vc c1 0,_,vc b2 0,?_⟩;have:=b c (k1.tr a);unfold H6 at this;rcases hb:(t.1==u.1)with _|_
 ·rw[hb]at this
  exact ag.2 this
 ·rw[hb]at this
  exact ay.2 ⟨_,zX c1 1 0,_,zX c1 1 1,_,zX c1 1 2,_,zX b2 1 0,_,zX b2 1 1,_,zX b2 1 2,this⟩
theorem TreeIs.plain{W:Nat→Prop}{h:ad}{kind:Int}{x:Hs}{t:Tr}{l:List Pr}(i:TreeIs W h kind x t l):(∀a,t.2.2.2.2.1=some a→f0 h a)∧(∀a,t.2.2.2.2.2=some a→f0 h a):=by
 rcases i with⟨rfl,b,rfl,t⟩|⟨rfl,b,rfl,t⟩
 ·obtain⟨s,nd,_⟩:=t
  obtain⟨d,n,sp,sk,ow,e,_⟩:=nd.ex;refine⟨fun a c=>?_,fun a c=>(by cases c)⟩
  cases c;exact⟨_,_,e,show 0<6 by decide⟩
 ·obtain⟨w,F,⟨val,s,ow,ks,e,_⟩,_⟩:=t.ex
  refine⟨fun a c=>(by cases c),fun a c=>?_⟩
  cases c;exact⟨_,_,e,show 0<5 by decide⟩
end Go.Proofs
namespace Go.Proofs
open Go Go.Lift
abbrev kStr:KeyE ByteArray:=⟨fun s=>.string s,.str,fun x=>⟨x,rfl⟩,fun x y=>⟨fun e=>uf e,fun e=>by subst e;exact vq x⟩⟩
abbrev TD:=Tr×List Pr
abbrev SY(d:TD):Value:=L4 d.1
abbrev Qn(n:Int):Value:=.int .u32 n
structure VS where
 gp:Nat
 gm:Nat
 tm:Nat
 bm:Nat
 nm:Nat
 kind:Int
 x:Hs
 e:Tr
 L:fL
 nx:Int
 D:List (Int×TD)
 B:List (ByteArray×Int)
 G:List (ByteArray×Int)
def VS.M(s:VS):Nat→Prop:=fun y=>y=s.gp∨y=s.gm∨y=s.tm∨y=s.bm∨y=s.nm
structure VaultAt(W:Nat→Prop)(h:ad)(vp:Nat)(s:VS):Prop where
 blk:h[vp]? =some (.cells (nu s.e++ [Value.pointer (some ⟨s.gp,0,none⟩),Value.map (some s.tm),Value.map (some s.bm),Value.map (some s.nm)]).toArray bG (0,0))
 g:GraphAt W h s.gp s.gm s.L s.nx
 t:MapAt KE SY h s.tm s.D
 b:MapAt kStr Qn h s.bm s.B
 n:MapAt kStr Qn h s.nm s.G
 w:∀y,s.M y→W y
 wv:¬W vp
 ne: [s.gp,s.gm,s.tm,s.bm,s.nm].Nodup
 em:TreeIs W h s.kind s.x s.e []
 ts:∀d∈s.D,TreeIs W h s.kind s.x d.2.1 d.2.2∧dM d.2.2∧Fit d.2.2
 sub:∀id,id∈s.D.map (·.1)↔id∈ids s.L
 inv:Inv s.L s.nx
 kd:s.kind=0∨s.kind=1
theorem VaultAt.upd{W M:Nat→Prop}{h h':ad}{c:Nat}{s:VS}(v:VaultAt W h c s)(k:Upd M h h')(hm:∀b,M b→(W b∧¬s.M b)∨h.size≤b):VaultAt W h' c s:=by
 have g:∀y,s.M y→¬M y:=fun y i a=>(hm y a).elim (fun e=>e.2 i) fun e=>absurd (v.g.lt y (v.w y i)) (by omega)
 have j:∀b,M b→W b∨h.size≤b:=fun b a=>(hm b a).imp (·.1) id
 have m:¬M c:=fun a=>(hm c a).elim (fun e=>v.wv e.1) fun e=>absurd (bp v.blk) (by omega)
 exact⟨k.get v.blk m,v.g.upd k fun b a=>(hm b a).imp (fun e=>⟨e.1,fun f=>e.2 (.inl f),fun f=>e.2 (.inr (.inl f))⟩) id,v.t.upd k (g _ (.inr (.inr (.inl rfl)))),v.b.upd k (g _ (.inr (.inr (.inr (.inl rfl))))),v.n.upd k (g _ (.inr (.inr (.inr (.inr rfl))))),v.w,v.wv,v.ne,v.em.updM k j,fun d hd=>⟨(v.ts d hd).1.updM k j,(v.ts d hd).2⟩,v.sub,v.inv,v.kd⟩
theorem VaultAt.upd0{W:Nat→Prop}{h h':ad}{a:Nat}{s:VS}(v:VaultAt W h a s)(k:Upd No h h'):VaultAt W h' a s:=v.upd k fun _ h=>h.elim
end Go.Proofs
namespace Go.Proofs
open Go Go.Lift
end Go.Proofs
namespace Go.Proofs
open Go Go.Lift
section
variable {W:Nat→Prop} {h:ad} {vp:Nat} {s:VS}
abbrev pV(a:Nat):Value:=.pointer (some ⟨a,0,none⟩)
theorem PT(v:VaultAt W h vp s)(id:Int){K:Bool→ad→Prop}(a:K (decide (id=0∨id∈ids s.L)) h):HC PG mP [pV vp,.int .u32 id] [.c .bool] K h:=by
 refine yR (some ⟨vp,0,none⟩) id ?_;unfold ry gi zV;refine CondP.intro (fun e=>?_) fun e=>⟨_,rfl,_,vc v.blk 6,LD v.g id ?_⟩
 ·rw[decide_eq_true (.inl (by simpa using e))]at a;exact a
 ·have e:id≠0:=by simpa using e
  rw[show decide (id=0∨id∈ids s.L)=decide (id∈ids s.L)from by simp[e]]at a;exact a
theorem Hk(v:VaultAt W h vp s)(n:ByteArray){K:Int×Bool→ad→Prop}(a:K ((cV s.B n).getD 0,(cV s.B n).isSome) h):HC PG jo [pV vp,.string n] [.c (.int .u32),.c .bool] K h:=by
 refine xD (some ⟨vp,0,none⟩) n ?_;unfold qG bA;exact CondP.intro (fun e=>by cases e) fun _=>⟨_,rfl,_,vc v.blk 8,_,_,v.b.get n 0,a⟩
theorem NH(v:VaultAt W h vp s)(id:Int){K:Tr×Int→ad→Prop}(m:id=0→∀h',Upd No h h'→K (s.e,0) h')(k:∀d,cV s.D id=some d→id≠0→∀h',Upd No h h'→K (d.1,0) h')(n:cV s.D id=none→id≠0→∀h',Upd No h h'→K (zQ,4) h'):
  HC PG gJ [pV vp,.int .u32 id] [.agg [.int .i64,.int .u64,.int .u64,.int .u64,.ptr,.ptr],.c (.int .i64)] K h:=by
 refine xC (some ⟨vp,0,none⟩) id ?_;unfold qF bA ao EY eH nv gi ae ah nI kH fZ uv RY BL;refine cf fun w b1 k1=>CondP.intro (fun e=>by cases e) fun _=>?_
 have c:=k1.get0 v.blk;refine CondP.intro (fun e=>⟨_,rfl,?_⟩) fun e=>⟨_,rfl,_,vc c 7,((cV s.D id).getD (zQ,[])).1,_,(v.t.upd k1 fun h=>h).get id (zQ,[]),cf fun p b2 o=>?_⟩
 ·refine⟨_,zX c 0 0,_,zX c 0 1,_,zX c 0 2,_,zX c 0 3,_,zX c 0 4,_,zX c 0 5,?_⟩
  refine eN (c:=nu zQ) (vs:=nu s.e) b1 rfl fun p b2 i=>?_
  exact⟨_,vc b2 0,_,vc b2 1,_,vc b2 2,_,vc b2 3,_,vc b2 4,_,vc b2 5,m (by simpa using e) p (k1.own i (az _))⟩
 ·have e:id≠0:=by simpa using e
  have x:=bp b1;have u:=k1.size;refine eN (c:=nu zQ) (vs:=nu ((cV s.D id).getD (zQ,[])).1) b2 rfl fun t b3 f=>?_
  have g:=f.oth (o.get0 b1) (by omega);have q:Upd No h t:=(k1.tr o).own f k1.size;cases hl:cV s.D id with
  |none=>
   refine ay.2 (eN (c:=nu zQ) (vs:=nu zQ) g rfl fun j a b=>?_)
   exact⟨_,vc a 0,_,vc a 1,_,vc a 2,_,vc a 3,_,vc a 4,_,vc a 5,n hl e j (q.own b (az _))⟩
  |some d=>
   rw[hl]at b3;refine ag.2 ⟨_,vc b3 0,_,vc b3 1,_,vc b3 2,_,vc b3 3,_,vc b3 4,_,vc b3 5,?_⟩;refine eN (c:=nu zQ) (vs:=nu d.1) g rfl fun j a b=>?_
   exact⟨_,vc a 0,_,vc a 1,_,vc a 2,_,vc a 3,_,vc a 4,_,vc a 5,k d hl e j (q.own b (az _))⟩
theorem VaultAt.turn{M:Nat→Prop}{h':ad}{L:fL}{nx:Int}{D:List (Int×TD)}{B G:List (ByteArray×Int)}(v:VaultAt W h vp s)(k:Upd M h h')(hm:∀b,M b→W b∨h.size≤b)(g:GraphAt W h' s.gp s.gm L nx)(t:MapAt KE SY h' s.tm D)(b:MapAt kStr Qn h' s.bm B)(n:MapAt kStr Qn h' s.nm G)
  (ts:∀d∈D,d∈s.D∨TreeIs W h' s.kind s.x d.2.1 d.2.2∧dM d.2.2∧Fit d.2.2)(sub:∀id,id∈D.map (·.1)↔id∈ids L)(inv:Inv L nx):VaultAt W h' vp {s with L:=L,nx:=nx,D:=D,B:=B,G:=G}:=by
 have c:¬M vp:=fun a=>(hm vp a).elim (fun e=>v.wv e) fun e=>absurd (bp v.blk) (by omega)
 exact⟨k.get v.blk c,g,t,b,n,v.w,v.wv,v.ne,v.em.updM k hm,fun d hd=>(ts d hd).elim (fun e=>⟨(v.ts d e).1.updM k hm,(v.ts d e).2⟩) id,sub,inv,v.kd⟩
end
end Go.Proofs
namespace Go.Proofs
open Go Go.Lift
def Bm(b:UInt8):Bool:=decide (33≤b.toNat)&&decide (b.toNat≤126)
def sK(n:ByteArray):Bool:=decide (1≤n.size)&&decide (n.size≤32)&&n.data.toList.all Bm
theorem Pi{b:UInt8}{h:ad}{K:Bool→ad→Prop}(a:K (!Bm b) h):HC PG pp [.int .u8 b.toNat] [.c .bool] K h:=by
 refine BR b.toNat ?_;unfold ui;refine aG (fun e=>?_) fun e=>?_
 ·rw[show(!Bm b)=true from by simp[Bm];omega]at a;exact a
 ·rw[show(!Bm b)=decide ((b.toNat:Int)>126)from by unfold Bm;rw[decide_eq_true (by omega:33≤b.toNat),jK,←decide_not,decide_eq_decide];omega]at a;exact a
theorem EN{n:ByteArray}{h:ad}{K:Bool→ad→Prop}(f:∀h',Upd No h h'→K (sK n) h'):HC PG ou [.string n] [.c .bool] K h:=by
 refine Ep n ?_;unfold wL;refine Join.plain (aG (fun e=>ay.2 ?_) fun e=>aG (fun e2=>?_) fun e2=>?_)
 ·rw[show sK n=false from by simp[sK];omega]at f;exact f _ (Upd.refl _ _)
 ·rw[show sK n=false from by simp[sK];omega]at f;exact f _ (Upd.refl _ _)
 ·refine fun c hc=>?_
  have k1:=Upd.push No h (.cells (cj n++bw (c-n.size) (Value.int .u8 0)).toArray jm (c,c+1));have b1:=mL h (.cells (cj n++bw (c-n.size) (Value.int .u8 0)).toArray jm (c,c+1));generalize h.push (.cells (cj n++bw (c-n.size) (Value.int .u8 0)).toArray jm (c,c+1))=h1 at k1 b1;have a:n.data.toList.length=n.size:=Array.length_toList;refine mD ⟨some (aR h),n.size,c⟩ _ ?_
  unfold gZ;refine nY ⟨some (aR h),n.size,c⟩ _ ?_;unfold iT bA dU;refine LoopP.ghost (fun(i:Nat) (t:Int) h'=>t=(i:Int)∧h'=h1∧i≤n.size∧∀b∈n.data.toList.take i,Bm b=true) (fun i=>n.size-i) 0 ⟨rfl,rfl,cu _,by simp⟩ ?_
  rintro I i t h' ⟨rfl,rfl,hi,j⟩ m;refine aG (fun d=>?_) fun k=>?_
  ·have d:i<n.data.toList.length:=by rw[a];simp only at d;omega
   refine⟨by simp only;omega,aR h,rfl,(n.data.toList[i].toNat:Int),?_,?_⟩
   ·rw[Ku b1,List.getElem?_toArray,aB,Nat.mul_one,List.getElem?_append_left (by simp[cj];omega)]
    simp[cj,a▸d]
   ·refine HV.mk' (Pi (b:=n.data.toList[i]) (CondP.intro (fun e=>?_) fun e=>?_))
    ·rw[show sK n=false from ?_]at f
     ·rw[decide_eq_true (by omega)];exact f _ k1
     ·unfold sK
      rw[show n.data.toList.all Bm=false from List.all_eq_false.2 ⟨_,ce d,by simpa using e⟩,Bool.and_false]
    ·rw[eu (n:=n.size) (by omega) (by omega)]
     refine m (i+1) _ _ ⟨rfl,rfl,by omega,?_⟩ (by omega)
     rw[cc d];intro b g;rcases bS.1 g with g|g
     ·exact j b g
     ·rw[aN.1 g];simpa using e
  ·have:i=n.size:=by simp only at k;omega
   subst this;rw[←a,bW]at j;rw[show sK n=true from by unfold sK;rw[List.all_eq_true.2 j];simp;omega]at f
   exact f _ k1
def wd(B:List (ByteArray×Int))(L:fL)(n:ByteArray)(id:Int)(no:Bool):Int:=if sK n=false then 1 else if(cV B n).isSome then 7 else if no|| !decide (id=0∨id∈ids L)then 4 else if B.length≥256 then 6 else 0
theorem QJ{W:Nat→Prop}{h:ad}{d:Nat}{s:VS}(v:VaultAt W h d s){r:Nat}{B:List (ByteArray×Int)}(m:MapAt kStr Qn h r B)(n:ByteArray)(id:Int)(no:Bool){K:Int→ad→Prop}
  (g:∀h',Upd (· =r) h h'→MapAt kStr Qn h' r (if wd B s.L n id no=0 then m5 B n id else B)→K (wd B s.L n id no) h'):HC PG mO [.map (some r),pV d,.string n,.int .u32 id,.bool no] [.c (.int .i64)] K h:=by
 refine yQ (some r) (some ⟨d,0,none⟩) n id no ?_;unfold rx zV;refine⟨_,_,m.get n 0,EN fun j k1=>?_⟩
 have a:∀e h',wd B s.L n id no=e→e≠0→Upd No h h'→K e h':=fun e h' p w k=>by
  have:=g h' k.wide;rw[p,if_neg w]at this;exact this (m.upd k fun h=>h)
 refine CondP.intro (fun e=>a 1 j ?_ (by decide) k1) fun e=>CondP.intro (fun e2=>a 7 j ?_ (by decide) k1) fun e2=>?_
 ·unfold wd;rw[if_pos (by simpa using e)]
 ·unfold wd;rw[if_neg (by simpa using e),if_pos e2]
 ·have e:¬sK n=false:=by simpa using e
  have e2:¬(cV B n).isSome=true:=by simp[e2]
  refine Join.intro (fun t h'=>t=(no|| !decide (id=0∨id∈ids s.L))∧Upd No h h') (fun R o=>?_) ?_
  ·refine CondP.intro (fun b=>o _ _ ⟨by rw[b];rfl,k1⟩) fun b=>PT (v.upd0 k1) id (o _ _ ⟨by rw[b];rfl,k1⟩)
  ·rintro t f ⟨rfl,c⟩
   refine CondP.intro (fun b=>a 4 f ?_ (by decide) c) fun b=>⟨_,(m.upd c fun h=>h).len,aG (fun u=>a 6 f ?_ (by decide) c) fun u=>?_⟩
   ·unfold wd;rw[if_neg e,if_neg e2,if_pos b]
   ·unfold wd;rw[if_neg e,if_neg e2,if_neg (by rw[b];decide),if_pos (by omega)]
   ·have i:=m.upd c fun h=>h
    have q:wd B s.L n id no=0:=by unfold wd;rw[if_neg e,if_neg e2,if_neg (by rw[b];decide),if_neg (by omega)]
    refine⟨r,rfl,i.isMap,?_⟩;have:=g _ ((c.wide).tr (sI (M:=(· =r)) f (.string n) (.int .u32 id) rfl))
    rw[q,if_pos rfl]at this;exact this (i.put n id)
theorem VS.neB{s:VS}(h: [s.gp,s.gm,s.tm,s.bm,s.nm].Nodup):s.gp≠s.gm∧s.gp≠s.tm∧s.gp≠s.bm∧s.gp≠s.nm∧s.gm≠s.tm∧s.gm≠s.bm∧s.gm≠s.nm∧s.tm≠s.bm∧s.tm≠s.nm∧s.bm≠s.nm:=by
 simp only[lY,au,List.not_mem_nil,or_false,not_or]at h;exact⟨h.1.1,h.1.2.1,h.1.2.2.1,h.1.2.2.2,h.2.1.1,h.2.1.2.1,h.2.1.2.2,h.2.2.1.1,h.2.2.1.2,h.2.2.2.1⟩
theorem VaultAt.setB{W:Nat→Prop}{h h':ad}{g:Nat}{s:VS}{B:List (ByteArray×Int)}(v:VaultAt W h g s)(k:Upd (· =s.bm) h h')(b:MapAt kStr Qn h' s.bm B):VaultAt W h' g {s with B:=B}:=by
 obtain⟨n,t,i,o,p,j,q,m,u,c⟩:=VS.neB v.ne;have f:∀b,b=s.bm→W b:=fun b e=>v.w b (.inr (.inr (.inr (.inl e))))
 exact v.turn k (fun b e=>.inl (f b e)) (v.g.upd k fun b e=>.inl ⟨f b e,fun a=>i (a.symm.trans e),fun a=>j (a.symm.trans e)⟩) (v.t.upd k m) b (v.n.upd k fun e=>c e.symm) (fun d hd=>.inl hd) v.sub v.inv
theorem Jp{W:Nat→Prop}{h:ad}{a:Nat}{s:VS}(v:VaultAt W h a s)(n:ByteArray)(id:Int){K:Int→ad→Prop}
  (c:∀h',Upd (· =s.bm) h h'→VaultAt W h' a {s with B:=if wd s.B s.L n id false=0 then m5 s.B n id else s.B}→K (wd s.B s.L n id false) h'):HC PG kf [pV a,.string n,.int .u32 id] [.c (.int .i64)] K h:=by
 refine vt (some ⟨a,0,none⟩) n id ?_;unfold o1 bA;exact CondP.intro (fun e=>by cases e) fun _=>⟨_,rfl,_,vc v.blk 8,QJ v v.b n id false fun h' b m=>c h' b (v.setB b m)⟩
end Go.Proofs
namespace Go.Proofs
open Go Go.Lift
abbrev LV:=List (List UInt8)×Bool
def dq(s:LV):List UInt8×LV:=match s.1 with
 | []=>([],([],false))
 |w::ws=>(w,(ws,s.2))
def pC(s:LV):List UInt8×LV:=((jL (dq s).1).getD [],((dq s).2.1,(dq s).2.2&&(jL (dq s).1).isSome))
def jc(most:Nat)(s:LV):Nat×LV:=((nA (dq s).1).getD 0,((dq s).2.1,(dq s).2.2&&((nA (dq s).1).isSome&&decide ((nA (dq s).1).getD 0≤most))))
def mK(s:LV):List UInt8×LV:=((dq s).1,((dq s).2.1,(dq s).2.2&&sK (bN (dq s).1)))
abbrev rdC(sp:SliceV)(a:Bool):Array Value:= #[.slice sp.a sp.len sp.cap,.bool a]
structure RdAt(W:Nat→Prop)(h:ad)(b:Nat)(s:LV):Prop where
 ex:∃sp:SliceV,h[b]? =some (.cells (rdC sp s.2) jI (0,0))∧Sl Sj 1 W h sp s.1∧sp.len≤sp.cap
 w:W b
 n:∀x∈s.1,x.length≤1000000
section
variable {W M:Nat→Prop} {h h':ad} {b:Nat} {s:LV}
theorem RdAt.upd(r:RdAt W h b s)(k:Upd M h h')(c:¬M b)(hm:∀y,M y→W y∨h.size≤y):RdAt W h' b s:=
 let⟨sp,hc,d,a⟩:=r.ex
 ⟨⟨sp,k.get hc c,d.upd k hm,a⟩,r.w,r.n⟩
theorem RdAt.upd0(r:RdAt W h b s)(k:Upd No h h'):RdAt W h' b s:=r.upd k id fun _ h=>h.elim
theorem RdAt.lt(r:RdAt W h b s):b<h.size:=let⟨_,hc,_⟩:=r.ex;bp hc
theorem RdAt.setOk(r:RdAt W h b s){o d:Bool}(e:o=d){k:ad→Prop}(f:∀h',RdAt W h' b (s.1,d)→Upd (· =b) h h'→k h'):Wr h (adr ⟨b,0,none⟩ 1)∧At (hset h (adr ⟨b,0,none⟩ 1) (.bool o)) k:=by
 subst e;obtain⟨sp,hc,i,g⟩:=r.ex;exact tq hc (by simp) rfl fun h' a u=>f h' ⟨⟨sp,a,i.upd u fun y c=>.inl (by have c:y=b:=c;rw[c];exact r.w),g⟩,r.w,r.n⟩ u
theorem Af(r:RdAt W h b s){K:ByteArray→ad→Prop}(t:∀h',(dq s).1.length≤1000000→RdAt W h' b (dq s).2→Upd (· =b) h h'→K (bN (dq s).1) h'):HC PG gL [.pointer (some ⟨b,0,none⟩)] [.c .str] K h:=by
 obtain⟨f,E⟩:=s;have v:=r;obtain⟨sp,hc,q,B⟩:=r.ex;refine xN (some ⟨b,0,none⟩) ?_;unfold qQ bA dU bL cg;have d:=q.len;simp only at d;refine⟨_,rfl,sp,vc hc 0,CondP.intro (fun e=>⟨_,rfl,?_⟩) fun e=>⟨_,rfl,sp,vc hc 0,?_⟩⟩
 ·have e:sp.len=0:=by simpa using e
  have z:f= []:=List.length_eq_zero_iff.1 (by omega);subst z;exact v.setOk rfl fun h' D u=>t h' (by simp[dq]) D u
 ·have e:sp.len≠0:=by simpa using e
  cases f with
  |nil=>exact absurd d e
  |cons w f=>
   simp only[aV]at d;obtain⟨a,p,A⟩:∃a,sp.a=some a∧aE h (adr a (0*1))=some (.string (bN w)):=by
    obtain⟨a,p,_,k⟩:=q.at0 (g:=fun w=>Value.string (bN w)) (i:=0) (x:=w) rfl
    exact⟨a,p,k⟩
   refine⟨⟨by omega,by omega⟩,a,p,bN w,A,_,rfl,sp,vc hc 0,⟨by omega,by omega⟩,_,rfl,tq hc (by simp) rfl fun h' n u=>?_⟩
   have j:=q.sub (l:=1) (hi:=sp.len) (m:=sp.cap) (c:=sp.cap-1) (by omega) (by simp only[aV];omega) B;refine t h' (r.n w (List.mem_cons_self ..)) ⟨⟨⟨aM sp.a 1 sp.cap 1,sp.len-1,sp.cap-1⟩,n,?_,?_⟩,r.w,fun x hx=>r.n x (bj _ hx)⟩ u
   ·have C:((w::f).drop 1).take (sp.len-1)=f:=by show f.take _=_;exact List.take_of_length_le (by omega)
    have:=j.upd u fun y o=>.inl (by have o:y=b:=o;rw[o];exact r.w)
    rw[C]at this;exact this
   ·show sp.len-1≤sp.cap-1
    omega
theorem LC(r:RdAt W h b s){K:ByteArray→ad→Prop}(i:∀h',RdAt W h' b (pC s).2→Upd (· =b) h h'→K (bN (pC s).1) h'):HC PG eW [.pointer (some ⟨b,0,none⟩)] [.c .str] K h:=by
 refine zj (some ⟨b,0,none⟩) ?_;unfold rO cX cg;refine Af r fun p o n j=>Cv (by rw[ga];exact o) fun q g=>?_
 have f:=n.upd0 g;obtain⟨sp,hc,_⟩:=f.ex;rw[show(bN (dq s).1).data.toList=(dq s).1 from by simp]
 have k:(Gi (jL (dq s).1)).1=bN (pC s).1:=by unfold pC;cases jL (dq s).1<;>rfl
 have m:(Gi (jL (dq s).1)).2=(jL (dq s).1).isSome:=by cases jL (dq s).1<;>rfl
 rw[k,m];refine⟨_,rfl,(dq s).2.2,vc hc 1,CondP.intro (fun e=>⟨_,rfl,f.setOk rfl fun c a d=>i c ?_ ((j.trans g fun _ h=>h.elim).tr d)⟩) fun e=>⟨_,rfl,f.setOk rfl fun c a d=>i c ?_ ((j.trans g fun _ h=>h.elim).tr d)⟩⟩
 ·rw[pC,e,jK];exact a
 ·rw[pC,e,qX];exact a
theorem B9(l:Laid h)(q:4≤b){most:Nat}(_:most<18446744073709551616)(r:RdAt W h b s){K:Int→ad→Prop}(j:∀h',RdAt W h' b (jc most s).2→Upd (· =b) h h'→K ((jc most s).1:Int) h'):
  HC PG eJ [.pointer (some ⟨b,0,none⟩),.int .u64 (most:Int)] [.c (.int .u64)] K h:=by
 refine vB (some ⟨b,0,none⟩) (most:Int) ?_;unfold pf cX cg;refine Af r fun u p o i=>qd (by rw[ga];exact p) (l.upd i fun y k=>by have k:y=b:=k;omega) fun v g=>?_
 have f:=o.upd0 g;obtain⟨sp,hc,_⟩:=f.ex;rw[show(bN (dq s).1).data.toList=(dq s).1 from by simp]
 have m:(Gj (nA (dq s).1)).1=((jc most s).1:Int):=by unfold jc;cases nA (dq s).1<;>rfl
 have n:(Gj (nA (dq s).1)).2=(nA (dq s).1).isSome:=by cases nA (dq s).1<;>rfl
 rw[m,n];refine⟨_,rfl,(dq s).2.2,vc hc 1,CondP.intro (fun e=>CondP.intro (fun e2=>⟨_,rfl,f.setOk rfl fun c a d=>j c ?_ ((i.trans g fun _ h=>h.elim).tr d)⟩) fun e2=>⟨_,rfl,f.setOk rfl fun c a d=>j c ?_ ((i.trans g fun _ h=>h.elim).tr d)⟩) fun e=>⟨_,rfl,f.setOk rfl fun c a d=>j c ?_ ((i.trans g fun _ h=>h.elim).tr d)⟩⟩
 ·have t:decide (((jc most s).1:Int)≤(most:Int))=decide ((nA (dq s).1).getD 0≤most):=by rw[decide_eq_decide];show((((nA (dq s).1).getD 0:Nat):Int)≤(most:Int))↔_;omega
  rw[t]at a;rw[jc,e,e2,jK,jK];exact a
 ·rw[jc,e,e2,jK,qX];exact a
 ·rw[jc,e,qX];exact a
theorem H2(r:RdAt W h b s){K:ByteArray→ad→Prop}(g:∀h',RdAt W h' b (mK s).2→Upd (· =b) h h'→K (bN (mK s).1) h'):HC PG jp [.pointer (some ⟨b,0,none⟩)] [.c .str] K h:=by
 refine xO (some ⟨b,0,none⟩) ?_;unfold qR cX cg;refine Af r fun m k f j=>?_
 obtain⟨sp,hc,_⟩:=f.ex;refine⟨_,rfl,(dq s).2.2,vc hc 1,CondP.intro (fun e=>EN fun n i=>⟨_,rfl,(f.upd0 i).setOk rfl fun c a d=>g c ?_ ((j.trans i fun _ h=>h.elim).tr d)⟩) fun e=>⟨_,rfl,f.setOk rfl fun c a d=>g c ?_ (j.tr d)⟩⟩
 ·rw[mK,e,jK];exact a
 ·rw[mK,e,qX];exact a
end
end Go.Proofs
namespace Go.Proofs
open Go Go.Lift
section
variable {M:Nat→Prop} {h:ad} {s:SliceV} {xs ys:List Int}
theorem FP(l:List Int):l.flatMap u32=l.map fun x=>Value.int .u32 x:=by
 induction l with
 |nil=>rfl
 |cons x l ih=>rw[be,ih];rfl
theorem OwnS.put1(g:OwnS u32 1 qf M h s ys){i:Nat}(hi:i<ys.length)(x:Int){k:ad→Prop}(n:∀h',OwnS u32 1 qf M h' s (ys.set i x)→Upd M h h'→k h'):∃a,s.a=some a∧Wr h (adr a (i*1))∧At (hset h (adr a (i*1)) (.int .u32 x)) k:=by
 have c:=g.len;have f:=g.cap;rcases g.blk with t|⟨b,d,m,j,hc,o⟩
 ·omega
 refine⟨_,m,?_⟩;rw[Nat.mul_one];refine tq hc (by rw[List.size_toArray,ai,FP,jG];omega) (List.setIfInBounds_toArray ..) fun q b2 p=>n q ⟨by rw[l4];exact c,w6,f,.inr ⟨b,d,m,j,?_,o⟩⟩ (p.mono fun _ e=>.inl (e▸j))
 rw[b2,FP,List.set_append_left _ _ (by rw[jG];exact hi),FP,List.map_set]
theorem OwnS.cutZ(g:OwnS u32 1 qf M h s ys){i:Nat}(hi:i<ys.length){k:ad→Prop}(q:∀h',OwnS u32 1 qf M h' ⟨aM s.a 0 s.cap 1,i-0,s.cap-0⟩ (ys.take i)→Upd M h h'→k h'):
  sq h (aM s.a i s.cap 1) 0 (cL (s.len-i) [.int .u32 0])∧At (ez h (aM s.a i s.cap 1) 0 (cL (s.len-i) [.int .u32 0])) k:=by
 have j:=g.len;have p:=g.cap;rcases g.blk with w|⟨b,a,o,n,hc,t⟩
 ·omega
 have d:((ys.take i).flatMap u32).length=i*1:=by rw[iq w6,aP,Nat.min_eq_left (by omega)]
 have m:((ys.drop i).flatMap u32).length=(ys.length-i)*1:=by rw[iq w6,List.length_drop]
 rw[vo (f:=u32) ys i]at hc;rw[o,g0 (by omega)];have c:(cL (s.len-i) [Value.int .u32 0]).length=(s.len-i)*1:=j4 _ _;refine B6 hc (by rw[c,ai,ai,d,m];omega) fun v b2 u=>q v ⟨by rw[aP];simp only;omega,w6,by simp only;omega,
  .inr ⟨b,cL (s.len-i) [Value.int .u32 0]++a,by rw[o,sub_zero],n,?_,?_⟩⟩ (u.mono fun _ e=>.inl (e▸n))
 ·rw[b2]
  congr 2
  rw[aF,aF,List.take_left' (by rw[d];omega)];congr 2
  rw[←cE,bT (by rw[d];omega),bT (by rw[m,c];omega)]
 ·rw[ai,c,t];simp only;omega
def nz(xs:List Int):List Int:=xs.filter fun x=> !(x==0)
theorem N8{x:Int}{K:Bool→ad→Prop}(a:K (x==0) h):HV PG (.func (.func qr) #[] #[]) [.int .u32 x] [.c .bool] K h:=by
 refine HV.mk' (DI x ?_);unfold vF;exact a
theorem NI(m:OwnS u32 1 qf M h s xs)(R:xs.length≤1000000){K:SliceV→ad→Prop}(E:∀s' h',OwnS u32 1 qf M h' s' (nz xs)→Upd M h h'→K s' h'):HC PG tE [.slice s.a s.len s.cap] [.c .slice] K h:=by
 have q:=m.len;have D:=m.cap;refine GT s ?_;unfold zr;refine oY s _ ?_;unfold jh bA dU cg;refine jz s _ ?_;unfold gh bA dU;have L:Sl u32 1 No h s xs:=m.sl fun _ _ _ h=>h
 refine LoopP.ghost (fun(i:Nat) (t:Int) h'=>t=(i:Int)∧h'=h∧i≤xs.length∧nz (xs.take i)=xs.take i) (fun i=>xs.length-i) 0 ⟨rfl,rfl,cu _,by simp[nz]⟩ ?_
 rintro I i t h' ⟨rfl,rfl,hi,k⟩ O;refine aG (fun c=>?_) fun N=>?_
 ·have c:i<xs.length:=by omega
  obtain⟨a,z,_,hx⟩:=Nums.at L c;refine⟨by omega,a,z,_,hx,N8 (CondP.intro (fun e=>?_) fun e=>?_)⟩
  ·
   have J:nz (xs.take (i+1))=xs.take i:=by
    rw[cc c];unfold nz at k⊢;rw[eG,k];simp[e]
   refine CondP.intro (fun e1=>?_) fun _=>?_
   ·simp at e1
   rw[eu c (by omega)];refine LoopP.ghost (fun(g:Nat×Nat×List Int) (t:Int×Int) x=>t=((g.1:Int),(g.2.1:Int))∧g.1<g.2.1∧g.2.1≤xs.length∧OwnS u32 1 qf M x s g.2.2∧g.2.2.take g.1=nz (xs.take g.2.1)∧g.2.2.drop g.2.1=xs.drop g.2.1∧Upd M h' x) (fun g=>xs.length-g.2.1) (i,i+1,xs) ⟨rfl,by simp only;omega,by simp only;omega,m,J.symm,rfl,Upd.refl _ _⟩ ?_
   rintro Q ⟨p,j,ys⟩ t x ⟨rfl,C,P,d,u,hd,B⟩ o;have d:OwnS u32 1 qf M x s ys:=d;have H:ys.length=xs.length:=d.len.symm.trans q;simp only at C P u hd⊢;refine aG (fun b=>?_) fun F=>?_
   ·have b:j<xs.length:=by omega
    have y:ys[j]'(by omega)=xs[j]:=by
     have:=congrArg List.head? hd;simpa[List.head?_drop,aJ b,aJ (show j<ys.length by omega)]using this
    obtain⟨a,z,_,hx⟩:=Nums.at (d.sl (W:=No) fun _ _ _ h=>h) (show j<ys.length by omega)
    rw[y]at hx;have v:ys.drop (j+1)=xs.drop (j+1):=by rw[←cE,hd,cE]
    refine Join.plain ⟨by omega,a,z,_,hx,N8 (CondP.intro (fun e=>?_) fun e=>?_)⟩
    ·have f:(!(xs[j]==0))=true:=e
     refine⟨by omega,?_⟩;rw[aB];refine OwnS.put1 d (i:=p) (by omega) xs[j] fun G w A=>?_
     rw[eu (i:=p) (n:=xs.length) (by omega) (by omega),eu b (by omega)];refine o (p+1,j+1,ys.set p xs[j]) _ _ ⟨rfl,by simp only;omega,by simp only;omega,w,?_,?_,B.tr A⟩ (by simp only;omega)
     ·simp only
      rw[cc (by rw[l4];omega),List.getElem_set_self,List.take_set_of_le (az _),u,cc b];unfold nz;rw[eG];simp[f]
     ·simp only
      rw[List.drop_set_of_lt (by omega),v]
    ·have f:(!(xs[j]==0))=false:=e
     rw[eu b (by omega)];refine o (p,j+1,ys) _ _ ⟨rfl,by simp only;omega,by simp only;omega,d,?_,v,B⟩ (by simp only;omega)
     simp only;rw[u,cc b];unfold nz;rw[eG];simp[f]
   ·have:j=xs.length:=by omega
    subst this;rw[bW]at u;refine⟨by omega,?_⟩;rw[aB];refine OwnS.cutZ (ys:=ys) d (by omega) fun G w A=>⟨by omega,?_⟩
    rw[u]at w;exact E _ _ w (B.tr A)
  ·rw[eu c (by omega)]
   refine O (i+1) _ _ ⟨rfl,rfl,by omega,?_⟩ (by omega)
   rw[cc c];unfold nz at k⊢;rw[eG,k];simp[e]
 ·have:i=xs.length:=by omega
  subst this;rw[bW]at k;rw[←k]at m;exact ay.2 (E s _ m (Upd.refl _ _))
end
end Go.Proofs
