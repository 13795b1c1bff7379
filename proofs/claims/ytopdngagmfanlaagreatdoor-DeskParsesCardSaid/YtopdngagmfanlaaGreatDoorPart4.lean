/- A part of the proof that the named laws of this program answer true, whatever the input. -/
import Derived.Test.YtopdngagmfanlaaGreatDoorPart3
import Derived.Shelf.Strconv.Itoa1
import Derived.Shelf.Strconv.Itoa2
import Derived.Lib.ItoaNum
import Derived.Lib.ItoaMem
import Derived.Lib.ItoaLen
import Derived.Shelf.LaysM
import Derived.Lib.ParseIntB
import Derived.Shelf.Pu.Lays
import Derived.Test.YtopdngagmfanlaaGreatDoorTreeF0
import Derived.Test.YtopdngagmfanlaaGreatDoorTreeF1
import Derived.Test.YtopdngagmfanlaaGreatDoorTreeF2
import Derived.Shelf.Pu.ParseUintPublic10
import Derived.Test.YtopdngagmfanlaaGreatDoorPart1
import Derived.Test.YtopdngagmfanlaaGreatDoorLift3
import Derived.IntWalk
open Array renaming replicate→jG,size_replicate→j1
open Bool renaming true_and→dj,false_and→il
open ByteArray renaming ext→vO,data_extract→gk
open Go.IntKind renaming wrap→ac
open Int renaming toNat_natCast→ak
open List renaming length_map→gw,getElem?_eq_some_iff→bd,replicate→bC,all_cons→vL,mem_cons→ar,length_cons→ay,flatMap_cons→bH,map_cons→cN,replicate_succ→iK,append_assoc→aK,length_append→ai,length_singleton→ct,map_append→lC,getElem?_eq_getElem→ax,getElem_mem→bV,take_succ_eq_append_getElem→cA,mem_append→bL,mem_singleton→aQ,take_length→bG,any_eq_true→cj,mem_map→fu,nodup_cons→lB,pairwise_cons→cc,mem_cons_of_mem→aI,mem_filter→dP,length_filter_le→gH,length_set→ox,length_take→aY,drop_drop→cS,drop_left'→cD,filter_append→fR
open List.Pairwise renaming nil→jZ
open Nat renaming beq→av,one_pos→oW,le_refl→au,zero_le→bc,not_lt→jh,lt_of_lt_of_le→aO,le_trans→bv
namespace Go.Proofs
open Go Go.Lift Go.RowKit Go.Sort
def Tab10(h:ad):Prop:=∃t fz,h[3]? =some (.cells (Lib.pow10Tab.map fun z=>Value.int .u64 z).toArray t fz)
theorem Tab10.upd{M:Nat→Prop}{h h':ad}(t:Tab10 h)(k:Upd M h h')(d:¬M 3):Tab10 h':=let⟨a,b,c⟩:=t;⟨a,b,k.get c d⟩
theorem Tab10.upd0{h h':ad}(t:Tab10 h)(k:Upd No h h'):Tab10 h':=t.upd k id
theorem yX(n:Nat):dJ n=Lib.decDigits n:=by
 induction n using Nat.strongRecOn with
 |ind n ih=>
  by_cases h:n<10
  ·rw[ot h,Lib.decDigits,dif_pos h]
  ·rw[xh h,Lib.decDigits,dif_neg h,ih (n/10) (by omega)]
theorem Um{n:Nat}(a:n<100){h:ad}{K:ByteArray→ad→Prop}(b:K (aG (dJ n)) h):HC PG nT [.int .i64 (n:Int)] [.c .str] K h:=
 HC.same (v:=.string (aG (dJ n))) Tryz.call103 (aG (dJ n)) rfl (fun w=>by rw[yX];exact Any.internal_strconv_small Iq n a w) b
theorem U5:PG.globalNamed "internal/strconv.uint64pow10" =some 3:=by kernel_rfl
theorem K6{u:Nat}(d:1≤u)(f:u<18446744073709551616){h:ad}(b:Tab10 h){K:Int→ad→Prop}(i:K (Lib.nDigits u:Int) h):HC PG iB [.int .u64 (u:Int)] [.c (.int .i64)] K h:=by
 refine HC.shelf Tryz.call104 fun w g=>?_
 subst g;obtain⟨t,j,b⟩:=b;refine(Any.internal_strconv_numDigits GW u d f w ?_).mono fun e w' ⟨c,a⟩=>?_
 ·unfold Lib.TabIs World.var?
  rw[U5];simp[b]
 ·subst a
  exact⟨⟨rfl,rfl,rfl⟩,(Lib.nDigits u:Int),c,i⟩
theorem Tl{u g:Nat}(y:u<18446744073709551616){h:ad}{t:TypeId}(A:h[g]? =some (.cells Lib.zeros24 t (0,0))) {K:Unit→ad→Prop} (E:∀h',SRow h' (some ⟨g,0,none⟩) (Lib.nDigits u) (cL (aG (dJ u)))→Upd (· =g) h h'→K () h'):
  HC PG j5 [.slice (some ⟨g,0,none⟩) (Lib.nDigits u) 24,.int .u64 (u:Int)] [] K h:=by
 refine HC.shelf Tryz.call105 fun w D=>?_
 subst D;have s:=Lib.nDigits_le20 u y;have B:Holds (fun(b:UInt8)=>Value.int .u8 (b.toNat:Int)) w g 0 (jG (Lib.nDigits u) 0):=fun j o=>by
  have o:j<Lib.nDigits u:=by simpa using o
  refine⟨?_,by simp[World.frozen?,A]⟩
  rw[show(jG (Lib.nDigits u) (0:UInt8))[j]! =0 from by simp[o]]
  have:=Lib.zeros24_at j (by omega);simp[World.cell?,A,this]
 have x:=Any.internal_strconv_formatBase10 Im g 0 24 u _ w B (by rw[j1];exact Lib.lt_pow_nDigits u) y (by rw[j1];omega);rw[j1]at x;refine x.mono ?_;rintro e w' ⟨C,k,F,m,d,n⟩;have f:(dJ u).length=Lib.nDigits u:=by rw[yX,Lib.decDigits_length]
 have p:w'.heap=(putRow (fun(b:UInt8)=>Value.int .u8 (b.toNat:Int)) w g 0 m).heap:=by rw[d];rfl
 refine⟨by rw[d];exact⟨rfl,rfl,rfl⟩,(),C,E _ ⟨?_,.inr ⟨_,rfl,fun i v z=>?_⟩⟩ ⟨?_,fun c _ s=>?_⟩⟩
 ·rw[oU,Cy,gw];exact f
 ·rw[oU,Cy,List.getElem?_map]at z
  obtain⟨b,a,rfl⟩:=Option.map_eq_some_iff.1 z;have hi:i<(dJ u).length:=(bd.1 a).1;have hc:=cell?_putRow _ w g 0 _ m B (by rw[n.size,j1]) i (by rw[n.size];omega);have q:b=m[i]!:=by
   rw[←Lib.row_is_numeral n i (by rw[←yX];exact hi)];have a:(dJ u)[i]? =some b:=a;rw[yX]at a;exact(bd.1 a).2.symm
  rw[p,ce,q];exact hc
 ·rw[p];simp[putRow,mapBlock]
 ·rw[p]
  simp only[putRow,mapBlock,Array.getElem?_modify];rw[if_neg (fun e=>s e.symm)]
theorem qF{n:Nat}(a:n<18446744073709551616){h:ad}(i:Tab10 h){K:ByteArray→ad→Prop}(b:∀h',Upd No h h'→K (aG (dJ n)) h'):HC PG fT [.int .u64 (n:Int),.int .i64 10] [.c .str] K h:=by
 refine zg (n:Int) 10 ?_;unfold rt Av;refine rm (n:Int) 10 ?_;unfold kS YF;refine CondP.intro (fun _=>aF (fun c=>?_) fun c=>?_) fun e=>absurd e (by decide)
 ·rw[kD (by omega)]
  exact Um (by omega) (b h (Upd.refl _ _))
 ·have b1:=bF h (bC 24 (.int .u8 0)) zF
  have k1:=Upd.hnew No h (bC 24 (.int .u8 0)) zF;refine bi ?_;show HC PG iB _ _ _ (hnew h (bC 24 (.int .u8 0)) zF)
  generalize hnew h (bC 24 (.int .u8 0)) zF=h1 at b1 k1;have f:=Lib.nDigits_le20 n a;refine K6 (by omega) a (i.upd0 k1) ⟨⟨by omega,by omega⟩,?_⟩
  rw[show aV (some (aH h)) 0 24 1=some ⟨h.size,0,none⟩from rfl,ak,Nat.sub_zero]
  refine Tl a (g:=h.size) (t:=zF) b1 fun j r u=>⟨⟨by omega,by omega⟩,aG (dJ n),r,b j (k1.trans u fun y d=>.inr (by have d:y=h.size:=d;omega))⟩
end Go.Proofs
namespace Go.Proofs
open Go Go.Lift
abbrev JX(l:List UInt8)(a:Nat):Nat:=l.foldl (fun a c=>10*a+(c.toNat-48)) a
theorem DU:∀(l:List UInt8) (a u:Nat),Lib.parseUintM 18446744073709551615 a l=.ok u→l.all Ix=true∧JX l a=u∧(a<18446744073709551616→u<18446744073709551616)
 | [],a,u,h=>by
  have h:(Lib.NumEnd.ok a:Lib.NumEnd Nat)=.ok u:=h;cases h;exact⟨rfl,rfl,id⟩
 |c::l,a,u,h=>by
  unfold Lib.parseUintM at h;split at h
  ·rename_i hc
   split at h
   ·cases h
   ·split at h
    ·cases h
    ·obtain⟨e,b,d⟩:=DU l _ u h
     refine⟨by rw[vL,e,FY.2 hc];rfl,?_,fun _=>d (by omega)⟩
     show JX l (10*a+(c.toNat-48))=u
     rw[Nat.mul_comm 10 a];exact b
  ·cases h
theorem GN:∀(l:List UInt8) (a:Nat),l.all Ix=true→JX l a<18446744073709551616→Lib.parseUintM 18446744073709551615 a l=.ok (JX l a)
 | [],a,_,_=>rfl
 |c::l,a,b,d=>by
  rw[vL,Bool.and_eq_true]at b;obtain⟨hc,b⟩:=b;have hc:=FY.1 hc;have d:JX l (10*a+(c.toNat-48))<18446744073709551616:=d;have e:=Lm l (10*a+(c.toNat-48));have e:10*a+(c.toNat-48)≤JX l (10*a+(c.toNat-48)):=e;unfold Lib.parseUintM;rw[if_pos hc,if_neg (by omega),if_neg (by omega),Nat.mul_comm a 10,GN l _ b d];rfl
theorem PK(l:List UInt8):mr l=match Lib.parseUintB 64 l with
  | .ok u=>if dJ u=l then some u else none
  |_=>none:=by
 have b:2^64-1=18446744073709551615:=by decide
 unfold Lib.parseUintB mr;by_cases a:l= []
 ·subst a;rfl
 ·rw[if_neg a,b]
  by_cases hc:l.all Ix=true∧mf l<18446744073709551616
  ·have e:=GN l 0 hc.1 hc.2
   have e:Lib.parseUintM 18446744073709551615 0 l=.ok (mf l):=e;rw[e];by_cases hd:dJ (mf l)=l
   ·rw[if_pos ⟨a,hc.1,hc.2,hd⟩];simp only[if_pos hd]
   ·rw[if_neg fun h=>hd h.2.2.2];simp only[if_neg hd]
  ·rw[if_neg fun h=>hc ⟨h.2.1,h.2.2.1⟩]
   cases e:Lib.parseUintM 18446744073709551615 0 l
   ·rename_i u
    obtain⟨d,c,f⟩:=DU l 0 u e;have c:mf l=u:=c;exact absurd ⟨d,by rw[c];exact f (by omega)⟩ hc
   ·rfl
   ·rfl
end Go.Proofs
set_option maxRecDepth 100000
namespace Go.Proofs
open Go Go.Lift Go.Shelf
def renP:Ren:=⟨fun n=>bif av n 14 then 39 else bif av n 16 then 71 else bif av n 17 then 72 else bif av n 19 then 97 else bif av n 20 then 98 else bif av n 21 then 99 else bif av n 22 then 100 else bif av n 23 then 101 else bif av n 24 then 102 else bif av n 25 then 127 else bif av n 26 then 128 else bif av n 27 then 63 else bif av n 28 then 91 else bif av n 29 then 125 else bif av n 30 then 103 else bif av n 31 then 104 else bif av n 32 then 105 else bif av n 33 then 106 else bif av n 34 then 129 else bif av n 35 then 130 else bif av n 36 then 131 else bif av n 37 then 132 else bif av n 38 then 133 else bif av n 39 then 189 else bif av n 40 then 190 else 0,
 fun n=>bif av n 0 then 0 else bif av n 2 then 2 else bif av n 3 then 3 else bif av n 4 then 4 else bif av n 5 then 5 else bif av n 9 then 9 else bif av n 20 then 20 else bif av n 21 then 21 else bif av n 22 then 52 else bif av n 24 then 99 else bif av n 25 then 100 else bif av n 34 then 159 else bif av n 36 then 32 else bif av n 37 then 95 else bif av n 39 then 160 else bif av n 44 then 198 else bif av n 47 then 141 else bif av n 48 then 253 else bif av n 50 then 255 else bif av n 52 then 163 else bif av n 55 then 166 else bif av n 59 then 202 else bif av n 60 then 23 else bif av n 61 then 203 else bif av n 65 then 333 else bif av n 66 then 334 else bif av n 67 then 107 else 0,
 fun n=>bif av n 0 then 1 else bif av n 1 then 2 else bif av n 2 then 3 else bif av n 3 then 6 else bif av n 4 then 7 else 0⟩
theorem td:LaysPu.n14 PG renP:=by constructor<;>first|kernel_rfl|(intro w;kernel_rfl)
end Go.Proofs
namespace Go.Proofs
open Go Go.Lift Go.RowKit
theorem wt{w w':World}(b:Below w.heap.size w w'):Upd No w.heap w'.heap:=⟨b.size,fun k a _=>b.block k a⟩
theorem xj{B:Nat}{w w':World}(b:Below B w w'):Tame w w':=⟨b.os,b.tape,b.output⟩
structure Laid(h:ad):Prop where
 tab:Tab10 h
 e1:∃t v,aD h ⟨1,0,none⟩=some (.iface t v)
 e2:∃t v,aD h ⟨2,0,none⟩=some (.iface t v)
theorem Laid.upd{M:Nat→Prop}{h h':ad}(l:Laid h)(k:Upd M h h')(d:∀y,M y→4≤y):Laid h':=
 ⟨l.tab.upd k fun e=>absurd (d _ e) (by omega),let⟨a,b,c⟩:=l.e1;⟨a,b,k.cell c fun e=>absurd (d _ e) (by decide)⟩,let⟨a,b,c⟩:=l.e2;⟨a,b,k.cell c fun e=>absurd (d _ e) (by decide)⟩⟩
theorem Laid.upd0{h h':ad}(l:Laid h)(k:Upd No h h'):Laid h':=l.upd k fun _ h=>h.elim
theorem K0{x:ByteArray}(hx:x.size≤1000000){h:ad}(l:Laid h){K:Int×Value→ad→Prop}
  (a:∀h' e,Upd No h h'→W2 e.2=true→(match Lib.parseUintB 64 x.data.toList with| .ok u=>e=((u:Int),Value.nilIface)|_=>SE e.2=false)→K e h'):
  HC PG rT [.string x,.int .i64 10,.int .i64 64] [.c (.int .u64),.c .raw] K h:=by
 refine HC.shelf Tryz.call39 fun w f=>?_
 subst f;obtain⟨k,j,c1⟩:=l.e1;obtain⟨i,m,g⟩:=l.e2;cases hp:Lib.parseUintB 64 x.data.toList
 ·rename_i u
  rw[hp]at a;refine(Any.strconv_ParseUint_10_at64_ok td x (by omega) u hp w).mono fun e w' ⟨c,d⟩=>?_
  rcases d with rfl|rfl
  ·exact⟨⟨rfl,rfl,rfl⟩,((u:Int),Value.nilIface),c,a _ _ (Upd.refl _ _) rfl rfl⟩
  ·have b:=Lib.bytesWorld_below w (renP.t 5) x
   exact⟨xj b,((u:Int),Value.nilIface),c,a _ _ (wt b) rfl rfl⟩
 ·rw[hp]at a
  refine(Any.strconv_ParseUint_10_at64_syntax td x (by omega) hp _ w c1 (.inr ⟨_,_,rfl⟩)).mono fun e w' ⟨N,c,_,_,b⟩=>?_
  exact⟨xj b,((0:Int),Value.iface (renP.t 39) (.pointer (some ⟨N,0,none⟩))),c,a _ _ (wt b) rfl rfl⟩
 ·rw[hp]at a
  refine(Any.strconv_ParseUint_10_at64_range td x (by omega) hp _ w g (.inr ⟨_,_,rfl⟩)).mono fun e w' ⟨N,c,_,_,b⟩=>?_
  exact⟨xj b,((18446744073709551615:Int),Value.iface (renP.t 39) (.pointer (some ⟨N,0,none⟩))),c,a _ _ (wt b) rfl rfl⟩
theorem UI{l:List UInt8}{u:Nat}(h:Lib.parseUintB 64 l=.ok u):u<18446744073709551616:=by
 unfold Lib.parseUintB at h;split at h
 ·cases h
 ·exact(DU l 0 u h).2.2 (by omega)
theorem zL{x:ByteArray}(hx:x.size≤1000000){h:ad}(l:Laid h){K:Int×Bool→ad→Prop}(b:∀h',Upd No h h'→K (UM (mr x.data.toList)) h'):HC PG lF [.string x] [.c (.int .u64),.c .bool] K h:=by
 refine IS x ?_;unfold AQ vl5 Av;rw[PK]at b;refine K0 hx l fun f e k1 c a=>Join.plain ⟨c,?_⟩
 cases hp:Lib.parseUintB 64 x.data.toList
 ·rename_i u
  rw[hp]at a b;have b:∀h',Upd No h h'→K (UM (if dJ u=x.data.toList then some u else none)) h':=b
  have a:e=((u:Int),Value.nilIface):=a;subst a;refine af.2 (qF (UI hp) (l.tab.upd0 k1) fun g d=>?_)
  rw[di];by_cases hd:dJ u=x.data.toList
  ·have e:aG (dJ u)=x:=by rw[hd]
   rw[if_pos hd]at b;rw[e,decide_eq_true rfl];exact af.2 (b _ (k1.tr d))
  ·have e:aG (dJ u)≠x:=fun e=>hd (by rw[←e])
   rw[if_neg hd]at b;rw[decide_eq_false e];exact aA.2 (b _ (k1.tr d))
 ·rw[hp]at a b
  have a:SE e.2=false:=a;rw[a];exact aA.2 (aA.2 (b _ k1))
 ·rw[hp]at a b
  have a:SE e.2=false:=a;rw[a];exact aA.2 (aA.2 (b _ k1))
end Go.Proofs
namespace Go.Proofs
open Go Go.Lift
def im(c:UInt8):List UInt8→List (List UInt8)
 | []=> [[]]
 |a::l=>if a=c then[]::im c l else match im c l with
  | []=> [[a]]
  |w::ws=>(a::w)::ws
theorem F4(c:UInt8):∀l,im c l≠[]
 | []=>by simp[im]
 |a::l=>by
  unfold im;split
  ·simp
  ·split<;>simp
theorem wn{c:UInt8}:∀{l:List UInt8},c∉l→im c l= [l]
 | [],_=>rfl
 |a::l,h=>by
  unfold im;rw[if_neg (fun e=>h (by rw[e];simp)),wn fun e=>h (by simp[e])]
theorem yZ{c:UInt8}{r:List UInt8}:∀{l:List UInt8},c∉l→im c (l++c::r)=l::im c r
 | [],_=>by show im c (c::r)=_;rw[im,if_pos rfl]
 |a::l,h=>by
  show im c (a::(l++c::r))=_
  rw[im,if_neg (fun e=>h (by rw[e];simp)),yZ fun e=>h (by simp[e])]
theorem G3(c:UInt8):∀l:List UInt8,c∈l→∃u r,l=u++c::r∧c∉u∧Lib.indexByte l c=(u.length:Int)
 | [],h=>by simp at h
 |a::l,h=>by
  by_cases e:a=c
  ·subst e
   exact⟨[],l,rfl,by simp,by simp[Lib.indexByte]⟩
  ·have h:c∈l:=by
    rcases ar.1 h with h|h
    ·exact absurd h.symm e
    ·exact h
   obtain⟨u,r,e1,e2,b⟩:=G3 c l h;refine⟨a::u,r,by rw[e1];rfl,by simp[e2,Ne.symm e],?_⟩
   have f:(a==c)=false:=by simpa using e
   have d:(Lib.indexByte l c== -1)=false:=by rw[b,beq_eq_false_iff_ne];omega
   simp only[Lib.indexByte,f,d,Bool.false_eq_true,if_false,ay];rw[b];omega
abbrev BT(w:List UInt8):List Value:= [.string (aG w)]
theorem ym(w:List UInt8):(BT w).length=1∧0<1:=⟨rfl,oW⟩
theorem NK:∀l:List (List UInt8),l.flatMap BT=l.map fun w=>Value.string (aG w)
 | []=>rfl
 |a::l=>by rw[bH,cN,NK l];rfl
theorem ME{l:List Value}{k:Nat}{z v:Value}:((l++bC (k+1) z).toArray).setIfInBounds (l.length*1) v=(l++ [v]++bC k z).toArray:=by
 apply Array.ext';rw[Array.toList_setIfInBounds];simp[iK]
theorem Vf(u r:List UInt8):(aG (u++r)).extract 0 u.length=aG u:=by
 apply vO;rw[gk];simp
theorem Ve(u r:List UInt8)(n:Nat)(a:n=(u++r).length):(aG (u++r)).extract u.length n=aG r:=by
 subst a;apply vO;rw[gk];simp
theorem TH(n:Nat)(v:Value):du n [v]=bC n v:=by
 unfold du;induction n with
 |zero=>rfl
 |succ n ih=>rw[iK,List.flatten_cons,ih];rfl
theorem B5{x:ByteArray}{c:UInt8}(hx:x.size≤1000000){h:ad}{K:SliceV→ad→Prop}(O:∀h' s,OwnS BT 1 cn (fun y=>h.size≤y) h' s (im c x.data.toList)→Upd No h h'→K s h'):
  HC PG mV [.string x,.string ⟨#[c]⟩] [.c .slice] K h:=by
 refine LL x ⟨#[c]⟩ ?_;unfold Da XU;refine FB x ⟨#[c]⟩ 0 (-1) ?_;unfold xM cU ez bM YN;refine CondP.intro (fun e=>absurd e (by decide)) fun _=>CondP.intro (fun e=>?_) fun _=>Join.plain (aF (fun _=>Ta ?_) fun c=>absurd (by decide) c)
 ·rw[Cj]at e;simp at e
 have E:=List.count_le_length (a:=c) (l:=x.data.toList);have W:=nr x;obtain⟨n,H⟩:∃n,x.data.toList.count c=n:=⟨_,rfl⟩;rw[H]at E⊢;have e1:ac .i64 ((n:Int)+1)=((n+1:Nat):Int):=by rw[kD (by omega)];omega
 have e2:ac .i64 ((x.size:Int)+1)=((x.size+1:Nat):Int):=by rw[kD (by omega)];omega
 rw[e1,e2];refine F6 ?_;rw[if_neg (by omega)];refine⟨⟨by omega,Int.le_refl _,by omega,by omega⟩,bi ?_⟩
 rw[ak,TH];have k1:=Upd.hnew No h (bC (n+1) (Value.string ⟨#[]⟩)) cn;have b1:=bF h (bC (n+1) (Value.string ⟨#[]⟩)) cn;generalize hnew h (bC (n+1) (Value.string ⟨#[]⟩)) cn=h1 at k1 b1;have V:ac .i64 (((n+1:Nat):Int)-1)=(n:Int):=by rw[kD (by omega)];omega
 refine Join.intro (fun(t:ByteArray×Int) d=>∃(done:List (List UInt8)) (r:List UInt8),t=(aG r,(done.length:Int))∧done.length=n∧c∉r∧im c x.data.toList=done++ [r]∧d[h.size]? =some (.cells ((done.map fun w=>Value.string (aG w))++bC 1 (Value.string ⟨#[]⟩)).toArray cn (0,0))∧Upd (· =h.size) h1 d) (fun R U=>?_) ?_
 ·refine LoopP.ghost (fun(g:List (List UInt8)×List UInt8) (t:ByteArray×Int) d=>t=(aG g.2,(g.1.length:Int))∧g.1.length+g.2.count c=n∧g.2.length≤1000000∧im c x.data.toList=g.1++im c g.2∧d[h.size]? =some (.cells ((g.1.map fun w=>Value.string (aG w))++bC (n+1-g.1.length) (Value.string ⟨#[]⟩)).toArray cn (0,0))∧Upd (· =h.size) h1 d) (fun g=>g.2.length) ([],x.data.toList) ⟨rfl,by simpa using H,by simp only;omega,rfl,by simpa using b1,Upd.refl _ _⟩ ?_
  rintro I ⟨done,r⟩ t d ⟨rfl,hc,P,b,b2,u⟩ T;simp only at hc P b b2;rw[V];refine aF (fun m=>?_) fun C=>?_
  ·have i:done.length<n:=by have:(done.length:Int)<(n:Int):=m;omega
   clear m;have o:c∈r:=List.count_pos_iff.1 (by omega);obtain⟨p,q,rfl,G,j⟩:=G3 c r o;have F:p.count c=0:=List.count_eq_zero.2 G;have A:(p++c::q).length=p.length+(q.length+1):=by simp
   refine JP ?_;rw[show Lib.indexByte (aG (p++c::q)).data.toList c=(p.length:Int)from by rw[show(aG (p++c::q)).data.toList=p++c::q from by simp];exact j]
   refine aF (fun L=>absurd L (by omega)) fun _=>?_
   have S:ac .i64 ((p.length:Int)+0)=(p.length:Int):=by rw[kD (by omega)];omega
   have Q:ac .i64 ((p.length:Int)+((⟨#[c]⟩:ByteArray).size:Int))=((p.length+1:Nat):Int):=by rw[show((⟨#[c]⟩:ByteArray).size:Int)=1 from rfl,kD (by omega)];omega
   have es:(aG (p++c::q)).size=p.length+(q.length+1):=by rw[ci,A]
   simp only[S,Q,es,ak];refine⟨⟨by omega,by omega⟩,⟨by omega,by omega⟩,_,rfl,?_⟩
   rw[show n+1-done.length=(n-done.length)+1 from by omega]at b2
   have hset:=ME (l:=done.map fun w=>Value.string (aG w)) (k:=n-done.length) (z:=Value.string ⟨#[]⟩) (v:=.string (aG p))
   rw[gw]at hset;rw[Vf];refine oz b2 (by simp) hset fun J b3 D=>⟨⟨by omega,by omega⟩,F6 ?_⟩
   have N:(aG (p++c::q)).extract (p.length+1) (p.length+(q.length+1))=aG q:=by
    have:=Ve (p++ [c]) q (p.length+(q.length+1)) (by simp<;>omega)
    rw[aK]at this;simpa using this
   rw[N,cM (n:=n) i (by omega)];refine T (done++ [p],q) _ _ ⟨by simp,?_,by simp only;omega,?_,?_,u.tr D⟩ (by simp only;omega)
   ·rw[List.count_append,List.count_cons_self,F]at hc
    simp only[ai,ct];omega
   ·rw[b,yZ G,aK];rfl
   ·simp only[lC,cN,List.map_nil,ai,ct]
    rw[show n+1-(done.length+1)=n-done.length from by omega];exact b3
  ·have hd:done.length=n:=by have:¬(done.length:Int)<(n:Int):=C;omega
   have f:c∉r:=List.count_eq_zero.1 (by omega);refine U _ _ ⟨done,r,rfl,hd,f,by rw[b,wn f],?_,u⟩
   rw[hd,show n+1-n=1 from by omega]at b2;exact b2
 ·rintro t d ⟨done,r,rfl,hd,f,b,b2,u⟩
  have hset:=ME (l:=done.map fun w=>Value.string (aG w)) (k:=0) (z:=Value.string ⟨#[]⟩) (v:=.string (aG r))
  rw[gw]at hset;rw[show ac .i64 ((done.length:Int)+1)=((done.length+1:Nat):Int)from by rw[kD (by omega)];omega]
  simp only[ak];refine⟨⟨by omega,by omega⟩,_,rfl,oz b2 (by simp) hset fun J b3 D=>⟨⟨by omega,by omega⟩,F6 (F6 (F6 ?_))⟩⟩
  refine O J _ ⟨?_,ym,by simp only;omega,.inr ⟨h.size,[],?_,au _,?_,?_⟩⟩ ((k1.trans u fun y B=>.inr (by have B:y=h.size:=B;omega)).trans D fun y B=>.inr (by have B:y=h.size:=B;omega))
  ·rw[b];simp
  ·show aV (some (aH h)) 0 (n+1) 1=_
   unfold aV;rw[if_neg (by omega)];rfl
  ·rw[b,NK];simpa using b3
  ·simp only[List.length_nil];omega
end Go.Proofs
namespace Go.Proofs
open Go.Lift
abbrev u32(x:Int):List Value:= [.int .u32 x]
theorem AX(x:Int):(u32 x).length=1∧0<1:=⟨rfl,oW⟩
abbrev Nums(W:Nat→Prop)(h:ad)(s:SliceV)(xs:List Int):Prop:=Sl u32 1 W h s xs
theorem Nums.at{W:Nat→Prop}{h:ad}{s:SliceV}{xs:List Int}(b:Nums W h s xs){i:Nat}(hi:i<xs.length):∃a,s.a=some a∧¬W a.block∧aD h (adr a (((i:Int)).toNat*1))=some (.int .u32 xs[i]):=
 b.at0 (g:=fun x=>.int .u32 x) (ax hi)
theorem Lf{W:Nat→Prop}{s:SliceV}{xs:List Int}{f:Value}{p:Int→Bool}(St:ad→Prop)(e:∀h,St h→Nums W h s xs)
  (w:∀h x (K:Bool→ad→Prop),St h→x∈xs→(∀h',St h'→K (p x) h')→HV PG f [.int .u32 x] [.c .bool] K h)
  (u:xs.length≤4611686018427387904){h:ad}(v:St h){K:Int→ad→Prop}(o:∀(n:Int) h',St h'→(n≥0↔∃x∈xs,p x=true)→K n h'):
  HC PG fO [.slice s.a s.len s.cap,f] [.c (.int .i64)] K h:=by
 refine lu s f ?_;unfold iC bf cU;refine LoopP.ghost (fun(i:Nat) (t:Int) h'=>t=(i:Int)∧St h'∧i≤xs.length∧∀x∈xs.take i,p x=false) (fun i=>xs.length-i) 0 ⟨rfl,v,bc _,by simp⟩ ?_
 rintro I i t h' ⟨rfl,m,hi,g⟩ z;have d:=e _ m;refine aF (fun b=>?_) (fun j=>?_)
 ·rw[d.len]at b
  have b:i<xs.length:=by omega
  obtain⟨a,y,_,hx⟩:=Nums.at d b;refine⟨by rw[d.len];omega,a,y,_,hx,?_⟩;refine w _ _ _ m (bV b) fun A c=>?_
  refine CondP.intro (fun q=>?_) (fun k=>?_)
  ·exact o _ _ c ⟨fun _=>⟨_,bV b,q⟩,fun _=>by omega⟩
  ·rw[cM b u]
   refine z (i+1) _ _ ⟨rfl,c,b,?_⟩ (by omega);rw[cA b];intro x hx;rcases bL.1 hx with h|h
   ·exact g x h
   ·rw[aQ.1 h];exact k
 ·rw[d.len]at j
  have:i=xs.length:=by omega
  subst this;rw[bG]at g;exact o _ _ m ⟨fun h=>by omega,fun⟨x,hx,h⟩=>by rw[g x hx]at h;cases h⟩
theorem Fx{W:Nat→Prop}{s:SliceV}{xs:List Int}{c:Value}{p:Int→Bool}(St:ad→Prop)(a:∀h,St h→Nums W h s xs)
  (e:∀h x (K:Bool→ad→Prop),St h→x∈xs→(∀h',St h'→K (p x) h')→HV PG c [.int .u32 x] [.c .bool] K h)
  (b:xs.length≤4611686018427387904){h:ad}(d:St h){K:Bool→ad→Prop}(f:∀h',St h'→K (xs.any p) h'):
  HC PG gA [.slice s.a s.len s.cap,c] [.c .bool] K h:=by
 refine pX s c ?_;unfold j6;refine Lf St a e b d fun n h' g b=>?_
 have:decide (n≥0)=xs.any p:=by
  rw[Bool.eq_iff_iff,decide_eq_true_iff,b,cj]
 rw[this];exact f _ g
theorem Vx{W:Nat→Prop}{h:ad}{s:SliceV}{xs:List Int}(d:Nums W h s xs)(j:xs.length*4≤140737488355328){K:SliceV→ad→Prop}
  (i:∀s' h',OwnS u32 1 sV (fun b=>h.size≤b) h' s' xs→Upd No h h'→(s.a=none→xs= [])→K s' h'):HC PG j3 [.slice s.a s.len s.cap] [.c .slice] K h:=by
 refine vH s ?_;unfold oa;refine CondP.intro (fun g=>?_) (fun c=>?_)
 ·have g:s.a=none:=by simpa using g
  have hx:xs= []:=by
   by_cases hx:xs= []
   ·exact hx
   ·obtain⟨a,m,_⟩:=d.row hx
    rw[g]at m;cases m
  subst hx;exact i _ _ (OwnS.nil AX) (Upd.refl _ _) fun _=>rfl
 ·have k:=d.upd (Upd.hnew No h [] sV) (fun _ h=>h.elim)
  refine⟨_,k.srow,?_⟩;refine AppP.own (f:=u32) (M:=fun b=>h.size≤b) (xs:= []) (ys:=xs) ⟨rfl,AX,au _,.inl rfl⟩ d.len rfl ?_ rfl (by omega) (by simpa using j) (by rw[eN];omega) fun s' h' n p=>?_
  ·clear i d k j
   induction xs with
   |nil=>rfl
   |cons x xs ih=>rw[bH];exact ih
  ·refine i _ _ n ((Upd.hnew No h [] sV).trans p fun b o=>.inr o) fun e=>?_
   rw[e]at c;cases c
end Go.Proofs
namespace Go.Proofs
open Go.Lift
abbrev KE:KeyE Int:=aaA .u32
abbrev gQ:=List (Int×List Int)
def Rep(W:Nat→Prop)(h:ad)(m:List (Int×SliceV))(L:gQ):Prop:=
 ∀id,(∃s ps,dK m id=some s∧dK L id=some ps∧Nums W h s ps)∨(dK m id=none∧dK L id=none)
structure GraphAt(W:Nat→Prop)(h:ad)(gp gm:Nat)(L:gQ)(nx:Int):Prop where
 blk:h[gp]? =some (.cells #[.map (some gm),.int .u32 nx] qC (0,0))
 map:∃m,MapAt KE sv h gm m∧Rep W h m L
 wp:W gp
 wm:W gm
 lt:∀b,W b→b<h.size
 nd:(L.map (·.1)).Nodup
theorem Rep.upd{W M:Nat→Prop}{h h':ad}{m:List (Int×SliceV)}{L:gQ}(r:Rep W h m L)(k:Upd M h h')(hm:∀b,M b→W b∨h.size≤b):Rep W h' m L:=fun id=>by
 rcases r id with⟨s,ps,e,c,d⟩|a
 ·exact .inl ⟨s,ps,e,c,d.upd k hm⟩
 ·exact .inr a
theorem GraphAt.upd{W M:Nat→Prop}{h h':ad}{gp gm:Nat}{L:gQ}{nx:Int}(g:GraphAt W h gp gm L nx)(k:Upd M h h')(hm:∀b,M b→(W b∧b≠gp∧b≠gm)∨h.size≤b):GraphAt W h' gp gm L nx:=by
 have a:=g.lt;have f:¬M gp:=fun e=>(hm _ e).elim (fun e=>e.2.1 rfl) fun e=>absurd (a _ g.wp) (jh.2 e)
 have i:¬M gm:=fun e=>(hm _ e).elim (fun e=>e.2.2 rfl) fun e=>absurd (a _ g.wm) (jh.2 e)
 obtain⟨m,d,j⟩:=g.map;exact⟨k.get g.blk f,⟨m,d.upd k i,j.upd k fun b c=>(hm b c).imp (·.1) id⟩,g.wp,g.wm,fun b c=>aO (a b c) k.size,g.nd⟩
theorem GraphAt.upd0{W:Nat→Prop}{h h':ad}{gp gm:Nat}{L:gQ}{nx:Int}(g:GraphAt W h gp gm L nx)(k:Upd No h h'):GraphAt W h' gp gm L nx:=g.upd k fun _ h=>h.elim
theorem GraphAt.c0{W:Nat→Prop}{h:ad}{gp gm:Nat}{L:gQ}{nx:Int}(g:GraphAt W h gp gm L nx):aD h ⟨gp,0,none⟩=some (.map (some gm)):=by rw[aW g.blk];rfl
theorem GraphAt.c1{W:Nat→Prop}{h:ad}{gp gm:Nat}{L:gQ}{nx:Int}(g:GraphAt W h gp gm L nx):aD h ⟨gp,1,none⟩=some (.int .u32 nx):=by rw[aW g.blk];rfl
abbrev ids(L:gQ):List Int:=L.map (·.1)
theorem U2{L:gQ}{id:Int}:(dK L id).isSome=decide (id∈ids L):=by
 cases h:dK L id with
 |none=>rw[decide_eq_false (qr.1 h)];rfl
 |some v=>
  have:id∈ids L:=by
   by_cases hm:id∈ids L
   ·exact hm
   ·rw[qr.2 hm]at h;cases h
  rw[decide_eq_true this];rfl
theorem Rep.some{W:Nat→Prop}{h:ad}{m:List (Int×SliceV)}{L:gQ}(r:Rep W h m L)(id:Int):(dK m id).isSome=decide (id∈ids L):=by
 rw[←U2];rcases r id with⟨s,ps,b,a,_⟩|⟨b,a⟩<;>rw[b,a]<;>rfl
theorem Rep.len{W:Nat→Prop}{h:ad}{m:List (Int×SliceV)}{L:gQ}(r:Rep W h m L)(c:(m.map (·.1)).Nodup)(a:(ids L).Nodup):m.length=L.length:=by
 have:(m.map (·.1)).Perm (ids L):=by
  rw[List.perm_ext_iff_of_nodup c a];intro id;have:=r.some id;have b:id∈m.map (·.1)↔(dK m id).isSome=true:=by
   cases hl:dK m id with
   |none=>simp[qr.1 hl]
   |some v=>
    simp only[Option.isSome_some,iff_true];by_cases hm:id∈m.map (·.1)
    ·exact hm
    ·rw[qr.2 hm]at hl;cases hl
  rw[b,this,decide_eq_true_iff]
 have:=this.length_eq;simpa using this
def aaJ:List Int→Bool
 | [a,b]=>a==b
 |_=>false
def Cm(ps:List Int):Int:=if ps.length>2∨aaJ ps=true then 1 else 0
def un(L:gQ)(ps:List Int):Int:=if ps.any (fun p=> !decide (p∈ids L))then 4 else if L.length≥1024 then 6 else 0
theorem Rq{W:Nat→Prop}{h:ad}{gp gm:Nat}{L:gQ}{nx:Int}(g:GraphAt W h gp gm L nx)(id:Int){K:Bool→ad→Prop}(b:K (decide (id∈ids L)) h):
  HC PG lX [.pointer (some ⟨gp,0,none⟩),.int .u32 id] [.c .bool] K h:=by
 refine C2 (some ⟨gp,0,none⟩) id ?_;unfold uX bf;obtain⟨m,hm,a⟩:=g.map;refine CondP.intro (fun e=>by cases e) fun _=>⟨_,rfl,_,g.c0,_,_,hm.get id ⟨none,0,0⟩,?_⟩
 rw[a.some id];exact b
theorem W8{W:Nat→Prop}{h:ad}{p:Option Addr}{s:SliceV}{ps:List Int}(d:Nums W h s ps){K:Int→ad→Prop}(c:K (Cm ps) h):
  HC PG pA [.pointer p,.slice s.a s.len s.cap] [.c (.int .i64)] K h:=by
 refine C1 p s ?_;unfold uW bf cU;refine Join.plain (aF (fun m=>?_) fun g=>CondP.intro (fun f=>?_) fun b=>?_)
 ·rw[d.len]at m
  rw[show Cm ps=1 from if_pos (.inl (by omega))]at c
  exact aA.2 c
 ·rw[d.len]at f
  have f:ps.length=2:=by
   have:(ps.length:Int)=2:=by simpa using f
   omega
  obtain⟨a,n,_,hx⟩:=Nums.at d (i:=0) (by omega);obtain⟨a',j,_,o⟩:=Nums.at d (i:=1) (by omega);refine⟨by rw[d.len];omega,a,n,_,hx,by rw[d.len];omega,a',j,_,o,?_⟩
  have e:Cm ps=if(ps[0]==ps[1])=true then 1 else 0:=by
   match ps,f with
   | [x,y],_=>simp[Cm,aaJ]
  rw[e]at c;exact CondP.intro (fun k=>by rw[if_pos k]at c;exact c) fun k=>by rw[if_neg (by rw[k];decide)]at c;exact c
 ·rw[d.len]at g b
  have b:ps.length≠2:=fun e=>by rw[e]at b;exact absurd b (by decide)
  have hd:aaJ ps=false:=by
   match ps,b with
   | [],_=>rfl
   | [_],_=>rfl
   | [_,_],h=>exact absurd rfl h
   |_::_::_::_,_=>rfl
  rw[show Cm ps=0 from if_neg (by rw[hd];simp;omega)]at c
  exact af.2 c
theorem U6{W:Nat→Prop}{h:ad}{gp gm:Nat}{L:gQ}{nx:Int}(g:GraphAt W h gp gm L nx){s:SliceV}{ps:List Int}(u:Nums W h s ps)(o:ps.length≤4611686018427387904)
  {K:Int→ad→Prop}(c:∀h',Upd No h h'→K (un L ps) h'):HC PG oG [.pointer (some ⟨gp,0,none⟩),.slice s.a s.len s.cap] [.c (.int .i64)] K h:=by
 refine BF (some ⟨gp,0,none⟩) s ?_;unfold tT bf;have k:=Upd.hnew No h [.pointer (some ⟨gp,0,none⟩)] rE;refine Fx (p:=fun p=> !decide (p∈ids L)) (fun h'=>GraphAt W h' gp gm L nx∧Nums W h' s ps∧h'[h.size]? =some (.cells #[.pointer (some ⟨gp,0,none⟩)] rE (0,0))∧Upd No h h') (fun h' i=>i.2.1) ?_ o ⟨g.upd0 k,u.upd k fun _ h=>h.elim,bF h _ _,k⟩ ?_
 ·rintro h' x K ⟨b,d,f,a⟩ _ j
  refine HV.mk' (zm x ⟨h.size,0,none⟩ ?_);unfold rx DE;refine⟨_,by rw[aW f];rfl,?_⟩
  exact Rq b x (j h' ⟨b,d,f,a⟩)
 ·rintro h' ⟨b,d,f,a⟩
  obtain⟨m,hm,q⟩:=b.map;refine CondP.intro (fun n=>?_) fun e=>?_
  ·rw[show un L ps=4 from if_pos n]at c
   exact c h' a
  ·refine⟨_,by rw[df,aW f];rfl,_,rfl,_,b.c0,_,hm.len,?_⟩
   rw[q.len hm.nodup b.nd];refine aF (fun t=>?_) fun v=>?_
   ·rw[show un L ps=6 from(if_neg (by rw[e];decide)).trans (if_pos (by omega))]at c
    exact c h' a
   ·rw[show un L ps=0 from(if_neg (by rw[e];decide)).trans (if_neg (by omega))]at c
    exact c h' a
end Go.Proofs
namespace Go.Proofs
open Go.Lift
def Cq(L:gQ)(id:Int)(ps:List Int):gQ:=L.takeWhile (fun v=>decide (v.1<id))++(id,ps)::L.dropWhile (fun v=>decide (v.1<id))
def mc(L:gQ)(nx:Int)(ps:List Int):(Int×Int)×gQ×Int:=
 if Cm ps≠0 then((0,Cm ps),L,nx)else if un L ps≠0 then((0,un L ps),L,nx)else if nx≥2147483648 then((0,6),L,nx)else((nx,0),Cq L nx ps,nx+1)
def X9(L:gQ)(nx:Int)(id:Int)(ps:List Int):Int×gQ×Int:=
 if Cm ps≠0∨id=0∨id≥2147483648∨ps.any (fun p=>decide (p≥id))=true then(1,L,nx)else if id∈ids L then(7,L,nx)else if un L ps≠0 then(un L ps,L,nx)else(0,Cq L id ps,if id+1>nx then id+1 else nx)
abbrev HK(a b:Nat):Nat→Prop:=fun x=>x=a∨x=b
theorem Kl{κ β:Type}[DecidableEq κ](l a:List (κ×β))(k:κ):dK (l++a) k=(dK l k).or (dK a k):=by
 induction l with
 |nil=>simp[dK]
 |cons p l ih=>
  obtain⟨k',u⟩:=p;simp only[List.cons_append,dK,ih];split<;>simp
theorem SR{L:gQ}{id:Int}{ps:List Int}(c:id∉ids L)(j:Int):dK (Cq L id ps) j=if j=id then some ps else dK L j:=by
 have b:∀p:Int×List Int→Bool,dK L j=(dK (L.takeWhile p) j).or (dK (L.dropWhile p) j):=fun p=>by rw[←Kl,List.takeWhile_append_dropWhile]
 unfold Cq;rw[Kl];simp only[dK];by_cases a:j=id
 ·subst a
  have:dK (L.takeWhile fun v=>decide (v.1<j)) j=none:=qr.2 fun hm=>c (by
   obtain⟨x,hx,e⟩:=fu.1 hm
   exact fu.2 ⟨x,List.takeWhile_subset _ hx,e⟩)
  rw[this];simp
 ·simp only[a,if_false]
  exact(b _).symm
theorem zO(L:gQ)(id:Int)(ps:List Int):(Cq L id ps).Perm ((id,ps)::L):=by
 unfold Cq;refine List.perm_middle.trans ?_;rw[List.takeWhile_append_dropWhile]
theorem insV_ids{L:gQ}{id:Int}{ps:List Int}:(ids (Cq L id ps)).Perm (id::ids L):=(zO L id ps).map _
theorem P3{L:gQ}{id:Int}{ps:List Int}(h:(ids L).Nodup)(a:id∉ids L):(ids (Cq L id ps)).Nodup:=by
 rw[insV_ids.nodup_iff];exact lB.2 ⟨a,h⟩
theorem Rep.put{W:Nat→Prop}{h h':ad}{m:List (Int×SliceV)}{L:gQ}(r:Rep W h m L){id:Int}{s:SliceV}{ps:List Int}(d:∀s xs,Nums W h s xs→Nums W h' s xs)(i:Nums W h' s ps)(b:id∉ids L):Rep W h' (pD m id s) (Cq L id ps):=fun j=>by
 rw[Tm,SR b];by_cases a:j=id
 ·simp only[a,if_true];exact .inl ⟨s,ps,rfl,rfl,i⟩
 ·simp only[a,if_false]
  rcases r j with⟨s,ps,e,f,g⟩|c
  ·exact .inl ⟨s,ps,e,f,d s ps g⟩
  ·exact .inr c
theorem GraphAt.ne{W:Nat→Prop}{h:ad}{gp gm:Nat}{L:gQ}{nx:Int}(g:GraphAt W h gp gm L nx):gm≠gp:=fun e=>by
 obtain⟨m,⟨ms,c,hm,_⟩,_⟩:=g.map;have:=hm.here;rw[e,g.blk]at this;cases this
theorem GraphAt.put{W:Nat→Prop}{h:ad}{gp gm:Nat}{L:gQ}{nx:Int}(g:GraphAt W h gp gm L nx){id:Int}{s:SliceV}{ps:List Int}(n:Nums W h s ps)(o:id∉ids L)(i:Int):
  GraphAt W (hset (mR h gm (.int .u32 id) (sv s)) ⟨gp,1,none⟩ (.int .u32 i)) gp gm (Cq L id ps) i∧Upd (HK gp gm) h (hset (mR h gm (.int .u32 id) (sv s)) ⟨gp,1,none⟩ (.int .u32 i))∧
   Wr (mR h gm (.int .u32 id) (sv s)) ⟨gp,1,none⟩∧aD (mR h gm (.int .u32 id) (sv s)) ⟨gp,1,none⟩=some (.int .u32 nx)∧Upd (HK gp gm) h (mR h gm (.int .u32 id) (sv s)):=by
 obtain⟨m,hm,q⟩:=g.map;have j:=g.ne;have k1:Upd (· =gm) h (mR h gm (.int .u32 id) (sv s)):=vU h _ _ rfl
 have a:=k1.get g.blk (Ne.symm j);have p:Upd (· =gp) (mR h gm (.int .u32 id) (sv s)) (hset (mR h gm (.int .u32 id) (sv s)) ⟨gp,1,none⟩ (.int .u32 i)):=Upd.hset _ _ rfl
 have f:Upd (HK gp gm) h (mR h gm (.int .u32 id) (sv s)):=k1.mono fun b d=>.inl (.inr d)
 have k:Upd (HK gp gm) h (hset (mR h gm (.int .u32 id) (sv s)) ⟨gp,1,none⟩ (.int .u32 i)):=f.trans p fun b d=>.inl (.inl d)
 have c:∀b,HK gp gm b→W b∨h.size≤b:=fun b d=>.inl (d.elim (fun e=>e▸g.wp) fun e=>e▸g.wm)
 refine⟨⟨?_,⟨_,(MapAt.put hm id s).upd p j,q.put (fun s xs n=>n.upd k c) (n.upd k c) o⟩,g.wp,g.wm,fun b d=>aO (g.lt b d) k.size,P3 g.nd o⟩,k,iM a (by simp),by rw[aW a];rfl,f⟩
 rw[G4 a,jo a];rfl
theorem W9{W:Nat→Prop}{h:ad}{gp gm:Nat}{L:gQ}{nx:Int}(g:GraphAt W h gp gm L nx)(A:0≤nx)(o:nx∉ids L){s:SliceV}{ps:List Int}(u:Nums W h s ps)(y:ps.length*4≤140737488355328)
  {K:Int×Int→ad→Prop}(c:∀h',Upd (HK gp gm) h h'→GraphAt W h' gp gm (mc L nx ps).2.1 (mc L nx ps).2.2→K (mc L nx ps).1 h'):
  HC PG pB [.pointer (some ⟨gp,0,none⟩),.slice s.a s.len s.cap] [.c (.int .u32),.c (.int .i64)] K h:=by
 refine C3 (some ⟨gp,0,none⟩) s ?_;unfold uY bf bM V0 gn;refine CondP.intro (fun e=>by cases e) fun _=>W8 u ?_
 refine CondP.intro (fun a=>?_) fun a=>?_
 ·have a:Cm ps≠0:=by simpa using a
  rw[show mc L nx ps=_ from if_pos a]at c
  exact c h (Upd.refl _ _) g
 ·have a:¬Cm ps≠0:=by simpa using a
  refine U6 g u (by omega) fun h' f=>?_
  refine CondP.intro (fun d=>?_) fun d=>?_
  ·have d:un L ps≠0:=by simpa using d
   rw[show mc L nx ps=_ from(if_neg a).trans (if_pos d)]at c
   exact c h' f.wide (g.upd0 f)
  ·have d:¬un L ps≠0:=by simpa using d
   have i:=g.upd0 f;have k:=u.upd f fun _ h=>h.elim
   refine⟨_,rfl,_,i.c1,aF (fun t=>?_) fun t=>?_⟩
   ·rw[show mc L nx ps=_ from(if_neg a).trans ((if_neg d).trans (if_pos t))]at c
    exact c h' f.wide i
   ·refine⟨_,rfl,_,i.c1,_,rfl,_,i.c0,Vx k y fun s' p z j _=>?_⟩
    have n:=i.upd0 j;obtain⟨m,hm,E⟩:=n.map;have q:Nums W p s' ps:=z.sl fun b v _ x=>absurd (i.lt b x) (jh.2 v)
    obtain⟨w,D,C,B,_⟩:=n.put q o (nx+1);refine⟨n.c0,_,rfl,hm.isMap,_,rfl,_,B,_,rfl,C,?_⟩;rw[show ac .u32 (nx+1)=nx+1 from Go.IntWalk.u32_in _ (by omega)]
    rw[show mc L nx ps=_ from(if_neg a).trans ((if_neg d).trans (if_neg t))]at c
    exact c _ ((f.wide.tr j.wide).tr D) w
end Go.Proofs
namespace Go.Proofs
open Go.Lift
theorem W7{h:ad}{K:Option Addr→ad→Prop}(d:∀h',Upd No h h'→GraphAt (HK (h.size+1) h.size) h' (h.size+1) h.size [] 1→K (some ⟨h.size+1,0,none⟩) h'):
  HC PG dH [] [.c .ptr] K h:=by
 refine Oo ?_;unfold Fa;have k1:=Upd.push No h (.map #[] 0);have hm:MapAt KE sv (h.push (.map #[] 0)) h.size []:=MapAt.new h;have c:=Upd.hnew No (h.push (.map #[] 0)) [.map (some h.size),.int .u32 1] qC;have a:(h.push (.map #[] 0)).size=h.size+1:=by simp
 have:=d _ (k1.tr c) ⟨by
  have:=bF (h.push (.map #[] 0)) [.map (some h.size),.int .u32 1] qC
  rw[a]at this;exact this,⟨[],hm.upd c id,fun id=>.inr ⟨rfl,rfl⟩⟩,.inl rfl,.inr rfl,fun b e=>by rw[eN,a];rcases e with rfl|rfl<;>omega,List.nodup_nil⟩
 rw[←a]at this;exact this
end Go.Proofs
namespace Go.Proofs
open Go.Lift
abbrev parV(L:gQ)(id:Int):List Int:=(dK L id).getD []
inductive UpG(L:gQ):Int→Int→Prop
 |refl {a:Int}:a∈ids L→UpG L a a
 |step {a p b:Int}:a∈ids L→p∈parV L a→UpG L p b→UpG L a b
theorem UpG.left{L:gQ}{a b:Int}(h:UpG L a b):a∈ids L:=by cases h<;>assumption
theorem GraphAt.more{W Q:Nat→Prop}{c h:ad}{gp gm:Nat}{L:gQ}{nx:Int}(g:GraphAt W c gp gm L nx)(k:Upd No c h)(d:∀b,Q b→c.size≤b∧b<h.size):GraphAt (fun b=>W b∨Q b) h gp gm L nx:=by
 obtain⟨m,hm,i⟩:=g.map;refine⟨k.get0 g.blk,⟨m,hm.upd k id,fun j=>?_⟩,.inl g.wp,.inl g.wm,fun b a=>a.elim (fun a=>aO (g.lt b a) k.size) fun a=>(d b a).2,g.nd⟩
 rcases i j with⟨s,ps,e,f,n⟩|c
 ·exact .inl ⟨s,ps,e,f,(n.less fun b a=>a.imp id fun a=>(d b a).1).upd k fun _ h=>h.elim⟩
 ·exact .inr c
theorem GraphAt.less{W W':Nat→Prop}{h:ad}{gp gm:Nat}{L:gQ}{nx:Int}(g:GraphAt W h gp gm L nx)(e:∀b,W' b→W b)(c:W' gp)(d:W' gm):GraphAt W' h gp gm L nx:=by
 obtain⟨m,hm,i⟩:=g.map;refine⟨g.blk,⟨m,hm,fun j=>?_⟩,c,d,fun b a=>g.lt b (e b a),g.nd⟩
 rcases i j with⟨s,ps,c,d,k⟩|f
 ·exact .inl ⟨s,ps,c,d,k.less fun b a=>.inl (e b a)⟩
 ·exact .inr f
end Go.Proofs
namespace Go.Proofs
open Go.Lift
structure Small(L:gQ):Prop where
 two:∀v∈L,v.2.length≤2
 len:L.length≤100000
end Go.Proofs
namespace Go.Proofs
open Go.Lift
structure Good(L:gQ):Prop extends Small L where
 up:(ids L).Pairwise (· < ·)
 par:∀v∈L,∀p∈v.2,p∈ids L∧p<v.1
theorem Good.nd{L:gQ}(g:Good L):(ids L).Nodup:=g.up.imp fun h=>Int.ne_of_lt h
theorem Good.parV{L:gQ}(g:Good L){a p:Int}(h:p∈parV L a):p∈ids L∧p<a∧a∈ids L:=by
 unfold Proofs.parV at h;cases hl:dK L a with
 |none=>rw[hl]at h;simp at h
 |some ps=>
  rw[hl]at h;have hm:=(Kk g.nd).1 hl;have:=g.par _ hm p (by simpa using h);exact⟨this.1,this.2,fu.2 ⟨_,hm,rfl⟩⟩
theorem UpG.snoc{L:gQ}{a z w:Int}(h:UpG L a z)(b:w∈Proofs.parV L z)(hi:w∈ids L):UpG L a w:=by
 induction h with
 |refl h1=>exact .step h1 b (.refl hi)
 |step h1 h2 _ ih=>exact .step h1 h2 (ih b)
theorem UpG.right{L:gQ}{a b:Int}(h:UpG L a b):b∈ids L:=by
 induction h with
 |refl h=>exact h
 |step _ _ _ ih=>exact ih
theorem UpG.last{L:gQ}{a b:Int}(h:UpG L a b):b=a∨∃z,UpG L a z∧b∈Proofs.parV L z:=by
 induction h with
 |refl _=>exact .inl rfl
 | @step a p b h1 h2 h3 ih=>
  rcases ih with rfl|⟨z,d,c⟩
  ·exact .inr ⟨a,.refl h1,h2⟩
  ·exact .inr ⟨z,.step h1 h2 d,c⟩
theorem UpG.trans{L:gQ}{a b c:Int}(h:UpG L a b)(k:UpG L b c):UpG L a c:=by
 induction h with
 |refl _=>exact k
 |step h1 h2 _ ih=>exact .step h1 h2 (ih k)
end Go.Proofs
namespace Go.Proofs
open Go.Lift
structure Inv(L:gQ)(nx:Int):Prop where
 good:Good L
 pos:∀id∈ids L,1≤id∧id<nx
 nx1:1≤nx
 nx2:nx≤2147483648
 few:L.length≤1024
theorem Inv.nil:Inv [] 1:=⟨⟨⟨fun v a=>(by cases a),by simp⟩,jZ,fun v a=>(by cases a)⟩,fun v a=>(by cases a),by omega,by omega,by simp⟩
theorem Lv{id:Int}:∀{L:gQ},(ids L).Pairwise (· < ·)→id∉ids L→∀v∈L.dropWhile (fun v=>decide (v.1<id)),id<v.1
 | [],_,_,v,a=>by cases a
 |u::L,hp,hn,v,a=>by
  simp only[ids,cN,cc,ar,not_or]at hp hn;rw[List.dropWhile_cons]at a;split at a
  ·exact Lv hp.2 hn.2 v a
  ·rename_i h
   have h:¬u.1<id:=by simpa using h
   rcases ar.1 a with rfl|a
   ·omega
   ·have:=hp.1 v.1 (fu.2 ⟨v,a,rfl⟩);omega
theorem Q8{id:Int}:∀{L:gQ},∀v∈L.takeWhile (fun v=>decide (v.1<id)),v.1<id
 | [],v,a=>by cases a
 |u::L,v,a=>by
  rw[List.takeWhile_cons]at a;split at a
  ·rename_i h
   rcases ar.1 a with rfl|a
   ·simpa using h
   ·exact Q8 v a
  ·cases a
theorem JN{L:gQ}(g:Good L){id:Int}{ps:List Int}(f:id∉ids L)(i:∀p∈ps,p∈ids L∧p<id)(k:ps.length≤2)(m:L.length<100000):Good (Cq L id ps):=by
 have a:=zO L id ps;refine⟨⟨fun v b=>?_,by rw[a.length_eq];simp;omega⟩,?_,fun v b p c=>?_⟩
 ·rcases ar.1 (a.mem_iff.1 b)with rfl|b
  ·exact k
  ·exact g.two v b
 ·unfold Cq ids
  rw[lC,cN,List.pairwise_append];refine⟨(g.up.sublist ((List.takeWhile_sublist _).map _)),cc.2 ⟨fun y d=>?_,g.up.sublist ((List.dropWhile_sublist _).map _)⟩,fun x hx y d=>?_⟩
  ·obtain⟨v,b,rfl⟩:=fu.1 d
   exact Lv g.up f v b
  ·obtain⟨u,j,rfl⟩:=fu.1 hx
   have e:=Q8 u j;rcases ar.1 d with rfl|d
   ·exact e
   ·obtain⟨v,b,rfl⟩:=fu.1 d
    have:=Lv g.up f v b;omega
 ·rw[insV_ids.mem_iff]
  rcases ar.1 (a.mem_iff.1 b)with rfl|b
  ·exact⟨aI _ (i p c).1,(i p c).2⟩
  ·have:=g.par v b p c
   exact⟨aI _ this.1,this.2⟩
theorem Ha{L:gQ}{ps:List Int}(h:un L ps=0):(∀p∈ps,p∈ids L)∧L.length<1024:=by
 unfold un at h;split at h
 ·cases h
 ·rename_i h1
  split at h
  ·cases h
  ·rename_i h2
   refine⟨fun p a=>?_,by omega⟩
   by_cases hm:p∈ids L
   ·exact hm
   ·exact absurd (cj.2 ⟨p,a,by simpa using hm⟩) h1
theorem JD{ps:List Int}(h:Cm ps=0):ps.length≤2:=by
 unfold Cm at h;split at h
 ·cases h
 ·rename_i h1
  have:=not_or.1 h1;omega
theorem Inv.add{L:gQ}{nx:Int}(v:Inv L nx)(ps:List Int):Inv (mc L nx ps).2.1 (mc L nx ps).2.2:=by
 unfold mc;split
 ·exact v
 ·rename_i c
  split
  ·exact v
  ·rename_i d
   split
   ·exact v
   ·rename_i h3
    have c:Cm ps=0:=by omega
    have d:un L ps=0:=by omega
    obtain⟨b,g⟩:=Ha d;have f:nx∉ids L:=fun hm=>by have:=(v.pos nx hm).2;omega
    show Inv (Cq L nx ps) (nx+1)
    refine⟨JN v.good f (fun p e=>⟨b p e,(v.pos p (b p e)).2⟩) (JD c) (by have:=v.few;omega),fun id a=>?_,by have:=v.nx1;omega,by omega,?_⟩
    ·rcases ar.1 (insV_ids.mem_iff.1 a)with rfl|h
     ·have:=v.nx1;omega
     ·have:=v.pos id h;omega
    ·rw[(zO L nx ps).length_eq];simp;omega
theorem Inv.put{L:gQ}{nx:Int}(v:Inv L nx){id:Int}(o:0≤id)(ps:List Int):Inv (X9 L nx id ps).2.1 (X9 L nx id ps).2.2:=by
 unfold X9;split
 ·exact v
 ·rename_i b
  have b:=not_or.1 b;have m:=b.1;have d:=not_or.1 b.2;have c:=not_or.1 d.2;split
  ·exact v
  ·rename_i h2
   split
   ·exact v
   ·rename_i e
    have n:Cm ps=0:=by omega
    have e:un L ps=0:=by omega
    obtain⟨g,q⟩:=Ha e;have i:=v.nx1;refine⟨JN v.good h2 (fun p f=>⟨g p f,?_⟩) (JD n) (by have:=v.few;omega),fun j k=>?_,by simp only;split<;>omega,?_,?_⟩
    ·by_cases a:p<id
     ·exact a
     ·exact absurd (cj.2 ⟨p,f,by simpa using a⟩) c.2
    ·rcases ar.1 (insV_ids.mem_iff.1 k)with rfl|h
     ·simp only;split<;>omega
     ·have:=v.pos j h;simp only;split<;>omega
    ·have:=v.nx2;simp only;split<;>omega
    ·rw[(zO L id ps).length_eq];simp;omega
theorem Inv.drop{L:gQ}{nx:Int}(v:Inv L nx){keep st:List Int}(c:∀y,y∈st↔∃k∈keep,UpG L k y):Inv (L.filter fun v=>decide (v.1∈st)) nx:=by
 have a:∀id,id∈ids (L.filter fun v=>decide (v.1∈st))↔id∈ids L∧id∈st:=fun id=>by
  unfold ids;simp only[fu,dP,decide_eq_true_iff];constructor
  ·rintro⟨u,⟨b,d⟩,rfl⟩;exact⟨⟨u,b,rfl⟩,d⟩
  ·rintro⟨⟨u,b,rfl⟩,d⟩;exact⟨u,⟨b,d⟩,rfl⟩
 refine⟨⟨⟨fun u f=>v.good.two u (dP.1 f).1,bv (gH ..) v.good.len⟩,v.good.up.sublist ((List.filter_sublist).map _),fun u f p i=>?_⟩,fun id g=>v.pos id ((a id).1 g).1,v.nx1,v.nx2,bv (gH ..) v.few⟩
 obtain⟨b,d⟩:=dP.1 f;obtain⟨j,n⟩:=v.good.par u b p i;refine⟨(a p).2 ⟨j,?_⟩,n⟩;obtain⟨k,m,e⟩:=(c _).1 (of_decide_eq_true d);refine(c p).2 ⟨k,m,e.snoc ?_ j⟩;have:dK L u.1=some u.2:=(Kk v.good.nd).2 b;simp[parV,this,i]
end Go.Proofs
namespace Go.Proofs
open Go Go.Lift
def Nr(t u:Tr):Bool:=(t.1==u.1)&&((((t.2.1==u.2.1)&&((t.2.2.1==u.2.2.1)&&true)))&&((t.2.2.2.1==u.2.2.2.1)&&true))
theorem Ug{t u:Tr}{h:ad}{K:Bool→ad→Prop}(c:∀h',Upd No h h'→K (Nr t u) h'):HC PG yH [RU t,RU u] [.c .bool] K h:=by
 refine N9 t u ?_;unfold EV aj mP hG;refine cH fun d b1 k1=>cH fun b b2 a=>?_
 have c1:=a.get0 b1;refine⟨_,vc c1 0,_,vc b2 0,?_⟩;have:=c b (k1.tr a);unfold Nr at this;rcases hb:(t.1==u.1)with _|_
 ·rw[hb]at this
  exact af.2 this
 ·rw[hb]at this
  exact aA.2 ⟨_,Aa c1 1 0,_,Aa c1 1 1,_,Aa c1 1 2,_,Aa b2 1 0,_,Aa b2 1 1,_,Aa b2 1 2,this⟩
theorem TreeIs.plain{W:Nat→Prop}{h:ad}{kind:Int}{x:Hs}{t:Tr}{l:List Pr}(i:TreeIs W h kind x t l):(∀a,t.2.2.2.2.1=some a→hT h a)∧(∀a,t.2.2.2.2.2=some a→hT h a):=by
 rcases i with⟨rfl,b,rfl,t⟩|⟨rfl,b,rfl,t⟩
 ·obtain⟨s,nd,_⟩:=t
  obtain⟨d,n,sp,sk,ow,e,_⟩:=nd.ex;refine⟨fun a c=>?_,fun a c=>(by cases c)⟩
  cases c;exact⟨_,_,e,show 0<6 by decide⟩
 ·obtain⟨w,F,⟨val,s,ow,ks,e,_⟩,_⟩:=t.ex
  refine⟨fun a c=>(by cases c),fun a c=>?_⟩
  cases c;exact⟨_,_,e,show 0<5 by decide⟩
end Go.Proofs
namespace Go.Proofs
open Go Go.Lift
abbrev kStr:KeyE ByteArray:=⟨fun s=>.string s,.str,fun x=>⟨x,rfl⟩,fun x y=>⟨fun e=>xG e,fun e=>by subst e;exact y9 x⟩⟩
abbrev TD:=Tr×List Pr
abbrev ZA(d:TD):Value:=RU d.1
abbrev W3(n:Int):Value:=.int .u32 n
structure VS where
 gp:Nat
 gm:Nat
 tm:Nat
 bm:Nat
 nm:Nat
 kind:Int
 x:Hs
 e:Tr
 L:gQ
 nx:Int
 D:List (Int×TD)
 B:List (ByteArray×Int)
 G:List (ByteArray×Int)
def VS.M(s:VS):Nat→Prop:=fun y=>y=s.gp∨y=s.gm∨y=s.tm∨y=s.bm∨y=s.nm
structure VaultAt(W:Nat→Prop)(h:ad)(vp:Nat)(s:VS):Prop where
 blk:h[vp]? =some (.cells (pU s.e++ [Value.pointer (some ⟨s.gp,0,none⟩),Value.map (some s.tm),Value.map (some s.bm),Value.map (some s.nm)]).toArray cf (0,0))
 g:GraphAt W h s.gp s.gm s.L s.nx
 t:MapAt KE ZA h s.tm s.D
 b:MapAt kStr W3 h s.bm s.B
 n:MapAt kStr W3 h s.nm s.G
 w:∀y,s.M y→W y
 wv:¬W vp
 ne: [s.gp,s.gm,s.tm,s.bm,s.nm].Nodup
 em:TreeIs W h s.kind s.x s.e []
 ts:∀d∈s.D,TreeIs W h s.kind s.x d.2.1 d.2.2∧eY d.2.2∧Fit d.2.2
 sub:∀id,id∈s.D.map (·.1)↔id∈ids s.L
 inv:Inv s.L s.nx
 kd:s.kind=0∨s.kind=1
theorem VaultAt.upd{W M:Nat→Prop}{h h':ad}{c:Nat}{s:VS}(v:VaultAt W h c s)(k:Upd M h h')(hm:∀b,M b→(W b∧¬s.M b)∨h.size≤b):VaultAt W h' c s:=by
 have g:∀y,s.M y→¬M y:=fun y j a=>(hm y a).elim (fun e=>e.2 j) fun e=>absurd (v.g.lt y (v.w y j)) (by omega)
 have i:∀b,M b→W b∨h.size≤b:=fun b a=>(hm b a).imp (·.1) id
 have m:¬M c:=fun a=>(hm c a).elim (fun e=>v.wv e.1) fun e=>absurd (bB v.blk) (by omega)
 exact⟨k.get v.blk m,v.g.upd k fun b a=>(hm b a).imp (fun e=>⟨e.1,fun f=>e.2 (.inl f),fun f=>e.2 (.inr (.inl f))⟩) id,v.t.upd k (g _ (.inr (.inr (.inl rfl)))),v.b.upd k (g _ (.inr (.inr (.inr (.inl rfl))))),v.n.upd k (g _ (.inr (.inr (.inr (.inr rfl))))),v.w,v.wv,v.ne,v.em.updM k i,fun d hd=>⟨(v.ts d hd).1.updM k i,(v.ts d hd).2⟩,v.sub,v.inv,v.kd⟩
theorem VaultAt.upd0{W:Nat→Prop}{h h':ad}{a:Nat}{s:VS}(v:VaultAt W h a s)(k:Upd No h h'):VaultAt W h' a s:=v.upd k fun _ h=>h.elim
end Go.Proofs
namespace Go.Proofs
open Go Go.Lift
end Go.Proofs
namespace Go.Proofs
open Go Go.Lift
section
variable {W:Nat→Prop} {h:ad} {vp:Nat} {s:VS}
abbrev pV(a:Nat):Value:=.pointer (some ⟨a,0,none⟩)
theorem Wk(v:VaultAt W h vp s)(id:Int){K:Bool→ad→Prop}(a:K (decide (id=0∨id∈ids s.L)) h):HC PG pq [pV vp,.int .u32 id] [.c .bool] K h:=by
 refine CO (some ⟨vp,0,none⟩) id ?_;unfold uI iE DE;refine CondP.intro (fun e=>?_) fun e=>⟨_,rfl,_,vc v.blk 6,Rq v.g id ?_⟩
 ·rw[decide_eq_true (.inl (by simpa using e))]at a;exact a
 ·have e:id≠0:=by simpa using e
  rw[show decide (id=0∨id∈ids s.L)=decide (id∈ids s.L)from by simp[e]]at a;exact a
theorem Mi(v:VaultAt W h vp s)(n:ByteArray){K:Int×Bool→ad→Prop}(a:K ((dK s.B n).getD 0,(dK s.B n).isSome) h):HC PG kX [pV vp,.string n] [.c (.int .u32),.c .bool] K h:=by
 refine Bv (some ⟨vp,0,none⟩) n ?_;unfold tK bf;exact CondP.intro (fun e=>by cases e) fun _=>⟨_,rfl,_,vc v.blk 8,_,_,v.b.get n 0,a⟩
theorem T0(v:VaultAt W h vp s)(id:Int){K:Tr×Int→ad→Prop}(j:id=0→∀h',Upd No h h'→K (s.e,0) h')(m:∀d,dK s.D id=some d→id≠0→∀h',Upd No h h'→K (d.1,0) h')(i:dK s.D id=none→id≠0→∀h',Upd No h h'→K (Dx,4) h'):
  HC PG je [pV vp,.int .u32 id] [.agg [.int .i64,.int .u64,.int .u64,.int .u64,.ptr,.ptr],.c (.int .i64)] K h:=by
 refine Bu (some ⟨vp,0,none⟩) id ?_;unfold tJ bf aj fx nv vW iE ae ao qc mP hG xT YH Fq;refine cH fun x b1 k1=>CondP.intro (fun e=>by cases e) fun _=>?_
 have c:=k1.get0 v.blk;refine CondP.intro (fun e=>⟨_,rfl,?_⟩) fun e=>⟨_,rfl,_,vc c 7,((dK s.D id).getD (Dx,[])).1,_,(v.t.upd k1 fun h=>h).get id (Dx,[]),cH fun q b2 p=>?_⟩
 ·refine⟨_,Aa c 0 0,_,Aa c 0 1,_,Aa c 0 2,_,Aa c 0 3,_,Aa c 0 4,_,Aa c 0 5,?_⟩
  refine dd (c:=pU Dx) (vs:=pU s.e) b1 rfl fun q b2 k=>?_
  exact⟨_,vc b2 0,_,vc b2 1,_,vc b2 2,_,vc b2 3,_,vc b2 4,_,vc b2 5,j (by simpa using e) q (k1.own k (au _))⟩
 ·have e:id≠0:=by simpa using e
  have u:=bB b1;have w:=k1.size;refine dd (c:=pU Dx) (vs:=pU ((dK s.D id).getD (Dx,[])).1) b2 rfl fun t b3 f=>?_
  have g:=f.oth (p.get0 b1) (by omega);have o:Upd No h t:=(k1.tr p).own f k1.size;cases hl:dK s.D id with
  |none=>
   refine aA.2 (dd (c:=pU Dx) (vs:=pU Dx) g rfl fun n a b=>?_)
   exact⟨_,vc a 0,_,vc a 1,_,vc a 2,_,vc a 3,_,vc a 4,_,vc a 5,i hl e n (o.own b (au _))⟩
  |some d=>
   rw[hl]at b3;refine af.2 ⟨_,vc b3 0,_,vc b3 1,_,vc b3 2,_,vc b3 3,_,vc b3 4,_,vc b3 5,?_⟩;refine dd (c:=pU Dx) (vs:=pU d.1) g rfl fun n a b=>?_
   exact⟨_,vc a 0,_,vc a 1,_,vc a 2,_,vc a 3,_,vc a 4,_,vc a 5,m d hl e n (o.own b (au _))⟩
theorem VaultAt.turn{M:Nat→Prop}{h':ad}{L:gQ}{nx:Int}{D:List (Int×TD)}{B G:List (ByteArray×Int)}(v:VaultAt W h vp s)(k:Upd M h h')(hm:∀b,M b→W b∨h.size≤b)(g:GraphAt W h' s.gp s.gm L nx)(t:MapAt KE ZA h' s.tm D)(b:MapAt kStr W3 h' s.bm B)(n:MapAt kStr W3 h' s.nm G)
  (ts:∀d∈D,d∈s.D∨TreeIs W h' s.kind s.x d.2.1 d.2.2∧eY d.2.2∧Fit d.2.2)(sub:∀id,id∈D.map (·.1)↔id∈ids L)(inv:Inv L nx):VaultAt W h' vp {s with L:=L,nx:=nx,D:=D,B:=B,G:=G}:=by
 have a:¬M vp:=fun c=>(hm vp c).elim (fun e=>v.wv e) fun e=>absurd (bB v.blk) (by omega)
 exact⟨k.get v.blk a,g,t,b,n,v.w,v.wv,v.ne,v.em.updM k hm,fun d hd=>(ts d hd).elim (fun e=>⟨(v.ts d e).1.updM k hm,(v.ts d e).2⟩) id,sub,inv,v.kd⟩
end
end Go.Proofs
namespace Go.Proofs
open Go Go.Lift
def wr(b:UInt8):Bool:=decide (33≤b.toNat)&&decide (b.toNat≤126)
def fj(n:ByteArray):Bool:=decide (1≤n.size)&&decide (n.size≤32)&&n.data.toList.all wr
theorem VF{b:UInt8}{h:ad}{K:Bool→ad→Prop}(a:K (!wr b) h):HC PG rH [.int .u8 b.toNat] [.c .bool] K h:=by
 refine Fy b.toNat ?_;unfold xJ;refine aF (fun e=>?_) fun e=>?_
 ·rw[show(!wr b)=true from by simp[wr];omega]at a;exact a
 ·rw[show(!wr b)=decide ((b.toNat:Int)>126)from by unfold wr;rw[decide_eq_true (by omega:33≤b.toNat),dj,←decide_not,decide_eq_decide];omega]at a;exact a
theorem sQ{n:ByteArray}{h:ad}{K:Bool→ad→Prop}(f:∀h',Upd No h h'→K (fj n) h'):HC PG iW [.string n] [.c .bool] K h:=by
 refine IE n ?_;unfold AE;refine Join.plain (aF (fun e=>aA.2 ?_) fun e=>aF (fun e2=>?_) fun e2=>?_)
 ·rw[show fj n=false from by simp[fj];omega]at f;exact f _ (Upd.refl _ _)
 ·rw[show fj n=false from by simp[fj];omega]at f;exact f _ (Upd.refl _ _)
 ·refine fun c hc=>?_
  have k1:=Upd.push No h (.cells (cL n++bC (c-n.size) (Value.int .u8 0)).toArray kU (c,c+1));have b1:=mo h (.cells (cL n++bC (c-n.size) (Value.int .u8 0)).toArray kU (c,c+1));generalize h.push (.cells (cL n++bC (c-n.size) (Value.int .u8 0)).toArray kU (c,c+1))=h1 at k1 b1;have a:n.data.toList.length=n.size:=Array.length_toList;refine pc ⟨some (aH h),n.size,c⟩ _ ?_
  unfold jv;refine qt ⟨some (aH h),n.size,c⟩ _ ?_;unfold kq bf cU;refine LoopP.ghost (fun(i:Nat) (t:Int) h'=>t=(i:Int)∧h'=h1∧i≤n.size∧∀b∈n.data.toList.take i,wr b=true) (fun i=>n.size-i) 0 ⟨rfl,rfl,bc _,by simp⟩ ?_
  rintro I i t h' ⟨rfl,rfl,hi,j⟩ m;refine aF (fun d=>?_) fun k=>?_
  ·have d:i<n.data.toList.length:=by rw[a];simp only at d;omega
   refine⟨by simp only;omega,aH h,rfl,(n.data.toList[i].toNat:Int),?_,?_⟩
   ·rw[P6 b1,List.getElem?_toArray,ak,Nat.mul_one,List.getElem?_append_left (by simp[cL];omega)]
    simp[cL,a▸d]
   ·refine HV.mk' (VF (b:=n.data.toList[i]) (CondP.intro (fun e=>?_) fun e=>?_))
    ·rw[show fj n=false from ?_]at f
     ·rw[decide_eq_true (by omega)];exact f _ k1
     ·unfold fj
      rw[show n.data.toList.all wr=false from List.all_eq_false.2 ⟨_,bV d,by simpa using e⟩,Bool.and_false]
    ·rw[cM (n:=n.size) (by omega) (by omega)]
     refine m (i+1) _ _ ⟨rfl,rfl,by omega,?_⟩ (by omega)
     rw[cA d];intro b g;rcases bL.1 g with g|g
     ·exact j b g
     ·rw[aQ.1 g];simpa using e
  ·have:i=n.size:=by simp only at k;omega
   subst this;rw[←a,bG]at j;rw[show fj n=true from by unfold fj;rw[List.all_eq_true.2 j];simp;omega]at f
   exact f _ k1
def Ad(B:List (ByteArray×Int))(L:gQ)(n:ByteArray)(id:Int)(no:Bool):Int:=if fj n=false then 1 else if(dK B n).isSome then 7 else if no|| !decide (id=0∨id∈ids L)then 4 else if B.length≥256 then 6 else 0
theorem Xp{W:Nat→Prop}{h:ad}{f:Nat}{s:VS}(v:VaultAt W h f s){r:Nat}{B:List (ByteArray×Int)}(m:MapAt kStr W3 h r B)(n:ByteArray)(id:Int)(no:Bool){K:Int→ad→Prop}
  (o:∀h',Upd (· =r) h h'→MapAt kStr W3 h' r (if Ad B s.L n id no=0 then pD B n id else B)→K (Ad B s.L n id no) h'):HC PG pp [.map (some r),pV f,.string n,.int .u32 id,.bool no] [.c (.int .i64)] K h:=by
 refine CN (some r) (some ⟨f,0,none⟩) n id no ?_;unfold uH DE;refine⟨_,_,m.get n 0,sQ fun i k1=>?_⟩
 have a:∀e h',Ad B s.L n id no=e→e≠0→Upd No h h'→K e h':=fun e h' p u j=>by
  have:=o h' j.wide;rw[p,if_neg u]at this;exact this (m.upd j fun h=>h)
 refine CondP.intro (fun e=>a 1 i ?_ (by decide) k1) fun e=>CondP.intro (fun e2=>a 7 i ?_ (by decide) k1) fun e2=>?_
 ·unfold Ad;rw[if_pos (by simpa using e)]
 ·unfold Ad;rw[if_neg (by simpa using e),if_pos e2]
 ·have e:¬fj n=false:=by simpa using e
  have e2:¬(dK B n).isSome=true:=by simp[e2]
  refine Join.intro (fun t h'=>t=(no|| !decide (id=0∨id∈ids s.L))∧Upd No h h') (fun R g=>?_) ?_
  ·refine CondP.intro (fun b=>g _ _ ⟨by rw[b];rfl,k1⟩) fun b=>Wk (v.upd0 k1) id (g _ _ ⟨by rw[b];rfl,k1⟩)
  ·rintro t d ⟨rfl,c⟩
   refine CondP.intro (fun b=>a 4 d ?_ (by decide) c) fun b=>⟨_,(m.upd c fun h=>h).len,aF (fun w=>a 6 d ?_ (by decide) c) fun w=>?_⟩
   ·unfold Ad;rw[if_neg e,if_neg e2,if_pos b]
   ·unfold Ad;rw[if_neg e,if_neg e2,if_neg (by rw[b];decide),if_pos (by omega)]
   ·have k:=m.upd c fun h=>h
    have q:Ad B s.L n id no=0:=by unfold Ad;rw[if_neg e,if_neg e2,if_neg (by rw[b];decide),if_neg (by omega)]
    refine⟨r,rfl,k.isMap,?_⟩;have:=o _ ((c.wide).tr (vU (M:=(· =r)) d (.string n) (.int .u32 id) rfl))
    rw[q,if_pos rfl]at this;exact this (k.put n id)
theorem VS.neB{s:VS}(h: [s.gp,s.gm,s.tm,s.bm,s.nm].Nodup):s.gp≠s.gm∧s.gp≠s.tm∧s.gp≠s.bm∧s.gp≠s.nm∧s.gm≠s.tm∧s.gm≠s.bm∧s.gm≠s.nm∧s.tm≠s.bm∧s.tm≠s.nm∧s.bm≠s.nm:=by
 simp only[lB,ar,List.not_mem_nil,or_false,not_or]at h;exact⟨h.1.1,h.1.2.1,h.1.2.2.1,h.1.2.2.2,h.2.1.1,h.2.1.2.1,h.2.1.2.2,h.2.2.1.1,h.2.2.1.2,h.2.2.2.1⟩
theorem VaultAt.setB{W:Nat→Prop}{h h':ad}{g:Nat}{s:VS}{B:List (ByteArray×Int)}(v:VaultAt W h g s)(k:Upd (· =s.bm) h h')(b:MapAt kStr W3 h' s.bm B):VaultAt W h' g {s with B:=B}:=by
 obtain⟨p,q,j,n,t,m,u,i,o,a⟩:=VS.neB v.ne;have f:∀b,b=s.bm→W b:=fun b e=>v.w b (.inr (.inr (.inr (.inl e))))
 exact v.turn k (fun b e=>.inl (f b e)) (v.g.upd k fun b e=>.inl ⟨f b e,fun c=>j (c.symm.trans e),fun c=>m (c.symm.trans e)⟩) (v.t.upd k i) b (v.n.upd k fun e=>a e.symm) (fun d hd=>.inl hd) v.sub v.inv
theorem O1{W:Nat→Prop}{h:ad}{a:Nat}{s:VS}(v:VaultAt W h a s)(n:ByteArray)(id:Int){K:Int→ad→Prop}
  (c:∀h',Upd (· =s.bm) h h'→VaultAt W h' a {s with B:=if Ad s.B s.L n id false=0 then pD s.B n id else s.B}→K (Ad s.B s.L n id false) h'):HC PG my [pV a,.string n,.int .u32 id] [.c (.int .i64)] K h:=by
 refine zd (some ⟨a,0,none⟩) n id ?_;unfold rp bf;exact CondP.intro (fun e=>by cases e) fun _=>⟨_,rfl,_,vc v.blk 8,Xp v v.b n id false fun h' b m=>c h' b (v.setB b m)⟩
end Go.Proofs
namespace Go.Proofs
open Go Go.Lift
abbrev rj:=List (List UInt8)×Bool
def bX(s:rj):List UInt8×rj:=match s.1 with
 | []=>([],([],false))
 |w::ws=>(w,(ws,s.2))
def bw(s:rj):List UInt8×rj:=((iP (bX s).1).getD [],((bX s).2.1,(bX s).2.2&&(iP (bX s).1).isSome))
def eC(most:Nat)(s:rj):Nat×rj:=((mr (bX s).1).getD 0,((bX s).2.1,(bX s).2.2&&((mr (bX s).1).isSome&&decide ((mr (bX s).1).getD 0≤most))))
def gJ(s:rj):List UInt8×rj:=((bX s).1,((bX s).2.1,(bX s).2.2&&fj (aG (bX s).1)))
abbrev rdC(sp:SliceV)(ok:Bool):Array Value:= #[.slice sp.a sp.len sp.cap,.bool ok]
structure RdAt(W:Nat→Prop)(h:ad)(b:Nat)(s:rj):Prop where
 ex:∃sp:SliceV,h[b]? =some (.cells (rdC sp s.2) f8 (0,0))∧Sl BT 1 W h sp s.1∧sp.len≤sp.cap
 w:W b
 n:∀x∈s.1,x.length≤1000000
section
variable {W M:Nat→Prop} {h h':ad} {b:Nat} {s:rj}
theorem RdAt.upd(r:RdAt W h b s)(k:Upd M h h')(c:¬M b)(hm:∀y,M y→W y∨h.size≤y):RdAt W h' b s:=
 let⟨sp,hc,a,d⟩:=r.ex
 ⟨⟨sp,k.get hc c,a.upd k hm,d⟩,r.w,r.n⟩
theorem RdAt.upd0(r:RdAt W h b s)(k:Upd No h h'):RdAt W h' b s:=r.upd k id fun _ h=>h.elim
theorem RdAt.lt(r:RdAt W h b s):b<h.size:=let⟨_,hc,_⟩:=r.ex;bB hc
theorem RdAt.setOk(r:RdAt W h b s){o d:Bool}(e:o=d){k:ad→Prop}(f:∀h',RdAt W h' b (s.1,d)→Upd (· =b) h h'→k h'):Wr h (adr ⟨b,0,none⟩ 1)∧At (hset h (adr ⟨b,0,none⟩ 1) (.bool o)) k:=by
 subst e;obtain⟨sp,hc,g,i⟩:=r.ex;exact oz hc (by simp) rfl fun h' a u=>f h' ⟨⟨sp,a,g.upd u fun y c=>.inl (by have c:y=b:=c;rw[c];exact r.w),i⟩,r.w,r.n⟩ u
theorem sR(r:RdAt W h b s){K:ByteArray→ad→Prop}(q:∀h',(bX s).1.length≤1000000→RdAt W h' b (bX s).2→Upd (· =b) h h'→K (aG (bX s).1) h'):HC PG eW [.pointer (some ⟨b,0,none⟩)] [.c .str] K h:=by
 obtain⟨ws,ok⟩:=s;have z:=r;obtain⟨sp,hc,j,A⟩:=r.ex;refine BI (some ⟨b,0,none⟩) ?_;unfold tW bf cU bM bT;have d:=j.len;simp only at d;refine⟨_,rfl,sp,vc hc 0,CondP.intro (fun e=>⟨_,rfl,?_⟩) fun e=>⟨_,rfl,sp,vc hc 0,?_⟩⟩
 ·have e:sp.len=0:=by simpa using e
  have t:ws= []:=List.length_eq_zero_iff.1 (by omega);subst t;exact z.setOk rfl fun h' v u=>q h' (by simp[bX]) v u
 ·have e:sp.len≠0:=by simpa using e
  cases ws with
  |nil=>exact absurd d e
  |cons w ws=>
   simp only[ay]at d;obtain⟨a,n,B⟩:∃a,sp.a=some a∧aD h (adr a (0*1))=some (.string (aG w)):=by
    obtain⟨a,n,_,p⟩:=j.at0 (g:=fun w=>Value.string (aG w)) (i:=0) (x:=w) rfl
    exact⟨a,n,p⟩
   refine⟨⟨by omega,by omega⟩,a,n,aG w,B,_,rfl,sp,vc hc 0,⟨by omega,by omega⟩,_,rfl,oz hc (by simp) rfl fun h' k u=>?_⟩
   have f:=j.sub (l:=1) (hi:=sp.len) (m:=sp.cap) (c:=sp.cap-1) (by omega) (by simp only[ay];omega) A;refine q h' (r.n w (List.mem_cons_self ..)) ⟨⟨⟨aV sp.a 1 sp.cap 1,sp.len-1,sp.cap-1⟩,k,?_,?_⟩,r.w,fun x hx=>r.n x (aI _ hx)⟩ u
   ·have C:((w::ws).drop 1).take (sp.len-1)=ws:=by show ws.take _=_;exact List.take_of_length_le (by omega)
    have:=f.upd u fun y o=>.inl (by have o:y=b:=o;rw[o];exact r.w)
    rw[C]at this;exact this
   ·show sp.len-1≤sp.cap-1
    omega
theorem um(r:RdAt W h b s){K:ByteArray→ad→Prop}(j:∀h',RdAt W h' b (bw s).2→Upd (· =b) h h'→K (aG (bw s).1) h'):HC PG dX [.pointer (some ⟨b,0,none⟩)] [.c .str] K h:=by
 refine C4 (some ⟨b,0,none⟩) ?_;unfold uZ cJ bM;refine sR r fun p m k i=>T2 (by rw[ci];exact m) fun q c=>?_
 have a:=k.upd0 c;obtain⟨sp,hc,_⟩:=a.ex;rw[show(aG (bX s).1).data.toList=(bX s).1 from by simp]
 have n:(WM (iP (bX s).1)).1=aG (bw s).1:=by unfold bw;cases iP (bX s).1<;>rfl
 have o:(WM (iP (bX s).1)).2=(iP (bX s).1).isSome:=by cases iP (bX s).1<;>rfl
 rw[n,o];refine⟨_,rfl,(bX s).2.2,vc hc 1,CondP.intro (fun e=>⟨_,rfl,a.setOk rfl fun d f g=>j d ?_ ((i.trans c fun _ h=>h.elim).tr g)⟩) fun e=>⟨_,rfl,a.setOk rfl fun d f g=>j d ?_ ((i.trans c fun _ h=>h.elim).tr g)⟩⟩
 ·rw[bw,e,dj];exact f
 ·rw[bw,e,il];exact f
theorem FR(l:Laid h)(p:4≤b){most:Nat}(hm:most<18446744073709551616)(r:RdAt W h b s){K:Int→ad→Prop}(j:∀h',RdAt W h' b (eC most s).2→Upd (· =b) h h'→K ((eC most s).1:Int) h'):
  HC PG fV [.pointer (some ⟨b,0,none⟩),.int .u64 (most:Int)] [.c (.int .u64)] K h:=by
 refine zq (some ⟨b,0,none⟩) (most:Int) ?_;unfold ry cJ bM;refine sR r fun u n m i=>zL (by rw[ci];exact n) (l.upd i fun y k=>by have k:y=b:=k;omega) fun v g=>?_
 have f:=m.upd0 g;obtain⟨sp,hc,_⟩:=f.ex;rw[show(aG (bX s).1).data.toList=(bX s).1 from by simp]
 have o:(UM (mr (bX s).1)).1=((eC most s).1:Int):=by unfold eC;cases mr (bX s).1<;>rfl
 have q:(UM (mr (bX s).1)).2=(mr (bX s).1).isSome:=by cases mr (bX s).1<;>rfl
 rw[o,q];refine⟨_,rfl,(bX s).2.2,vc hc 1,CondP.intro (fun e=>CondP.intro (fun e2=>⟨_,rfl,f.setOk rfl fun c a d=>j c ?_ ((i.trans g fun _ h=>h.elim).tr d)⟩) fun e2=>⟨_,rfl,f.setOk rfl fun c a d=>j c ?_ ((i.trans g fun _ h=>h.elim).tr d)⟩) fun e=>⟨_,rfl,f.setOk rfl fun c a d=>j c ?_ ((i.trans g fun _ h=>h.elim).tr d)⟩⟩
 ·have t:decide (((eC most s).1:Int)≤(most:Int))=decide ((mr (bX s).1).getD 0≤most):=by rw[decide_eq_decide];show((((mr (bX s).1).getD 0:Nat):Int)≤(most:Int))↔_;omega
  rw[t]at a;rw[eC,e,e2,dj,dj];exact a
 ·rw[eC,e,e2,dj,il];exact a
 ·rw[eC,e,il];exact a
theorem Nj(r:RdAt W h b s){K:ByteArray→ad→Prop}(j:∀h',RdAt W h' b (gJ s).2→Upd (· =b) h h'→K (aG (gJ s).1) h'):HC PG kZ [.pointer (some ⟨b,0,none⟩)] [.c .str] K h:=by
 refine BJ (some ⟨b,0,none⟩) ?_;unfold tX cJ bM;refine sR r fun m k a i=>?_
 obtain⟨sp,hc,_⟩:=a.ex;refine⟨_,rfl,(bX s).2.2,vc hc 1,CondP.intro (fun e=>sQ fun n g=>⟨_,rfl,(a.upd0 g).setOk rfl fun c d f=>j c ?_ ((i.trans g fun _ h=>h.elim).tr f)⟩) fun e=>⟨_,rfl,a.setOk rfl fun c d f=>j c ?_ (i.tr f)⟩⟩
 ·rw[gJ,e,dj];exact d
 ·rw[gJ,e,il];exact d
end
end Go.Proofs
namespace Go.Proofs
open Go Go.Lift
section
variable {M:Nat→Prop} {h:ad} {s:SliceV} {xs ys:List Int}
theorem Ky(l:List Int):l.flatMap u32=l.map fun x=>Value.int .u32 x:=by
 induction l with
 |nil=>rfl
 |cons x l ih=>rw[bH,ih];rfl
theorem OwnS.put1(g:OwnS u32 1 sV M h s ys){i:Nat}(hi:i<ys.length)(x:Int){k:ad→Prop}(q:∀h',OwnS u32 1 sV M h' s (ys.set i x)→Upd M h h'→k h'):∃a,s.a=some a∧Wr h (adr a (i*1))∧At (hset h (adr a (i*1)) (.int .u32 x)) k:=by
 have f:=g.len;have d:=g.cap;rcases g.blk with t|⟨b,c,m,j,hc,p⟩
 ·omega
 refine⟨_,m,?_⟩;rw[Nat.mul_one];refine oz hc (by rw[List.size_toArray,ai,Ky,gw];omega) (List.setIfInBounds_toArray ..) fun o b2 n=>q o ⟨by rw[ox];exact f,AX,d,.inr ⟨b,c,m,j,?_,p⟩⟩ (n.mono fun _ e=>.inl (e▸j))
 rw[b2,Ky,List.set_append_left _ _ (by rw[gw];exact hi),Ky,List.map_set]
theorem OwnS.cutZ(c:OwnS u32 1 sV M h s ys){i:Nat}(hi:i<ys.length){k:ad→Prop}(v:∀h',OwnS u32 1 sV M h' ⟨aV s.a 0 s.cap 1,i-0,s.cap-0⟩ (ys.take i)→Upd M h h'→k h'):
  sN h (aV s.a i s.cap 1) 0 (du (s.len-i) [.int .u32 0])∧At (fI h (aV s.a i s.cap 1) 0 (du (s.len-i) [.int .u32 0])) k:=by
 have m:=c.len;have o:=c.cap;rcases c.blk with w|⟨b,a,n,j,hc,u⟩
 ·omega
 have g:((ys.take i).flatMap u32).length=i*1:=by rw[jU AX,aY,Nat.min_eq_left (by omega)]
 have p:((ys.drop i).flatMap u32).length=(ys.length-i)*1:=by rw[jU AX,List.length_drop]
 rw[yY (f:=u32) ys i]at hc;rw[n,jw (by omega)];have d:(du (s.len-i) [Value.int .u32 0]).length=(s.len-i)*1:=md _ _;refine FM hc (by rw[d,ai,ai,g,p];omega) fun t b2 q=>v t ⟨by rw[aY];simp only;omega,AX,by simp only;omega,
  .inr ⟨b,du (s.len-i) [Value.int .u32 0]++a,by rw[n,sub_zero],j,?_,?_⟩⟩ (q.mono fun _ e=>.inl (e▸j))
 ·rw[b2]
  congr 2
  rw[aK,aK,List.take_left' (by rw[g];omega)];congr 2
  rw[←cS,cD (by rw[g];omega),cD (by rw[p,d];omega)]
 ·rw[ai,d,u];simp only;omega
def nz(xs:List Int):List Int:=xs.filter fun x=> !(x==0)
theorem Ul{x:Int}{K:Bool→ad→Prop}(a:K (x==0) h):HV PG (.func (.func tl) #[] #[]) [.int .u32 x] [.c .bool] K h:=by
 refine HV.mk' (HM x ?_);unfold zy;exact a
theorem T1(m:OwnS u32 1 sV M h s xs)(Q:xs.length≤1000000){K:SliceV→ad→Prop}(E:∀s' h',OwnS u32 1 sV M h' s' (nz xs)→Upd M h h'→K s' h'):HC PG w7 [.slice s.a s.len s.cap] [.c .slice] K h:=by
 have u:=m.len;have F:=m.cap;refine LK s ?_;unfold C9;refine rk s _ ?_;unfold kQ bf cU bM;refine lu s _ ?_;unfold iC bf cU;have P:Sl u32 1 No h s xs:=m.sl fun _ _ _ h=>h
 refine LoopP.ghost (fun(i:Nat) (t:Int) h'=>t=(i:Int)∧h'=h∧i≤xs.length∧nz (xs.take i)=xs.take i) (fun i=>xs.length-i) 0 ⟨rfl,rfl,bc _,by simp[nz]⟩ ?_
 rintro I i t h' ⟨rfl,rfl,hi,k⟩ O;refine aF (fun c=>?_) fun H=>?_
 ·have c:i<xs.length:=by omega
  obtain⟨a,z,_,hx⟩:=Nums.at P c;refine⟨by omega,a,z,_,hx,Ul (CondP.intro (fun e=>?_) fun e=>?_)⟩
  ·
   have J:nz (xs.take (i+1))=xs.take i:=by
    rw[cA c];unfold nz at k⊢;rw[fR,k];simp[e]
   refine CondP.intro (fun e1=>?_) fun _=>?_
   ·simp at e1
   rw[cM c (by omega)];refine LoopP.ghost (fun(g:Nat×Nat×List Int) (t:Int×Int) x=>t=((g.1:Int),(g.2.1:Int))∧g.1<g.2.1∧g.2.1≤xs.length∧OwnS u32 1 sV M x s g.2.2∧g.2.2.take g.1=nz (xs.take g.2.1)∧g.2.2.drop g.2.1=xs.drop g.2.1∧Upd M h' x) (fun g=>xs.length-g.2.1) (i,i+1,xs) ⟨rfl,by simp only;omega,by simp only;omega,m,J.symm,rfl,Upd.refl _ _⟩ ?_
   rintro R ⟨p,j,ys⟩ t x ⟨rfl,B,L,f,q,hd,y⟩ o;have f:OwnS u32 1 sV M x s ys:=f;have G:ys.length=xs.length:=f.len.symm.trans u;simp only at B L q hd⊢;refine aF (fun b=>?_) fun D=>?_
   ·have b:j<xs.length:=by omega
    have C:ys[j]'(by omega)=xs[j]:=by
     have:=congrArg List.head? hd;simpa[List.head?_drop,ax b,ax (show j<ys.length by omega)]using this
    obtain⟨a,z,_,hx⟩:=Nums.at (f.sl (W:=No) fun _ _ _ h=>h) (show j<ys.length by omega)
    rw[C]at hx;have v:ys.drop (j+1)=xs.drop (j+1):=by rw[←cS,hd,cS]
    refine Join.plain ⟨by omega,a,z,_,hx,Ul (CondP.intro (fun e=>?_) fun e=>?_)⟩
    ·have d:(!(xs[j]==0))=true:=e
     refine⟨by omega,?_⟩;rw[ak];refine OwnS.put1 f (i:=p) (by omega) xs[j] fun N w A=>?_
     rw[cM (i:=p) (n:=xs.length) (by omega) (by omega),cM b (by omega)];refine o (p+1,j+1,ys.set p xs[j]) _ _ ⟨rfl,by simp only;omega,by simp only;omega,w,?_,?_,y.tr A⟩ (by simp only;omega)
     ·simp only
      rw[cA (by rw[ox];omega),List.getElem_set_self,List.take_set_of_le (au _),q,cA b];unfold nz;rw[fR];simp[d]
     ·simp only
      rw[List.drop_set_of_lt (by omega),v]
    ·have d:(!(xs[j]==0))=false:=e
     rw[cM b (by omega)];refine o (p,j+1,ys) _ _ ⟨rfl,by simp only;omega,by simp only;omega,f,?_,v,y⟩ (by simp only;omega)
     simp only;rw[q,cA b];unfold nz;rw[fR];simp[d]
   ·have:j=xs.length:=by omega
    subst this;rw[bG]at q;refine⟨by omega,?_⟩;rw[ak];refine OwnS.cutZ (ys:=ys) f (by omega) fun N w A=>⟨by omega,?_⟩
    rw[q]at w;exact E _ _ w (y.tr A)
  ·rw[cM c (by omega)]
   refine O (i+1) _ _ ⟨rfl,rfl,by omega,?_⟩ (by omega)
   rw[cA c];unfold nz at k⊢;rw[fR,k];simp[e]
 ·have:i=xs.length:=by omega
  subst this;rw[bG]at k;rw[←k]at m;exact aA.2 (E s _ m (Upd.refl _ _))
end
end Go.Proofs
