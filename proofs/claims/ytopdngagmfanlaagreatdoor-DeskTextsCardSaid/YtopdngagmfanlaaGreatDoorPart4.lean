/- A part of the proof that the named laws of this program answer true, whatever the input. -/
import Derived.Test.YtopdngagmfanlaaGreatDoorPart3
import Derived.Shelf.Strconv.Itoa1
import Derived.Shelf.Strconv.Itoa2
import Derived.Lib.ItoaNum
import Derived.Lib.ItoaMem
import Derived.Lib.ItoaLen
import Derived.Shelf.LaysM
import Derived.Lib.ParseIntB
import Derived.Shelf.Pu.Lays
import Derived.Test.YtopdngagmfanlaaGreatDoorTreeF0
import Derived.Test.YtopdngagmfanlaaGreatDoorTreeF1
import Derived.Test.YtopdngagmfanlaaGreatDoorTreeF2
import Derived.Shelf.Pu.ParseUintPublic10
import Derived.Test.YtopdngagmfanlaaGreatDoorPart1
import Derived.Test.YtopdngagmfanlaaGreatDoorLift3
import Derived.IntWalk
open Array renaming replicate→jO,size_replicate→ka
open Bool renaming true_and→dj,false_and→iA
open ByteArray renaming ext→wd,data_extract→gB
open Go.IntKind renaming wrap→ac
open Int renaming toNat_natCast→ak
open List renaming length_map→gK,getElem?_eq_some_iff→aZ,replicate→bF,all_cons→wb,mem_cons→ar,length_cons→ay,flatMap_cons→bK,map_cons→cN,replicate_succ→iW,append_assoc→aM,length_append→aj,length_singleton→bO,map_append→lO,getElem?_eq_getElem→ah,getElem_mem→bZ,take_succ_eq_append_getElem→cA,mem_append→bD,mem_singleton→aO,take_length→bJ,any_eq_true→cp,mem_map→fy,nodup_cons→lN,pairwise_cons→cf,mem_cons_of_mem→aK,mem_filter→dR,length_filter_le→gR,length_set→oL,length_take→be,drop_drop→cT,drop_left'→cD,filter_append→fU
open List.Pairwise renaming nil→j9
open Nat renaming mul_comm→xW,beq→az,one_pos→pn,le_refl→av,zero_le→aV,not_lt→jr,lt_of_lt_of_le→aQ,le_trans→aU
namespace Go.Proofs
open Go Go.Lift Go.RowKit Go.Sort
def Tab10(h:ad):Prop:=∃t fz,h[3]? =some (.cells (Lib.pow10Tab.map fun z=>Value.int .u64 z).toArray t fz)
theorem Tab10.upd{M:Nat→Prop}{h h':ad}(t:Tab10 h)(k:Upd M h h')(d:¬M 3):Tab10 h':=let⟨a,b,c⟩:=t;⟨a,b,k.get c d⟩
theorem Tab10.upd0{h h':ad}(t:Tab10 h)(k:Upd No h h'):Tab10 h':=t.upd k id
theorem zL(n:Nat):dL n=Lib.decDigits n:=by
 induction n using Nat.strongRecOn with
 |ind n ih=>
  by_cases h:n<10
  ·rw[oJ h,Lib.decDigits,dif_pos h]
  ·rw[xO h,Lib.decDigits,dif_neg h,ih (n/10) (by omega)]
theorem U5{n:Nat}(a:n<100){h:ad}{K:ByteArray→ad→Prop}(b:K (aG (dL n)) h):HC PG om [.int .i64 (n:Int)] [.c .str] K h:=
 HC.same (v:=.string (aG (dL n))) Tryz.call103 (aG (dL n)) rfl (fun w=>by rw[zL];exact Any.internal_strconv_small Jb n a w) b
theorem VO:PG.globalNamed "internal/strconv.uint64pow10" =some 3:=by kernel_rfl
theorem LI{u:Nat}(f:1≤u)(d:u<18446744073709551616){h:ad}(b:Tab10 h){K:Int→ad→Prop}(c:K (Lib.nDigits u:Int) h):HC PG iM [.int .u64 (u:Int)] [.c (.int .i64)] K h:=by
 refine HC.shelf Tryz.call104 fun w g=>?_
 subst g;obtain⟨t,j,b⟩:=b;refine(Any.internal_strconv_numDigits Ht u f d w ?_).mono fun e w' ⟨i,a⟩=>?_
 ·unfold Lib.TabIs World.var?
  rw[VO];simp[b]
 ·subst a
  exact⟨⟨rfl,rfl,rfl⟩,(Lib.nDigits u:Int),i,c⟩
theorem T4{u g:Nat}(B:u<18446744073709551616){h:ad}{t:TypeId}(x:h[g]? =some (.cells Lib.zeros24 t (0,0))) {K:Unit→ad→Prop} (C:∀h',SRow h' (some ⟨g,0,none⟩) (Lib.nDigits u) (cL (aG (dL u)))→Upd (· =g) h h'→K () h'):
  HC PG kg [.slice (some ⟨g,0,none⟩) (Lib.nDigits u) 24,.int .u64 (u:Int)] [] K h:=by
 refine HC.shelf Tryz.call105 fun w D=>?_
 subst D;have z:=Lib.nDigits_le20 u B;have y:Holds (fun(b:UInt8)=>Value.int .u8 (b.toNat:Int)) w g 0 (jO (Lib.nDigits u) 0):=fun j q=>by
  have q:j<Lib.nDigits u:=by simpa using q
  refine⟨?_,by simp[World.frozen?,x]⟩
  rw[show(jO (Lib.nDigits u) (0:UInt8))[j]! =0 from by simp[q]]
  have:=Lib.zeros24_at j (by omega);simp[World.cell?,x,this]
 have A:=Any.internal_strconv_formatBase10 I7 g 0 24 u _ w y (by rw[ka];exact Lib.lt_pow_nDigits u) B (by rw[ka];omega);rw[ka]at A;refine A.mono ?_;rintro e w' ⟨E,k,F,p,a,m⟩;have d:(dL u).length=Lib.nDigits u:=by rw[zL,Lib.decDigits_length]
 have n:w'.heap=(putRow (fun(b:UInt8)=>Value.int .u8 (b.toNat:Int)) w g 0 p).heap:=by rw[a];rfl
 refine⟨by rw[a];exact⟨rfl,rfl,rfl⟩,(),E,C _ ⟨?_,.inr ⟨_,rfl,fun i v s=>?_⟩⟩ ⟨?_,fun c _ z=>?_⟩⟩
 ·rw[pk,CZ,gK];exact d
 ·rw[pk,CZ,List.getElem?_map]at s
  obtain⟨b,f,rfl⟩:=Option.map_eq_some_iff.1 s;have hi:i<(dL u).length:=(aZ.1 f).1;have hc:=cell?_putRow _ w g 0 _ p y (by rw[m.size,ka]) i (by rw[m.size];omega);have o:b=p[i]!:=by
   rw[←Lib.row_is_numeral m i (by rw[←zL];exact hi)];have f:(dL u)[i]? =some b:=f;rw[zL]at f;exact(aZ.1 f).2.symm
  rw[n,ci,o];exact hc
 ·rw[n];simp[putRow,mapBlock]
 ·rw[n]
  simp only[putRow,mapBlock,Array.getElem?_modify];rw[if_neg (fun e=>z e.symm)]
theorem qR{n:Nat}(a:n<18446744073709551616){h:ad}(j:Tab10 h){K:ByteArray→ad→Prop}(b:∀h',Upd No h h'→K (aG (dL n)) h'):HC PG fX [.int .u64 (n:Int),.int .i64 10] [.c .str] K h:=by
 refine zU (n:Int) 10 ?_;unfold rH AZ;refine rE (n:Int) 10 ?_;unfold li Zu;refine CondP.intro (fun _=>aF (fun c=>?_) fun c=>?_) fun e=>absurd e (by decide)
 ·rw[kO (by omega)]
  exact U5 (by omega) (b h (Upd.refl _ _))
 ·have b1:=bI h (bF 24 (.int .u8 0)) Aj
  have k1:=Upd.hnew No h (bF 24 (.int .u8 0)) Aj;refine bj ?_;show HC PG iM _ _ _ (hnew h (bF 24 (.int .u8 0)) Aj)
  generalize hnew h (bF 24 (.int .u8 0)) Aj=h1 at b1 k1;have i:=Lib.nDigits_le20 n a;refine LI (by omega) a (j.upd0 k1) ⟨⟨by omega,by omega⟩,?_⟩
  rw[show aY (some (aH h)) 0 24 1=some ⟨h.size,0,none⟩from rfl,ak,Nat.sub_zero]
  refine T4 a (g:=h.size) (t:=Aj) b1 fun f r u=>⟨⟨by omega,by omega⟩,aG (dL n),r,b f (k1.trans u fun y d=>.inr (by have d:y=h.size:=d;omega))⟩
end Go.Proofs
namespace Go.Proofs
open Go Go.Lift
abbrev KI(l:List UInt8)(a:Nat):Nat:=l.foldl (fun a c=>10*a+(c.toNat-48)) a
theorem En:∀(l:List UInt8) (a u:Nat),Lib.parseUintM 18446744073709551615 a l=.ok u→l.all Jh=true∧KI l a=u∧(a<18446744073709551616→u<18446744073709551616)
 | [],a,u,h=>by
  have h:(Lib.NumEnd.ok a:Lib.NumEnd Nat)=.ok u:=h;cases h;exact⟨rfl,rfl,id⟩
 |c::l,a,u,h=>by
  unfold Lib.parseUintM at h;split at h
  ·rename_i hc
   split at h
   ·cases h
   ·split at h
    ·cases h
    ·obtain⟨b,d,e⟩:=En l _ u h
     refine⟨by rw[wb,b,Gw.2 hc];rfl,?_,fun _=>e (by omega)⟩
     show KI l (10*a+(c.toNat-48))=u
     rw[xW 10 a];exact d
  ·cases h
theorem Hj:∀(l:List UInt8) (a:Nat),l.all Jh=true→KI l a<18446744073709551616→Lib.parseUintM 18446744073709551615 a l=.ok (KI l a)
 | [],a,_,_=>rfl
 |c::l,a,b,d=>by
  rw[wb,Bool.and_eq_true]at b;obtain⟨hc,b⟩:=b;have hc:=Gw.1 hc;have d:KI l (10*a+(c.toNat-48))<18446744073709551616:=d;have e:=LY l (10*a+(c.toNat-48));have e:10*a+(c.toNat-48)≤KI l (10*a+(c.toNat-48)):=e;unfold Lib.parseUintM;rw[if_pos hc,if_neg (by omega),if_neg (by omega),xW a 10,Hj l _ b d];rfl
theorem Ql(l:List UInt8):mI l=match Lib.parseUintB 64 l with
  | .ok u=>if dL u=l then some u else none
  |_=>none:=by
 have b:2^64-1=18446744073709551615:=by decide
 unfold Lib.parseUintB mI;by_cases c:l= []
 ·subst c;rfl
 ·rw[if_neg c,b]
  by_cases hc:l.all Jh=true∧mz l<18446744073709551616
  ·have e:=Hj l 0 hc.1 hc.2
   have e:Lib.parseUintM 18446744073709551615 0 l=.ok (mz l):=e;rw[e];by_cases hd:dL (mz l)=l
   ·rw[if_pos ⟨c,hc.1,hc.2,hd⟩];simp only[if_pos hd]
   ·rw[if_neg fun h=>hd h.2.2.2];simp only[if_neg hd]
  ·rw[if_neg fun h=>hc ⟨h.2.1,h.2.2.1⟩]
   cases e:Lib.parseUintM 18446744073709551615 0 l
   ·rename_i u
    obtain⟨d,a,f⟩:=En l 0 u e;have a:mz l=u:=a;exact absurd ⟨d,by rw[a];exact f (by omega)⟩ hc
   ·rfl
   ·rfl
end Go.Proofs
set_option maxRecDepth 100000
namespace Go.Proofs
open Go Go.Lift Go.Shelf
def renP:Ren:=⟨fun n=>bif az n 14 then 39 else bif az n 16 then 71 else bif az n 17 then 72 else bif az n 19 then 97 else bif az n 20 then 98 else bif az n 21 then 99 else bif az n 22 then 100 else bif az n 23 then 101 else bif az n 24 then 102 else bif az n 25 then 127 else bif az n 26 then 128 else bif az n 27 then 63 else bif az n 28 then 91 else bif az n 29 then 125 else bif az n 30 then 103 else bif az n 31 then 104 else bif az n 32 then 105 else bif az n 33 then 106 else bif az n 34 then 129 else bif az n 35 then 130 else bif az n 36 then 131 else bif az n 37 then 132 else bif az n 38 then 133 else bif az n 39 then 189 else bif az n 40 then 190 else 0,
 fun n=>bif az n 0 then 0 else bif az n 2 then 2 else bif az n 3 then 3 else bif az n 4 then 4 else bif az n 5 then 5 else bif az n 9 then 9 else bif az n 20 then 20 else bif az n 21 then 21 else bif az n 22 then 52 else bif az n 24 then 99 else bif az n 25 then 100 else bif az n 34 then 159 else bif az n 36 then 32 else bif az n 37 then 95 else bif az n 39 then 160 else bif az n 44 then 198 else bif az n 47 then 141 else bif az n 48 then 253 else bif az n 50 then 255 else bif az n 52 then 163 else bif az n 55 then 166 else bif az n 59 then 202 else bif az n 60 then 23 else bif az n 61 then 203 else bif az n 65 then 333 else bif az n 66 then 334 else bif az n 67 then 107 else 0,
 fun n=>bif az n 0 then 1 else bif az n 1 then 2 else bif az n 2 then 3 else bif az n 3 then 6 else bif az n 4 then 7 else 0⟩
theorem tE:LaysPu.n14 PG renP:=by constructor<;>first|kernel_rfl|(intro w;kernel_rfl)
end Go.Proofs
namespace Go.Proofs
open Go Go.Lift Go.RowKit
theorem wL{w w':World}(b:Below w.heap.size w w'):Upd No w.heap w'.heap:=⟨b.size,fun k a _=>b.block k a⟩
theorem xP{B:Nat}{w w':World}(b:Below B w w'):Tame w w':=⟨b.os,b.tape,b.output⟩
structure Laid(h:ad):Prop where
 tab:Tab10 h
 e1:∃t v,aD h ⟨1,0,none⟩=some (.iface t v)
 e2:∃t v,aD h ⟨2,0,none⟩=some (.iface t v)
theorem Laid.upd{M:Nat→Prop}{h h':ad}(l:Laid h)(k:Upd M h h')(d:∀y,M y→4≤y):Laid h':=
 ⟨l.tab.upd k fun e=>absurd (d _ e) (by omega),let⟨a,b,c⟩:=l.e1;⟨a,b,k.cell c fun e=>absurd (d _ e) (by decide)⟩,let⟨a,b,c⟩:=l.e2;⟨a,b,k.cell c fun e=>absurd (d _ e) (by decide)⟩⟩
theorem Laid.upd0{h h':ad}(l:Laid h)(k:Upd No h h'):Laid h':=l.upd k fun _ h=>h.elim
theorem LA{x:ByteArray}(hx:x.size≤1000000){h:ad}(l:Laid h){K:Int×Value→ad→Prop}
  (a:∀h' e,Upd No h h'→XP e.2=true→(match Lib.parseUintB 64 x.data.toList with| .ok u=>e=((u:Int),Value.nilIface)|_=>Tm e.2=false)→K e h'):
  HC PG sr [.string x,.int .i64 10,.int .i64 64] [.c (.int .u64),.c .raw] K h:=by
 refine HC.shelf Tryz.call39 fun w f=>?_
 subst f;obtain⟨m,j,c1⟩:=l.e1;obtain⟨i,k,g⟩:=l.e2;cases hp:Lib.parseUintB 64 x.data.toList
 ·rename_i u
  rw[hp]at a;refine(Any.strconv_ParseUint_10_at64_ok tE x (by omega) u hp w).mono fun e w' ⟨c,d⟩=>?_
  rcases d with rfl|rfl
  ·exact⟨⟨rfl,rfl,rfl⟩,((u:Int),Value.nilIface),c,a _ _ (Upd.refl _ _) rfl rfl⟩
  ·have b:=Lib.bytesWorld_below w (renP.t 5) x
   exact⟨xP b,((u:Int),Value.nilIface),c,a _ _ (wL b) rfl rfl⟩
 ·rw[hp]at a
  refine(Any.strconv_ParseUint_10_at64_syntax tE x (by omega) hp _ w c1 (.inr ⟨_,_,rfl⟩)).mono fun e w' ⟨N,c,_,_,b⟩=>?_
  exact⟨xP b,((0:Int),Value.iface (renP.t 39) (.pointer (some ⟨N,0,none⟩))),c,a _ _ (wL b) rfl rfl⟩
 ·rw[hp]at a
  refine(Any.strconv_ParseUint_10_at64_range tE x (by omega) hp _ w g (.inr ⟨_,_,rfl⟩)).mono fun e w' ⟨N,c,_,_,b⟩=>?_
  exact⟨xP b,((18446744073709551615:Int),Value.iface (renP.t 39) (.pointer (some ⟨N,0,none⟩))),c,a _ _ (wL b) rfl rfl⟩
theorem Vr{l:List UInt8}{u:Nat}(h:Lib.parseUintB 64 l=.ok u):u<18446744073709551616:=by
 unfold Lib.parseUintB at h;split at h
 ·cases h
 ·exact(En l 0 u h).2.2 (by omega)
theorem Aq{x:ByteArray}(hx:x.size≤1000000){h:ad}(l:Laid h){K:Int×Bool→ad→Prop}(a:∀h',Upd No h h'→K (Vv (mI x.data.toList)) h'):HC PG lQ [.string x] [.c (.int .u64),.c .bool] K h:=by
 refine Jx x ?_;unfold Bl vl5 AZ;rw[Ql]at a;refine LA hx l fun g e k1 c b=>Join.plain ⟨c,?_⟩
 cases hp:Lib.parseUintB 64 x.data.toList
 ·rename_i u
  rw[hp]at b a;have a:∀h',Upd No h h'→K (Vv (if dL u=x.data.toList then some u else none)) h':=a
  have b:e=((u:Int),Value.nilIface):=b;subst b;refine af.2 (qR (Vr hp) (l.tab.upd0 k1) fun f d=>?_)
  rw[di];by_cases hd:dL u=x.data.toList
  ·have e:aG (dL u)=x:=by rw[hd]
   rw[if_pos hd]at a;rw[e,decide_eq_true rfl];exact af.2 (a _ (k1.tr d))
  ·have e:aG (dL u)≠x:=fun e=>hd (by rw[←e])
   rw[if_neg hd]at a;rw[decide_eq_false e];exact aA.2 (a _ (k1.tr d))
 ·rw[hp]at b a
  have b:Tm e.2=false:=b;rw[b];exact aA.2 (aA.2 (a _ k1))
 ·rw[hp]at b a
  have b:Tm e.2=false:=b;rw[b];exact aA.2 (aA.2 (a _ k1))
end Go.Proofs
namespace Go.Proofs
open Go Go.Lift
def ix(c:UInt8):List UInt8→List (List UInt8)
 | []=> [[]]
 |a::l=>if a=c then[]::ix c l else match ix c l with
  | []=> [[a]]
  |w::ws=>(a::w)::ws
theorem GB(c:UInt8):∀l,ix c l≠[]
 | []=>by simp[ix]
 |a::l=>by
  unfold ix;split
  ·simp
  ·split<;>simp
theorem wI{c:UInt8}:∀{l:List UInt8},c∉l→ix c l= [l]
 | [],_=>rfl
 |a::l,h=>by
  unfold ix;rw[if_neg (fun e=>h (by rw[e];simp)),wI fun e=>h (by simp[e])]
theorem zO{c:UInt8}{r:List UInt8}:∀{l:List UInt8},c∉l→ix c (l++c::r)=l::ix c r
 | [],_=>by show ix c (c::r)=_;rw[ix,if_pos rfl]
 |a::l,h=>by
  show ix c (a::(l++c::r))=_
  rw[ix,if_neg (fun e=>h (by rw[e];simp)),zO fun e=>h (by simp[e])]
theorem HB(c:UInt8):∀l:List UInt8,c∈l→∃u r,l=u++c::r∧c∉u∧Lib.indexByte l c=(u.length:Int)
 | [],h=>by simp at h
 |a::l,h=>by
  by_cases e:a=c
  ·subst e
   exact⟨[],l,rfl,by simp,by simp[Lib.indexByte]⟩
  ·have h:c∈l:=by
    rcases ar.1 h with h|h
    ·exact absurd h.symm e
    ·exact h
   obtain⟨u,r,e1,e2,b⟩:=HB c l h;refine⟨a::u,r,by rw[e1];rfl,by simp[e2,Ne.symm e],?_⟩
   have f:(a==c)=false:=by simpa using e
   have d:(Lib.indexByte l c== -1)=false:=by rw[b,beq_eq_false_iff_ne];omega
   simp only[Lib.indexByte,f,d,Bool.false_eq_true,if_false,ay];rw[b];omega
abbrev Cm(w:List UInt8):List Value:= [.string (aG w)]
theorem yS(w:List UInt8):(Cm w).length=1∧0<1:=⟨rfl,pn⟩
theorem Ol:∀l:List (List UInt8),l.flatMap Cm=l.map fun w=>Value.string (aG w)
 | []=>rfl
 |a::l=>by rw[bK,cN,Ol l];rfl
theorem Ni{l:List Value}{k:Nat}{z v:Value}:((l++bF (k+1) z).toArray).setIfInBounds (l.length*1) v=(l++ [v]++bF k z).toArray:=by
 apply Array.ext';rw[Array.toList_setIfInBounds];simp[iW]
theorem V0(u r:List UInt8):(aG (u++r)).extract 0 u.length=aG u:=by
 apply wd;rw[gB];simp
theorem VZ(u r:List UInt8)(n:Nat)(a:n=(u++r).length):(aG (u++r)).extract u.length n=aG r:=by
 subst a;apply wd;rw[gB];simp
theorem Uq(n:Nat)(v:Value):dw n [v]=bF n v:=by
 unfold dw;induction n with
 |zero=>rfl
 |succ n ih=>rw[iW,List.flatten_cons,ih];rfl
theorem Cx{x:ByteArray}{c:UInt8}(hx:x.size≤1000000){h:ad}{K:SliceV→ad→Prop}(V:∀h' s,OwnS Cm 1 bR (fun y=>h.size≤y) h' s (ix c x.data.toList)→Upd No h h'→K s h'):
  HC PG ng [.string x,.string ⟨#[c]⟩] [.c .slice] K h:=by
 refine Mo x ⟨#[c]⟩ ?_;unfold DF YJ;refine Ga x ⟨#[c]⟩ 0 (-1) ?_;unfold yu cU bM eu ZB;refine CondP.intro (fun e=>absurd e (by decide)) fun _=>CondP.intro (fun e=>?_) fun _=>Join.plain (aF (fun _=>TS ?_) fun c=>absurd (by decide) c)
 ·rw[Ar]at e;simp at e
 have E:=List.count_le_length (a:=c) (l:=x.data.toList);have W:=nI x;obtain⟨n,J⟩:∃n,x.data.toList.count c=n:=⟨_,rfl⟩;rw[J]at E⊢;have e1:ac .i64 ((n:Int)+1)=((n+1:Nat):Int):=by rw[kO (by omega)];omega
 have e2:ac .i64 ((x.size:Int)+1)=((x.size+1:Nat):Int):=by rw[kO (by omega)];omega
 rw[e1,e2];refine Ft ?_;rw[if_neg (by omega)];refine⟨⟨by omega,Int.le_refl _,by omega,by omega⟩,bj ?_⟩
 rw[ak,Uq];have k1:=Upd.hnew No h (bF (n+1) (Value.string ⟨#[]⟩)) bR;have b1:=bI h (bF (n+1) (Value.string ⟨#[]⟩)) bR;generalize hnew h (bF (n+1) (Value.string ⟨#[]⟩)) bR=h1 at k1 b1;have N:ac .i64 (((n+1:Nat):Int)-1)=(n:Int):=by rw[kO (by omega)];omega
 refine Join.intro (fun(t:ByteArray×Int) d=>∃(done:List (List UInt8)) (r:List UInt8),t=(aG r,(done.length:Int))∧done.length=n∧c∉r∧ix c x.data.toList=done++ [r]∧d[h.size]? =some (.cells ((done.map fun w=>Value.string (aG w))++bF 1 (Value.string ⟨#[]⟩)).toArray bR (0,0))∧Upd (· =h.size) h1 d) (fun R L=>?_) ?_
 ·refine LoopP.ghost (fun(g:List (List UInt8)×List UInt8) (t:ByteArray×Int) d=>t=(aG g.2,(g.1.length:Int))∧g.1.length+g.2.count c=n∧g.2.length≤1000000∧ix c x.data.toList=g.1++ix c g.2∧d[h.size]? =some (.cells ((g.1.map fun w=>Value.string (aG w))++bF (n+1-g.1.length) (Value.string ⟨#[]⟩)).toArray bR (0,0))∧Upd (· =h.size) h1 d) (fun g=>g.2.length) ([],x.data.toList) ⟨rfl,by simpa using J,by simp only;omega,rfl,by simpa using b1,Upd.refl _ _⟩ ?_
  rintro I ⟨done,r⟩ t d ⟨rfl,hc,S,b,b2,u⟩ O;simp only at hc S b b2;rw[N];refine aF (fun o=>?_) fun D=>?_
  ·have j:done.length<n:=by have:(done.length:Int)<(n:Int):=o;omega
   clear o;have B:c∈r:=List.count_pos_iff.1 (by omega);obtain⟨p,q,rfl,G,m⟩:=HB c r B;have F:p.count c=0:=List.count_eq_zero.2 G;have i:(p++c::q).length=p.length+(q.length+1):=by simp
   refine Kz ?_;rw[show Lib.indexByte (aG (p++c::q)).data.toList c=(p.length:Int)from by rw[show(aG (p++c::q)).data.toList=p++c::q from by simp];exact m]
   refine aF (fun P=>absurd P (by omega)) fun _=>?_
   have U:ac .i64 ((p.length:Int)+0)=(p.length:Int):=by rw[kO (by omega)];omega
   have T:ac .i64 ((p.length:Int)+((⟨#[c]⟩:ByteArray).size:Int))=((p.length+1:Nat):Int):=by rw[show((⟨#[c]⟩:ByteArray).size:Int)=1 from rfl,kO (by omega)];omega
   have es:(aG (p++c::q)).size=p.length+(q.length+1):=by rw[cu,i]
   simp only[U,T,es,ak];refine⟨⟨by omega,by omega⟩,⟨by omega,by omega⟩,_,rfl,?_⟩
   rw[show n+1-done.length=(n-done.length)+1 from by omega]at b2
   have hset:=Ni (l:=done.map fun w=>Value.string (aG w)) (k:=n-done.length) (z:=Value.string ⟨#[]⟩) (v:=.string (aG p))
   rw[gK]at hset;rw[V0];refine kP b2 (by simp) hset fun H b3 C=>⟨⟨by omega,by omega⟩,Ft ?_⟩
   have Q:(aG (p++c::q)).extract (p.length+1) (p.length+(q.length+1))=aG q:=by
    have:=VZ (p++ [c]) q (p.length+(q.length+1)) (by simp<;>omega)
    rw[aM]at this;simpa using this
   rw[Q,cM (n:=n) j (by omega)];refine O (done++ [p],q) _ _ ⟨by simp,?_,by simp only;omega,?_,?_,u.tr C⟩ (by simp only;omega)
   ·rw[List.count_append,List.count_cons_self,F]at hc
    simp only[aj,bO];omega
   ·rw[b,zO G,aM];rfl
   ·simp only[lO,cN,List.map_nil,aj,bO]
    rw[show n+1-(done.length+1)=n-done.length from by omega];exact b3
  ·have hd:done.length=n:=by have:¬(done.length:Int)<(n:Int):=D;omega
   have f:c∉r:=List.count_eq_zero.1 (by omega);refine L _ _ ⟨done,r,rfl,hd,f,by rw[b,wI f],?_,u⟩
   rw[hd,show n+1-n=1 from by omega]at b2;exact b2
 ·rintro t d ⟨done,r,rfl,hd,f,b,b2,u⟩
  have hset:=Ni (l:=done.map fun w=>Value.string (aG w)) (k:=0) (z:=Value.string ⟨#[]⟩) (v:=.string (aG r))
  rw[gK]at hset;rw[show ac .i64 ((done.length:Int)+1)=((done.length+1:Nat):Int)from by rw[kO (by omega)];omega]
  simp only[ak];refine⟨⟨by omega,by omega⟩,_,rfl,kP b2 (by simp) hset fun H b3 C=>⟨⟨by omega,by omega⟩,Ft (Ft (Ft ?_))⟩⟩
  refine V H _ ⟨?_,yS,by simp only;omega,.inr ⟨h.size,[],?_,av _,?_,?_⟩⟩ ((k1.trans u fun y A=>.inr (by have A:y=h.size:=A;omega)).trans C fun y A=>.inr (by have A:y=h.size:=A;omega))
  ·rw[b];simp
  ·show aY (some (aH h)) 0 (n+1) 1=_
   unfold aY;rw[if_neg (by omega)];rfl
  ·rw[b,Ol];simpa using b3
  ·simp only[List.length_nil];omega
end Go.Proofs
namespace Go.Proofs
open Go.Lift
abbrev u32(x:Int):List Value:= [.int .u32 x]
theorem Bt(x:Int):(u32 x).length=1∧0<1:=⟨rfl,pn⟩
abbrev Nums(W:Nat→Prop)(h:ad)(s:SliceV)(xs:List Int):Prop:=Sl u32 1 W h s xs
theorem Nums.at{W:Nat→Prop}{h:ad}{s:SliceV}{xs:List Int}(b:Nums W h s xs){i:Nat}(hi:i<xs.length):∃a,s.a=some a∧¬W a.block∧aD h (adr a (((i:Int)).toNat*1))=some (.int .u32 xs[i]):=
 b.at0 (g:=fun x=>.int .u32 x) (ah hi)
theorem LQ{W:Nat→Prop}{s:SliceV}{xs:List Int}{e:Value}{p:Int→Bool}(St:ad→Prop)(m:∀h,St h→Nums W h s xs)
  (z:∀h x (K:Bool→ad→Prop),St h→x∈xs→(∀h',St h'→K (p x) h')→HV PG e [.int .u32 x] [.c .bool] K h)
  (y:xs.length≤4611686018427387904){h:ad}(v:St h){K:Int→ad→Prop}(o:∀(n:Int) h',St h'→(n≥0↔∃x∈xs,p x=true)→K n h'):
  HC PG fQ [.slice s.a s.len s.cap,e] [.c (.int .i64)] K h:=by
 refine lH s e ?_;unfold iP bi cU;refine LoopP.ghost (fun(i:Nat) (t:Int) h'=>t=(i:Int)∧St h'∧i≤xs.length∧∀x∈xs.take i,p x=false) (fun i=>xs.length-i) 0 ⟨rfl,v,aV _,by simp⟩ ?_
 rintro I i t h' ⟨rfl,g,hi,j⟩ u;have d:=m _ g;refine aF (fun b=>?_) (fun f=>?_)
 ·rw[d.len]at b
  have b:i<xs.length:=by omega
  obtain⟨a,q,_,hx⟩:=Nums.at d b;refine⟨by rw[d.len];omega,a,q,_,hx,?_⟩;refine z _ _ _ g (bZ b) fun A c=>?_
  refine CondP.intro (fun w=>?_) (fun k=>?_)
  ·exact o _ _ c ⟨fun _=>⟨_,bZ b,w⟩,fun _=>by omega⟩
  ·rw[cM b y]
   refine u (i+1) _ _ ⟨rfl,c,b,?_⟩ (by omega);rw[cA b];intro x hx;rcases bD.1 hx with h|h
   ·exact j x h
   ·rw[aO.1 h];exact k
 ·rw[d.len]at f
  have:i=xs.length:=by omega
  subst this;rw[bJ]at j;exact o _ _ g ⟨fun h=>by omega,fun⟨x,hx,h⟩=>by rw[j x hx]at h;cases h⟩
theorem F6{W:Nat→Prop}{s:SliceV}{xs:List Int}{a:Value}{p:Int→Bool}(St:ad→Prop)(c:∀h,St h→Nums W h s xs)
  (g:∀h x (K:Bool→ad→Prop),St h→x∈xs→(∀h',St h'→K (p x) h')→HV PG a [.int .u32 x] [.c .bool] K h)
  (b:xs.length≤4611686018427387904){h:ad}(f:St h){K:Bool→ad→Prop}(d:∀h',St h'→K (xs.any p) h'):
  HC PG gM [.slice s.a s.len s.cap,a] [.c .bool] K h:=by
 refine qh s a ?_;unfold ki;refine LQ St c g b f fun n h' e b=>?_
 have:decide (n≥0)=xs.any p:=by
  rw[Bool.eq_iff_iff,decide_eq_true_iff,b,cp]
 rw[this];exact d _ e
theorem Wh{W:Nat→Prop}{h:ad}{s:SliceV}{xs:List Int}(d:Nums W h s xs)(m:xs.length*4≤140737488355328){K:SliceV→ad→Prop}
  (g:∀s' h',OwnS u32 1 oa (fun b=>h.size≤b) h' s' xs→Upd No h h'→(s.a=none→xs= [])→K s' h'):HC PG ke [.slice s.a s.len s.cap] [.c .slice] K h:=by
 refine vX s ?_;unfold oz;refine CondP.intro (fun i=>?_) (fun c=>?_)
 ·have i:s.a=none:=by simpa using i
  have hx:xs= []:=by
   by_cases hx:xs= []
   ·exact hx
   ·obtain⟨a,k,_⟩:=d.row hx
    rw[i]at k;cases k
  subst hx;exact g _ _ (OwnS.nil Bt) (Upd.refl _ _) fun _=>rfl
 ·have j:=d.upd (Upd.hnew No h [] oa) (fun _ h=>h.elim)
  refine⟨_,j.srow,?_⟩;refine AppP.own (f:=u32) (M:=fun b=>h.size≤b) (xs:= []) (ys:=xs) ⟨rfl,Bt,av _,.inl rfl⟩ d.len rfl ?_ rfl (by omega) (by simpa using m) (by rw[eT];omega) fun s' h' n o=>?_
  ·clear g d j m
   induction xs with
   |nil=>rfl
   |cons x xs ih=>rw[bK];exact ih
  ·refine g _ _ n ((Upd.hnew No h [] oa).trans o fun b p=>.inr p) fun e=>?_
   rw[e]at c;cases c
end Go.Proofs
namespace Go.Proofs
open Go.Lift
abbrev KE:KeyE Int:=abt .u32
abbrev hG:=List (Int×List Int)
def Rep(W:Nat→Prop)(h:ad)(m:List (Int×SliceV))(L:hG):Prop:=
 ∀id,(∃s ps,dM m id=some s∧dM L id=some ps∧Nums W h s ps)∨(dM m id=none∧dM L id=none)
structure GraphAt(W:Nat→Prop)(h:ad)(gp gm:Nat)(L:hG)(nx:Int):Prop where
 blk:h[gp]? =some (.cells #[.map (some gm),.int .u32 nx] qO (0,0))
 map:∃m,MapAt KE sv h gm m∧Rep W h m L
 wp:W gp
 wm:W gm
 lt:∀b,W b→b<h.size
 nd:(L.map (·.1)).Nodup
theorem Rep.upd{W M:Nat→Prop}{h h':ad}{m:List (Int×SliceV)}{L:hG}(r:Rep W h m L)(k:Upd M h h')(hm:∀b,M b→W b∨h.size≤b):Rep W h' m L:=fun id=>by
 rcases r id with⟨s,ps,a,d,e⟩|c
 ·exact .inl ⟨s,ps,a,d,e.upd k hm⟩
 ·exact .inr c
theorem GraphAt.upd{W M:Nat→Prop}{h h':ad}{gp gm:Nat}{L:hG}{nx:Int}(g:GraphAt W h gp gm L nx)(k:Upd M h h')(hm:∀b,M b→(W b∧b≠gp∧b≠gm)∨h.size≤b):GraphAt W h' gp gm L nx:=by
 have a:=g.lt;have i:¬M gp:=fun e=>(hm _ e).elim (fun e=>e.2.1 rfl) fun e=>absurd (a _ g.wp) (jr.2 e)
 have f:¬M gm:=fun e=>(hm _ e).elim (fun e=>e.2.2 rfl) fun e=>absurd (a _ g.wm) (jr.2 e)
 obtain⟨m,c,j⟩:=g.map;exact⟨k.get g.blk i,⟨m,c.upd k f,j.upd k fun b d=>(hm b d).imp (·.1) id⟩,g.wp,g.wm,fun b d=>aQ (a b d) k.size,g.nd⟩
theorem GraphAt.upd0{W:Nat→Prop}{h h':ad}{gp gm:Nat}{L:hG}{nx:Int}(g:GraphAt W h gp gm L nx)(k:Upd No h h'):GraphAt W h' gp gm L nx:=g.upd k fun _ h=>h.elim
theorem GraphAt.c0{W:Nat→Prop}{h:ad}{gp gm:Nat}{L:hG}{nx:Int}(g:GraphAt W h gp gm L nx):aD h ⟨gp,0,none⟩=some (.map (some gm)):=by rw[bc g.blk];rfl
theorem GraphAt.c1{W:Nat→Prop}{h:ad}{gp gm:Nat}{L:hG}{nx:Int}(g:GraphAt W h gp gm L nx):aD h ⟨gp,1,none⟩=some (.int .u32 nx):=by rw[bc g.blk];rfl
abbrev ids(L:hG):List Int:=L.map (·.1)
theorem VL{L:hG}{id:Int}:(dM L id).isSome=decide (id∈ids L):=by
 cases h:dM L id with
 |none=>rw[decide_eq_false (qD.1 h)];rfl
 |some v=>
  have:id∈ids L:=by
   by_cases hm:id∈ids L
   ·exact hm
   ·rw[qD.2 hm]at h;cases h
  rw[decide_eq_true this];rfl
theorem Rep.some{W:Nat→Prop}{h:ad}{m:List (Int×SliceV)}{L:hG}(r:Rep W h m L)(id:Int):(dM m id).isSome=decide (id∈ids L):=by
 rw[←VL];rcases r id with⟨s,ps,a,b,_⟩|⟨a,b⟩<;>rw[a,b]<;>rfl
theorem Rep.len{W:Nat→Prop}{h:ad}{m:List (Int×SliceV)}{L:hG}(r:Rep W h m L)(a:(m.map (·.1)).Nodup)(b:(ids L).Nodup):m.length=L.length:=by
 have:(m.map (·.1)).Perm (ids L):=by
  rw[List.perm_ext_iff_of_nodup a b];intro id;have:=r.some id;have c:id∈m.map (·.1)↔(dM m id).isSome=true:=by
   cases hl:dM m id with
   |none=>simp[qD.1 hl]
   |some v=>
    simp only[Option.isSome_some,iff_true];by_cases hm:id∈m.map (·.1)
    ·exact hm
    ·rw[qD.2 hm]at hl;cases hl
  rw[c,this,decide_eq_true_iff]
 have:=this.length_eq;simpa using this
def abC:List Int→Bool
 | [a,b]=>a==b
 |_=>false
def CN(ps:List Int):Int:=if ps.length>2∨abC ps=true then 1 else 0
def uE(L:hG)(ps:List Int):Int:=if ps.any (fun p=> !decide (p∈ids L))then 4 else if L.length≥1024 then 6 else 0
theorem Se{W:Nat→Prop}{h:ad}{gp gm:Nat}{L:hG}{nx:Int}(g:GraphAt W h gp gm L nx)(id:Int){K:Bool→ad→Prop}(a:K (decide (id∈ids L)) h):
  HC PG me [.pointer (some ⟨gp,0,none⟩),.int .u32 id] [.c .bool] K h:=by
 refine Dw (some ⟨gp,0,none⟩) id ?_;unfold vq bi;obtain⟨m,hm,b⟩:=g.map;refine CondP.intro (fun e=>by cases e) fun _=>⟨_,rfl,_,g.c0,_,_,hm.get id ⟨none,0,0⟩,?_⟩
 rw[b.some id];exact a
theorem XV{W:Nat→Prop}{h:ad}{p:Option Addr}{s:SliceV}{ps:List Int}(d:Nums W h s ps){K:Int→ad→Prop}(c:K (CN ps) h):
  HC PG pM [.pointer p,.slice s.a s.len s.cap] [.c (.int .i64)] K h:=by
 refine Dv p s ?_;unfold vo bi cU;refine Join.plain (aF (fun g=>?_) fun m=>CondP.intro (fun f=>?_) fun b=>?_)
 ·rw[d.len]at g
  rw[show CN ps=1 from if_pos (.inl (by omega))]at c
  exact aA.2 c
 ·rw[d.len]at f
  have f:ps.length=2:=by
   have:(ps.length:Int)=2:=by simpa using f
   omega
  obtain⟨a,n,_,hx⟩:=Nums.at d (i:=0) (by omega);obtain⟨a',k,_,o⟩:=Nums.at d (i:=1) (by omega);refine⟨by rw[d.len];omega,a,n,_,hx,by rw[d.len];omega,a',k,_,o,?_⟩
  have e:CN ps=if(ps[0]==ps[1])=true then 1 else 0:=by
   match ps,f with
   | [x,y],_=>simp[CN,abC]
  rw[e]at c;exact CondP.intro (fun j=>by rw[if_pos j]at c;exact c) fun j=>by rw[if_neg (by rw[j];decide)]at c;exact c
 ·rw[d.len]at m b
  have b:ps.length≠2:=fun e=>by rw[e]at b;exact absurd b (by decide)
  have hd:abC ps=false:=by
   match ps,b with
   | [],_=>rfl
   | [_],_=>rfl
   | [_,_],h=>exact absurd rfl h
   |_::_::_::_,_=>rfl
  rw[show CN ps=0 from if_neg (by rw[hd];simp;omega)]at c
  exact af.2 c
theorem VP{W:Nat→Prop}{h:ad}{gp gm:Nat}{L:hG}{nx:Int}(g:GraphAt W h gp gm L nx){s:SliceV}{ps:List Int}(o:Nums W h s ps)(u:ps.length≤4611686018427387904)
  {K:Int→ad→Prop}(b:∀h',Upd No h h'→K (uE L ps) h'):HC PG oV [.pointer (some ⟨gp,0,none⟩),.slice s.a s.len s.cap] [.c (.int .i64)] K h:=by
 refine B8 (some ⟨gp,0,none⟩) s ?_;unfold ui bi;have j:=Upd.hnew No h [.pointer (some ⟨gp,0,none⟩)] rR;refine F6 (p:=fun p=> !decide (p∈ids L)) (fun h'=>GraphAt W h' gp gm L nx∧Nums W h' s ps∧h'[h.size]? =some (.cells #[.pointer (some ⟨gp,0,none⟩)] rR (0,0))∧Upd No h h') (fun h' k=>k.2.1) ?_ u ⟨g.upd0 j,o.upd j fun _ h=>h.elim,bI h _ _,j⟩ ?_
 ·rintro h' x K ⟨c,d,f,a⟩ _ i
  refine HV.mk' (zX x ⟨h.size,0,none⟩ ?_);unfold rK Ea;refine⟨_,by rw[bc f];rfl,?_⟩
  exact Se c x (i h' ⟨c,d,f,a⟩)
 ·rintro h' ⟨c,d,f,a⟩
  obtain⟨m,hm,v⟩:=c.map;refine CondP.intro (fun t=>?_) fun e=>?_
  ·rw[show uE L ps=4 from if_pos t]at b
   exact b h' a
  ·refine⟨_,by rw[df,bc f];rfl,_,rfl,_,c.c0,_,hm.len,?_⟩
   rw[v.len hm.nodup c.nd];refine aF (fun n=>?_) fun q=>?_
   ·rw[show uE L ps=6 from(if_neg (by rw[e];decide)).trans (if_pos (by omega))]at b
    exact b h' a
   ·rw[show uE L ps=0 from(if_neg (by rw[e];decide)).trans (if_neg (by omega))]at b
    exact b h' a
end Go.Proofs
namespace Go.Proofs
open Go.Lift
def CR(L:hG)(id:Int)(ps:List Int):hG:=L.takeWhile (fun v=>decide (v.1<id))++(id,ps)::L.dropWhile (fun v=>decide (v.1<id))
def mr(L:hG)(nx:Int)(ps:List Int):(Int×Int)×hG×Int:=
 if CN ps≠0 then((0,CN ps),L,nx)else if uE L ps≠0 then((0,uE L ps),L,nx)else if nx≥2147483648 then((0,6),L,nx)else((nx,0),CR L nx ps,nx+1)
def YX(L:hG)(nx:Int)(id:Int)(ps:List Int):Int×hG×Int:=
 if CN ps≠0∨id=0∨id≥2147483648∨ps.any (fun p=>decide (p≥id))=true then(1,L,nx)else if id∈ids L then(7,L,nx)else if uE L ps≠0 then(uE L ps,L,nx)else(0,CR L id ps,if id+1>nx then id+1 else nx)
abbrev Il(a b:Nat):Nat→Prop:=fun x=>x=a∨x=b
theorem K0{κ β:Type}[DecidableEq κ](l a:List (κ×β))(k:κ):dM (l++a) k=(dM l k).or (dM a k):=by
 induction l with
 |nil=>simp[dM]
 |cons p l ih=>
  obtain⟨k',u⟩:=p;simp only[List.cons_append,dM,ih];split<;>simp
theorem TB{L:hG}{id:Int}{ps:List Int}(c:id∉ids L)(j:Int):dM (CR L id ps) j=if j=id then some ps else dM L j:=by
 have b:∀p:Int×List Int→Bool,dM L j=(dM (L.takeWhile p) j).or (dM (L.dropWhile p) j):=fun p=>by rw[←K0,List.takeWhile_append_dropWhile]
 unfold CR;rw[K0];simp only[dM];by_cases a:j=id
 ·subst a
  have:dM (L.takeWhile fun v=>decide (v.1<j)) j=none:=qD.2 fun hm=>c (by
   obtain⟨x,hx,e⟩:=fy.1 hm
   exact fy.2 ⟨x,List.takeWhile_subset _ hx,e⟩)
  rw[this];simp
 ·simp only[a,if_false]
  exact(b _).symm
theorem Au(L:hG)(id:Int)(ps:List Int):(CR L id ps).Perm ((id,ps)::L):=by
 unfold CR;refine List.perm_middle.trans ?_;rw[List.takeWhile_append_dropWhile]
theorem insV_ids{L:hG}{id:Int}{ps:List Int}:(ids (CR L id ps)).Perm (id::ids L):=(Au L id ps).map _
theorem QD{L:hG}{id:Int}{ps:List Int}(h:(ids L).Nodup)(a:id∉ids L):(ids (CR L id ps)).Nodup:=by
 rw[insV_ids.nodup_iff];exact lN.2 ⟨a,h⟩
theorem Rep.put{W:Nat→Prop}{h h':ad}{m:List (Int×SliceV)}{L:hG}(r:Rep W h m L){id:Int}{s:SliceV}{ps:List Int}(i:∀s xs,Nums W h s xs→Nums W h' s xs)(b:Nums W h' s ps)(g:id∉ids L):Rep W h' (pP m id s) (CR L id ps):=fun j=>by
 rw[T5,TB g];by_cases a:j=id
 ·simp only[a,if_true];exact .inl ⟨s,ps,rfl,rfl,b⟩
 ·simp only[a,if_false]
  rcases r j with⟨s,ps,d,c,f⟩|e
  ·exact .inl ⟨s,ps,d,c,i s ps f⟩
  ·exact .inr e
theorem GraphAt.ne{W:Nat→Prop}{h:ad}{gp gm:Nat}{L:hG}{nx:Int}(g:GraphAt W h gp gm L nx):gm≠gp:=fun e=>by
 obtain⟨m,⟨ms,c,hm,_⟩,_⟩:=g.map;have:=hm.here;rw[e,g.blk]at this;cases this
theorem GraphAt.put{W:Nat→Prop}{h:ad}{gp gm:Nat}{L:hG}{nx:Int}(g:GraphAt W h gp gm L nx){id:Int}{s:SliceV}{ps:List Int}(n:Nums W h s ps)(p:id∉ids L)(f:Int):
  GraphAt W (hset (m9 h gm (.int .u32 id) (sv s)) ⟨gp,1,none⟩ (.int .u32 f)) gp gm (CR L id ps) f∧Upd (Il gp gm) h (hset (m9 h gm (.int .u32 id) (sv s)) ⟨gp,1,none⟩ (.int .u32 f))∧
   Wr (m9 h gm (.int .u32 id) (sv s)) ⟨gp,1,none⟩∧aD (m9 h gm (.int .u32 id) (sv s)) ⟨gp,1,none⟩=some (.int .u32 nx)∧Upd (Il gp gm) h (m9 h gm (.int .u32 id) (sv s)):=by
 obtain⟨m,hm,q⟩:=g.map;have j:=g.ne;have k1:Upd (· =gm) h (m9 h gm (.int .u32 id) (sv s)):=ww h _ _ rfl
 have a:=k1.get g.blk (Ne.symm j);have o:Upd (· =gp) (m9 h gm (.int .u32 id) (sv s)) (hset (m9 h gm (.int .u32 id) (sv s)) ⟨gp,1,none⟩ (.int .u32 f)):=Upd.hset _ _ rfl
 have i:Upd (Il gp gm) h (m9 h gm (.int .u32 id) (sv s)):=k1.mono fun b d=>.inl (.inr d)
 have k:Upd (Il gp gm) h (hset (m9 h gm (.int .u32 id) (sv s)) ⟨gp,1,none⟩ (.int .u32 f)):=i.trans o fun b d=>.inl (.inl d)
 have c:∀b,Il gp gm b→W b∨h.size≤b:=fun b d=>.inl (d.elim (fun e=>e▸g.wp) fun e=>e▸g.wm)
 refine⟨⟨?_,⟨_,(MapAt.put hm id s).upd o j,q.put (fun s xs n=>n.upd k c) (n.upd k c) p⟩,g.wp,g.wm,fun b d=>aQ (g.lt b d) k.size,QD g.nd p⟩,k,i5 a (by simp),by rw[bc a];rfl,i⟩
 rw[HF a,jx a];rfl
theorem XW{W:Nat→Prop}{h:ad}{gp gm:Nat}{L:hG}{nx:Int}(g:GraphAt W h gp gm L nx)(z:0≤nx)(o:nx∉ids L){s:SliceV}{ps:List Int}(t:Nums W h s ps)(D:ps.length*4≤140737488355328)
  {K:Int×Int→ad→Prop}(d:∀h',Upd (Il gp gm) h h'→GraphAt W h' gp gm (mr L nx ps).2.1 (mr L nx ps).2.2→K (mr L nx ps).1 h'):
  HC PG pN [.pointer (some ⟨gp,0,none⟩),.slice s.a s.len s.cap] [.c (.int .u32),.c (.int .i64)] K h:=by
 refine Dx (some ⟨gp,0,none⟩) s ?_;unfold vr bi bM WP gE;refine CondP.intro (fun e=>by cases e) fun _=>XV t ?_
 refine CondP.intro (fun a=>?_) fun a=>?_
 ·have a:CN ps≠0:=by simpa using a
  rw[show mr L nx ps=_ from if_pos a]at d
  exact d h (Upd.refl _ _) g
 ·have a:¬CN ps≠0:=by simpa using a
  refine VP g t (by omega) fun h' i=>?_
  refine CondP.intro (fun c=>?_) fun c=>?_
  ·have c:uE L ps≠0:=by simpa using c
   rw[show mr L nx ps=_ from(if_neg a).trans (if_pos c)]at d
   exact d h' i.wide (g.upd0 i)
  ·have c:¬uE L ps≠0:=by simpa using c
   have f:=g.upd0 i;have u:=t.upd i fun _ h=>h.elim
   refine⟨_,rfl,_,f.c1,aF (fun q=>?_) fun q=>?_⟩
   ·rw[show mr L nx ps=_ from(if_neg a).trans ((if_neg c).trans (if_pos q))]at d
    exact d h' i.wide f
   ·refine⟨_,rfl,_,f.c1,_,rfl,_,f.c0,Wh u D fun s' n v j _=>?_⟩
    have p:=f.upd0 j;obtain⟨m,hm,E⟩:=p.map;have k:Nums W n s' ps:=v.sl fun b A _ B=>absurd (f.lt b B) (jr.2 A)
    obtain⟨x,w,y,C,_⟩:=p.put k o (nx+1);refine⟨p.c0,_,rfl,hm.isMap,_,rfl,_,C,_,rfl,y,?_⟩;rw[show ac .u32 (nx+1)=nx+1 from Go.IntWalk.u32_in _ (by omega)]
    rw[show mr L nx ps=_ from(if_neg a).trans ((if_neg c).trans (if_neg q))]at d
    exact d _ ((i.wide.tr j.wide).tr w) x
end Go.Proofs
namespace Go.Proofs
open Go.Lift
theorem XU{h:ad}{K:Option Addr→ad→Prop}(d:∀h',Upd No h h'→GraphAt (Il (h.size+1) h.size) h' (h.size+1) h.size [] 1→K (some ⟨h.size+1,0,none⟩) h'):
  HC PG dI [] [.c .ptr] K h:=by
 refine O5 ?_;unfold FM;have k1:=Upd.push No h (.map #[] 0);have hm:MapAt KE sv (h.push (.map #[] 0)) h.size []:=MapAt.new h;have c:=Upd.hnew No (h.push (.map #[] 0)) [.map (some h.size),.int .u32 1] qO;have a:(h.push (.map #[] 0)).size=h.size+1:=by simp
 have:=d _ (k1.tr c) ⟨by
  have:=bI (h.push (.map #[] 0)) [.map (some h.size),.int .u32 1] qO
  rw[a]at this;exact this,⟨[],hm.upd c id,fun id=>.inr ⟨rfl,rfl⟩⟩,.inl rfl,.inr rfl,fun b e=>by rw[eT,a];rcases e with rfl|rfl<;>omega,List.nodup_nil⟩
 rw[←a]at this;exact this
end Go.Proofs
namespace Go.Proofs
open Go.Lift
abbrev parV(L:hG)(id:Int):List Int:=(dM L id).getD []
inductive UpG(L:hG):Int→Int→Prop
 |refl {a:Int}:a∈ids L→UpG L a a
 |step {a p b:Int}:a∈ids L→p∈parV L a→UpG L p b→UpG L a b
theorem UpG.left{L:hG}{a b:Int}(h:UpG L a b):a∈ids L:=by cases h<;>assumption
theorem GraphAt.more{W Q:Nat→Prop}{c h:ad}{gp gm:Nat}{L:hG}{nx:Int}(g:GraphAt W c gp gm L nx)(k:Upd No c h)(d:∀b,Q b→c.size≤b∧b<h.size):GraphAt (fun b=>W b∨Q b) h gp gm L nx:=by
 obtain⟨m,hm,n⟩:=g.map;refine⟨k.get0 g.blk,⟨m,hm.upd k id,fun j=>?_⟩,.inl g.wp,.inl g.wm,fun b a=>a.elim (fun a=>aQ (g.lt b a) k.size) fun a=>(d b a).2,g.nd⟩
 rcases n j with⟨s,ps,f,e,i⟩|c
 ·exact .inl ⟨s,ps,f,e,(i.less fun b a=>a.imp id fun a=>(d b a).1).upd k fun _ h=>h.elim⟩
 ·exact .inr c
theorem GraphAt.less{W W':Nat→Prop}{h:ad}{gp gm:Nat}{L:hG}{nx:Int}(g:GraphAt W h gp gm L nx)(e:∀b,W' b→W b)(c:W' gp)(a:W' gm):GraphAt W' h gp gm L nx:=by
 obtain⟨m,hm,k⟩:=g.map;refine⟨g.blk,⟨m,hm,fun j=>?_⟩,c,a,fun b d=>g.lt b (e b d),g.nd⟩
 rcases k j with⟨s,ps,c,a,i⟩|f
 ·exact .inl ⟨s,ps,c,a,i.less fun b d=>.inl (e b d)⟩
 ·exact .inr f
end Go.Proofs
namespace Go.Proofs
open Go.Lift
structure Small(L:hG):Prop where
 two:∀v∈L,v.2.length≤2
 len:L.length≤100000
end Go.Proofs
namespace Go.Proofs
open Go.Lift
structure Good(L:hG):Prop extends Small L where
 up:(ids L).Pairwise (· < ·)
 par:∀v∈L,∀p∈v.2,p∈ids L∧p<v.1
theorem Good.nd{L:hG}(g:Good L):(ids L).Nodup:=g.up.imp fun h=>Int.ne_of_lt h
theorem Good.parV{L:hG}(g:Good L){a p:Int}(h:p∈parV L a):p∈ids L∧p<a∧a∈ids L:=by
 unfold Proofs.parV at h;cases hl:dM L a with
 |none=>rw[hl]at h;simp at h
 |some ps=>
  rw[hl]at h;have hm:=(KZ g.nd).1 hl;have:=g.par _ hm p (by simpa using h);exact⟨this.1,this.2,fy.2 ⟨_,hm,rfl⟩⟩
theorem UpG.snoc{L:hG}{a z w:Int}(h:UpG L a z)(b:w∈Proofs.parV L z)(hi:w∈ids L):UpG L a w:=by
 induction h with
 |refl h1=>exact .step h1 b (.refl hi)
 |step h1 h2 _ ih=>exact .step h1 h2 (ih b)
theorem UpG.right{L:hG}{a b:Int}(h:UpG L a b):b∈ids L:=by
 induction h with
 |refl h=>exact h
 |step _ _ _ ih=>exact ih
theorem UpG.last{L:hG}{a b:Int}(h:UpG L a b):b=a∨∃z,UpG L a z∧b∈Proofs.parV L z:=by
 induction h with
 |refl _=>exact .inl rfl
 | @step a p b h1 h2 h3 ih=>
  rcases ih with rfl|⟨z,c,d⟩
  ·exact .inr ⟨a,.refl h1,h2⟩
  ·exact .inr ⟨z,.step h1 h2 c,d⟩
theorem UpG.trans{L:hG}{a b c:Int}(h:UpG L a b)(k:UpG L b c):UpG L a c:=by
 induction h with
 |refl _=>exact k
 |step h1 h2 _ ih=>exact .step h1 h2 (ih k)
end Go.Proofs
namespace Go.Proofs
open Go.Lift
structure Inv(L:hG)(nx:Int):Prop where
 good:Good L
 pos:∀id∈ids L,1≤id∧id<nx
 nx1:1≤nx
 nx2:nx≤2147483648
 few:L.length≤1024
theorem Inv.nil:Inv [] 1:=⟨⟨⟨fun v a=>(by cases a),by simp⟩,j9,fun v a=>(by cases a)⟩,fun v a=>(by cases a),by omega,by omega,by simp⟩
theorem L6{id:Int}:∀{L:hG},(ids L).Pairwise (· < ·)→id∉ids L→∀v∈L.dropWhile (fun v=>decide (v.1<id)),id<v.1
 | [],_,_,v,a=>by cases a
 |u::L,hp,hn,v,a=>by
  simp only[ids,cN,cf,ar,not_or]at hp hn;rw[List.dropWhile_cons]at a;split at a
  ·exact L6 hp.2 hn.2 v a
  ·rename_i h
   have h:¬u.1<id:=by simpa using h
   rcases ar.1 a with rfl|a
   ·omega
   ·have:=hp.1 v.1 (fy.2 ⟨v,a,rfl⟩);omega
theorem RN{id:Int}:∀{L:hG},∀v∈L.takeWhile (fun v=>decide (v.1<id)),v.1<id
 | [],v,a=>by cases a
 |u::L,v,a=>by
  rw[List.takeWhile_cons]at a;split at a
  ·rename_i h
   rcases ar.1 a with rfl|a
   ·simpa using h
   ·exact RN v a
  ·cases a
theorem Kw{L:hG}(g:Good L){id:Int}{ps:List Int}(i:id∉ids L)(f:∀p∈ps,p∈ids L∧p<id)(j:ps.length≤2)(m:L.length<100000):Good (CR L id ps):=by
 have a:=Au L id ps;refine⟨⟨fun v b=>?_,by rw[a.length_eq];simp;omega⟩,?_,fun v b p c=>?_⟩
 ·rcases ar.1 (a.mem_iff.1 b)with rfl|b
  ·exact j
  ·exact g.two v b
 ·unfold CR ids
  rw[lO,cN,List.pairwise_append];refine⟨(g.up.sublist ((List.takeWhile_sublist _).map _)),cf.2 ⟨fun y d=>?_,g.up.sublist ((List.dropWhile_sublist _).map _)⟩,fun x hx y d=>?_⟩
  ·obtain⟨v,b,rfl⟩:=fy.1 d
   exact L6 g.up i v b
  ·obtain⟨u,k,rfl⟩:=fy.1 hx
   have e:=RN u k;rcases ar.1 d with rfl|d
   ·exact e
   ·obtain⟨v,b,rfl⟩:=fy.1 d
    have:=L6 g.up i v b;omega
 ·rw[insV_ids.mem_iff]
  rcases ar.1 (a.mem_iff.1 b)with rfl|b
  ·exact⟨aK _ (f p c).1,(f p c).2⟩
  ·have:=g.par v b p c
   exact⟨aK _ this.1,this.2⟩
theorem HM{L:hG}{ps:List Int}(h:uE L ps=0):(∀p∈ps,p∈ids L)∧L.length<1024:=by
 unfold uE at h;split at h
 ·cases h
 ·rename_i h1
  split at h
  ·cases h
  ·rename_i h2
   refine⟨fun p a=>?_,by omega⟩
   by_cases hm:p∈ids L
   ·exact hm
   ·exact absurd (cp.2 ⟨p,a,by simpa using hm⟩) h1
theorem Kl{ps:List Int}(h:CN ps=0):ps.length≤2:=by
 unfold CN at h;split at h
 ·cases h
 ·rename_i h1
  have:=not_or.1 h1;omega
theorem Inv.add{L:hG}{nx:Int}(v:Inv L nx)(ps:List Int):Inv (mr L nx ps).2.1 (mr L nx ps).2.2:=by
 unfold mr;split
 ·exact v
 ·rename_i c
  split
  ·exact v
  ·rename_i b
   split
   ·exact v
   ·rename_i h3
    have c:CN ps=0:=by omega
    have b:uE L ps=0:=by omega
    obtain⟨e,g⟩:=HM b;have f:nx∉ids L:=fun hm=>by have:=(v.pos nx hm).2;omega
    show Inv (CR L nx ps) (nx+1)
    refine⟨Kw v.good f (fun p d=>⟨e p d,(v.pos p (e p d)).2⟩) (Kl c) (by have:=v.few;omega),fun id a=>?_,by have:=v.nx1;omega,by omega,?_⟩
    ·rcases ar.1 (insV_ids.mem_iff.1 a)with rfl|h
     ·have:=v.nx1;omega
     ·have:=v.pos id h;omega
    ·rw[(Au L nx ps).length_eq];simp;omega
theorem Inv.put{L:hG}{nx:Int}(v:Inv L nx){id:Int}(i:0≤id)(ps:List Int):Inv (YX L nx id ps).2.1 (YX L nx id ps).2.2:=by
 unfold YX;split
 ·exact v
 ·rename_i b
  have b:=not_or.1 b;have m:=b.1;have c:=not_or.1 b.2;have d:=not_or.1 c.2;split
  ·exact v
  ·rename_i h2
   split
   ·exact v
   ·rename_i f
    have g:CN ps=0:=by omega
    have f:uE L ps=0:=by omega
    obtain⟨o,q⟩:=HM f;have k:=v.nx1;refine⟨Kw v.good h2 (fun p e=>⟨o p e,?_⟩) (Kl g) (by have:=v.few;omega),fun j n=>?_,by simp only;split<;>omega,?_,?_⟩
    ·by_cases a:p<id
     ·exact a
     ·exact absurd (cp.2 ⟨p,e,by simpa using a⟩) d.2
    ·rcases ar.1 (insV_ids.mem_iff.1 n)with rfl|h
     ·simp only;split<;>omega
     ·have:=v.pos j h;simp only;split<;>omega
    ·have:=v.nx2;simp only;split<;>omega
    ·rw[(Au L id ps).length_eq];simp;omega
theorem Inv.drop{L:hG}{nx:Int}(v:Inv L nx){keep st:List Int}(d:∀y,y∈st↔∃k∈keep,UpG L k y):Inv (L.filter fun v=>decide (v.1∈st)) nx:=by
 have a:∀id,id∈ids (L.filter fun v=>decide (v.1∈st))↔id∈ids L∧id∈st:=fun id=>by
  unfold ids;simp only[fy,dR,decide_eq_true_iff];constructor
  ·rintro⟨u,⟨b,c⟩,rfl⟩;exact⟨⟨u,b,rfl⟩,c⟩
  ·rintro⟨⟨u,b,rfl⟩,c⟩;exact⟨u,⟨b,c⟩,rfl⟩
 refine⟨⟨⟨fun u g=>v.good.two u (dR.1 g).1,aU (gR ..) v.good.len⟩,v.good.up.sublist ((List.filter_sublist).map _),fun u g p i=>?_⟩,fun id e=>v.pos id ((a id).1 e).1,v.nx1,v.nx2,aU (gR ..) v.few⟩
 obtain⟨b,c⟩:=dR.1 g;obtain⟨j,n⟩:=v.good.par u b p i;refine⟨(a p).2 ⟨j,?_⟩,n⟩;obtain⟨k,m,f⟩:=(d _).1 (of_decide_eq_true c);refine(d p).2 ⟨k,m,f.snoc ?_ j⟩;have:dM L u.1=some u.2:=(KZ v.good.nd).2 b;simp[parV,this,i]
end Go.Proofs
namespace Go.Proofs
open Go Go.Lift
def N4(t u:Tr):Bool:=(t.1==u.1)&&((((t.2.1==u.2.1)&&((t.2.2.1==u.2.2.1)&&true)))&&((t.2.2.2.1==u.2.2.2.1)&&true))
theorem UZ{t u:Tr}{h:ad}{K:Bool→ad→Prop}(b:∀h',Upd No h h'→K (N4 t u) h'):HC PG zr [SM t,SM u] [.c .bool] K h:=by
 refine ON t u ?_;unfold Fw ao m6 im;refine cH fun d b1 k1=>cH fun c b2 a=>?_
 have c1:=a.get0 b1;refine⟨_,vc c1 0,_,vc b2 0,?_⟩;have:=b c (k1.tr a);unfold N4 at this;rcases hb:(t.1==u.1)with _|_
 ·rw[hb]at this
  exact af.2 this
 ·rw[hb]at this
  exact aA.2 ⟨_,xg c1 1 0,_,xg c1 1 1,_,xg c1 1 2,_,xg b2 1 0,_,xg b2 1 1,_,xg b2 1 2,this⟩
theorem TreeIs.plain{W:Nat→Prop}{h:ad}{kind:Int}{x:Hs}{t:Tr}{l:List Pr}(i:TreeIs W h kind x t l):(∀a,t.2.2.2.2.1=some a→ip h a)∧(∀a,t.2.2.2.2.2=some a→ip h a):=by
 rcases i with⟨rfl,b,rfl,t⟩|⟨rfl,b,rfl,t⟩
 ·obtain⟨s,nd,_⟩:=t
  obtain⟨d,n,sp,sk,ow,e,_⟩:=nd.ex;refine⟨fun a c=>?_,fun a c=>(by cases c)⟩
  cases c;exact⟨_,_,e,show 0<6 by decide⟩
 ·obtain⟨w,F,⟨val,s,ow,ks,e,_⟩,_⟩:=t.ex
  refine⟨fun a c=>(by cases c),fun a c=>?_⟩
  cases c;exact⟨_,_,e,show 0<5 by decide⟩
end Go.Proofs
namespace Go.Proofs
open Go Go.Lift
abbrev kStr:KeyE ByteArray:=⟨fun s=>.string s,.str,fun x=>⟨x,rfl⟩,fun x y=>⟨fun e=>yl e,fun e=>by subst e;exact zQ x⟩⟩
abbrev TD:=Tr×List Pr
abbrev aas(d:TD):Value:=SM d.1
abbrev XQ(n:Int):Value:=.int .u32 n
structure VS where
 gp:Nat
 gm:Nat
 tm:Nat
 bm:Nat
 nm:Nat
 kind:Int
 x:Hs
 e:Tr
 L:hG
 nx:Int
 D:List (Int×TD)
 B:List (ByteArray×Int)
 G:List (ByteArray×Int)
def VS.M(s:VS):Nat→Prop:=fun y=>y=s.gp∨y=s.gm∨y=s.tm∨y=s.bm∨y=s.nm
structure VaultAt(W:Nat→Prop)(h:ad)(vp:Nat)(s:VS):Prop where
 blk:h[vp]? =some (.cells (qf s.e++ [Value.pointer (some ⟨s.gp,0,none⟩),Value.map (some s.tm),Value.map (some s.bm),Value.map (some s.nm)]).toArray cj (0,0))
 g:GraphAt W h s.gp s.gm s.L s.nx
 t:MapAt KE aas h s.tm s.D
 b:MapAt kStr XQ h s.bm s.B
 n:MapAt kStr XQ h s.nm s.G
 w:∀y,s.M y→W y
 wv:¬W vp
 ne: [s.gp,s.gm,s.tm,s.bm,s.nm].Nodup
 em:TreeIs W h s.kind s.x s.e []
 ts:∀d∈s.D,TreeIs W h s.kind s.x d.2.1 d.2.2∧fe d.2.2∧Fit d.2.2
 sub:∀id,id∈s.D.map (·.1)↔id∈ids s.L
 inv:Inv s.L s.nx
 kd:s.kind=0∨s.kind=1
theorem VaultAt.upd{W M:Nat→Prop}{h h':ad}{c:Nat}{s:VS}(v:VaultAt W h c s)(k:Upd M h h')(hm:∀b,M b→(W b∧¬s.M b)∨h.size≤b):VaultAt W h' c s:=by
 have g:∀y,s.M y→¬M y:=fun y i a=>(hm y a).elim (fun e=>e.2 i) fun e=>absurd (v.g.lt y (v.w y i)) (by omega)
 have j:∀b,M b→W b∨h.size≤b:=fun b a=>(hm b a).imp (·.1) id
 have m:¬M c:=fun a=>(hm c a).elim (fun e=>v.wv e.1) fun e=>absurd (bB v.blk) (by omega)
 exact⟨k.get v.blk m,v.g.upd k fun b a=>(hm b a).imp (fun e=>⟨e.1,fun f=>e.2 (.inl f),fun f=>e.2 (.inr (.inl f))⟩) id,v.t.upd k (g _ (.inr (.inr (.inl rfl)))),v.b.upd k (g _ (.inr (.inr (.inr (.inl rfl))))),v.n.upd k (g _ (.inr (.inr (.inr (.inr rfl))))),v.w,v.wv,v.ne,v.em.updM k j,fun d hd=>⟨(v.ts d hd).1.updM k j,(v.ts d hd).2⟩,v.sub,v.inv,v.kd⟩
theorem VaultAt.upd0{W:Nat→Prop}{h h':ad}{a:Nat}{s:VS}(v:VaultAt W h a s)(k:Upd No h h'):VaultAt W h' a s:=v.upd k fun _ h=>h.elim
end Go.Proofs
namespace Go.Proofs
open Go Go.Lift
end Go.Proofs
namespace Go.Proofs
open Go Go.Lift
section
variable {W:Nat→Prop} {h:ad} {vp:Nat} {s:VS}
abbrev pV(a:Nat):Value:=.pointer (some ⟨a,0,none⟩)
theorem Xb(v:VaultAt W h vp s)(id:Int){K:Bool→ad→Prop}(a:K (decide (id=0∨id∈ids s.L)) h):HC PG pE [pV vp,.int .u32 id] [.c .bool] K h:=by
 refine Dh (some ⟨vp,0,none⟩) id ?_;unfold uY iQ Ea;refine CondP.intro (fun e=>?_) fun e=>⟨_,rfl,_,vc v.blk 6,Se v.g id ?_⟩
 ·rw[decide_eq_true (.inl (by simpa using e))]at a;exact a
 ·have e:id≠0:=by simpa using e
  rw[show decide (id=0∨id∈ids s.L)=decide (id∈ids s.L)from by simp[e]]at a;exact a
theorem MY(v:VaultAt W h vp s)(n:ByteArray){K:Int×Bool→ad→Prop}(a:K ((dM s.B n).getD 0,(dM s.B n).isSome) h):HC PG lr [pV vp,.string n] [.c (.int .u32),.c .bool] K h:=by
 refine BX (some ⟨vp,0,none⟩) n ?_;unfold tY bi;exact CondP.intro (fun e=>by cases e) fun _=>⟨_,rfl,_,vc v.blk 8,_,_,v.b.get n 0,a⟩
theorem UI(v:VaultAt W h vp s)(id:Int){K:Tr×Int→ad→Prop}(k:id=0→∀h',Upd No h h'→K (s.e,0) h')(i:∀d,dM s.D id=some d→id≠0→∀h',Upd No h h'→K (d.1,0) h')(j:dM s.D id=none→id≠0→∀h',Upd No h h'→K (D4,4) h'):
  HC PG jn [pV vp,.int .u32 id] [.agg [.int .i64,.int .u64,.int .u64,.int .u64,.ptr,.ptr],.c (.int .i64)] K h:=by
 refine BW (some ⟨vp,0,none⟩) id ?_;unfold tX bi ao eX nv wz iQ ae aq qo m6 im yE Zv F0;refine cH fun u b1 k1=>CondP.intro (fun e=>by cases e) fun _=>?_
 have c:=k1.get0 v.blk;refine CondP.intro (fun e=>⟨_,rfl,?_⟩) fun e=>⟨_,rfl,_,vc c 7,((dM s.D id).getD (D4,[])).1,_,(v.t.upd k1 fun h=>h).get id (D4,[]),cH fun o b2 q=>?_⟩
 ·refine⟨_,xg c 0 0,_,xg c 0 1,_,xg c 0 2,_,xg c 0 3,_,xg c 0 4,_,xg c 0 5,?_⟩
  refine cS (c:=qf D4) (vs:=qf s.e) b1 rfl fun o b2 m=>?_
  exact⟨_,vc b2 0,_,vc b2 1,_,vc b2 2,_,vc b2 3,_,vc b2 4,_,vc b2 5,k (by simpa using e) o (k1.own m (av _))⟩
 ·have e:id≠0:=by simpa using e
  have x:=bB b1;have w:=k1.size;refine cS (c:=qf D4) (vs:=qf ((dM s.D id).getD (D4,[])).1) b2 rfl fun t b3 f=>?_
  have g:=f.oth (q.get0 b1) (by omega);have p:Upd No h t:=(k1.tr q).own f k1.size;cases hl:dM s.D id with
  |none=>
   refine aA.2 (cS (c:=qf D4) (vs:=qf D4) g rfl fun n a b=>?_)
   exact⟨_,vc a 0,_,vc a 1,_,vc a 2,_,vc a 3,_,vc a 4,_,vc a 5,j hl e n (p.own b (av _))⟩
  |some d=>
   rw[hl]at b3;refine af.2 ⟨_,vc b3 0,_,vc b3 1,_,vc b3 2,_,vc b3 3,_,vc b3 4,_,vc b3 5,?_⟩;refine cS (c:=qf D4) (vs:=qf d.1) g rfl fun n a b=>?_
   exact⟨_,vc a 0,_,vc a 1,_,vc a 2,_,vc a 3,_,vc a 4,_,vc a 5,i d hl e n (p.own b (av _))⟩
theorem VaultAt.turn{M:Nat→Prop}{h':ad}{L:hG}{nx:Int}{D:List (Int×TD)}{B G:List (ByteArray×Int)}(v:VaultAt W h vp s)(k:Upd M h h')(hm:∀b,M b→W b∨h.size≤b)(g:GraphAt W h' s.gp s.gm L nx)(t:MapAt KE aas h' s.tm D)(b:MapAt kStr XQ h' s.bm B)(n:MapAt kStr XQ h' s.nm G)
  (ts:∀d∈D,d∈s.D∨TreeIs W h' s.kind s.x d.2.1 d.2.2∧fe d.2.2∧Fit d.2.2)(sub:∀id,id∈D.map (·.1)↔id∈ids L)(inv:Inv L nx):VaultAt W h' vp {s with L:=L,nx:=nx,D:=D,B:=B,G:=G}:=by
 have a:¬M vp:=fun c=>(hm vp c).elim (fun e=>v.wv e) fun e=>absurd (bB v.blk) (by omega)
 exact⟨k.get v.blk a,g,t,b,n,v.w,v.wv,v.ne,v.em.updM k hm,fun d hd=>(ts d hd).elim (fun e=>⟨(v.ts d e).1.updM k hm,(v.ts d e).2⟩) id,sub,inv,v.kd⟩
end
end Go.Proofs
namespace Go.Proofs
open Go Go.Lift
def wK(b:UInt8):Bool:=decide (33≤b.toNat)&&decide (b.toNat≤126)
def ft(n:ByteArray):Bool:=decide (1≤n.size)&&decide (n.size≤32)&&n.data.toList.all wK
theorem Wq{b:UInt8}{h:ad}{K:Bool→ad→Prop}(a:K (!wK b) h):HC PG rV [.int .u8 b.toNat] [.c .bool] K h:=by
 refine F7 b.toNat ?_;unfold yp;refine aF (fun e=>?_) fun e=>?_
 ·rw[show(!wK b)=true from by simp[wK];omega]at a;exact a
 ·rw[show(!wK b)=decide ((b.toNat:Int)>126)from by unfold wK;rw[decide_eq_true (by omega:33≤b.toNat),dj,←decide_not,decide_eq_decide];omega]at a;exact a
theorem tg{n:ByteArray}{h:ad}{K:Bool→ad→Prop}(f:∀h',Upd No h h'→K (ft n) h'):HC PG jd [.string n] [.c .bool] K h:=by
 refine Jm n ?_;unfold A9;refine Join.plain (aF (fun e=>aA.2 ?_) fun e=>aF (fun e2=>?_) fun e2=>?_)
 ·rw[show ft n=false from by simp[ft];omega]at f;exact f _ (Upd.refl _ _)
 ·rw[show ft n=false from by simp[ft];omega]at f;exact f _ (Upd.refl _ _)
 ·refine fun c hc=>?_
  have k1:=Upd.push No h (.cells (cL n++bF (c-n.size) (Value.int .u8 0)).toArray ll (c,c+1));have b1:=mF h (.cells (cL n++bF (c-n.size) (Value.int .u8 0)).toArray ll (c,c+1));generalize h.push (.cells (cL n++bF (c-n.size) (Value.int .u8 0)).toArray ll (c,c+1))=h1 at k1 b1;have a:n.data.toList.length=n.size:=Array.length_toList;refine pr ⟨some (aH h),n.size,c⟩ _ ?_
  unfold jE;refine qF ⟨some (aH h),n.size,c⟩ _ ?_;unfold kI bi cU;refine LoopP.ghost (fun(i:Nat) (t:Int) h'=>t=(i:Int)∧h'=h1∧i≤n.size∧∀b∈n.data.toList.take i,wK b=true) (fun i=>n.size-i) 0 ⟨rfl,rfl,aV _,by simp⟩ ?_
  rintro I i t h' ⟨rfl,rfl,hi,k⟩ m;refine aF (fun d=>?_) fun j=>?_
  ·have d:i<n.data.toList.length:=by rw[a];simp only at d;omega
   refine⟨by simp only;omega,aH h,rfl,(n.data.toList[i].toNat:Int),?_,?_⟩
   ·rw[QG b1,List.getElem?_toArray,ak,Nat.mul_one,List.getElem?_append_left (by simp[cL];omega)]
    simp[cL,a▸d]
   ·refine HV.mk' (Wq (b:=n.data.toList[i]) (CondP.intro (fun e=>?_) fun e=>?_))
    ·rw[show ft n=false from ?_]at f
     ·rw[decide_eq_true (by omega)];exact f _ k1
     ·unfold ft
      rw[show n.data.toList.all wK=false from List.all_eq_false.2 ⟨_,bZ d,by simpa using e⟩,Bool.and_false]
    ·rw[cM (n:=n.size) (by omega) (by omega)]
     refine m (i+1) _ _ ⟨rfl,rfl,by omega,?_⟩ (by omega)
     rw[cA d];intro b g;rcases bD.1 g with g|g
     ·exact k b g
     ·rw[aO.1 g];simpa using e
  ·have:i=n.size:=by simp only at j;omega
   subst this;rw[←a,bJ]at k;rw[show ft n=true from by unfold ft;rw[List.all_eq_true.2 k];simp;omega]at f
   exact f _ k1
def AH(B:List (ByteArray×Int))(L:hG)(n:ByteArray)(id:Int)(no:Bool):Int:=if ft n=false then 1 else if(dM B n).isSome then 7 else if no|| !decide (id=0∨id∈ids L)then 4 else if B.length≥256 then 6 else 0
theorem Yc{W:Nat→Prop}{h:ad}{f:Nat}{s:VS}(v:VaultAt W h f s){r:Nat}{B:List (ByteArray×Int)}(m:MapAt kStr XQ h r B)(n:ByteArray)(id:Int)(no:Bool){K:Int→ad→Prop}
  (j:∀h',Upd (· =r) h h'→MapAt kStr XQ h' r (if AH B s.L n id no=0 then pP B n id else B)→K (AH B s.L n id no) h'):HC PG pD [.map (some r),pV f,.string n,.int .u32 id,.bool no] [.c (.int .i64)] K h:=by
 refine Dg (some r) (some ⟨f,0,none⟩) n id no ?_;unfold uX Ea;refine⟨_,_,m.get n 0,tg fun k k1=>?_⟩
 have a:∀e h',AH B s.L n id no=e→e≠0→Upd No h h'→K e h':=fun e h' u p g=>by
  have:=j h' g.wide;rw[u,if_neg p]at this;exact this (m.upd g fun h=>h)
 refine CondP.intro (fun e=>a 1 k ?_ (by decide) k1) fun e=>CondP.intro (fun e2=>a 7 k ?_ (by decide) k1) fun e2=>?_
 ·unfold AH;rw[if_pos (by simpa using e)]
 ·unfold AH;rw[if_neg (by simpa using e),if_pos e2]
 ·have e:¬ft n=false:=by simpa using e
  have e2:¬(dM B n).isSome=true:=by simp[e2]
  refine Join.intro (fun t h'=>t=(no|| !decide (id=0∨id∈ids s.L))∧Upd No h h') (fun R i=>?_) ?_
  ·refine CondP.intro (fun b=>i _ _ ⟨by rw[b];rfl,k1⟩) fun b=>Xb (v.upd0 k1) id (i _ _ ⟨by rw[b];rfl,k1⟩)
  ·rintro t d ⟨rfl,c⟩
   refine CondP.intro (fun b=>a 4 d ?_ (by decide) c) fun b=>⟨_,(m.upd c fun h=>h).len,aF (fun q=>a 6 d ?_ (by decide) c) fun q=>?_⟩
   ·unfold AH;rw[if_neg e,if_neg e2,if_pos b]
   ·unfold AH;rw[if_neg e,if_neg e2,if_neg (by rw[b];decide),if_pos (by omega)]
   ·have o:=m.upd c fun h=>h
    have w:AH B s.L n id no=0:=by unfold AH;rw[if_neg e,if_neg e2,if_neg (by rw[b];decide),if_neg (by omega)]
    refine⟨r,rfl,o.isMap,?_⟩;have:=j _ ((c.wide).tr (ww (M:=(· =r)) d (.string n) (.int .u32 id) rfl))
    rw[w,if_pos rfl]at this;exact this (o.put n id)
theorem VS.neB{s:VS}(h: [s.gp,s.gm,s.tm,s.bm,s.nm].Nodup):s.gp≠s.gm∧s.gp≠s.tm∧s.gp≠s.bm∧s.gp≠s.nm∧s.gm≠s.tm∧s.gm≠s.bm∧s.gm≠s.nm∧s.tm≠s.bm∧s.tm≠s.nm∧s.bm≠s.nm:=by
 simp only[lN,ar,List.not_mem_nil,or_false,not_or]at h;exact⟨h.1.1,h.1.2.1,h.1.2.2.1,h.1.2.2.2,h.2.1.1,h.2.1.2.1,h.2.1.2.2,h.2.2.1.1,h.2.2.1.2,h.2.2.2.1⟩
theorem VaultAt.setB{W:Nat→Prop}{h h':ad}{f:Nat}{s:VS}{B:List (ByteArray×Int)}(v:VaultAt W h f s)(k:Upd (· =s.bm) h h')(b:MapAt kStr XQ h' s.bm B):VaultAt W h' f {s with B:=B}:=by
 obtain⟨q,u,j,o,p,m,n,i,t,c⟩:=VS.neB v.ne;have g:∀b,b=s.bm→W b:=fun b e=>v.w b (.inr (.inr (.inr (.inl e))))
 exact v.turn k (fun b e=>.inl (g b e)) (v.g.upd k fun b e=>.inl ⟨g b e,fun a=>j (a.symm.trans e),fun a=>m (a.symm.trans e)⟩) (v.t.upd k i) b (v.n.upd k fun e=>c e.symm) (fun d hd=>.inl hd) v.sub v.inv
theorem PD{W:Nat→Prop}{h:ad}{a:Nat}{s:VS}(v:VaultAt W h a s)(n:ByteArray)(id:Int){K:Int→ad→Prop}
  (c:∀h',Upd (· =s.bm) h h'→VaultAt W h' a {s with B:=if AH s.B s.L n id false=0 then pP s.B n id else s.B}→K (AH s.B s.L n id false) h'):HC PG mK [pV a,.string n,.int .u32 id] [.c (.int .i64)] K h:=by
 refine zS (some ⟨a,0,none⟩) n id ?_;unfold rF bi;exact CondP.intro (fun e=>by cases e) fun _=>⟨_,rfl,_,vc v.blk 8,Yc v v.b n id false fun h' b m=>c h' b (v.setB b m)⟩
end Go.Proofs
namespace Go.Proofs
open Go Go.Lift
abbrev rB:=List (List UInt8)×Bool
def cd(s:rB):List UInt8×rB:=match s.1 with
 | []=>([],([],false))
 |w::ws=>(w,(ws,s.2))
def bw(s:rB):List UInt8×rB:=((i7 (cd s).1).getD [],((cd s).2.1,(cd s).2.2&&(i7 (cd s).1).isSome))
def eI(most:Nat)(s:rB):Nat×rB:=((mI (cd s).1).getD 0,((cd s).2.1,(cd s).2.2&&((mI (cd s).1).isSome&&decide ((mI (cd s).1).getD 0≤most))))
def gT(s:rB):List UInt8×rB:=((cd s).1,((cd s).2.1,(cd s).2.2&&ft (aG (cd s).1)))
abbrev rdC(sp:SliceV)(ok:Bool):Array Value:= #[.slice sp.a sp.len sp.cap,.bool ok]
structure RdAt(W:Nat→Prop)(h:ad)(b:Nat)(s:rB):Prop where
 ex:∃sp:SliceV,h[b]? =some (.cells (rdC sp s.2) gj (0,0))∧Sl Cm 1 W h sp s.1∧sp.len≤sp.cap
 w:W b
 n:∀x∈s.1,x.length≤1000000
section
variable {W M:Nat→Prop} {h h':ad} {b:Nat} {s:rB}
theorem RdAt.upd(r:RdAt W h b s)(k:Upd M h h')(d:¬M b)(hm:∀y,M y→W y∨h.size≤y):RdAt W h' b s:=
 let⟨sp,hc,c,a⟩:=r.ex
 ⟨⟨sp,k.get hc d,c.upd k hm,a⟩,r.w,r.n⟩
theorem RdAt.upd0(r:RdAt W h b s)(k:Upd No h h'):RdAt W h' b s:=r.upd k id fun _ h=>h.elim
theorem RdAt.lt(r:RdAt W h b s):b<h.size:=let⟨_,hc,_⟩:=r.ex;bB hc
theorem RdAt.setOk(r:RdAt W h b s){o d:Bool}(e:o=d){k:ad→Prop}(f:∀h',RdAt W h' b (s.1,d)→Upd (· =b) h h'→k h'):Wr h (adr ⟨b,0,none⟩ 1)∧At (hset h (adr ⟨b,0,none⟩ 1) (.bool o)) k:=by
 subst e;obtain⟨sp,hc,g,i⟩:=r.ex;exact kP hc (by simp) rfl fun h' c u=>f h' ⟨⟨sp,c,g.upd u fun y a=>.inl (by have a:y=b:=a;rw[a];exact r.w),i⟩,r.w,r.n⟩ u
theorem th(r:RdAt W h b s){K:ByteArray→ad→Prop}(q:∀h',(cd s).1.length≤1000000→RdAt W h' b (cd s).2→Upd (· =b) h h'→K (aG (cd s).1) h'):HC PG fa [.pointer (some ⟨b,0,none⟩)] [.c .str] K h:=by
 obtain⟨ws,ok⟩:=s;have z:=r;obtain⟨sp,hc,j,B⟩:=r.ex;refine Cb (some ⟨b,0,none⟩) ?_;unfold ul bi cU bM bW;have d:=j.len;simp only at d;refine⟨_,rfl,sp,vc hc 0,CondP.intro (fun e=>⟨_,rfl,?_⟩) fun e=>⟨_,rfl,sp,vc hc 0,?_⟩⟩
 ·have e:sp.len=0:=by simpa using e
  have C:ws= []:=List.length_eq_zero_iff.1 (by omega);subst C;exact z.setOk rfl fun h' v u=>q h' (by simp[cd]) v u
 ·have e:sp.len≠0:=by simpa using e
  cases ws with
  |nil=>exact absurd d e
  |cons w ws=>
   simp only[ay]at d;obtain⟨a,n,A⟩:∃a,sp.a=some a∧aD h (adr a (0*1))=some (.string (aG w)):=by
    obtain⟨a,n,_,k⟩:=j.at0 (g:=fun w=>Value.string (aG w)) (i:=0) (x:=w) rfl
    exact⟨a,n,k⟩
   refine⟨⟨by omega,by omega⟩,a,n,aG w,A,_,rfl,sp,vc hc 0,⟨by omega,by omega⟩,_,rfl,kP hc (by simp) rfl fun h' p u=>?_⟩
   have f:=j.sub (l:=1) (hi:=sp.len) (m:=sp.cap) (c:=sp.cap-1) (by omega) (by simp only[ay];omega) B;refine q h' (r.n w (List.mem_cons_self ..)) ⟨⟨⟨aY sp.a 1 sp.cap 1,sp.len-1,sp.cap-1⟩,p,?_,?_⟩,r.w,fun x hx=>r.n x (aK _ hx)⟩ u
   ·have t:((w::ws).drop 1).take (sp.len-1)=ws:=by show ws.take _=_;exact List.take_of_length_le (by omega)
    have:=f.upd u fun y o=>.inl (by have o:y=b:=o;rw[o];exact r.w)
    rw[t]at this;exact this
   ·show sp.len-1≤sp.cap-1
    omega
theorem uD(r:RdAt W h b s){K:ByteArray→ad→Prop}(i:∀h',RdAt W h' b (bw s).2→Upd (· =b) h h'→K (aG (bw s).1) h'):HC PG ee [.pointer (some ⟨b,0,none⟩)] [.c .str] K h:=by
 refine Dy (some ⟨b,0,none⟩) ?_;unfold vt cI bM;refine th r fun q m n j=>UK (by rw[cu];exact m) fun p f=>?_
 have d:=n.upd0 f;obtain⟨sp,hc,_⟩:=d.ex;rw[show(aG (cd s).1).data.toList=(cd s).1 from by simp]
 have o:(Xz (i7 (cd s).1)).1=aG (bw s).1:=by unfold bw;cases i7 (cd s).1<;>rfl
 have k:(Xz (i7 (cd s).1)).2=(i7 (cd s).1).isSome:=by cases i7 (cd s).1<;>rfl
 rw[o,k];refine⟨_,rfl,(cd s).2.2,vc hc 1,CondP.intro (fun e=>⟨_,rfl,d.setOk rfl fun g a c=>i g ?_ ((j.trans f fun _ h=>h.elim).tr c)⟩) fun e=>⟨_,rfl,d.setOk rfl fun g a c=>i g ?_ ((j.trans f fun _ h=>h.elim).tr c)⟩⟩
 ·rw[bw,e,dj];exact a
 ·rw[bw,e,iA];exact a
theorem Gq(l:Laid h)(n:4≤b){most:Nat}(_:most<18446744073709551616)(r:RdAt W h b s){K:Int→ad→Prop}(j:∀h',RdAt W h' b (eI most s).2→Upd (· =b) h h'→K ((eI most s).1:Int) h'):
  HC PG fZ [.pointer (some ⟨b,0,none⟩),.int .u64 (most:Int)] [.c (.int .u64)] K h:=by
 refine zY (some ⟨b,0,none⟩) (most:Int) ?_;unfold rL cI bM;refine th r fun v p q i=>Aq (by rw[cu];exact p) (l.upd i fun y k=>by have k:y=b:=k;omega) fun u g=>?_
 have f:=q.upd0 g;obtain⟨sp,hc,_⟩:=f.ex;rw[show(aG (cd s).1).data.toList=(cd s).1 from by simp]
 have t:(Vv (mI (cd s).1)).1=((eI most s).1:Int):=by unfold eI;cases mI (cd s).1<;>rfl
 have o:(Vv (mI (cd s).1)).2=(mI (cd s).1).isSome:=by cases mI (cd s).1<;>rfl
 rw[t,o];refine⟨_,rfl,(cd s).2.2,vc hc 1,CondP.intro (fun e=>CondP.intro (fun e2=>⟨_,rfl,f.setOk rfl fun d a c=>j d ?_ ((i.trans g fun _ h=>h.elim).tr c)⟩) fun e2=>⟨_,rfl,f.setOk rfl fun d a c=>j d ?_ ((i.trans g fun _ h=>h.elim).tr c)⟩) fun e=>⟨_,rfl,f.setOk rfl fun d a c=>j d ?_ ((i.trans g fun _ h=>h.elim).tr c)⟩⟩
 ·have m:decide (((eI most s).1:Int)≤(most:Int))=decide ((mI (cd s).1).getD 0≤most):=by rw[decide_eq_decide];show((((mI (cd s).1).getD 0:Nat):Int)≤(most:Int))↔_;omega
  rw[m]at a;rw[eI,e,e2,dj,dj];exact a
 ·rw[eI,e,e2,dj,iA];exact a
 ·rw[eI,e,iA];exact a
theorem NX(r:RdAt W h b s){K:ByteArray→ad→Prop}(g:∀h',RdAt W h' b (gT s).2→Upd (· =b) h h'→K (aG (gT s).1) h'):HC PG lv [.pointer (some ⟨b,0,none⟩)] [.c .str] K h:=by
 refine Cc (some ⟨b,0,none⟩) ?_;unfold um cI bM;refine th r fun m n f j=>?_
 obtain⟨sp,hc,_⟩:=f.ex;refine⟨_,rfl,(cd s).2.2,vc hc 1,CondP.intro (fun e=>tg fun k i=>⟨_,rfl,(f.upd0 i).setOk rfl fun d a c=>g d ?_ ((j.trans i fun _ h=>h.elim).tr c)⟩) fun e=>⟨_,rfl,f.setOk rfl fun d a c=>g d ?_ (j.tr c)⟩⟩
 ·rw[gT,e,dj];exact a
 ·rw[gT,e,iA];exact a
end
end Go.Proofs
namespace Go.Proofs
open Go Go.Lift
section
variable {M:Nat→Prop} {h:ad} {s:SliceV} {xs ys:List Int}
theorem Lb(l:List Int):l.flatMap u32=l.map fun x=>Value.int .u32 x:=by
 induction l with
 |nil=>rfl
 |cons x l ih=>rw[bK,ih];rfl
theorem OwnS.put1(g:OwnS u32 1 oa M h s ys){i:Nat}(hi:i<ys.length)(x:Int){k:ad→Prop}(n:∀h',OwnS u32 1 oa M h' s (ys.set i x)→Upd M h h'→k h'):∃a,s.a=some a∧Wr h (adr a (i*1))∧At (hset h (adr a (i*1)) (.int .u32 x)) k:=by
 have c:=g.len;have d:=g.cap;rcases g.blk with t|⟨b,f,j,m,hc,o⟩
 ·omega
 refine⟨_,j,?_⟩;rw[Nat.mul_one];refine kP hc (by rw[List.size_toArray,aj,Lb,gK];omega) (List.setIfInBounds_toArray ..) fun p b2 q=>n p ⟨by rw[oL];exact c,Bt,d,.inr ⟨b,f,j,m,?_,o⟩⟩ (q.mono fun _ e=>.inl (e▸m))
 rw[b2,Lb,List.set_append_left _ _ (by rw[gK];exact hi),Lb,List.map_set]
theorem OwnS.cutZ(c:OwnS u32 1 oa M h s ys){i:Nat}(hi:i<ys.length){k:ad→Prop}(q:∀h',OwnS u32 1 oa M h' ⟨aY s.a 0 s.cap 1,i-0,s.cap-0⟩ (ys.take i)→Upd M h h'→k h'):
  tc h (aY s.a i s.cap 1) 0 (dw (s.len-i) [.int .u32 0])∧At (fL h (aY s.a i s.cap 1) 0 (dw (s.len-i) [.int .u32 0])) k:=by
 have j:=c.len;have n:=c.cap;rcases c.blk with w|⟨b,a,m,p,hc,t⟩
 ·omega
 have d:((ys.take i).flatMap u32).length=i*1:=by rw[j4 Bt,be,Nat.min_eq_left (by omega)]
 have o:((ys.drop i).flatMap u32).length=(ys.length-i)*1:=by rw[j4 Bt,List.length_drop]
 rw[zN (f:=u32) ys i]at hc;rw[m,jF (by omega)];have g:(dw (s.len-i) [Value.int .u32 0]).length=(s.len-i)*1:=mu _ _;refine Gl hc (by rw[g,aj,aj,d,o];omega) fun u b2 v=>q u ⟨by rw[be];simp only;omega,Bt,by simp only;omega,
  .inr ⟨b,dw (s.len-i) [Value.int .u32 0]++a,by rw[m,sub_zero],p,?_,?_⟩⟩ (v.mono fun _ e=>.inl (e▸p))
 ·rw[b2]
  congr 2
  rw[aM,aM,List.take_left' (by rw[d];omega)];congr 2
  rw[←cT,cD (by rw[d];omega),cD (by rw[o,g];omega)]
 ·rw[aj,g,t];simp only;omega
def nz(xs:List Int):List Int:=xs.filter fun x=> !(x==0)
theorem U4{x:Int}{K:Bool→ad→Prop}(a:K (x==0) h):HV PG (.func (.func tJ) #[] #[]) [.int .u32 x] [.c .bool] K h:=by
 refine HV.mk' (Ip x ?_);unfold Ad;exact a
theorem UJ(k:OwnS u32 1 oa M h s xs)(R:xs.length≤1000000){K:SliceV→ad→Prop}(F:∀s' h',OwnS u32 1 oa M h' s' (nz xs)→Upd M h h'→K s' h'):HC PG xF [.slice s.a s.len s.cap] [.c .slice] K h:=by
 have o:=k.len;have D:=k.cap;refine Mn s ?_;unfold DE;refine rC s _ ?_;unfold lg bi cU bM;refine lH s _ ?_;unfold iP bi cU;have O:Sl u32 1 No h s xs:=k.sl fun _ _ _ h=>h
 refine LoopP.ghost (fun(i:Nat) (t:Int) h'=>t=(i:Int)∧h'=h∧i≤xs.length∧nz (xs.take i)=xs.take i) (fun i=>xs.length-i) 0 ⟨rfl,rfl,aV _,by simp[nz]⟩ ?_
 rintro I i t h' ⟨rfl,rfl,hi,m⟩ G;refine aF (fun c=>?_) fun H=>?_
 ·have c:i<xs.length:=by omega
  obtain⟨a,B,_,hx⟩:=Nums.at O c;refine⟨by omega,a,B,_,hx,U4 (CondP.intro (fun e=>?_) fun e=>?_)⟩
  ·
   have N:nz (xs.take (i+1))=xs.take i:=by
    rw[cA c];unfold nz at m⊢;rw[fU,m];simp[e]
   refine CondP.intro (fun e1=>?_) fun _=>?_
   ·simp at e1
   rw[cM c (by omega)];refine LoopP.ghost (fun(g:Nat×Nat×List Int) (t:Int×Int) w=>t=((g.1:Int),(g.2.1:Int))∧g.1<g.2.1∧g.2.1≤xs.length∧OwnS u32 1 oa M w s g.2.2∧g.2.2.take g.1=nz (xs.take g.2.1)∧g.2.2.drop g.2.1=xs.drop g.2.1∧Upd M h' w) (fun g=>xs.length-g.2.1) (i,i+1,xs) ⟨rfl,by simp only;omega,by simp only;omega,k,N.symm,rfl,Upd.refl _ _⟩ ?_
   rintro Q ⟨p,j,ys⟩ t w ⟨rfl,z,P,d,v,hd,C⟩ u;have d:OwnS u32 1 oa M w s ys:=d;have J:ys.length=xs.length:=d.len.symm.trans o;simp only at z P v hd⊢;refine aF (fun b=>?_) fun E=>?_
   ·have b:j<xs.length:=by omega
    have A:ys[j]'(by omega)=xs[j]:=by
     have:=congrArg List.head? hd;simpa[List.head?_drop,ah b,ah (show j<ys.length by omega)]using this
    obtain⟨a,B,_,hx⟩:=Nums.at (d.sl (W:=No) fun _ _ _ h=>h) (show j<ys.length by omega)
    rw[A]at hx;have q:ys.drop (j+1)=xs.drop (j+1):=by rw[←cT,hd,cT]
    refine Join.plain ⟨by omega,a,B,_,hx,U4 (CondP.intro (fun e=>?_) fun e=>?_)⟩
    ·have f:(!(xs[j]==0))=true:=e
     refine⟨by omega,?_⟩;rw[ak];refine OwnS.put1 d (i:=p) (by omega) xs[j] fun L x y=>?_
     rw[cM (i:=p) (n:=xs.length) (by omega) (by omega),cM b (by omega)];refine u (p+1,j+1,ys.set p xs[j]) _ _ ⟨rfl,by simp only;omega,by simp only;omega,x,?_,?_,C.tr y⟩ (by simp only;omega)
     ·simp only
      rw[cA (by rw[oL];omega),List.getElem_set_self,List.take_set_of_le (av _),v,cA b];unfold nz;rw[fU];simp[f]
     ·simp only
      rw[List.drop_set_of_lt (by omega),q]
    ·have f:(!(xs[j]==0))=false:=e
     rw[cM b (by omega)];refine u (p,j+1,ys) _ _ ⟨rfl,by simp only;omega,by simp only;omega,d,?_,q,C⟩ (by simp only;omega)
     simp only;rw[v,cA b];unfold nz;rw[fU];simp[f]
   ·have:j=xs.length:=by omega
    subst this;rw[bJ]at v;refine⟨by omega,?_⟩;rw[ak];refine OwnS.cutZ (ys:=ys) d (by omega) fun L x y=>⟨by omega,?_⟩
    rw[v]at x;exact F _ _ x (C.tr y)
  ·rw[cM c (by omega)]
   refine G (i+1) _ _ ⟨rfl,rfl,by omega,?_⟩ (by omega)
   rw[cA c];unfold nz at m⊢;rw[fU,m];simp[e]
 ·have:i=xs.length:=by omega
  subst this;rw[bJ]at m;rw[←m]at k;exact aA.2 (F s _ k (Upd.refl _ _))
end
end Go.Proofs
