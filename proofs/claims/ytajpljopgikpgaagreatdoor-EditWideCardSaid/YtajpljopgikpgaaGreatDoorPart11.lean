/- A part of the proof that the named laws of this program answer true, whatever the input. -/
import Derived.Test.YtajpljopgikpgaaGreatDoorPart10
open Int renaming tmod→gk,le_refl→ra
open List renaming mem_singleton→aq
open List.Pairwise renaming nil→fF
open Nat renaming le_refl→al
open UInt8 renaming ofNat→dH
namespace Go.Proofs
open Go Go.Lift
theorem Gm{h:ad}{b:Nat}{vs:List Value}{t:TypeId}(a:h[b]? =some (.cells vs.toArray t (0,0))):SRow h (some ⟨b,0,none⟩) vs.length vs:=
 ⟨rfl,.inr ⟨_,rfl,mH a fun i v hv=>by rw[Nat.zero_add,List.getElem?_toArray];exact hv⟩⟩
theorem H1(a:Int):Value.int .u8 (IntKind.wrap .u8 a)=.int .u8 (((dH (a%256).toNat).toNat:Nat):Int):=by
 have e:IntKind.wrap .u8 a=a%256:=by simp[IntKind.wrap,IntKind.signed,IntKind.bits]
 rw[e];congr 1
 rw[UInt8.toNat_ofNat'];have c:0≤a%256:=Int.emod_nonneg _ (by decide);have b:a%256<256:=Int.emod_lt_of_pos _ (by decide);rw[Nat.mod_eq_of_lt (by omega)];omega
theorem Sr{h:ad}{a b:Int}{k:ad→Prop}(d:∀c,Upd No h c→∀s:ByteArray,s.size=2→SRow c (some (aA h)) 2 (cX s)→k c):At (hnew h [.int .u8 (IntKind.wrap .u8 a),.int .u8 (IntKind.wrap .u8 b)] bX) k:=by
 refine aQ fun c b1 k1=>d c k1 ⟨#[dH (a%256).toNat,dH (b%256).toNat]⟩ rfl ?_
 rw[H1 a,H1 b]at b1;exact Gm b1
theorem Ss{h:ad}{a:Int}{k:ad→Prop}(c:∀b,Upd No h b→∀s:ByteArray,s.size=1→SRow b (some (aA h)) 1 (cX s)→k b):At (hnew h [.int .u8 (IntKind.wrap .u8 a)] bX) k:=by
 refine aQ fun b b1 k1=>c b k1 ⟨#[dH (a%256).toNat]⟩ rfl ?_
 rw[H1 a]at b1;exact Gm b1
theorem Wo.w0{A:Nat→Prop}{h:ad}{pb cb cap n:Nat}{c:List Int}{a:Int}{x:Hs}{es:List Ed}(w:Wo A h pb cb cap c a x n es){b:Nat}(e:h.size≤b):¬Un A cb es b:=fun d=>by have:=w.ult b d;omega
structure WSt(h:ad)(A:Nat→Prop)(pb cb xb:Nat)(kk:Int)(x:Hs)(n:Nat)(ids:List Int)(h':ad)(e:Ed)(r:Rt):Prop where
 wo:Wo A h' pb cb 1 ids kk x n [e]
 cx:h'[xb]? =some (.cells (xd r).toArray dP (0,0))
 jr:RefIs (Un A cb [e]) h' kk x r e.lu
 mv:Mv No h (Un A cb [e]) h'
theorem WSt.fin{h q p g f:ad}{A:Nat→Prop}{pb cb b n:Nat}{kk:Int}{x:Hs}{a:List Int}{e e':Ed}{r i:Rt}(s:WSt h A pb cb b kk x n a q e r)(hx:A b)(w:Wo A p pb cb 1 a kk x (n+1) [e'])(m:Me A cb [e] q [e'] p)(k:Upd No p g)(j:RefIs (Un A cb [e']) g kk x i e'.lu)(c:f[b]? =some (.cells (xd i).toArray dP (0,0))) (u:Upd (· =b) g f):WSt h A pb cb b kk x (n+1) a f e' i:=by
 have o:=(w.up0 k).own u (fun y d=>.inl (by rw[show y=b from d];exact hx)) fun y d=>⟨.inl d,by have:=(w.up0 k).lt y d;have:=u.size;omega⟩
 exact⟨o.1,c,j.mv o.2,((s.mv.tr m.1).up0 k).tr o.2⟩
theorem Qc{n:Int}(a:0≤n)(b:n≤65535):∃m:Nat,IntKind.wrap .i64 (gk n 120)=(m:Int)∧m<120:=by
 refine⟨(n%120).toNat,?_,by omega⟩
 rw[Int.tmod_eq_emod_of_nonneg a,nq (by omega)];omega
set_option maxRecDepth 100000 in
set_option maxHeartbeats 4000000 in
theorem G6{h:ad}{k n u:Int}{x:Hs}(tab:Tab h)(hk0:0≤k)(hk1:k≤255)(hn0:0≤n)(hn1:n≤65535):
  HC PG uq [.int .u8 k,.agg #[.int .u64 x.k0,.int .u64 x.k1,.int .u64 x.mask],.int .u16 n,.int .u8 u] [.c .bool] (fun b h'=>b=true∧Upd No h h') h:=by
 refine Cw k (x.k0,x.k1,x.mask) n u ?_;unfold uF dz xr bo af cz iB aJ az bG dU fT nv y2 uI CX Mw Kg Rh mC jO AN Ri Ku rC yI tH;have hkk:=RR hk0 hk1;generalize e0:IntKind.wrap .i64 (gk k 2)=kk at hkk;obtain⟨m,em,hm⟩:=Qc hn0 hn1;rw[em];refine aQ fun h1 b1 k1=>Js fun h3 k3=>aj.2 ?_
 have c3:=k3.get0 b1;refine⟨_,vc c3 0,_,vc c3 1,_,vc c3 2,LS (x:=x) (n:=0) (c:=1) hkk e0 rfl (al _) (by omega) fun h8 t r wb G D pb cb rb s1 md=>?_⟩
 have k03:=k1.tr k3;have zw:=aD md.cw;have hA:∀y,y=wb∨y=G∨y=D→OT wb G D rb s1 y:=fun y N=>by rcases N with h|h|h<;>simp[OT,h]
 refine⟨_,rfl,_,vc md.cw 4,_,rfl,Rk G,vc md.cw 0,⟨ra _,Int.zero_lt_one⟩,_,rfl,_,kJ md.c1 0 0,_,kJ md.c1 0 1,_,kJ md.c1 0 2,_,kJ md.c1 0 3,_,kJ md.c1 0 4,_,kJ md.c1 0 5,?_⟩;refine OV (j:=1) (ids2:= []) md.wo rfl md.it fF (fun p hp=>by cases hp) (al _) fun B eb tb w21 L=>?_
 have T:=L.2.get md.cw fun h=>h (hA _ (.inl rfl))
 have E:=L.2.get md.c2 fun h=>h (hA _ (.inr (.inr rfl)))
 refine⟨vc T 0,aj.2 ⟨_,rfl,Rk D,vc T 1,⟨ra _,Int.zero_lt_one⟩,_,rfl,_,kJ E 0 0,_,kJ E 0 1,_,kJ E 0 2,_,kJ E 0 3,r.2.2.2.2,kJ E 0 4,P3 (r:=r) fun h31 b31 k31=>⟨by decide,?_⟩⟩⟩
 have z31:=aD b31;have s31:=k31.size;have Q:=w21.own (A':=fun y=>OT wb G D rb s1 y∨y=B.size) k31 (fun _ h=>h.elim) fun y N=>by
  rcases N with N|N
  ·have:=w21.lt y N;exact⟨.inl N,by omega⟩
  ·exact⟨.inr (by omega),by omega⟩
 generalize eA:(fun y=>OT wb G D rb s1 y∨y=B.size)=A at Q
 have hx:A B.size:=by rw[←eA];exact .inr rfl
 have m31:=(md.mv.tr L.1).tr Q.2;have mv:Mv No h (Un A cb [⟨eb,tb,1,true,t,[],No⟩]) h31:=⟨k03.tr m31.1,fun y N=>(m31.2 y N).imp id fun h=>Nat.le_trans k03.size h⟩
 have st0:WSt h A pb cb B.size kk x 0 [] h31 ⟨eb,tb,1,true,t,[],No⟩ r:=⟨Q.1,b31,(md.ir.mv L.1).mv Q.2,mv⟩;refine LoopP.ghost (fun(g:Nat×Tr×List Pr×(Nat→Prop)×Rt) (t':Int) h'=>t'=(g.1:Int)∧g.1≤m∧WSt h A pb cb B.size kk x g.1 [] h' ⟨eb,tb,1,true,g.2.1,g.2.2.1,g.2.2.2.1⟩ g.2.2.2.2) (fun g=>m-g.1) (0,t,[],No,r) ⟨rfl,Nat.zero_le _,st0⟩ ?_
 rintro I ⟨i,tu,lu,S,ru⟩ ti h34 ⟨rfl,him,u⟩ hI;simp only at him u hI⊢;refine aH (fun hlt=>?_) fun hge=>?_
 ·have hlt:i<m:=by omega
  refine Join.plain ?_;simp only[Bd];refine⟨by decide,Sr fun h38 k38 d e39 r39=>⟨d,r39,Ss fun h40 k40 C e41 r41=>⟨C,r41,QH (p:=(d,C)) fun h43 w k43=>⟨by decide,?_⟩⟩⟩⟩
  have F:=k38.tr (k40.tr k43);have O:=u.wo.up0 F;have U:=F.get0 u.cx;have o:WSt h A pb cb B.size kk x i [] h43 ⟨eb,tb,1,true,tu,lu,S⟩ ru:=⟨O,U,u.jr.upd0 F,u.mv.up0 F⟩;have q:=O.ew _ (aq.2 rfl);have z43:=aD w;have s34:=F.size;have s38:=(k38.tr k40).size;have nb:¬Un A cb [⟨eb,tb,1,true,tu,lu,S⟩] h40.size:=u.wo.w0 s38;have nx:IntKind.wrap .i64 ((i:Int)+1)=((i+1:Nat):Int):=by rw[nq (by omega)];omega
  rw[nx];refine CondP.intro (fun _=>?_) fun _=>?_
  ·refine⟨_,vc w 0,Qd (i:=0) O rfl rfl (by omega) d fun h46 Z S' H e=>?_⟩
   have a:=e.2.get U fun h=>h hx
   have P:=e.1.get w nb;refine⟨_,vc a 0,_,vc a 1,_,vc a 2,_,vc a 3,ru.2.2.2.2,vc a 4,_,vc P 0,?_⟩;refine EV (o.jr.mv e.1) H.ult q.up q.fit (by have:=q.len;omega) d fun h54 r' W J=>?_
   refine dT (c:=xd ru) (vs:=xd r') (J.get0 a) rfl fun h55 V Y=>?_
   exact hI (i+1,Z,pa lu d,S',r') _ _ ⟨rfl,by omega,o.fin hx H e J W V Y⟩ (by show m-(i+1)<m-i;omega)
  ·refine⟨_,vc w 0,_,vc w 1,Ru (i:=0) O rfl rfl (by omega) (d,C) ⟨by show d.size≤5030;omega,by show C.size≤5030;omega⟩ fun h46 Z S' H e=>?_⟩
   have a:=e.2.get U fun h=>h hx
   have P:=e.1.get w nb;refine⟨_,vc a 0,_,vc a 1,_,vc a 2,_,vc a 3,ru.2.2.2.2,vc a 4,_,vc P 0,_,vc P 1,?_⟩;refine Lx (o.jr.mv e.1) H.ult q.up (by have:=q.len;omega) (d,C) fun h54 r' W J=>?_
   refine dT (c:=xd ru) (vs:=xd r') (J.get0 a) rfl fun h55 V Y=>?_
   exact hI (i+1,Z,o6 lu (d,C),S',r') _ _ ⟨rfl,by omega,o.fin hx H e J W V Y⟩ (by show m-(i+1)<m-i;omega)
 ·have q:=u.wo.ew _ (aq.2 rfl)
  have hlen:=q.len;refine MI (i:=0) u.wo rfl rfl fun h73 w73 X i73=>E8 (t:=tu) fun h75 f K=>ax.2 ?_
  have z:=K.get0 (X.2.get u.cx fun h=>h hx)
  refine⟨_,vc f 0,_,vc f 1,_,vc f 2,_,vc f 3,_,vc f 4,_,vc f 5,_,vc z 0,_,vc z 1,_,vc z 2,_,vc z 3,ru.2.2.2.2,vc z 4,?_⟩;have j75:=(u.jr.mv X.1).upd0 K;have R:=(u.mv.tr X.1).up0 K;refine LU (tab.upd R.1 id) (i73.upd0 K) j75 q.up q.fit (by omega) fun h88 M=>ax.2 ?_
  have v:=M.get0 f;have c88:=M.get0 z;refine⟨_,vc v 0,_,vc v 1,_,vc v 2,_,vc v 3,_,vc v 4,_,vc v 5,ru.2.2.2.2,vc c88 4,?_⟩;refine EN ((i73.upd0 K).upd0 M) q.up (by omega) fun h97 k97=>⟨vc (k97.get0 c88) 4,?_⟩
  obtain⟨s,er,hs,_⟩:=j75;refine⟨?_,((R.up0 M).up0 k97).1⟩;have hsl:=hs.len;rw[er];show((lu.length:Int)==(s.len:Int))=true
  rw[hsl];simp
end Go.Proofs
