/- A part of the proof that the named laws of this program answer true, whatever the input. -/
import Derived.Test.YtopdngagmfanlaaGreatDoorPart7
import Derived.Test.YtopdngagmfanlaaGreatDoorPart6
open Bool renaming false_or→nt
open ByteArray renaming size_append→aZ,size_extract→kF
open Go.IntKind renaming wrap→ac
open Int renaming toNat_natCast→ai
open List renaming length_append→ah,length_cons→aG,length_nil→bU,nil_append→fh,getElem?_eq_getElem→ag,getElem_mem→bp,mem_of_mem_take→ft,length_take→aL,append_assoc→aH,take_length→bf,mem_map→cL,getElem?_map→gJ,getElem?_eq_some_iff→aQ,mem_of_getElem?→bC,length_map→dx,map_append→fV,length→ia
open Nat renaming zero_le→be,mul_le_mul_right→gE,le_refl→ax
open Option renaming map_eq_some_iff→eP
namespace Go.Proofs
open Go Go.Lift Go.RowKit
theorem yM{m:Nat}:∀(l:List (List UInt8)),(∀x∈l,x.length≤m)→(blk l).length≤l.length*(m+1)
 | [],_=>be _
 |w::l,h=>by
  have a:=h w (List.mem_cons_self ..);have b:=yM l fun x hx=>h x (List.mem_cons_of_mem _ hx)
  have e:blk (w::l)=32::w++blk l:=rfl;rw[e,ah,aG,aG,Nat.add_mul];omega
theorem Bld.upd0{M:Nat→Prop}{h h':ad}{b:Nat}{bs:List UInt8}(a:Bld M h b bs)(k:Upd No h h'):Bld M h' b bs:=
 let⟨p,s,d,f,e,c⟩:=a.ex
 ⟨⟨p,s,k.get0 d,f,e.upd k fun _ _ h=>h,c⟩,a.nb⟩
theorem Ib(l:List UInt8):(aW l).data.toList=l:=rfl
theorem BD{name:List UInt8}(hn:name.length≤100){ws:List (List UInt8)}(T:ws.length≤1000)(C:∀w∈ws,w.length≤1100000){len:Nat}(k:len=ws.length){h:ad}{Body:(ByteArray→ad→Prop)→Int→ad→Prop}
  (U:∀(i:Nat) w,ws[i]? =some w→∀h' (P:ByteArray→ad→Prop),Upd No h h'→(∀g,Upd No h' g→P (aW w) g)→Body P (i:Int) h')
  {K:ByteArray→ad→Prop} (X:∀h',Upd No h h'→K (aW (name++blk ws)) h'):
  At (hnew h [.pointer none,.slice none 0 0] dK) (fun H=>HC PG bP [.pointer (some (aJ h)),.string (aW name)] [.c (.int .i64),.c .raw] (fun(_:Int×Value) z=>
   LoopP (fun(O:Int→ad→Prop) (F:Int) N=>CondP (decide (F<(len:Int))) (Body (fun(J:ByteArray) B=>((((⟨#[32]⟩:ByteArray).size+J.size:Nat):Int)≤9223372036854775807∧HC PG bP [.pointer (some (aJ h)),.string ((⟨#[32]⟩:ByteArray)++J)] [.c (.int .i64),.c .raw] (fun(_:Int×Value) n=>O (ac .i64 (F+1)) n) B)) F N)
    (HC PG dD [.pointer (some (aJ h))] [.c .str] (fun(s:ByteArray) A=>K s A) N)) 0 z) H):=by
 subst k;refine qN fun H b1 k1=>?_
 have R:=bv b1;refine xo (M:=fun y=>h.size<y) (b:=h.size) (bs:= []) ⟨⟨none,⟨none,0,0⟩,b1,.inl rfl,OwnS.nil Dc,.inl rfl⟩,Nat.lt_irrefl _⟩ (fun y c=>Nat.lt_of_lt_of_le R c) (by rw[bq,bU];omega) fun z e2 j L=>?_
 have W:Upd No h z:=k1.trans L fun y c=>.inr (by rcases c with c|c<;>omega)
 have z3:=L.size;rw[Ib,fh]at j;refine LoopP.ghost (fun(i:Nat) (t:Int) h'=>t=(i:Int)∧i≤ws.length∧Bld (fun y=>h.size<y) h' h.size (name++blk (ws.take i))∧Upd No h h'∧h.size<h'.size) (fun i=>ws.length-i) 0 ⟨rfl,be _,by simpa[blk]using j,W,by omega⟩ ?_
 rintro I i t h' ⟨rfl,hi,v,u,zz⟩ V;refine aK (fun a=>?_) fun D=>?_
 ·have a:i<ws.length:=by have:(i:Int)<(ws.length:Int):=a;omega
  refine U i ws[i] (ag a) h' _ u fun g f=>?_
  have q:=C ws[i] (bp a);have p:=yM (m:=1100000) (ws.take i) fun x hx=>C x (ft hx)
  have E:(ws.take i).length=i:=by rw[aL];omega
  rw[E]at p;have G:=DF a;have Q:=f.size;have s1:(⟨#[32]⟩:ByteArray).size=1:=rfl;generalize ws[i]=w at q G;have es:=bq w;refine⟨by omega,xo (v.upd0 f) (fun y c=>by omega) (by rw[aZ,ah];omega) fun n S d o=>?_⟩
  rw[dw a (by omega)];refine V (i+1) _ _ ⟨rfl,a,?_,(u.tr f).trans o fun y c=>.inr (by rcases c with c|c<;>omega),by have:=o.size;omega⟩ (by omega)
  rw[G,Pv,←aH];have e:(⟨#[32]⟩:ByteArray)++aW w=aW (32::w):=cr [32] w;rw[e,Ib]at d;have e2:blk [w]=32::w:=by simp[blk]
  rw[e2];exact d
 ·have hi:i=ws.length:=by have:¬(i:Int)<(ws.length:Int):=D;omega
  have p:=yM (m:=1100000) ws C;have hm:ws.length*(1100000+1)≤1000*1100001:=gE _ T;rw[hi,bf]at v;refine BM v (by rw[ah];omega) fun Y Z=>X Y (u.trans Z fun y c=>.inr (by omega))
def CF(p:Pr):List UInt8:=lK p.1++61::lK p.2
theorem BC{p:Pr}(h:p.1.size≤1000∧p.2.size≤1000):(CF p).length≤5000:=by
 have a:(lK p.1).length≤_:=gQ p.1;have b:(lK p.2).length≤_:=gQ p.2;unfold CF;simp only[ah,aG];omega
theorem SU{p:Pr}(i:p.1.size≤1000∧p.2.size≤1000){h:ad}{K:ByteArray→ad→Prop}(c:∀h',Upd No h h'→K (aW (CF p)) h'):HC PG kz [.agg #[.string p.1,.string p.2]] [.c .str] K h:=by
 refine KG p ?_;unfold Ct aq A0;have f:(mI p.1.data.toList).length≤_:=gQ p.1;have o:(mI p.2.data.toList).length≤_:=gQ p.2;have k:(⟨#[61]⟩:ByteArray).size=1:=rfl;have j:=bq (mI p.1.data.toList);have n:=bq (mI p.2.data.toList);refine qN fun g b1 k1=>⟨_,vc b1 0,_,vc b1 1,Ap (by omega) fun m a=>⟨vc (a.get0 b1) 1,by omega,Ap (by omega) fun d b=>⟨by rw[aZ];omega,?_⟩⟩⟩
 have e:(aW (mI p.1.data.toList)++(⟨#[61]⟩:ByteArray))++aW (mI p.2.data.toList)=aW (CF p):=by
  rw[show(⟨#[61]⟩:ByteArray)=aW [61]from rfl,cr,cr];simp[CF,lK]
 rw[e];exact c d ((k1.tr a).tr b)
section
variable {h:ad} {s:SliceV} {name:List UInt8} {K:ByteArray→ad→Prop}
theorem Gn(j:name.length≤100){l:List Int}(y:l.length≤1000)(c:∀x∈l,0≤x∧x<4294967296)(e:Nums No h s l)(o:Laid h)(v:∀h',Upd No h h'→K (aW (name++blk (l.map fun x=>dW x.toNat))) h'):HC PG nB [.string (aW name),.slice s.a s.len s.cap,.func (.func kV) #[] #[]] [.c .str] K h:=by
 refine EF (aW name) s (.func (.func kV) #[] #[]) ?_;unfold w7 bL dE He iL;have b:=e.len;refine BD (Body:=fun P t d=>(((0:Int)≤t∧t<((s.len:Nat):Int))∧∃a7:Addr,s.a=some a7∧∃v8:Int,aC d (adr a7 (t.toNat*1))=some (.int .u32 v8)∧HV PG (.func (.func kV) #[] #[]) [.int .u32 v8] [.c .str] P d)) j (ws:=l.map fun x=>dW x.toNat) (by simpa using y) (fun w q=>?_) (by simpa using b) (fun i w hi h' P k f=>?_) v
 ·obtain⟨x,hx,rfl⟩:=cL.1 q
  have:=px (n:=x.toNat) (by have:=c x hx;omega);omega
 ·rw[gJ]at hi
  obtain⟨x,hx,rfl⟩:=eP.1 hi;have p:i<l.length:=(aQ.1 hx).1;obtain⟨a,u,_,m⟩:=(e.upd k fun _ h=>h.elim).at0 (g:=fun x=>Value.int .u32 x) hx
  have z:=c x (bC hx);refine⟨⟨by omega,by omega⟩,a,u,x,by rw[ai];exact m,HV.mk' ?_⟩
  obtain⟨n,rfl⟩:∃n:Nat,x=(n:Int):=⟨x.toNat,by omega⟩
  rw[ai]at f;exact Pf (by omega) (o.upd0 k) f
theorem Gm(z:name.length≤100){l:List Pr}(D:l.length≤1000)(v:∀p∈l,p.1.size≤1000∧p.2.size≤1000)(y:Sl kK 2 No h s l)(F:∀h',Upd No h h'→K (aW (name++blk (l.map CF))) h'):HC PG iE [.string (aW name),.slice s.a s.len s.cap,.func (.func kz) #[] #[]] [.c .str] K h:=by
 refine xk (aW name) s (.func (.func kz) #[] #[]) ?_;unfold pA dE aq bE nv rV kf He iL xn;have g:=y.len;refine BD (Body:=fun P t e=>(((0:Int)≤t∧t<((s.len:Nat):Int))∧∃a7:Addr,s.a=some a7∧∃v8:ByteArray,aC e (adr (adr a7 (t.toNat*2)) 0)=some (.string v8)∧∃v9:ByteArray,aC e (adr (adr a7 (t.toNat*2)) 1)=some (.string v9)∧At (hnew e [.string (⟨#[]⟩:ByteArray),.string (⟨#[]⟩:ByteArray)] au) (fun d=>(td d (some (aJ e)) 0 [.string v8,.string v9]∧At (gP d (aJ e) 0 [.string v8,.string v9]) (fun b=>∃v12:ByteArray,aC b (adr (aJ e) 0)=some (.string v12)∧∃v13:ByteArray,aC b (adr (aJ e) 1)=some (.string v13)∧HV PG (.func (.func kz) #[] #[]) [.agg #[.string v12,.string v13]] [.c .str] P b))))) z (ws:=l.map CF) (by simpa using D) (fun w E=>?_) (by simpa using g) (fun i w hi h' P k B=>?_) F
 ·obtain⟨x,hx,rfl⟩:=cL.1 E
  have:=BC (v x hx);omega
 ·rw[gJ]at hi
  obtain⟨x,hx,rfl⟩:=eP.1 hi;have C:i<l.length:=(aQ.1 hx).1;obtain⟨a,A,_,u⟩:=(y.upd k fun _ h=>h.elim).at hx
  exact⟨⟨by omega,by omega⟩,a,A,x.1,by rw[ai];exact u 0 _ rfl,x.2,by rw[ai];exact u 1 _ rfl,qN fun d m q=>cY (c:= [.string ⟨#[]⟩,.string ⟨#[]⟩]) (vs:=kK x) m rfl fun b f o=>⟨_,vc f 0,_,vc f 1,HV.mk' (SU (v x (bC hx)) fun n j=>B n ((q.own o (ax _)).tr j))⟩⟩
theorem N8(u:name.length≤100){l:List Cf}(B:l.length≤1000)(p:∀c∈l,c.1.size≤1000)(q:Sl Mj 7 No h s l)(E:∀h',Upd No h h'→K (aW (name++blk (l.map fun c=>lK c.1))) h'):HC PG ip [.string (aW name),.slice s.a s.len s.cap,.func (.func jN) #[] #[]] [.c .str] K h:=by
 refine tf (aW name) s (.func (.func jN) #[] #[]) ?_;unfold lR dE aq bE cq bc nv TG TH He iL vg3;have j:=q.len;refine BD (Body:=fun P t d=>(((0:Int)≤t∧t<((s.len:Nat):Int))∧∃a7:Addr,s.a=some a7∧∃v8:ByteArray,aC d (adr (adr a7 (t.toNat*7)) 0)=some (.string v8)∧∃v9:ByteArray,aC d (adr (adr a7 (t.toNat*7)) 1)=some (.string v9)∧∃v10:Bool,aC d (adr (adr a7 (t.toNat*7)) 2)=some (.bool v10)∧∃v11:ByteArray,aC d (adr (adr a7 (t.toNat*7)) 3)=some (.string v11)∧∃v12:Bool,aC d (adr (adr a7 (t.toNat*7)) 4)=some (.bool v12)∧∃v13:ByteArray,aC d (adr (adr a7 (t.toNat*7)) 5)=some (.string v13)∧∃v14:Bool,aC d (adr (adr a7 (t.toNat*7)) 6)=some (.bool v14)∧At (hnew d [.string (⟨#[]⟩:ByteArray),.string (⟨#[]⟩:ByteArray),.bool false,.string (⟨#[]⟩:ByteArray),.bool false,.string (⟨#[]⟩:ByteArray),.bool false] cO) (fun g=>(td g (some (aJ d)) 0 [.string v8,.string v9,.bool v10,.string v11,.bool v12,.string v13,.bool v14]∧At (gP g (aJ d) 0 [.string v8,.string v9,.bool v10,.string v11,.bool v12,.string v13,.bool v14]) (fun b=>∃v17:ByteArray,aC b (adr (aJ d) 0)=some (.string v17)∧∃v18:ByteArray,aC b (adr (aJ d) 1)=some (.string v18)∧∃v19:Bool,aC b (adr (aJ d) 2)=some (.bool v19)∧∃v20:ByteArray,aC b (adr (aJ d) 3)=some (.string v20)∧∃v21:Bool,aC b (adr (aJ d) 4)=some (.bool v21)∧∃v22:ByteArray,aC b (adr (aJ d) 5)=some (.string v22)∧∃v23:Bool,aC b (adr (aJ d) 6)=some (.bool v23)∧HV PG (.func (.func jN) #[] #[]) [.agg #[.string v17,.string v18,.bool v19,.string v20,.bool v21,.string v22,.bool v23]] [.c .str] P b))))) u (ws:=l.map fun c=>lK c.1) (by simpa using B) (fun w C=>?_) (by simpa using j) (fun i w hi h' P k y=>?_) E
 ·obtain⟨x,hx,rfl⟩:=cL.1 C
  have F:(lK x.1).length≤_:=gQ x.1;have:=p x hx;omega
 ·rw[gJ]at hi
  obtain⟨x,hx,rfl⟩:=eP.1 hi;have z:i<l.length:=(aQ.1 hx).1;obtain⟨a,v,_,f⟩:=(q.upd k fun _ h=>h.elim).at hx
  simp only[ai];refine⟨⟨by omega,by omega⟩,a,v,_,f 0 _ rfl,_,f 1 _ rfl,_,f 2 _ rfl,_,f 3 _ rfl,_,f 4 _ rfl,_,f 5 _ rfl,_,f 6 _ rfl,qN fun g o m=>cY (c:= [.string ⟨#[]⟩,.string ⟨#[]⟩,.bool false,.string ⟨#[]⟩,.bool false,.string ⟨#[]⟩,.bool false]) (vs:=Mj x) o rfl fun b e n=>⟨_,vc e 0,_,vc e 1,_,vc e 2,_,vc e 3,_,vc e 4,_,vc e 5,_,vc e 6,HV.mk' ?_⟩⟩
  refine Ds (x.1,x.2.1.1,x.2.1.2,x.2.2.1.1,x.2.2.1.2,x.2.2.2.1,x.2.2.2.2) ?_;unfold vN aq pl3;exact qN fun G b1 k1=>⟨_,vc b1 0,Ap (by have:=p x (bC hx);simp only;omega) fun D A=>y D (((m.own n (ax _)).tr k1).tr A)⟩
theorem DZ(e:name.length≤100){l:List (List UInt8)}(u:l.length≤1000)(j:∀w∈l,w.length≤1100000)(c:Sl Lf 1 No h s l){V:Value}(f:∀{x:ByteArray} {h':ad} {K:ByteArray→ad→Prop},K x h'→HV PG V [.string x] [.c .str] K h')(q:∀h',Upd No h h'→K (aW (name++blk l)) h'):HC PG nC [.string (aW name),.slice s.a s.len s.cap,V] [.c .str] K h:=by
 refine EG (aW name) s V ?_;unfold w8 bL dE He iL;have b:=c.len;refine BD (Body:=fun P t d=>(((0:Int)≤t∧t<((s.len:Nat):Int))∧∃a7:Addr,s.a=some a7∧∃v8:ByteArray,aC d (adr a7 (t.toNat*1))=some (.string v8)∧HV PG V [.string v8] [.c .str] P d)) e (ws:=l) u j b (fun i w hi h' P k p=>?_) q
 have n:i<l.length:=(aQ.1 hi).1;obtain⟨a,o,_,m⟩:=(c.upd k fun _ h=>h.elim).at0 (g:=fun w=>Value.string (aW w)) hi
 exact⟨⟨by omega,by omega⟩,a,o,aW w,by rw[ai];exact m,f (p h' (Upd.refl _ _))⟩
def iP(l:List Cf):List UInt8:=if l= []then[]else[32,99,111,110,102,108,105,99,116,115]++blk (l.map fun c=>lK c.1)
theorem AB{l:List Cf}(a:l.length≤1000)(b:∀c∈l,c.1.size≤1000):(iP l).length≤3000000:=by
 unfold iP;split
 ·exact be _
 ·have:=yM (m:=2001) (l.map fun c=>lK c.1) fun x hx=>by
   obtain⟨c,hc,rfl⟩:=cL.1 hx;have d:(lK c.1).length≤_:=gQ c.1;have:=b c hc;omega
  rw[dx]at this;have e:l.length*(2001+1)≤1000*2002:=gE _ a;simp only[ah,aG,bU];omega
theorem Gw{l:List Cf}(g:l.length≤1000)(f:∀c∈l,c.1.size≤1000)(d:Sl Mj 7 No h s l)(b:∀h',Upd No h h'→K (aW (iP l)) h'):HC PG oX [.slice s.a s.len s.cap] [.c .str] K h:=by
 refine GQ s ?_;unfold yx;have a:=d.len;refine CondP.intro (fun e=>?_) fun e=>?_
 ·have e:(s.len:Int)=0:=by simpa using e
  have e:l.length=0:=by omega
  have e:l= []:=List.length_eq_zero_iff.1 e;have:=b h (Upd.refl _ _);rw[iP,if_pos e]at this;exact this
 ·have e:l≠[]:=fun e2=>by
   rw[e2]at a;have:(s.len:Int)≠0:=by simpa using e
   simp only[bU]at a;omega
  rw[iP,if_neg e]at b;exact N8 (name:= [32,99,111,110,102,108,105,99,116,115]) (by decide) g f d b
end
end Go.Proofs
namespace Go.Proofs
open Go Go.Lift Go.RowKit
abbrev Vn:=ByteArray×Int
abbrev Rh(n:Vn):List Value:= [.string n.1,.int .u32 n.2]
theorem MX(x:Vn):(Rh x).length=2∧0<2:=⟨rfl,by omega⟩
def pw(n:Vn):List UInt8:=n.1.data.toList++61::dW n.2.toNat
theorem Iy{n:Vn}(h:n.1.size≤1048576)(a:n.2<4294967296):(pw n).length≤1048600:=by
 have:=px (n:=n.2.toNat) (by omega);unfold pw;simp only[ah,aG,ox];omega
def BI(c:Ch):List UInt8:=Bs 58 [lK c.1,rB c.2.1 c.2.2.2.1,rB c.2.2.1 c.2.2.2.2]
theorem Me{c:Ch}(h:c.1.size≤1000∧c.2.1.size≤1000∧c.2.2.1.size≤1000):(BI c).length≤7000:=by
 have a:(lK c.1).length≤_:=gQ c.1;have d:=ss c.2.1 c.2.2.2.1;have b:=ss c.2.2.1 c.2.2.2.2;have e:BI c=lK c.1++58::(rB c.2.1 c.2.2.2.1++58::rB c.2.2.1 c.2.2.2.2):=rfl;rw[e];simp only[ah,aG];omega
section
variable {e:An} {h:ad} {K:ByteArray→ad→Prop}
theorem Su{l:List Vn}(X:l.length≤1000)(B:∀n∈l,n.1.size≤1048576∧0≤n.2∧n.2<4294967296)(E:Sl Rh 2 No h e.2.2.2.2.2.2.2.2.2.2 l)(P:Laid h)(hk:∀h',Upd No h h'→K (aW ([110,97,109,101,115]++blk (l.map pw))) h'):HC PG ww [vy e] [.c .str] K h:=by
 refine KD e ?_;unfold Cr dE cg aq bE aD nv xf eW Vm Vq;refine qN fun s b1 k1=>⟨_,vc b1 10,?_⟩
 have q:=E.len;generalize e.2.2.2.2.2.2.2.2.2.2=sl at E q;refine LoopP.ghost (fun(i:Nat) (t:SliceV×Int) h'=>t.2=(i:Int)∧i≤l.length∧OwnS Lf 1 cN (fun y=>s.size≤y) h' t.1 ((l.take i).map pw)∧Upd No s h') (fun i=>l.length-i) 0 ⟨rfl,be _,OwnS.nil Fy,Upd.refl _ _⟩ ?_
 rintro I i ⟨so,ti⟩ g ⟨e1,hi,u,F⟩ hI;simp only at e1 u;subst e1;have T:=F.size;have f:=k1.tr F;refine aK (fun b=>Join.plain ?_) fun D=>?_
 ·have b:i<l.length:=by have:(i:Int)<(sl.len:Int):=b;omega
  obtain⟨a,R,_,v⟩:=(E.upd f fun _ h=>h.elim).at (ag b)
  have A:=B l[i] (bp b);have J:=DF b;generalize l[i]=n at v A J;simp only[ai];have C:OwnS Lf 1 cN (fun y=>s.size≤y∧y≠g.size) g so ((l.take i).map pw):=u.within.more fun y j=>⟨j.1,by have:=j.2;omega⟩
  have s1:(⟨#[61]⟩:ByteArray).size=1:=rfl;refine⟨⟨by omega,by omega⟩,a,R,n.1,v 0 _ rfl,n.2,v 1 _ rfl,qN fun g1 c1 Q=>cY (c:= [.string ⟨#[]⟩,.int .u32 0]) (vs:=Rh n) c1 rfl fun g2 o V=>⟨n.1,vc o 0,by omega,n.2,vc o 1,?_⟩⟩
  have z:Upd No g g2:=Q.own V (ax _);have zg:=bv o;obtain⟨m,hm⟩:∃m:Nat,n.2=(m:Int):=⟨n.2.toNat,by omega⟩
  have hd:=px (n:=m) (by omega);have O:=bq (dW m);have e2:(n.1++(⟨#[61]⟩:ByteArray))++aW (dW m)=aW (pw n):=by
   have:n.1=aW n.1.data.toList:=(O3 n.1).symm;rw[show(⟨#[61]⟩:ByteArray)=aW [61]from rfl]
   conv=>lhs;rw[this]
   rw[cr,cr,pw,hm,ai];simp
  rw[hm];refine Pf (by omega) (P.upd0 (f.tr z)) fun Y N=>⟨vc (N.get0 o) 0,by rw[aZ];omega,?_⟩
  rw[e2];refine qN fun G c4 q4=>?_
  have d:=N.tr q4;have p:=d.get0 o;have z24:=d.size;have S:OwnS Lf 1 cN (fun _=>True) G ⟨some (aJ Y),1,1⟩ [pw n]:=U7 c4 trivial
  refine⟨vc p 0,_,(S.sl (W:=No) fun _ _ _ h=>h).srow,AppP.own (ys:= [pw n]) (C.upd (z.tr d) fun _ _ h=>h) rfl rfl rfl rfl (by omega) (by simp only[dx,aL,aG,bU];omega) (show s.size≤G.size∧G.size≠g.size from⟨by omega,by omega⟩) fun s' U Z L=>⟨vc (L.get p fun hh=>hh.2 rfl) 0,?_⟩⟩
  show I (s',ac .i64 ((i:Int)+1)) U
  rw[dw b (by omega)];refine hI (i+1) _ _ ⟨rfl,b,?_,((F.tr z).tr d).trans L fun y j=>.inr j.1⟩ (by omega)
  rw[J,fV];exact Z.more fun y j=>j.1
 ·have hi:i=l.length:=by have:¬(i:Int)<(sl.len:Int):=D;omega
  rw[hi,bf]at u;refine DZ (name:= [110,97,109,101,115]) (by decide) (by simpa using X) (fun w hw=>?_) (u.sl (W:=No) fun _ _ _ h=>h) (fun{x h' K} hK=>HV.mk' (GP x hK)) fun h' k=>hk h' (f.tr k)
  obtain⟨n,H,rfl⟩:=cL.1 hw;have:=Iy (B n H).1 (B n H).2.2;omega
theorem Of{l:List Ch}(Q:l.length≤1000)(F:∀c∈l,c.1.size≤1000∧c.2.1.size≤1000∧c.2.2.1.size≤1000)(A:Sl zD 5 No h e.2.2.2.2.2.2.2.1 l)(Z:∀h',Upd No h h'→K (aW ([99,104,97,110,103,101,115]++blk (l.map BI))) h'):HC PG s9 [vy e] [.c .str] K h:=by
 refine GR e ?_;unfold yy dE aq bE cq bc aD nv xf H6 AZ OV El;refine qN fun u b1 k1=>⟨_,vc b1 7,?_⟩
 have p:=A.len;generalize e.2.2.2.2.2.2.2.1=sl at A p;refine LoopP.ghost (fun(i:Nat) (t:SliceV×Int) h'=>t.2=(i:Int)∧i≤l.length∧OwnS Lf 1 cN (fun y=>u.size≤y) h' t.1 ((l.take i).map BI)∧Upd No u h') (fun i=>l.length-i) 0 ⟨rfl,be _,OwnS.nil Fy,Upd.refl _ _⟩ ?_
 rintro I i ⟨so,ti⟩ g ⟨e1,hi,q,B⟩ T;simp only at e1 q;subst e1;have L:=B.size;have m:=k1.tr B;refine aK (fun d=>Join.plain ?_) fun z=>?_
 ·have d:i<l.length:=by have:(i:Int)<(sl.len:Int):=d;omega
  obtain⟨a,H,_,j⟩:=(A.upd m fun _ h=>h.elim).at (ag d)
  have s:=F l[i] (bp d);have D:=DF d;generalize l[i]=c at j s D;simp only[ai];refine⟨⟨by omega,by omega⟩,a,H,_,j 0 _ rfl,_,j 1 _ rfl,_,j 2 _ rfl,_,j 3 _ rfl,_,j 4 _ rfl,qN fun g1 c1 G=>cY (c:= [.string ⟨#[]⟩,.string ⟨#[]⟩,.string ⟨#[]⟩,.bool false,.bool false]) (vs:=zD c) c1 rfl fun U n P=>⟨_,vc n 0,_,vc n 1,_,vc n 2,_,vc n 3,_,vc n 4,M9 (c:=c) (by omega) (by omega) (by omega) fun g3 s3 o Y=>?_⟩⟩
  have J:Upd No g U:=G.own P (ax _);refine Qh (o.sl (W:=No) fun _ _ _ h=>h) ?_ o.cap (List.cons_ne_nil _ _) (by simp) (fun x hx=>?_) fun g4 q4=>?_
  ·rcases o.blk with N|⟨b,C,v,_⟩
   ·exact absurd (Nat.le_trans (Nat.le_of_eq o.len.symm) (N▸o.cap)) (by simp)
   ·exact⟨b,v⟩
  ·have u:(lK c.1).length≤_:=gQ c.1
   have h2:=ss c.2.1 c.2.2.2.1;have h3:=ss c.2.2.1 c.2.2.2.2;simp only[List.mem_cons,List.not_mem_nil,or_false]at hx;rcases hx with rfl|rfl|rfl<;>omega
  ·have f:=(J.tr Y).tr q4
   have z24:=f.size;refine Tu (w:=BI c) rfl (q.upd f fun _ _ h=>h) (fun y E=>by omega) (by simp only[dx,aL];omega) fun s' O R V=>?_
   show I (s',ac .i64 ((i:Int)+1)) O
   rw[dw d (by omega)];refine T (i+1) _ _ ⟨rfl,d,?_,(B.tr f).trans V fun y E=>.inr E⟩ (by omega)
   rw[D,fV];exact R
 ·have hi:i=l.length:=by have:¬(i:Int)<(sl.len:Int):=z;omega
  rw[hi,bf]at q;refine DZ (name:= [99,104,97,110,103,101,115]) (by decide) (by simpa using Q) (fun w S=>?_) (q.sl (W:=No) fun _ _ _ h=>h) (fun{x h' K} X=>HV.mk' (Dt x X)) fun h' k=>Z h' (m.tr k)
  obtain⟨c,hc,rfl⟩:=cL.1 S;have:=Me (F c hc);omega
end
end Go.Proofs
namespace Go.Proofs
open Go Go.Lift Go.RowKit
structure AnsD where
 e:Int
 id:Int
 se:Int
 v:ByteArray
 is:Bool
 ct:Int
 ps:List Pr
 cs:List Ch
 cf:List Cf
 ids:List Int
 ns:List Vn
def lP(a:AnsD)(d b c e f:SliceV):An:=(a.e,a.id,a.se,a.v,a.is,a.ct,d,b,c,e,f)
structure AnsOk(a:AnsD):Prop where
 e:0≤a.e∧a.e<14
 id:0≤a.id∧a.id<4294967296
 se:0≤a.se∧a.se≤9223372036854775807
 v:a.v.size≤1000
 ct:0≤a.ct∧a.ct≤9223372036854775807
 ps:a.ps.length≤9∧∀p∈a.ps,p.1.size≤1000∧p.2.size≤1000
 cs:a.cs.length≤9∧∀c∈a.cs,c.1.size≤1000∧c.2.1.size≤1000∧c.2.2.1.size≤1000
 cf:a.cf.length≤9∧∀c∈a.cf,c.1.size≤1000
 ids:a.ids.length≤9∧∀x∈a.ids,0≤x∧x<4294967296
 ns:a.ns.length≤9∧∀n∈a.ns,n.1.size≤1048576∧0≤n.2∧n.2<4294967296
structure AnsAt(h:ad)(a:AnsD)(s1 s2 s3 s4 s5:SliceV):Prop where
 ps:Sl kK 2 No h s1 a.ps
 cs:Sl zD 5 No h s2 a.cs
 cf:Sl Mj 7 No h s3 a.cf
 ids:Nums No h s4 a.ids
 ns:Sl Rh 2 No h s5 a.ns
theorem AnsAt.k0{h h':ad}{a:AnsD}{d b c e f:SliceV}(x:AnsAt h a d b c e f)(k:Upd No h h'):AnsAt h' a d b c e f:=
 ⟨x.ps.upd k fun _ h=>h.elim,x.cs.upd k fun _ h=>h.elim,x.cf.upd k fun _ h=>h.elim,x.ids.upd k fun _ h=>h.elim,x.ns.upd k fun _ h=>h.elim⟩
def oG(is:Bool)(w:List UInt8):List UInt8:=if is then[105,115,32]++w else[110,111,110,101]
def qi(k:Int)(a:AnsD):List UInt8:=
 if k=9 then[103,111,110,101]++blk (a.ids.map fun x=>dW x.toNat)
 else if k=25 then[118,101,114,115,105,111,110,115]++blk (a.ids.map fun x=>dW x.toNat)
 else if k=11∨k=22 then[112,97,105,114,115]++blk (a.ps.map CF)
 else if k=21 then(if a.is then[105,115]++blk (a.ps.map CF)else[110,111,110,101])
 else if k=14 then[115,101,115,115,105,111,110,32]++dW a.se.toNat
 else if k=23∨k=24 then[110,97,109,101,115]++blk (a.ns.map pw)
 else if k=12 then[99,104,97,110,103,101,115]++blk (a.cs.map BI)
 else[111,107]
def A5(a:AnsD):List UInt8:= [118,101,114,115,105,111,110,32]++dW a.id.toNat
def jY(k:Int)(a:AnsD):List UInt8:=
 if a.e≠0 then([101,114,114,111,114,32]++dW a.e.toNat)++iP a.cf
 else if k=8 then A5 a++iP a.cf
 else if k=4∨k=5∨k=6∨k=13∨k=19 then A5 a
 else if k=17 then oG a.is (lK a.v)++([32,111,102,32]++dW a.ct.toNat)
 else if k=10 then oG a.is (lK a.v)
 else qi k a
theorem T2{x:ByteArray}{h:ad}{K:ByteArray→ad→Prop}(b:∀y:ByteArray,y.size≤x.size→(∀r,x=aW (32::r)→y=aW r)→K y h):HC PG oJ [.string x,.string ⟨#[32]⟩] [.c .str] K h:=by
 refine BT x ⟨#[32]⟩ ?_;unfold uk kf;refine pW x ⟨#[32]⟩ ?_;unfold jP kf;refine ka x ⟨#[32]⟩ ?_;unfold gD;have c:(⟨#[32]⟩:ByteArray).size=1:=rfl;refine aK (fun e=>⟨⟨by omega,by omega⟩,?_⟩) fun e=>aj.2 (b x (ax _) fun r a=>?_)
 ·rw[c]
  refine CondP.intro (fun e1=>⟨⟨by omega,by omega⟩,b _ (by rw[kF];omega) fun r a=>?_⟩) fun e1=>b x (ax _) fun r a=>?_
  ·rw[a]
   exact N5 [32] r _ (by rw[bq];rfl)
  ·rw[a,show((1:Nat):Int).toNat=([32]:List UInt8).length from rfl,show aW (32::r)=aW ([32]++r)from rfl,N6 [32] r,eG,decide_eq_true (show aW [32]=(⟨#[32]⟩:ByteArray)from rfl)]at e1
   cases e1
 ·rw[a,bq,aG]at e
  omega
theorem IT{is:Bool}{x:ByteArray}(hx:x.size≤3000000){h:ad}{K:ByteArray→ad→Prop}(a:K (if is then(⟨#[105,115,32]⟩:ByteArray)++x else⟨#[110,111,110,101]⟩) h):HC PG mn [.bool is,.string x] [.c .str] K h:=by
 cases is with
 |true=>exact L1 hx a
 |false=>
  refine Cc false x ?_;unfold wG;exact aB.2 a
section
variable {a:AnsD} {s1 s2 s3 s4 s5:SliceV} {h:ad} {k:Int} {K:ByteArray→ad→Prop}
theorem Qd(c:AnsOk a)(at_:AnsAt h a s1 s2 s3 s4 s5)(E:Laid h)(z:k=21→a.is=true→a.ps.length=1)(b:∀h',Upd No h h'→K (aW (qi k a)) h'):HC PG qn [.int .i64 k,vy (lP a s1 s2 s3 s4 s5)] [.c .str] K h:=by
 refine zF k (lP a s1 s2 s3 s4 s5) ?_;unfold vd ar cg aq bc aD xf kf QV TV;refine qN fun B b1 k1=>?_
 have d:=at_.k0 k1;have i:=E.upd0 k1;unfold qi at b;refine CondP.intro (fun e=>?_) fun s=>CondP.intro (fun e=>?_) fun f=>SE (CondP.intro (fun e=>?_) fun g=>CondP.intro (fun e=>?_) fun j=>CondP.intro (fun e=>?_) fun o=>SE (CondP.intro (fun e=>?_) fun u=>CondP.intro (fun e=>?_) fun A=>?_))
 ·rw[if_pos (by simpa using e)]at b
  exact⟨_,vc b1 9,Gn (name:= [103,111,110,101]) (by decide) (by have:=c.ids.1;omega) c.ids.2 d.ids i fun h' k'=>b h' (k1.tr k')⟩
 ·rw[if_neg (by simpa using s),if_pos (by simpa using e)]at b
  exact⟨_,vc b1 9,Gn (name:= [118,101,114,115,105,111,110,115]) (by decide) (by have:=c.ids.1;omega) c.ids.2 d.ids i fun h' k'=>b h' (k1.tr k')⟩
 ·rw[if_neg (by simpa using s),if_neg (by simpa using f),if_pos (by simpa using e)]at b
  exact⟨_,vc b1 6,Gm (name:= [112,97,105,114,115]) (by decide) (by have:=c.ps.1;omega) c.ps.2 d.ps fun h' k'=>b h' (k1.tr k')⟩
 ·rw[if_neg (by simpa using s),if_neg (by simpa using f),if_neg (by simpa using g),if_pos (by simpa using e)]at b
  refine⟨_,vc b1 4,_,vc b1 6,Gm (name:= []) (by decide) (by have:=c.ps.1;omega) c.ps.2 d.ps fun v t=>⟨vc (t.get0 b1) 4,T2 fun y G D=>⟨vc (t.get0 b1) 4,IT ?_ ?_⟩⟩⟩
  ·have C:=yM (m:=5000) (a.ps.map CF) fun w H=>by
    obtain⟨q,I,rfl⟩:=cL.1 H;exact BC (c.ps.2 q I)
   rw[dx]at C;have:=gE 5001 c.ps.1;have q:=bq (([]:List UInt8)++blk (a.ps.map CF));rw[fh]at q G;omega
  ·have b:=b v (k1.tr t)
   show K (if a.is then _ else _) v
   cases his:a.is with
   |false=>rw[his]at b;exact b
   |true=>
    rw[his]at b;have B:=z (by simpa using e) his;obtain⟨p,F⟩:=List.length_eq_one_iff.1 B;rw[F]at b D;have C:blk ([p].map CF)=32::CF p:=by simp[blk]
    rw[C]at b D;rw[D (CF p) rfl];exact b
 ·rw[if_neg (by simpa using s),if_neg (by simpa using f),if_neg (by simpa using g),if_neg (by simpa using j),if_pos (by simpa using e)]at b
  have J:(⟨#[115,101,115,115,105,111,110,32]⟩:ByteArray).size=8:=rfl;have hd:=px (n:=a.se.toNat) (by have:=c.se;omega);refine⟨_,vc b1 2,C8 (n:=a.se) (by have:=c.se;omega) c.se.2 i.tab fun x v hx t=>?_⟩
  rw[hx c.se.1];have q:=bq (dW a.se.toNat);exact⟨by omega,b v (k1.tr t)⟩
 ·rw[if_neg (by simpa using s),if_neg (by simpa using f),if_neg (by simpa using g),if_neg (by simpa using j),if_neg (by simpa using o),if_pos (by simpa using e)]at b
  exact⟨_,vc b1 0,_,vc b1 1,_,vc b1 2,_,vc b1 3,_,vc b1 4,_,vc b1 5,_,vc b1 6,_,vc b1 7,_,vc b1 8,_,vc b1 9,_,vc b1 10,Su (e:=lP a s1 s2 s3 s4 s5) (by have:=c.ns.1;omega) c.ns.2 d.ns i fun h' k'=>b h' (k1.tr k')⟩
 ·rw[if_neg (by simpa using s),if_neg (by simpa using f),if_neg (by simpa using g),if_neg (by simpa using j),if_neg (by simpa using o),if_neg (by simpa using u),if_pos (by simpa using e)]at b
  exact⟨_,vc b1 0,_,vc b1 1,_,vc b1 2,_,vc b1 3,_,vc b1 4,_,vc b1 5,_,vc b1 6,_,vc b1 7,_,vc b1 8,_,vc b1 9,_,vc b1 10,Of (e:=lP a s1 s2 s3 s4 s5) (by have:=c.cs.1;omega) c.cs.2 d.cs fun h' k'=>b h' (k1.tr k')⟩
 ·rw[if_neg (by simpa using s),if_neg (by simpa using f),if_neg (by simpa using g),if_neg (by simpa using j),if_neg (by simpa using o),if_neg (by simpa using u),if_neg (by simpa using A)]at b
  exact b B k1
theorem N4{n:Int}(b:0≤n)(f:n≤1000){h:ad}(a:Laid h){K:ByteArray→ad→Prop}(c:∀h',Upd No h h'→K (aW ([101,114,114,111,114,32]++dW n.toNat)) h'):HC PG ju [.int .i64 n] [.c .str] K h:=by
 refine HR n ?_;unfold zR;have g:(⟨#[101,114,114,111,114,32]⟩:ByteArray).size=6:=rfl;have hd:=px (n:=n.toNat) (by omega);refine C8 (n:=n) (by omega) (by omega) a.tab fun x e hx d=>?_
 rw[hx b];have q:=bq (dW n.toNat);exact⟨by omega,c e d⟩
theorem or5{v a b c d e:Int}{h:ad}{R:Bool→ad→Prop}(f:R (v==a||(v==b||(v==c||(v==d||v==e)))) h):Join R (fun J=>CondP (v==a) (J (v==a) h) (CondP (v==b) (J (v==b) h) (CondP (v==c) (J (v==c) h) (CondP (v==d) (J (v==d) h) (J (v==e) h))))):=
 Join.plain (CondP.intro (fun q=>by rw[q]at f⊢;exact f) fun q=>by
  rw[q,nt]at f
  exact CondP.intro (fun q=>by rw[q]at f⊢;exact f) fun q=>by
   rw[q,nt]at f
   exact CondP.intro (fun q=>by rw[q]at f⊢;exact f) fun q=>by
    rw[q,nt]at f
    exact CondP.intro (fun q=>by rw[q]at f⊢;exact f) fun q=>by
     rw[q,nt]at f
     exact f)
theorem T3(b:AnsOk a)(at_:AnsAt h a s1 s2 s3 s4 s5)(Q:Laid h)(D:k=21→a.is=true→a.ps.length=1)(c:∀h',Upd No h h'→K (aW (jY k a)) h'):HC PG j8 [.int .i64 k,vy (lP a s1 s2 s3 s4 s5)] [.c .str] K h:=by
 refine ue k (lP a s1 s2 s3 s4 s5) ?_;unfold qY ar cg aq bc aD xf QV TV;refine qN fun A b1 k1=>⟨a.e,vc b1 0,?_⟩
 have i:=at_.k0 k1;have f:=Q.upd0 k1;have C:=AB (l:=a.cf) (by have:=b.cf.1;omega) b.cf.2;have X:=bq (iP a.cf);have R:=px (n:=a.id.toNat) (by have:=b.id;omega);unfold jY at c;refine CondP.intro (fun e=>?_) fun ne=>?_
 ·have V:=px (n:=a.e.toNat) (by have:=b.e;omega)
  have W:=bq ([101,114,114,111,114,32]++dW a.e.toNat);rw[ah]at W;have l6:([101,114,114,111,114,32]:List UInt8).length=6:=rfl;rw[if_pos (by simpa using e)]at c;refine⟨a.e,vc b1 0,_,vc b1 8,N4 b.e.1 (by have:=b.e.2;omega) f fun y d=>⟨vc (d.get0 b1) 8,Gw (by have:=b.cf.1;omega) b.cf.2 (i.k0 d).cf fun P N=>⟨by omega,?_⟩⟩⟩
  rw[cr];exact c P ((k1.tr d).tr N)
 rw[if_neg (by simpa using ne)]at c;have p:∀(t:List UInt8) {h':ad},t.length≤3000000→Upd No A h'→(∀h'',Upd No h h''→K (aW (A5 a++t)) h'')→∃v35:Int,aC h' (adr (aJ h) 1)=some (.int .u32 v35)∧HC PG kV [.int .u32 v35] [.c .str] (fun(j:ByteArray) E=>((((⟨#[118,101,114,115,105,111,110,32]⟩:ByteArray).size+j.size:Nat):Int)≤9223372036854775807∧(((((⟨#[118,101,114,115,105,111,110,32]⟩:ByteArray)++j).size+(aW t).size:Nat):Int)≤9223372036854775807∧Bd (((⟨#[118,101,114,115,105,111,110,32]⟩:ByteArray)++j)++aW t:ByteArray) (fun J=>K J E)))) h':=by
  intro t h' T q o;obtain⟨m,hm⟩:∃m:Nat,a.id=(m:Int):=⟨a.id.toNat,by have:=b.id;omega⟩
  have s8:(⟨#[118,101,114,115,105,111,110,32]⟩:ByteArray).size=8:=rfl;have qd:=bq (dW m);have U:=bq t;have Y:(dW m).length≤20:=px (by have:=b.id;omega);refine⟨a.id,vc (q.get0 b1) 1,?_⟩;rw[hm];refine Pf (by have:=b.id;omega) (f.upd0 q) fun y d=>⟨by omega,by rw[aZ];omega,GE ?_⟩
  have:=o y ((k1.tr q).tr d);rw[A5,hm,ai,←cr,←cr]at this;exact this
 have H:∀(t:List UInt8) {h':ad},t.length≤3000000→Upd No A h'→(∀h'',Upd No h h''→K (aW (oG a.is (lK a.v)++t)) h'')→∃v41:Bool,aC h' (adr (aJ h) 4)=some (.bool v41)∧∃v42:ByteArray,aC h' (adr (aJ h) 3)=some (.string v42)∧HC PG jv [.string v42] [.c .str] (fun(F:ByteArray) u=>(aC u (adr (aJ h) 4)=some (.bool v41)∧HC PG mn [.bool v41,.string F] [.c .str] (fun(z:ByteArray) G=>(((z.size+(aW t).size:Nat):Int)≤9223372036854775807∧K (z++aW t) G)) u)) h':=by
  intro t h' T q o;have hx:(mI a.v.data.toList).length≤_:=gQ a.v;have Z:=b.v;have U:=bq t;have qh:=bq (mI a.v.data.toList);have s3:(⟨#[105,115,32]⟩:ByteArray).size=3:=rfl;have s4:(⟨#[110,111,110,101]⟩:ByteArray).size=4:=rfl;refine⟨a.is,vc (q.get0 b1) 4,a.v,vc (q.get0 b1) 3,Ap (by omega) fun y d=>⟨vc (d.get0 (q.get0 b1)) 4,IT (by omega) ?_⟩⟩
  have:=o y ((k1.tr q).tr d);cases his:a.is with
  |true=>
   rw[his,oG,if_pos rfl,←cr,←cr]at this;exact⟨by rw[if_pos rfl,aZ];omega,this⟩
  |false=>
   rw[his,oG,if_neg Bool.false_ne_true,←cr]at this;exact⟨by rw[if_neg Bool.false_ne_true];omega,this⟩
 refine Join.intro (fun(t:ByteArray) h'=>∃w:List UInt8,t=aW w∧w.length≤3000000∧Upd No A h'∧∀h'',Upd No h h''→K (aW (oG a.is (lK a.v)++w)) h'') (fun J9 s=>?_) ?_
 rotate_left
 ·rintro _ h' ⟨w,rfl,L,q,o⟩
  exact H w L q o
 refine Join.intro (fun(t:ByteArray) h'=>∃w:List UInt8,t=aW w∧w.length≤3000000∧Upd No A h'∧∀h'',Upd No h h''→K (aW (A5 a++w)) h'') (fun S g=>?_) ?_
 rotate_left
 ·rintro _ h' ⟨w,rfl,L,q,o⟩
  exact p w L q o
 refine CondP.intro (fun e=>?_) fun B=>or5 (CondP.intro (fun e=>?_) fun O=>CondP.intro (fun e=>?_) fun v=>CondP.intro (fun e=>?_) fun I=>?_)
 ·rw[if_pos (by simpa using e)]at c
  exact⟨_,vc b1 8,Gw (by have:=b.cf.1;omega) b.cf.2 i.cf fun P N=>g _ _ ⟨iP a.cf,rfl,C,N,c⟩⟩
 ·rw[if_neg (by simpa using B),if_pos (by simpa using e)]at c
  exact g _ _ ⟨[],rfl,be _,Upd.refl _ _,by simpa using c⟩
 ·rw[if_neg (by simpa using B),if_neg (by simpa using O),if_pos (by simpa using e)]at c
  have s4:(⟨#[32,111,102,32]⟩:ByteArray).size=4:=rfl;have hd:=px (n:=a.ct.toNat) (by have:=b.ct;omega);refine⟨a.ct,vc b1 5,C8 (n:=a.ct) (by have:=b.ct;omega) b.ct.2 f.tab fun x y hx d=>?_⟩
  rw[hx b.ct.1];have q:=bq (dW a.ct.toNat);exact⟨by omega,s _ _ ⟨[32,111,102,32]++dW a.ct.toNat,rfl,by simp only[ah,aG,bU];omega,d,c⟩⟩
 ·rw[if_neg (by simpa using B),if_neg (by simpa using O),if_neg (by simpa using v),if_pos (by simpa using e)]at c
  exact s _ _ ⟨[],rfl,be _,Upd.refl _ _,by simpa using c⟩
 ·rw[if_neg (by simpa using B),if_neg (by simpa using O),if_neg (by simpa using v),if_neg (by simpa using I)]at c
  exact⟨_,vc b1 0,_,vc b1 1,_,vc b1 2,_,vc b1 3,_,vc b1 4,_,vc b1 5,_,vc b1 6,_,vc b1 7,_,vc b1 8,_,vc b1 9,_,vc b1 10,Qd b i f D fun h' k'=>c h' (k1.tr k')⟩
end
end Go.Proofs
namespace Go.Proofs
open Go Go.Lift Go.RowKit
theorem BQ{A:Nat→List UInt8}{n len:Nat}(c:len=n)(o:n≤1000){h:ad}{Body:(ByteArray×Int→ad→Prop)→ByteArray×Int→ad→Prop}
  (j:∀i,i<n→∀(I:ByteArray×Int→ad→Prop) h',Upd No h h'→(∀b,Upd No h' b→I (aW (A (i+1)),ac .i64 ((i:Int)+1)) b)→Body I (aW (A i),(i:Int)) h')
  {K:ByteArray→ad→Prop}(m:∀h',Upd No h h'→K (aW (A n)) h'){x:ByteArray}(hx:x=aW (A 0)):
  LoopP (fun(I:ByteArray×Int→ad→Prop) (t:ByteArray×Int) g=>CondP (decide (t.2<(len:Int))) (Body I t g) (K t.1 g)) (x,0) h:=by
 subst c hx;refine LoopP.ghost (fun(i:Nat) (t:ByteArray×Int) h'=>t=(aW (A i),(i:Int))∧i≤len∧Upd No h h') (fun i=>len-i) 0 ⟨rfl,be _,Upd.refl _ _⟩ ?_
 rintro I i t h' ⟨rfl,hi,f⟩ k;refine aK (fun a=>?_) fun e=>?_
 ·have a:i<len:=by have:(i:Int)<(len:Int):=a;omega
  refine j i a I h' f fun b d=>?_
  rw[dw a (by omega)];exact k (i+1) _ _ ⟨rfl,a,f.tr d⟩ (by omega)
 ·have hi:i=len:=by have:¬(i:Int)<(len:Int):=e;omega
  rw[hi];exact m h' f
theorem yf{α:Type}(g:α→List UInt8)(a:List UInt8){l:List α}{i:Nat}(hi:i<l.length):a++blk ((l.take (i+1)).map g)=(a++blk ((l.take i).map g))++32::g l[i]:=by
 rw[DF hi,fV,Pv,←aH];simp[blk]
theorem yP{α:Type}{g:α→List UInt8}{m:Nat}{l:List α}(h:∀x∈l,(g x).length≤m)(c:l.length≤9)(i:Nat):(blk ((l.take i).map g)).length≤9*(m+1):=by
 have:=yM (m:=m) ((l.take i).map g) fun w a=>by
  obtain⟨x,hx,rfl⟩:=cL.1 a;exact h x (ft hx)
 rw[dx,aL]at this;have b:min i l.length*(m+1)≤9*(m+1):=gE _ (by omega);omega
section
variable {h:ad} {s:SliceV} {K:ByteArray→ad→Prop}
theorem DP{l:List Pr}(v:l.length≤9)(j:∀p∈l,p.1.size≤1000∧p.2.size≤1000)(m:Sl kK 2 No h s l)(y:∀h',Upd No h h'→K (aW (blk (l.map CF))) h'):HC PG tV [.slice s.a s.len s.cap] [.c .str] K h:=by
 refine Mv s ?_;unfold D8 dE aq bE nv rV kf;have b:=m.len;have q:∀p∈l,(CF p).length≤5000:=fun p t=>BC (j p t)
 refine BQ (A:=fun i=> []++blk ((l.take i).map CF)) b (by omega) (fun i hi I h' k f=>?_) (fun h' k=>by have:=y h' k;rw[bf];exact this) rfl
 obtain⟨a,o,_,g⟩:=(m.upd k fun _ h=>h.elim).at (ag hi)
 have u:=j l[i] (bp hi);have O:=yP q v i;rw[yf CF [] hi]at f;have x:=bq ([]++blk ((l.take i).map CF));rw[fh]at x;simp only[fh]at f;generalize blk ((l.take i).map CF)=acc at*;generalize l[i]=p at*;have N:(mI p.1.data.toList).length≤_:=gQ p.1;have D:(mI p.2.data.toList).length≤_:=gQ p.2;have E:=bq (mI p.1.data.toList)
 have F:=bq (mI p.2.data.toList);have J:(⟨#[32]⟩:ByteArray).size=1:=rfl;have C:(⟨#[61]⟩:ByteArray).size=1:=rfl;refine⟨⟨by simp only;omega,by simp only;omega⟩,a,o,p.1,by simp only[ai];exact g 0 _ rfl,p.2,by simp only[ai];exact g 1 _ rfl,qN fun H c1 k1=>cY (c:= [.string ⟨#[]⟩,.string ⟨#[]⟩]) (vs:=kK p) c1 rfl fun L d w=>⟨_,vc d 0,_,vc d 1,su (by omega) fun G n=>⟨vc (n.get0 d) 1,by omega,by simp only[aZ];omega,su (by omega) fun z B=>⟨by simp only[aZ];omega,by simp only[aZ,fh];omega,GE ?_⟩⟩⟩⟩
 have e:(((⟨#[32]⟩:ByteArray)++aW (mI p.1.data.toList))++(⟨#[61]⟩:ByteArray))++aW (mI p.2.data.toList)=aW (32::CF p):=by
  rw[show(⟨#[32]⟩:ByteArray)=aW [32]from rfl,show(⟨#[61]⟩:ByteArray)=aW [61]from rfl,cr,cr,cr];simp[CF,lK]
 rw[e];have:=f z (((k1.own w (ax _)).tr n).tr B);rw[←cr]at this;exact this
theorem zx{l:List Cf}(J:l.length≤9)(o:∀c∈l,c.1.size≤1000)(u:Sl Mj 7 No h s l)(D:∀h',Upd No h h'→K (aW (iP l)) h'):HC PG qm [.slice s.a s.len s.cap] [.c .str] K h:=by
 refine HP s ?_;unfold zP dE aq bE cq nv TG TH;have d:=u.len;refine BQ (A:=fun i=>iP (l.take i)) d (by omega) (fun i hi I h' k p=>?_) (fun h' k=>by have:=D h' k;rw[bf];exact this) rfl
 obtain⟨a,v,_,b⟩:=(u.upd k fun _ h=>h.elim).at (ag hi)
 have x:=o l[i] (bp hi);have E:(iP (l.take i)).length≤3000000:=AB (by rw[aL];omega) fun c hc=>o c (ft hc)
 have j:iP (l.take (i+1))=(if i=0 then[32,99,111,110,102,108,105,99,116,115]else iP (l.take i))++32::lK l[i].1:=by
  have f:l.take (i+1)≠[]:=fun e=>by have:=congrArg ia e;rw[aL,bU]at this;omega
  rw[iP,if_neg f,yf (fun c:Cf=>lK c.1) _ hi]
  congr 1
  by_cases e:i=0
  ·rw[if_pos e,e];rfl
  ·rw[if_neg e,iP,if_neg fun e2=>by have:=congrArg ia e2;rw[aL,bU]at this;omega]
 rw[j]at p;have N:=bq (iP (l.take i));have H:i=0→iP (l.take i)= []:=fun e=>by rw[e];rfl
 generalize iP (l.take i)=acc at*;generalize l[i]=c at*;have S:(mI c.1.data.toList).length≤_:=gQ c.1;have G:=bq (mI c.1.data.toList);have O:(⟨#[32]⟩:ByteArray).size=1:=rfl;refine⟨⟨by simp only;omega,by simp only;omega⟩,a,v,c.1,by simp only[ai];exact b 0 _ rfl,c.2.1.1,by simp only[ai];exact b 1 _ rfl,c.2.1.2,by simp only[ai];exact b 2 _ rfl,c.2.2.1.1,by simp only[ai];exact b 3 _ rfl,c.2.2.1.2,by simp only[ai];exact b 4 _ rfl,c.2.2.2.1,by simp only[ai];exact b 5 _ rfl,c.2.2.2.2,by simp only[ai];exact b 6 _ rfl,qN fun L c1 k1=>cY (c:= [.string ⟨#[]⟩,.string ⟨#[]⟩,.bool false,.string ⟨#[]⟩,.bool false,.string ⟨#[]⟩,.bool false]) (vs:=Mj c) c1 rfl fun q y z=>?_⟩
 have m:Upd No h' q:=k1.own z (ax _);refine Join.intro (fun(t:ByteArray) g=>g=q∧∃w,t=aW w∧w.length≤3000000∧w=if i=0 then[32,99,111,110,102,108,105,99,116,115]else acc) (fun R n=>CondP.intro (fun e=>n _ _ ⟨rfl,_,rfl,by decide,?_⟩) fun e=>n _ _ ⟨rfl,acc,rfl,E,?_⟩) ?_
 ·have e:(i:Int)=0:=by simpa using e
  have e:i=0:=by omega
  rw[if_pos e]
 ·have e:¬(i:Int)=0:=by simpa using e
  have e:i≠0:=by omega
  rw[if_neg e]
 ·rintro _ g ⟨rfl,w,rfl,P,F⟩
  have Q:=bq w;refine⟨_,vc y 0,su (by omega) fun B C=>⟨by omega,by rw[aZ];omega,?_⟩⟩
  have e:(⟨#[32]⟩:ByteArray)++aW (mI c.1.data.toList)=aW (32::lK c.1):=by
   rw[show(⟨#[32]⟩:ByteArray)=aW [32]from rfl,cr];rfl
  rw[e];have:=p B (m.tr C);rw[←cr,←F]at this;exact this
end
end Go.Proofs
namespace Go.Proofs
open Go Go.Lift Go.RowKit
theorem vT{x:Int}(a:0≤x)(b:x≤9223372036854775807):ac .u64 x=((x.toNat:Nat):Int):=by rw[IntKind.wrap_u64];omega
section
variable {a:AnsD} {s1 s2 s3 s4 s5:SliceV} {h:ad} {k:Int} {K:ByteArray→ad→Prop}
set_option maxHeartbeats 1000000 in
theorem Nx(d:AnsOk a)(at_:AnsAt h a s1 s2 s3 s4 s5)(f:∀h',Upd No h h'→K (aW (jY k a)) h'):HC PG As [.int .i64 k,vy (lP a s1 s2 s3 s4 s5)] [.c .str] K h:=by
 refine Ox k (lP a s1 s2 s3 s4 s5) ?_;unfold GW bL dE ar cg aq bE cq bc aD nv xf H6 AZ eW Va Vm Vq;refine qN fun h1 b1 k1=>⟨a.e,vc b1 0,?_⟩
 have U:=at_.k0 k1;have hcl:=AB (l:=a.cf) (by have:=d.cf.1;omega) d.cf.2;have qcl:=bq (iP a.cf);have hdi:=px (n:=a.id.toNat) (by have:=d.id;omega);have qdi:=bq (dW a.id.toNat);have s8:(⟨#[118,101,114,115,105,111,110,32]⟩:ByteArray).size=8:=rfl;refine CondP.intro (fun e=>?_) fun ne=>?_
 ·have v:a.e≠0:=by simpa using e
  have T:jY k a=([101,114,114,111,114,32]++dW a.e.toNat)++iP a.cf:=if_pos v;rw[T]at f;have hde:=px (n:=a.e.toNat) (by have:=d.e;omega);have qde:=bq (dW a.e.toNat);have s6:(⟨#[101,114,114,111,114,32]⟩:ByteArray).size=6:=rfl;refine⟨a.e,vc b1 0,_,vc b1 8,?_⟩;rw[vT d.e.1 (by have:=d.e;omega)];refine pI a.e.toNat (by have:=d.e;omega) ⟨vc b1 8,vc b1 0,by omega,zx d.cf.1 d.cf.2 U.cf fun h3 S=>⟨vc (S.get0 b1) 0,by rw[aZ];omega,?_⟩⟩
  have:=f h3 (k1.tr S);rw[←cr,←cr]at this;exact this
 have v:a.e=0:=by simpa using ne
 have hx:(mI a.v.data.toList).length≤_:=gQ a.v;have y:=d.v;have qh:=bq (mI a.v.data.toList);have s3':(⟨#[105,115,32]⟩:ByteArray).size=3:=rfl;refine Join.intro (fun(t:ByteArray) h'=>t=aW (oG a.is (lK a.v))∧Upd No h1 h') (fun J hJ=>⟨a.is,vc b1 4,CondP.intro (fun e=>⟨a.v,vc b1 3,su (by omega) fun Z N=>⟨by omega,hJ _ _ ⟨?_,N⟩⟩⟩) fun e=>hJ _ _ ⟨?_,Upd.refl _ _⟩⟩) ?_
 ·rw[e,oG,if_pos rfl,←cr]
 ·rw[e,oG];rfl
 rintro _ g ⟨rfl,kg⟩;have u:=kg.get0 b1;have o:=U.k0 kg;have j:=k1.tr kg;have hf:(oG a.is (lK a.v)).length≤3000:=by
  have hx:(lK a.v).length≤_:=gQ a.v;unfold oG;split
  ·simp only[ah,aG,bU];omega
  ·simp
 have qf:=bq (oG a.is (lK a.v));refine or5 (CondP.intro (fun e=>?_) fun nv=>CondP.intro (fun e=>?_) fun n8=>SE (CondP.intro (fun e=>?_) fun w=>CondP.intro (fun e=>?_) fun O=>CondP.intro (fun e=>?_) fun Y=>SE (CondP.intro (fun e=>?_) fun F=>CondP.intro (fun e=>?_) fun Q=>CondP.intro (fun e=>?_) fun W=>CondP.intro (fun e=>?_) fun X=>SE (CondP.intro (fun e=>?_) fun G=>?_))))
 ·have T:jY k a=A5 a:=by
   rcases(by simpa using e:k=4∨k=5∨k=6∨k=13∨k=19)with rfl|rfl|rfl|rfl|rfl<;>simp[jY,v]
  rw[T]at f;refine⟨a.id,vc u 1,?_⟩;rw[vT d.id.1 (by have:=d.id;omega)];refine pI a.id.toNat (by have:=d.id;omega) ⟨by omega,?_⟩;have:=f g j;rw[A5,←cr]at this;exact this
 ·obtain rfl:k=8:=by simpa using e
  have T:jY 8 a=A5 a++iP a.cf:=by simp[jY,v]
  rw[T]at f;refine⟨a.id,vc u 1,_,vc u 8,?_⟩;rw[vT d.id.1 (by have:=d.id;omega)];refine pI a.id.toNat (by have:=d.id;omega) ⟨vc u 8,vc u 1,by omega,zx d.cf.1 d.cf.2 o.cf fun h3 S=>⟨vc (S.get0 u) 1,by rw[aZ];omega,GE ?_⟩⟩
  have:=f h3 (j.tr S);rw[A5,←cr,←cr]at this;exact this
 ·have T:jY k a=(if k=25 then[118,101,114,115,105,111,110,115]else[103,111,110,101])++blk (a.ids.map fun x=>dW x.toNat):=by
   rcases(by simpa using e:k=9∨k=25)with rfl|rfl<;>simp[jY,qi,v]
  rw[T]at f;refine Join.intro (fun(t:ByteArray) h'=>h'=g∧t=aW (if k=25 then[118,101,114,115,105,111,110,115]else[103,111,110,101])) (fun R hR=>CondP.intro (fun e=>hR _ _ ⟨rfl,?_⟩) fun e=>hR _ _ ⟨rfl,?_⟩) ?_
  ·rw[if_pos (by simpa using e)]
  ·rw[if_neg (by simpa using e)]
  rintro _ g' ⟨rfl,rfl⟩;have hs0:(if k=25 then([118,101,114,115,105,111,110,115]:List UInt8)else[103,111,110,101]).length≤8:=by split<;>simp
  generalize (if k=25 then([118,101,114,115,105,111,110,115]:List UInt8)else[103,111,110,101])=s0 at f hs0⊢
  have q:=o.ids.len;have L:∀x∈a.ids,(dW x.toNat).length≤20:=fun x hx=>px (by have:=d.ids.2 x hx;omega)
  refine⟨s4,vc u 9,BQ (A:=fun i=>s0++blk ((a.ids.take i).map fun x=>dW x.toNat)) q (by have:=d.ids.1;omega) (fun i hi I h' z C=>?_) (fun h' z=>by have:=f h' (j.tr z);rw[bf];exact this) (by simp[blk])⟩
  obtain⟨b,V,_,y⟩:=(o.ids.upd z fun _ h=>h.elim).at0 (g:=fun x=>Value.int .u32 x) (ag hi)
  have B:=d.ids.2 a.ids[i] (bp hi);have H:=yP (g:=fun x:Int=>dW x.toNat) L d.ids.1 i
  rw[yf (fun x:Int=>dW x.toNat) s0 hi]at C
  have E:=bq (s0++blk ((a.ids.take i).map fun x=>dW x.toNat))
  rw[ah]at E;generalize blk ((a.ids.take i).map fun x=>dW x.toNat)=acc at*
  generalize a.ids[i]=x at*;have hdx:=px (n:=x.toNat) (by omega);have qx:=bq (dW x.toNat);have s1:(⟨#[32]⟩:ByteArray).size=1:=rfl;refine⟨⟨by simp only;omega,by simp only;omega⟩,b,V,x,by simp only[ai];exact y,?_⟩
  rw[vT B.1 (by omega)];refine pI x.toNat (by omega) ⟨by omega,by simp only[aZ];omega,?_⟩
  have:=C h' (Upd.refl _ _);rw[←cr,show aW (32::dW x.toNat)=(⟨#[32]⟩:ByteArray)++aW (dW x.toNat)from(cr [32] _).symm]at this
  exact this
 ·obtain rfl:k=10:=by simpa using e
  have T:jY 10 a=oG a.is (lK a.v):=by simp[jY,v]
  rw[T]at f;exact f g j
 ·obtain rfl:k=17:=by simpa using e
  have T:jY 17 a=oG a.is (lK a.v)++([32,111,102,32]++dW a.ct.toNat):=by simp[jY,v]
  rw[T]at f;have hd:=px (n:=a.ct.toNat) (by have:=d.ct;omega);have qd:=bq (dW a.ct.toNat);have s4':(⟨#[32,111,102,32]⟩:ByteArray).size=4:=rfl;refine⟨by omega,a.ct,vc u 5,?_⟩;rw[vT d.ct.1 d.ct.2];refine pI a.ct.toNat (by have:=d.ct;omega) ⟨by rw[aZ];omega,?_⟩;have:=f g j;rw[←aH,←cr,←cr]at this;exact this
 ·have T:jY k a= [112,97,105,114,115]++blk (a.ps.map CF):=by
   rcases(by simpa using e:k=11∨k=22)with rfl|rfl<;>simp[jY,qi,v]
  rw[T]at f;have H:=yP (g:=CF) (m:=5000) (fun p hp=>BC (d.ps.2 p hp)) d.ps.1 a.ps.length
  rw[bf]at H;have E:=bq (blk (a.ps.map CF));have s5':(⟨#[112,97,105,114,115]⟩:ByteArray).size=5:=rfl;refine⟨s1,vc u 6,DP d.ps.1 d.ps.2 o.ps fun Z N=>⟨by omega,?_⟩⟩
  have:=f Z (j.tr N);rw[←cr]at this;exact this
 ·obtain rfl:k=12:=by simpa using e
  have T:jY 12 a= [99,104,97,110,103,101,115]++blk (a.cs.map BI):=by simp[jY,qi,v]
  rw[T]at f;have q:=o.cs.len;have L:∀c∈a.cs,(BI c).length≤7000:=fun c hc=>Me (d.cs.2 c hc)
  refine⟨s2,vc u 7,BQ (A:=fun i=> [99,104,97,110,103,101,115]++blk ((a.cs.take i).map BI)) q (by have:=d.cs.1;omega) (fun i hi I h' z C=>?_) (fun h' z=>by have:=f h' (j.tr z);rw[bf];exact this) rfl⟩
  obtain⟨b,V,_,y⟩:=(o.cs.upd z fun _ h=>h.elim).at (ag hi)
  have B:=d.cs.2 a.cs[i] (bp hi);have H:=yP L d.cs.1 i;rw[yf BI [99,104,97,110,103,101,115] hi]at C;have E:=bq ([99,104,97,110,103,101,115]++blk ((a.cs.take i).map BI));rw[ah]at E;have l7:([99,104,97,110,103,101,115]:List UInt8).length=7:=rfl;generalize blk ((a.cs.take i).map BI)=acc at*;generalize a.cs[i]=c at*;have x1:(mI c.1.data.toList).length≤_:=gQ c.1
  have x2:=ss c.2.1 c.2.2.2.1;have x3:=ss c.2.2.1 c.2.2.2.2;have q1:=bq (mI c.1.data.toList);have q2:=bq (rB c.2.1 c.2.2.2.1);have q3:=bq (rB c.2.2.1 c.2.2.2.2);have s1:(⟨#[32]⟩:ByteArray).size=1:=rfl;have P:(⟨#[58]⟩:ByteArray).size=1:=rfl;refine⟨⟨by simp only;omega,by simp only;omega⟩,b,V,c.1,by simp only[ai];exact y 0 _ rfl,c.2.1,by simp only[ai];exact y 1 _ rfl,c.2.2.1,by simp only[ai];exact y 2 _ rfl,c.2.2.2.1,by simp only[ai];exact y 3 _ rfl,c.2.2.2.2,by simp only[ai];exact y 4 _ rfl,qN fun g1 c1 y1=>cY (c:= [.string ⟨#[]⟩,.string ⟨#[]⟩,.string ⟨#[]⟩,.bool false,.bool false]) (vs:=zD c) c1 rfl fun g2 s u2=>⟨_,vc s 0,_,vc s 1,_,vc s 3,_,vc s 2,_,vc s 4,su (by omega) fun g3 D=>⟨vc (D.get0 s) 4,vc (D.get0 s) 2,vc (D.get0 s) 3,vc (D.get0 s) 1,by omega,by rw[aZ];omega,FI (by omega) fun g4 y4=>⟨vc (y4.get0 (D.get0 s)) 4,vc (y4.get0 (D.get0 s)) 2,by simp only[aZ];omega,by simp only[aZ];omega,GE (FI (by omega) fun g5 y5=>⟨by simp only[aZ];omega,by simp only[aZ];omega,?_⟩)⟩⟩⟩⟩
  have e:((((((⟨#[32]⟩:ByteArray)++aW (mI c.1.data.toList))++(⟨#[58]⟩:ByteArray))++aW (rB c.2.1 c.2.2.2.1))++(⟨#[58]⟩:ByteArray))++aW (rB c.2.2.1 c.2.2.2.2))=aW (32::BI c):=by
   rw[show(⟨#[32]⟩:ByteArray)=aW [32]from rfl,show(⟨#[58]⟩:ByteArray)=aW [58]from rfl,cr,cr,cr,cr,cr]
   have:BI c=lK c.1++58::(rB c.2.1 c.2.2.2.1++58::rB c.2.2.1 c.2.2.2.2):=rfl;rw[this];simp[lK]
  rw[e];have:=C g5 ((((y1.own u2 (ax _)).tr D).tr y4).tr y5);rw[←cr]at this;exact this
 ·obtain rfl:k=14:=by simpa using e
  have T:jY 14 a= [115,101,115,115,105,111,110,32]++dW a.se.toNat:=by simp[jY,qi,v]
  rw[T]at f;have hd:=px (n:=a.se.toNat) (by have:=d.se;omega);have qd:=bq (dW a.se.toNat);have s8':(⟨#[115,101,115,115,105,111,110,32]⟩:ByteArray).size=8:=rfl;refine⟨a.se,vc u 2,?_⟩;rw[vT d.se.1 d.se.2];refine pI a.se.toNat (by have:=d.se;omega) ⟨by omega,?_⟩;have:=f g j;rw[←cr]at this;exact this
 ·obtain rfl:k=21:=by simpa using e
  have T:jY 21 a=if a.is then[105,115]++blk (a.ps.map CF)else[110,111,110,101]:=by simp[jY,qi,v]
  rw[T]at f;have H:=yP (g:=CF) (m:=5000) (fun p hp=>BC (d.ps.2 p hp)) d.ps.1 a.ps.length
  rw[bf]at H;have E:=bq (blk (a.ps.map CF));have P:(⟨#[105,115]⟩:ByteArray).size=2:=rfl;refine⟨a.is,vc u 4,?_⟩;cases his:a.is with
  |false=>
   rw[his]at f;exact aB.2 (f g j)
  |true=>
   rw[his,if_pos rfl]at f;refine aj.2 ⟨s1,vc u 6,DP d.ps.1 d.ps.2 o.ps fun Z N=>⟨by omega,?_⟩⟩
   have:=f Z (j.tr N);rw[←cr]at this;exact this
 ·have T:jY k a= [110,97,109,101,115]++blk (a.ns.map pw):=by
   rcases(by simpa using e:k=23∨k=24)with rfl|rfl<;>simp[jY,qi,v]
  rw[T]at f;have q:=o.ns.len;have L:∀n∈a.ns,(pw n).length≤1048600:=fun n hn=>Iy (d.ns.2 n hn).1 (d.ns.2 n hn).2.2
  refine⟨s5,vc u 10,BQ (A:=fun i=> [110,97,109,101,115]++blk ((a.ns.take i).map pw)) q (by have:=d.ns.1;omega) (fun i hi I h' z C=>?_) (fun h' z=>by have:=f h' (j.tr z);rw[bf];exact this) rfl⟩
  obtain⟨b,V,_,y⟩:=(o.ns.upd z fun _ h=>h.elim).at (ag hi)
  have B:=d.ns.2 a.ns[i] (bp hi);have H:=yP L d.ns.1 i;rw[yf pw [110,97,109,101,115] hi]at C;have E:=bq ([110,97,109,101,115]++blk ((a.ns.take i).map pw));rw[ah]at E;have l5:([110,97,109,101,115]:List UInt8).length=5:=rfl;generalize blk ((a.ns.take i).map pw)=acc at*;generalize a.ns[i]=n at*;have hdx:=px (n:=n.2.toNat) (by omega);have qx:=bq (dW n.2.toNat)
  have s1:(⟨#[32]⟩:ByteArray).size=1:=rfl;have P:(⟨#[61]⟩:ByteArray).size=1:=rfl;refine⟨⟨by simp only;omega,by simp only;omega⟩,b,V,n.1,by simp only[ai];exact y 0 _ rfl,n.2,by simp only[ai];exact y 1 _ rfl,qN fun g1 c1 y1=>cY (c:= [.string ⟨#[]⟩,.int .u32 0]) (vs:=Rh n) c1 rfl fun g2 s u2=>⟨_,vc s 0,by omega,by rw[aZ];omega,n.2,vc s 1,?_⟩⟩
  rw[vT B.2.1 (by omega)];refine pI n.2.toNat (by omega) ⟨vc s 1,vc s 0,by simp only[aZ];omega,by simp only[aZ];omega,GE ?_⟩
  have e:(((⟨#[32]⟩:ByteArray)++n.1)++(⟨#[61]⟩:ByteArray))++aW (dW n.2.toNat)=aW (32::pw n):=by
   have:n.1=aW n.1.data.toList:=(O3 n.1).symm;rw[show(⟨#[32]⟩:ByteArray)=aW [32]from rfl,show(⟨#[61]⟩:ByteArray)=aW [61]from rfl]
   conv=>lhs;rw[this]
   rw[cr,cr,cr,pw];simp
  rw[e];have:=C g2 (y1.own u2 (ax _));rw[←cr]at this;exact this
 ·have T:jY k a= [111,107]:=by
   simp only[Bool.or_eq_false_iff,beq_eq_false_iff_ne]at nv n8 w O Y F Q W X G;obtain⟨v1,v2,v3,v4,v5⟩:=nv;simp[jY,qi,v,n8,v1,v2,v3,v4,v5,w.1,w.2,O,Y,F.1,F.2,Q,W,X,G.1,G.2]
  rw[T]at f;exact f g j
end
end Go.Proofs
namespace Go.Proofs
open Go Go.Lift Go.RowKit
section
variable {a:AnsD} {s1 s2 s3 s4 s5:SliceV} {h:ad}
set_option maxHeartbeats 1000000 in
theorem QL(m1:a.ps.length≤9)(m2:a.cs.length≤9)(m3:a.cf.length≤9)(m5:a.ns.length≤9)(at_:AnsAt h a s1 s2 s3 s4 s5){K:An→ad→Prop}(hk:∀h' v B H t5,AnsAt h' a v B H s4 t5→Upd No h h'→K (lP a v B H s4 t5) h'):HC PG wr [vy (lP a s1 s2 s3 s4 s5)] MP K h:=by
 refine KB (lP a s1 s2 s3 s4 s5) ?_;unfold Cp dE ar cg aq bE cq bc aD fe ci nv xf rV kf H6 AZ TG TH eW Vm Vq Hf vl0;have l1:=at_.ps.len;have l2:=at_.cs.len;have l3:=at_.cf.len;have l5:=at_.ns.len;refine qN fun L b1 k1=>qN fun k b2 k2=>?_
 have c1:=k2.get0 b1;refine⟨_,vc c1 0,_,vc c1 1,_,vc c1 2,_,vc c1 3,_,vc c1 4,_,vc c1 5,_,vc c1 9,qN fun g3 b3 k3=>cY (c:=AD Q6) (vs:=AD (lP a fP fP fP s4 fP)) b3 rfl fun J b4 w=>?_⟩
 have S:Upd No k J:=k3.own w (ax _);have k04:Upd No h J:=(k1.tr k2).tr S;have zg1:=bv b1;have zg2:=bv b2;have zg4:=bv b4;have y1:=k1.size;have y2:=k2.size;have y04:=k04.size;have a4:=S.get0 c1;have r4:=S.get0 b2;have n1:h.size≠k.size:=by omega
 have n2:L.size≠k.size:=by omega
 refine⟨s1,vc a4 6,?_⟩;refine LoopP.ghost (fun(i:Nat) (t:Int) o=>t=(i:Int)∧i≤a.ps.length∧(∃t,o[k.size]? =some (.cells (AD (lP a t fP fP s4 fP)).toArray ki (0,0))∧OwnS kK 2 sA (fun y=>J.size≤y) o t (a.ps.take i))∧Upd (fun y=>y=k.size) J o) (fun i=>a.ps.length-i) 0 ⟨rfl,be _,⟨fP,b4,OwnS.nil ko⟩,Upd.refl _ _⟩ ?_
 rintro I i t e1 ⟨rfl,hi,⟨v,x1,o1⟩,V⟩ F;have z1:=V.size;have K1:Upd No h e1:=k04.trans V fun y d=>.inr (by have d:y=k.size:=d;omega)
 refine aK (fun g=>Join.plain ?_) fun q=>?_
 ·have g:i<a.ps.length:=by have:(i:Int)<(s1.len:Int):=g;omega
  obtain⟨b,U,_,m⟩:=(at_.ps.upd K1 fun _ h=>h.elim).at (ag g)
  have C:=DF g;generalize a.ps[i]=p at m C;refine⟨⟨by omega,by omega⟩,b,U,p.1,by rw[ai];exact m 0 _ rfl,p.2,by rw[ai];exact m 1 _ rfl,qN fun f1 d1 Q=>cY (c:= [.string ⟨#[]⟩,.string ⟨#[]⟩]) (vs:=kK p) d1 rfl fun s n O=>?_⟩
  have D:Upd No e1 s:=Q.own O (ax _);refine⟨v,vc (D.get0 x1) 6,_,vc n 0,_,vc n 1,qN fun A N P=>?_⟩
  have j:=D.tr P;have y3:=j.size;have Z:OwnS kK 2 sA (fun _=>True) A ⟨some (aJ s),1,1⟩ [p]:=⟨rfl,ko,ax _,.inr ⟨s.size,[],rfl,trivial,N,rfl⟩⟩
  refine⟨_,(Z.sl (W:=No) fun _ _ _ h=>h).srow,AppP.own (ys:= [p]) (o1.upd j fun _ _ h=>h) rfl rfl rfl rfl (by omega) (by rw[aL];show(min i a.ps.length+1)*32≤_;omega) (show J.size≤A.size by omega) fun s' f4 z w=>kI (c':=(AD (lP a s' fP fP s4 fP)).toArray) (w.get (j.get0 x1) (show ¬J.size≤k.size by omega)) (by simp) rfl fun f5 R x=>?_⟩
  rw[dw g (by omega)];refine F (i+1) _ _ ⟨rfl,g,⟨s',R,?_⟩,((V.tr j.wide).trans w fun y d=>.inr d).trans x fun y d=>.inl d⟩ (by omega)
  rw[C];exact z.upd x fun y d e=>by have d:J.size≤y:=d;have e:y=k.size:=e;omega
 have hi:i=a.ps.length:=by have:¬(i:Int)<(s1.len:Int):=q;omega
 rw[hi,bf]at o1;clear F I;have S1:Sl kK 2 (fun y=>y=k.size∨y=L.size∨e1.size≤y) e1 v a.ps:=o1.sl fun y d g e=>by have d:J.size≤y:=d;omega
 refine⟨s2,vc (V.get a4 n1) 7,?_⟩;refine LoopP.ghost (fun(i:Nat) (t:Int) o=>t=(i:Int)∧i≤a.cs.length∧(∃t,o[k.size]? =some (.cells (AD (lP a v t fP s4 fP)).toArray ki (0,0))∧OwnS zD 5 ot (fun y=>e1.size≤y) o t (a.cs.take i))∧Upd (fun y=>y=k.size) e1 o) (fun i=>a.cs.length-i) 0 ⟨rfl,be _,⟨fP,x1,OwnS.nil Da⟩,Upd.refl _ _⟩ ?_
 rintro I i t e2 ⟨rfl,hi,⟨B,x2,o2⟩,X⟩ F;have z2:=X.size;have K2:Upd No h e2:=K1.trans X fun y d=>.inr (by have d:y=k.size:=d;omega)
 refine aK (fun g=>Join.plain ?_) fun q=>?_
 ·have g:i<a.cs.length:=by have:(i:Int)<(s2.len:Int):=g;omega
  obtain⟨b,U,_,m⟩:=(at_.cs.upd K2 fun _ h=>h.elim).at (ag g)
  have C:=DF g;generalize a.cs[i]=p at m C;refine⟨⟨by omega,by omega⟩,b,U,p.1,by rw[ai];exact m 0 _ rfl,p.2.1,by rw[ai];exact m 1 _ rfl,p.2.2.1,by rw[ai];exact m 2 _ rfl,p.2.2.2.1,by rw[ai];exact m 3 _ rfl,p.2.2.2.2,by rw[ai];exact m 4 _ rfl,qN fun f1 d1 Q=>cY (c:= [.string ⟨#[]⟩,.string ⟨#[]⟩,.string ⟨#[]⟩,.bool false,.bool false]) (vs:=zD p) d1 rfl fun s n O=>?_⟩
  have D:Upd No e2 s:=Q.own O (ax _);refine⟨B,vc (D.get0 x2) 7,_,vc n 0,_,vc n 1,_,vc n 2,_,vc n 3,_,vc n 4,qN fun A N P=>?_⟩
  have j:=D.tr P;have y3:=j.size;have Z:OwnS zD 5 ot (fun _=>True) A ⟨some (aJ s),1,1⟩ [p]:=⟨rfl,Da,ax _,.inr ⟨s.size,[],rfl,trivial,N,rfl⟩⟩
  refine⟨_,(Z.sl (W:=No) fun _ _ _ h=>h).srow,AppP.own (ys:= [p]) (o2.upd j fun _ _ h=>h) rfl rfl rfl rfl (by omega) (by rw[aL];show(min i a.cs.length+1)*56≤_;omega) (show e1.size≤A.size by omega) fun s' f4 z w=>kI (c':=(AD (lP a v s' fP s4 fP)).toArray) (w.get (j.get0 x2) (show ¬e1.size≤k.size by omega)) (by simp) rfl fun f5 R x=>?_⟩
  rw[dw g (by omega)];refine F (i+1) _ _ ⟨rfl,g,⟨s',R,?_⟩,((X.tr j.wide).trans w fun y d=>.inr d).trans x fun y d=>.inl d⟩ (by omega)
  rw[C];exact z.upd x fun y d e=>by have d:e1.size≤y:=d;have e:y=k.size:=e;omega
 have hi:i=a.cs.length:=by have:¬(i:Int)<(s2.len:Int):=q;omega
 rw[hi,bf]at o2;clear F I;have S1:=S1.upd X fun y d=>.inl (.inl d)
 have S2:Sl zD 5 (fun y=>y=k.size∨y=L.size∨e2.size≤y) e2 B a.cs:=o2.sl fun y d g e=>by have d:e1.size≤y:=d;omega
 refine⟨s3,vc (X.get (V.get a4 n1) n1) 8,?_⟩;refine LoopP.ghost (fun(i:Nat) (t:Int) o=>t=(i:Int)∧i≤a.cf.length∧(∃t,o[k.size]? =some (.cells (AD (lP a v B t s4 fP)).toArray ki (0,0))∧OwnS Mj 7 lD (fun y=>e2.size≤y) o t (a.cf.take i))∧Upd (fun y=>y=k.size) e2 o) (fun i=>a.cf.length-i) 0 ⟨rfl,be _,⟨fP,x2,OwnS.nil GA⟩,Upd.refl _ _⟩ ?_
 rintro I i t G ⟨rfl,hi,⟨H,x3,o3⟩,Y⟩ F;have z3:=Y.size;have K3:Upd No h G:=K2.trans Y fun y d=>.inr (by have d:y=k.size:=d;omega)
 refine aK (fun g=>Join.plain ?_) fun q=>?_
 ·have g:i<a.cf.length:=by have:(i:Int)<(s3.len:Int):=g;omega
  obtain⟨b,U,_,m⟩:=(at_.cf.upd K3 fun _ h=>h.elim).at (ag g)
  have C:=DF g;generalize a.cf[i]=p at m C;refine⟨⟨by omega,by omega⟩,b,U,p.1,by rw[ai];exact m 0 _ rfl,p.2.1.1,by rw[ai];exact m 1 _ rfl,p.2.1.2,by rw[ai];exact m 2 _ rfl,p.2.2.1.1,by rw[ai];exact m 3 _ rfl,p.2.2.1.2,by rw[ai];exact m 4 _ rfl,p.2.2.2.1,by rw[ai];exact m 5 _ rfl,p.2.2.2.2,by rw[ai];exact m 6 _ rfl,qN fun f1 d1 Q=>cY (c:= [.string ⟨#[]⟩,.string ⟨#[]⟩,.bool false,.string ⟨#[]⟩,.bool false,.string ⟨#[]⟩,.bool false]) (vs:=Mj p) d1 rfl fun s n O=>?_⟩
  have D:Upd No G s:=Q.own O (ax _);refine⟨H,vc (D.get0 x3) 8,_,vc n 0,_,yT n 1 0,_,yT n 1 1,_,yT n 3 0,_,yT n 3 1,_,yT n 5 0,_,yT n 5 1,qN fun A N P=>?_⟩
  have j:=D.tr P;have y3:=j.size;have Z:OwnS Mj 7 lD (fun _=>True) A ⟨some (aJ s),1,1⟩ [p]:=⟨rfl,GA,ax _,.inr ⟨s.size,[],rfl,trivial,N,rfl⟩⟩
  refine⟨_,(Z.sl (W:=No) fun _ _ _ h=>h).srow,AppP.own (ys:= [p]) (o3.upd j fun _ _ h=>h) rfl rfl rfl rfl (by omega) (by rw[aL];show(min i a.cf.length+1)*88≤_;omega) (show e2.size≤A.size by omega) fun s' f4 z w=>kI (c':=(AD (lP a v B s' s4 fP)).toArray) (w.get (j.get0 x3) (show ¬e2.size≤k.size by omega)) (by simp) rfl fun f5 R x=>?_⟩
  rw[dw g (by omega)];refine F (i+1) _ _ ⟨rfl,g,⟨s',R,?_⟩,((Y.tr j.wide).trans w fun y d=>.inr d).trans x fun y d=>.inl d⟩ (by omega)
  rw[C];exact z.upd x fun y d e=>by have d:e2.size≤y:=d;have e:y=k.size:=e;omega
 have hi:i=a.cf.length:=by have:¬(i:Int)<(s3.len:Int):=q;omega
 rw[hi,bf]at o3;clear F I;have S1:=S1.upd Y fun y d=>.inl (.inl d)
 have S2:=S2.upd Y fun y d=>.inl (.inl d)
 have S3:Sl Mj 7 (fun y=>y=k.size∨y=L.size∨G.size≤y) G H a.cf:=o3.sl fun y d g e=>by have d:e2.size≤y:=d;omega
 refine⟨s5,vc (Y.get (X.get (V.get a4 n1) n1) n1) 10,?_⟩;refine LoopP.ghost (fun(i:Nat) (t:Int) o=>t=(i:Int)∧i≤a.ns.length∧(∃t,o[k.size]? =some (.cells (AD (lP a v B H s4 t)).toArray ki (0,0))∧OwnS Rh 2 sy (fun y=>G.size≤y) o t (a.ns.take i))∧Upd (fun y=>y=k.size) G o) (fun i=>a.ns.length-i) 0 ⟨rfl,be _,⟨fP,x3,OwnS.nil MX⟩,Upd.refl _ _⟩ ?_
 rintro I i t e4 ⟨rfl,hi,⟨t4,x4,z⟩,T⟩ F;have z4:=T.size;have K4:Upd No h e4:=K3.trans T fun y d=>.inr (by have d:y=k.size:=d;omega)
 refine aK (fun g=>Join.plain ?_) fun q=>?_
 ·have g:i<a.ns.length:=by have:(i:Int)<(s5.len:Int):=g;omega
  obtain⟨b,U,_,m⟩:=(at_.ns.upd K4 fun _ h=>h.elim).at (ag g)
  have C:=DF g;generalize a.ns[i]=p at m C;refine⟨⟨by omega,by omega⟩,b,U,p.1,by rw[ai];exact m 0 _ rfl,p.2,by rw[ai];exact m 1 _ rfl,qN fun f1 d1 Q=>cY (c:= [.string ⟨#[]⟩,.int .u32 0]) (vs:=Rh p) d1 rfl fun s n O=>?_⟩
  have D:Upd No e4 s:=Q.own O (ax _);refine⟨t4,vc (D.get0 x4) 10,_,vc n 0,_,vc n 1,qN fun A N P=>?_⟩
  have j:=D.tr P;have y3:=j.size;have Z:OwnS Rh 2 sy (fun _=>True) A ⟨some (aJ s),1,1⟩ [p]:=⟨rfl,MX,ax _,.inr ⟨s.size,[],rfl,trivial,N,rfl⟩⟩
  refine⟨_,(Z.sl (W:=No) fun _ _ _ h=>h).srow,AppP.own (ys:= [p]) (z.upd j fun _ _ h=>h) rfl rfl rfl rfl (by omega) (by rw[aL];show(min i a.ns.length+1)*24≤_;omega) (show G.size≤A.size by omega) fun s' f4 z w=>kI (c':=(AD (lP a v B H s4 s')).toArray) (w.get (j.get0 x4) (show ¬G.size≤k.size by omega)) (by simp) rfl fun f5 R x=>?_⟩
  rw[dw g (by omega)];refine F (i+1) _ _ ⟨rfl,g,⟨s',R,?_⟩,((T.tr j.wide).trans w fun y d=>.inr d).trans x fun y d=>.inl d⟩ (by omega)
  rw[C];exact z.upd x fun y d e=>by have d:G.size≤y:=d;have e:y=k.size:=e;omega
 have hi:i=a.ns.length:=by have:¬(i:Int)<(s5.len:Int):=q;omega
 rw[hi,bf]at z;clear F I;have S1:=S1.upd T fun y d=>.inl (.inl d)
 have S2:=S2.upd T fun y d=>.inl (.inl d)
 have S3:=S3.upd T fun y d=>.inl (.inl d)
 have S5:Sl Rh 2 (fun y=>y=L.size) e4 t4 a.ns:=z.sl fun y d g e=>by have d:G.size≤y:=d;have e:y=L.size:=e;omega
 have br:=T.get (Y.get (X.get (V.get r4 n2) n2) n2) n2;have E:=x4;refine⟨_,vc E 0,_,vc E 1,_,vc E 2,_,vc E 3,_,vc E 4,_,vc E 5,_,vc E 6,_,vc E 7,_,vc E 8,_,vc E 9,_,vc E 10,cY (c:=AD Q6) (vs:=AD (lP a v B H s4 t4)) br rfl fun f b' u=>⟨_,vc b' 0,_,vc b' 1,_,vc b' 2,_,vc b' 3,_,vc b' 4,_,vc b' 5,_,vc b' 6,_,vc b' 7,_,vc b' 8,_,vc b' 9,_,vc b' 10,hk f v B H t4 ⟨?_,?_,?_,?_,?_⟩ ?_⟩⟩
 ·exact(S1.upd u fun y d=>.inl (.inr (.inl d))).less fun _ h=>h.elim
 ·exact(S2.upd u fun y d=>.inl (.inr (.inl d))).less fun _ h=>h.elim
 ·exact(S3.upd u fun y d=>.inl (.inr (.inl d))).less fun _ h=>h.elim
 ·have kk:Upd No h f:=K4.trans u fun y d=>.inr (by have d:y=L.size:=d;omega)
  exact at_.ids.upd kk fun _ h=>h.elim
 ·exact(S5.upd u fun y d=>.inl d).less fun _ h=>h.elim
 ·exact K4.trans u fun y d=>.inr (by have d:y=L.size:=d;omega)
end
end Go.Proofs
namespace Go.Proofs
open Go Go.Lift
theorem Gr{a w:List UInt8}{ws:List (List UInt8)}(hx:a.length≤1000000)(L:ol 32 a=w::ws)(h5:ws.length≠4)(H:ws.length≠1)(v:∀x∈ws,x.length≤1000000){k:Nat}{kd:Int}{z:List UInt8}(Y:formsL[k]? =some (kd,w,z)) (T:∀j f,j<k→formsL[j]? =some f→f.2.1≠w)
  (S:∀p∈z,FK p) {i:AE} (Z:z.foldl (fun x p=>OZ p x) ((ws,true),Hm kd)=(([],true),i)) {h:ad} (l:Laid h) (h4:4≤h.size) {E sp:Nat} (hd:h[E]? =some (.cells #[.pointer (some ⟨sp,0,none⟩)] gw (0,0))) {K:ByteArray→ad→Prop}
  (hk:∀h1 ob,Upd No h h1→h.size≤ob→ob<h1.size→h1[ob]? =some (.cells (vi i).toArray bF (0,0))→HC PG ge [.pointer (some ⟨sp,0,none⟩),TR i] MP (fun e H=>aC H (adr ⟨ob,0,none⟩ 0)=some (.int .i64 i.1)∧HC PG j8 [.int .i64 i.1,vy e] [.c .str] K H) h1):
  HC PG gC [.pointer (some ⟨E,0,none⟩),.string (aW a)] [.c .str] K h:=by
 refine yo (some ⟨E,0,none⟩) (aW a) ?_;unfold tE bL dE ar cg aq bc aD nv kf Q5 UB MR gO CV MY;refine aj.2 (Fz (by rw[bq];exact hx) fun U F ow k4=>qN fun A b5 k5=>?_)
 rw[show(aW a).data.toList=a from by simp,L]at ow
 have R:F.len=ws.length+1:=ow.len;have y:=k4.tr k5;refine LoopP.ghost (fun(n:Nat) (t:Int) O=>t=(n:Int)∧n≤2∧Upd No A O) (fun n=>2-n) 0 ⟨rfl,be _,Upd.refl _ _⟩ ?_
 rintro I n t O ⟨rfl,hn,g⟩ N;refine aK (fun o=>?_) fun X=>?_
 ·have o:n<2:=by have:(n:Int)<2:=o;omega
  have Q:=g.get0 b5;rcases(show n=0∨n=1 by omega)with rfl|rfl
  ·refine⟨⟨by decide,by decide⟩,_,rfl,_,vc Q 0,HV.mk' (Sn (s:=F) (by omega) fun h9 W=>aj.2 ?_)⟩
   exact N 1 _ _ ⟨rfl,by omega,g.tr W⟩ (by omega)
  ·refine⟨⟨by decide,by decide⟩,_,rfl,_,vc Q 1,HV.mk' (M1 (s:=F) (by omega) (aj.2 ?_))⟩
   exact N 2 _ _ ⟨rfl,by omega,g⟩ (by omega)
 ·refine P0 hx L v Y T S Z (l.upd0 (y.tr g)) (by have:=(y.tr g).size;omega) fun q m=>qN fun V J B=>?_
  refine cY (c:=vi (Hm 0)) (vs:=vi i) J rfl fun u b C=>?_
  have D:Upd No q u:=B.own C (ax _);have P:=((y.tr g).tr m).tr D;have d:=P.get0 hd;have G:=((y.tr g).tr m).size;refine Join.plain (aj.2 (aj.2 ⟨_,rfl,_,vc d 0,aj.2 (aj.2 ⟨i.1,vc b 0,_,rfl,_,vc d 0,Sa b ?_⟩)⟩));exact hk u q.size P G (bv b) b
end Go.Proofs
