/- A part of the proof that the named laws of this program answer true, whatever the input. -/
import Derived.Test.YtfmnhpbjeapjaaaGreatPart2
open Array renaming toList_inj→pz
open ByteArray renaming data_extract→oU
open Iff renaming rfl→xu
open Int renaming le_refl→tR,toNat_natCast→aU
open List renaming mem_cons→ah,mem_cons_self→aP,length_append→ai,mem_append→bo,mem_singleton→ak,length_take→bi,zip_eq_zipWith→mc,length_drop→aO,set_eq_take_append_cons_drop→dw,getElem_mem→cj,pairwise_cons→bK,pairwise_iff_getElem→cJ,extract_eq_take_drop→fI,getElem?_toArray→ey,length→jz,length_nil→eK,take_length→c8,replicate→eE
open Nat renaming zero_le→cu,zero_add→az,lt_or_ge→cF,le_of_eq→dX,le_refl→av,lt_irrefl→pI,lt_of_lt_of_le→aE
open Option renaming some→bD
open Prod renaming mk→oK
namespace Go.Proofs
open Go Go.Lift
def EU(lab:ByteArray)(has:Bool)(val:ByteArray)(s:SliceV)(ow:Option Addr):Array Value:= #[.string lab,.bool has,.string val,sv s,.pointer ow]
theorem vw{w:Option ByteArray}{val:ByteArray}(h:val=w.getD ⟨#[]⟩):∀v,w=some v→val=v:=fun v e=>by rw[h,e];rfl
def RxF(W:Nat→Prop)(h:ac):Fo→List (Option Addr)→Prop
 | .nil,ks=>ks= []
 | .cons lab w kids rest,ks=>∃b sl val s ow ks1 ks',ks=some ⟨b,0,none⟩::ks'∧sl.data.toList=lab∧h[b]? =some (.cells (EU sl w.isSome val s ow) bp (0,0))∧val=w.getD ⟨#[]⟩∧Sl Cr 1 W h s ks1∧(s.len≤s.cap∧¬W b)∧RxF W h kids ks1∧RxF W h rest ks'
def RxN(W:Nat→Prop)(h:ac)(b:Nat)(sl:ByteArray)(w:Option ByteArray)(F:Fo):Prop:=∃val s ow ks,h[b]? =some (.cells (EU sl w.isSome val s ow) bp (0,0))∧val=w.getD ⟨#[]⟩∧Sl Cr 1 W h s ks∧(s.len≤s.cap∧¬W b)∧RxF W h F ks
def Kid(W:Nat→Prop)(h:ac)(k:Option Addr)(n:Bn):Prop:=∃b sl,k=some ⟨b,0,none⟩∧sl.data.toList=n.1∧RxN W h b sl n.2.1 n.2.2
def RxL(W:Nat→Prop)(h:ac)(ks:List (Option Addr))(L:List Bn):Prop:=ks.length=L.length∧∀p∈ks.zip L,Kid W h p.1 p.2
theorem sV{W:Nat→Prop}{h:ac}:∀{F:Fo} {ks:List (Option Addr)},RxF W h F ks↔RxL W h ks F.toL
 | .nil,ks=>by
  unfold RxF RxL;simp[Fo.toL]
 | .cons lab w kids rest,ks=>by
  unfold RxF RxL;rw[Fo.toL_cons];constructor
  ·rintro⟨b,sl,val,s,ow,d,f,rfl,i,g,j,m,n,o,v⟩
   obtain⟨t,x⟩:=sV.1 v;refine⟨by simp[t],fun p c=>?_⟩
   rw[List.zip_cons_cons]at c;rcases ah.1 c with rfl|c
   ·exact⟨b,sl,rfl,i,val,s,ow,d,g,j,m,n,o⟩
   ·exact x p c
  ·cases ks with
   |nil=>rintro⟨e,_⟩;simp at e
   |cons k f=>
    rintro⟨e,c⟩;rw[List.zip_cons_cons]at c;obtain⟨b,sl,u,i,val,s,ow,d,g,j,m,n,o⟩:=c _ (aP ..);refine⟨b,sl,val,s,ow,d,f,by rw[←u],i,g,j,m,n,o,sV.2 ⟨by simpa using e,fun p q=>c p (List.mem_cons_of_mem _ q)⟩⟩
theorem RxF.upd0{W:Nat→Prop}{h h':ac}(k:Upd No h h'):∀{F:Fo} {ks:List (Option Addr)},RxF W h F ks→RxF W h' F ks
 | .nil,_,r=>r
 | .cons _ _ _ _,_,⟨b,sl,val,s,ow,ks1,ks',e0,e1,e2,e3,e4,e5,e6,e7⟩=>⟨b,sl,val,s,ow,ks1,ks',e0,e1,k.get0 e2,e3,e4.upd k fun _ h=>h.elim,e5,RxF.upd0 k e6,RxF.upd0 k e7⟩
theorem RxN.upd0{W:Nat→Prop}{h h':ac}(k:Upd No h h'){b:Nat}{sl:ByteArray}{w:Option ByteArray}{F:Fo}:RxN W h b sl w F→RxN W h' b sl w F
 |⟨val,s,ow,ks,e2,e3,e4,e5,e6⟩=>⟨val,s,ow,ks,k.get0 e2,e3,e4.upd k fun _ h=>h.elim,e5,RxF.upd0 k e6⟩
theorem Kid.upd0{W:Nat→Prop}{h h':ac}(k:Upd No h h'){a:Option Addr}{n:Bn}:Kid W h a n→Kid W h' a n
 |⟨b,sl,e1,e2,e3⟩=>⟨b,sl,e1,e2,e3.upd0 k⟩
theorem RxF.less{W W':Nat→Prop}{h:ac}(hm:∀b,W' b→W b∨h.size≤b):∀{F:Fo} {ks:List (Option Addr)},RxF W h F ks→RxF W' h F ks
 | .nil,_,r=>r
 | .cons _ _ _ _,_,⟨b,sl,val,s,ow,ks1,ks',e0,e1,e2,e3,e4,e5,e6,e7⟩=>⟨b,sl,val,s,ow,ks1,ks',e0,e1,e2,e3,e4.less hm,⟨e5.1,fun hx=>(hm _ hx).elim e5.2 fun h=>by have:=aL e2;omega⟩,RxF.less hm e6,RxF.less hm e7⟩
theorem RxN.less{W W':Nat→Prop}{h:ac}(hm:∀b,W' b→W b∨h.size≤b){b:Nat}{sl:ByteArray}{w:Option ByteArray}{F:Fo}:RxN W h b sl w F→RxN W' h b sl w F
 |⟨val,s,ow,ks,e2,e3,e4,e5,e6⟩=>⟨val,s,ow,ks,e2,e3,e4.less hm,⟨e5.1,fun hx=>(hm _ hx).elim e5.2 fun h=>by have:=aL e2;omega⟩,RxF.less hm e6⟩
theorem RxF.updM{W M:Nat→Prop}{h h':ac}(k:Upd M h h')(hm:∀b,M b→W b∨h.size≤b):∀{F:Fo} {ks:List (Option Addr)},RxF W h F ks→RxF W h' F ks
 | .nil,_,r=>r
 | .cons _ _ _ _,_,⟨b,sl,val,s,ow,ks1,ks',e0,e1,e2,e3,e4,e5,e6,e7⟩=>⟨b,sl,val,s,ow,ks1,ks',e0,e1,k.get e2 (fun hx=>(hm _ hx).elim e5.2 fun h=>by have:=aL e2;omega),e3,e4.upd k hm,e5,RxF.updM k hm e6,RxF.updM k hm e7⟩
theorem RxN.updM{W M:Nat→Prop}{h h':ac}(k:Upd M h h')(hm:∀b,M b→W b∨h.size≤b){b:Nat}{sl:ByteArray}{w:Option ByteArray}{F:Fo}:RxN W h b sl w F→RxN W h' b sl w F
 |⟨val,s,ow,ks,e2,e3,e4,e5,e6⟩=>⟨val,s,ow,ks,k.get e2 (fun hx=>(hm _ hx).elim e5.2 fun h=>by have:=aL e2;omega),e3,e4.upd k hm,e5,RxF.updM k hm e6⟩
theorem RxL.upd0{W:Nat→Prop}{h h':ac}(k:Upd No h h'){ks:List (Option Addr)}{L:List Bn}(r:RxL W h ks L):RxL W h' ks L:=⟨r.1,fun p b=>(r.2 p b).upd0 k⟩
theorem RxL.app{W:Nat→Prop}{h:ac}{ks c:List (Option Addr)}{L d:List Bn}(r:RxL W h ks L)(e:RxL W h c d):RxL W h (ks++c) (L++d):=by
 refine⟨by rw[ai,ai,r.1,e.1],fun p b=>?_⟩
 rw[List.zip_append r.1]at b;rcases bo.1 b with b|b
 ·exact r.2 p b
 ·exact e.2 p b
theorem RxL.one{W:Nat→Prop}{h:ac}{k:Option Addr}{n:Bn}(c:Kid W h k n):RxL W h [k] [n]:=⟨rfl,fun p b=>by rw[List.zip_cons_cons,List.zip_nil_left]at b;rw[ak.1 b];exact c⟩
theorem RxL.take{W:Nat→Prop}{h:ac}{ks:List (Option Addr)}{L:List Bn}(r:RxL W h ks L)(i:Nat):RxL W h (ks.take i) (L.take i):=by
 refine⟨by rw[bi,bi,r.1],fun p b=>r.2 p ?_⟩
 have:(ks.take i).zip (L.take i)=(ks.zip L).take i:=by rw[mc,mc,List.take_zipWith]
 rw[this]at b;exact List.mem_of_mem_take b
theorem RxL.drop{W:Nat→Prop}{h:ac}{ks:List (Option Addr)}{L:List Bn}(r:RxL W h ks L)(i:Nat):RxL W h (ks.drop i) (L.drop i):=by
 refine⟨by rw[aO,aO,r.1],fun p b=>r.2 p ?_⟩
 have:(ks.drop i).zip (L.drop i)=(ks.zip L).drop i:=by rw[mc,mc,List.drop_zipWith]
 rw[this]at b;exact List.mem_of_mem_drop b
theorem RxL.ins{W:Nat→Prop}{h:ac}{ks:List (Option Addr)}{L:List Bn}(r:RxL W h ks L)(i:Nat){k:Option Addr}{n:Bn}(c:Kid W h k n):RxL W h (ks.take i++k::ks.drop i) (L.take i++n::L.drop i):=by
 have:=(r.take i).app ((RxL.one c).app (r.drop i));exact this
theorem RxL.set{W:Nat→Prop}{h:ac}{ks:List (Option Addr)}{L:List Bn}(r:RxL W h ks L){i:Nat}(b:i<L.length){k:Option Addr}{n:Bn}(c:Kid W h k n):RxL W h (ks.set i k) (L.set i n):=by
 have:=(r.take i).app ((RxL.one c).app (r.drop (i+1)));rw[dw,dw,if_pos (by rw[r.1];exact b),if_pos b];exact this
theorem RxL.at{W:Nat→Prop}{h:ac}{ks:List (Option Addr)}{L:List Bn}(r:RxL W h ks L){i:Nat}(f:i<L.length):∃b sl,ks[i]? =some (some ⟨b,0,none⟩)∧sl.data.toList=L[i].1∧RxN W h b sl L[i].2.1 L[i].2.2:=by
 have g:i<ks.length:=by rw[r.1];exact f
 have j:i<(ks.zip L).length:=by rw[List.length_zip];omega
 have:=r.2 _ (cj j);rw[List.getElem_zip]at this;obtain⟨b,sl,d,c,e⟩:=this;exact⟨b,sl,by rw[List.getElem?_eq_getElem g];exact congrArg some d,c,e⟩
theorem EW:∀{L:List Bn} {c:Nat},L.Pairwise (fun m n=>hd m.1<hd n.1)→(∀n∈L,c≤hd n.1)→L= []∨c+L.length≤256
 | [],_,_,_=>.inl rfl
 |n::L,c,b,hc=>by
  have b:=bK.1 b;have d:=hc n (aP ..);have f:=Pw n.1;rcases EW (c:=hd n.1+1) b.2 fun m hm=>b.1 m hm with e|e
  ·rw[e];right;simp only[List.length_singleton];omega
  ·right;rw[List.length_cons];omega
theorem Gj{F:Fo}(h:l8 F):F.toL.length≤256:=by
 rcases EW (c:=0) (gE.1 h).1 fun _ _=>cu _ with e|e
 ·rw[e];simp
 ·omega
theorem jt{h:ac}{b i:Nat}{c:Array Value}(d:h[b]? =some (.cells c bp (0,0))):aB h (adr ⟨b,0,none⟩ i)=c[i]?:=by rw[bC,az];exact aC d
theorem PP{h:ac}{b i:Nat}{c:Array Value}(e:h[b]? =some (.cells c bp (0,0))) (d:i<c.size):Wr h (adr ⟨b,0,none⟩ i):=by rw[bC,az];exact fR e d
theorem IA{h:ac}{b i:Nat}{c c':Array Value}{v:Value}{k:ac→Prop}(j:h[b]? =some (.cells c bp (0,0))) (e:c.setIfInBounds i v=c') (g:∀h',h'[b]? =some (.cells c' bp (0,0))→Upd (· =b) h h'→k h'):At (hset h (adr ⟨b,0,none⟩ i) v) k:=by
 rw[bC,az];exact yL j fun h' d f=>g h' (e▸d) f
theorem Qb(s:ByteArray)(i:Nat):s[i]? =s.data.toList[i]?:=by
 rw[Array.getElem?_toList];by_cases h:i<s.size
 ·rw[getElem?_pos s i h,getElem?_pos s.data i h];rfl
 ·rw[getElem?_neg s i h,getElem?_neg s.data i h]
theorem Jj{s:ByteArray}(b:s.data.toList≠[]):∃c:UInt8,s[0]? =some c∧c.toNat=hd s.data.toList:=by
 rw[Qb];match s.data.toList,b with
 |c::l,_=>exact⟨c,rfl,rfl⟩
theorem ET{W:Nat→Prop}{h:ac}{b:Nat}{sl:ByteArray}{w:Option ByteArray}{F:Fo}(r:RxN W h b sl w F)(hc:l8 F){c:Nat}(hc8:c<256){K:Int×Bool→ac→Prop}
  (G:∀i ok,i≤F.toL.length→(∀j (p:j<F.toL.length),j<i→hd F.toL[j].1<c)→(∀j (p:j<F.toL.length),i≤j→c≤hd F.toL[j].1)→(ok=true↔∃B:i<F.toL.length,hd F.toL[i].1=c)→K ((i:Int),ok) h):HC PG ko [.pointer (some ⟨b,0,none⟩),.int .u8 c] [.c (.int .i64),.c .bool] K h:=by
 refine Ag _ c ?_;unfold tE cH;obtain⟨val,s,ow,ks,hb,_,Z,Y,hF⟩:=r;refine⟨_,rfl,s,jt (i:=3) hb,?_⟩;have O:=sV.1 hF;have f:=gE.1 hc;have hn:=Gj hc;have y:=Z.len;rw[O.1]at y;generalize hLe:F.toL=L at O f hn y G;refine fW s c _ ?_;unfold c5 aD bT uu FB
 have H:∀{i:Nat} (B:i<L.length) {K:Int→ac→Prop},K ((hd L[i].1:Int)-(c:Int)) h→∃a,s.a=some a∧∃v,aB h (adr a (i*1))=some (.pointer v)∧HV PG (.func (.func l3) #[] #[]) [.pointer v,.int .u8 c] [.c (.int .i64)] K h:=by
  intro i B K G;obtain⟨kb,D,P,E,R⟩:=O.at B;obtain⟨a,ha,_,hv⟩:=Z.at0 P;refine⟨a,ha,_,hv,HV.mk' (xJ (some ⟨kb,0,none⟩) c ?_)⟩;unfold rc cG;obtain⟨kval,kss,kow,kks,Q,_⟩:=R;have S:D.data.toList≠[]:=by rw[E];exact(f.2 _ (cj B)).1
  obtain⟨u,hu,N⟩:=Jj S;refine⟨_,rfl,D,jt (i:=0) Q,u,tR _,hu,?_⟩;simp only[Bd];have e:=Pw L[i].1;rw[N,E,dT (x:=(hd L[i].1:Int)) (by omega),dT (x:=(c:Int)) (by omega),dT (by omega)];exact G
 have mono:∀i j (B:i<L.length) (p:j<L.length),i<j→hd L[i].1<hd L[j].1:=fun i j B p d=>cJ.1 f.1 i j B p d
 refine LoopP.ghost (fun(g:Nat×Nat) (t:Int×Int) h'=>t.1=(g.1:Int)∧t.2=(g.2:Int)∧g.1≤g.2∧g.2≤L.length∧h'=h∧(∀j (p:j<L.length),j<g.1→hd L[j].1<c)∧(∀j (p:j<L.length),g.2≤j→c≤hd L[j].1)) (fun g=>g.2-g.1) (0,L.length)
  ⟨rfl,by simp only;omega,by simp,by simp,rfl,fun j p h=>by omega,fun j p h=>by simp only at h;omega⟩ ?_
 rintro I ⟨i,j⟩ ⟨ti,tj⟩ h' ⟨X,V,d,k,rfl,o,n⟩ hI;simp only at X V d k o n;subst X V;refine ax (fun e=>?_) fun T=>?_
 ·have e:i<j:=by have:(i:Int)<(j:Int):=e;omega
  have em:IntKind.wrap .i64 (Int.fdiv (IntKind.wrap .u64 (IntKind.wrap .i64 ((i:Int)+(j:Int)))) (2^(min (1:Int).toNat (IntKind.bits .u64))))=(((i+j)/2:Nat):Int):=by
   have e3:(2^(min (1:Int).toNat (IntKind.bits .u64)):Int)=2:=rfl;rw[e3,dT (x:=(i:Int)+(j:Int)) (by omega),Go.IntWalk.u64_in _ (by omega),Int.fdiv_eq_ediv_of_nonneg _ (by omega),dT (by omega)];omega
  refine⟨by decide,?_⟩;simp only[Bd];rw[em];generalize hm:(i+j)/2=m;have C:m<L.length:=by omega
  refine⟨by omega,?_⟩;refine H C ?_;refine ax (fun hneg=>?_) fun hpos=>?_
  ·refine hI (m+1,j) _ _ ⟨by simp only;rw[dT (by omega)];omega,rfl,by simp only;omega,k,rfl,fun q J A=>?_,n⟩ (by simp only;omega)
   simp only at A;rcases cF q m with h|h
   ·have:=mono q m J C h;omega
   ·have:q=m:=by omega
    subst this;omega
  ·refine hI (i,m) _ _ ⟨rfl,rfl,by simp only;omega,by simp only;omega,rfl,o,fun q J A=>?_⟩ (by simp only;omega)
   simp only at A;rcases cF m q with h|h
   ·have:=mono m q C J h;omega
   ·have:q=m:=by omega
    subst this;omega
 ·have d:i=j:=by have:¬(i:Int)<(j:Int):=T;omega
  subst d;refine ax (fun e=>?_) fun U=>?_
  ·have z:i<L.length:=by have:(i:Int)<(s.len:Int):=e;omega
   refine⟨by simp only;omega,?_⟩;refine H z ?_;refine G i _ k o n ?_;rw[beq_iff_eq];exact⟨fun h=>⟨z,by omega⟩,fun⟨_,h⟩=>by omega⟩
  ·have z:i=L.length:=by have:¬(i:Int)<(s.len:Int):=U;omega
   exact G i false k o n ⟨fun h=>(by cases h),fun h=>(by obtain⟨h,_⟩:=h;omega)⟩
end Go.Proofs
namespace Go.Proofs
open Go Go.Lift
theorem GY{b:Nat}{h:ac}{K:Bool→ac→Prop}(c:K false h):HC PG m8 [.pointer (some ⟨b,0,none⟩),.pointer none] [.c .bool] K h:=by
 refine yW _ none ?_;unfold sC bJ;exact aK.2 (vW (aq.2 c))
abbrev Pp:List Value:= [.string (⟨#[]⟩:ByteArray),.bool false,.string (⟨#[]⟩:ByteArray),.slice none 0 0,.pointer none]
theorem ut{W:Nat→Prop}{h:ac}{b:Nat}{sl val:ByteArray}{has:Bool}{s:SliceV}{ow:Option Addr}{ks:List (Option Addr)}(f:h[b]? =some (.cells (EU sl has val s ow) bp (0,0))) (B:Sl Cr 1 W h s ks) (F:ks.length≤256) {K:Option Addr→ac→Prop}
  (z:∀h' s',h'[h.size]? =some (.cells (EU sl has val s' none) bp (0,0))→OwnS Cr 1 bf (fun x=>h.size<x∧x<h'.size) h' s' ks→Upd No h h'→K (some ⟨h.size,0,none⟩) h'):
  HC PG eT [.pointer (some ⟨b,0,none⟩),.pointer none] [.c .ptr] K h:=by
 refine BD _ none ?_;unfold uL nv bJ cH bV f8 cG pa GE QL;refine GY (aq.2 ?_);refine⟨_,rfl,sl,jt (i:=0) f,has,jt (i:=1) f,val,jt (i:=2) f,s,jt (i:=3) f,ow,jt (i:=4) f,bl ?_⟩;have k1:=Upd.hnew No h Pp bp;have b1:=be h Pp bp;simp only[bN h];generalize hnew h [.string (⟨#[]⟩:ByteArray),.bool false,.string (⟨#[]⟩:ByteArray),.slice none 0 0,.pointer none] bp=h1 at k1 b1
 refine cU (c:=Pp) (vs:= [.string sl,.bool has,.string val,.slice s.a s.len s.cap,.pointer ow]) b1 rfl fun u b2 k=>?_
 have o:Upd No h u:=k1.trans k fun x hx=>.inr (dX hx.symm)
 have C:h.size<u.size:=aL b2;have q:=o.get0 f;refine⟨_,rfl,s,jt (i:=3) q,?_⟩;refine Lv (B.upd o fun _ h=>h.elim) (by omega) fun p y t g=>?_
 have b3:y[h.size]? =some (.cells (EU sl has val s ow) bp (0,0)):=g.get0 b2;refine⟨PP (i:=3) b3 (show 3<5 by decide),IA (i:=3) (c':=EU sl has val p ow) b3 rfl fun E v m=>?_⟩
 refine⟨PP (i:=4) v (show 4<5 by decide),IA (i:=4) (c':=EU sl has val p none) v rfl fun w A n=>?_⟩
 refine vW (aq.2 ?_);have d:=m.tr n;have D:=d.size;have j:=(t.within.upd d fun x hx e=>by have e:x=h.size:=e;have:=hx.1;omega).more (M':=fun x=>h.size<x∧x<w.size) fun x hx=>⟨by have:=hx.1;omega,by have:=hx.2;omega⟩
 exact z w p A j ((o.tr g).trans d fun x hx=>.inr (dX hx.symm))
theorem yv{h:ac}{b:Nat}{sl nl:ByteArray}{has:Bool}{val:ByteArray}{s:SliceV}{ow:Option Addr}(c:h[b]? =some (.cells (EU sl has val s ow) bp (0,0))) {K:Option Addr→ac→Prop}
  (d:∀h',h'[b]? =some (.cells (EU nl has val s ow) bp (0,0))→Upd (· =b) h h'→K (some ⟨b,0,none⟩) h'):HC PG gS [.pointer (some ⟨b,0,none⟩),.string nl] [.c .ptr] K h:=by
 refine yU _ nl ?_;unfold sA bV;exact⟨_,rfl,PP (i:=0) c (show 0<5 by decide),IA (i:=0) (c':=EU nl has val s ow) c rfl d⟩
theorem BU{h:ac}{b:Nat}{sl v:ByteArray}{has:Bool}{val:ByteArray}{s:SliceV}{ow:Option Addr}(e:h[b]? =some (.cells (EU sl has val s ow) bp (0,0))) {K:Option Addr→ac→Prop}
  (f:∀h',h'[b]? =some (.cells (EU sl true v s ow) bp (0,0))→Upd (· =b) h h'→K (some ⟨b,0,none⟩) h'):HC PG iZ [.pointer (some ⟨b,0,none⟩),.string v] [.c .ptr] K h:=by
 refine xI _ v ?_;unfold rb bV;exact⟨_,rfl,PP (i:=1) e (show 1<5 by decide),IA (i:=1) (c':=EU sl true val s ow) e rfl fun j b1 c=>⟨_,rfl,PP (i:=2) b1 (show 2<5 by decide),IA (i:=2) (c':=EU sl true v s ow) b1 rfl fun g b2 d=>f g b2 (c.tr d)⟩⟩
theorem Iy{h:ac}{k v:ByteArray}{K:Option Addr→ac→Prop}(m:∀h' b s,h'[b]? =some (.cells (EU k true v s none) bp (0,0))→s.len=0→s.len≤s.cap→h.size≤b→Upd No h h'→K (some ⟨b,0,none⟩) h'):HC PG uc [.pointer none,.string k,.string v] [.c .ptr] K h:=by
 refine EF none k v ?_;unfold yg rj pa GE;have k1:=Upd.hnew No h Pp bp;have b1:=be h Pp bp;refine bl ?_;simp only[bN h];generalize hnew h [.string (⟨#[]⟩:ByteArray),.bool false,.string (⟨#[]⟩:ByteArray),.slice none 0 0,.pointer none] bp=h1 at k1 b1;refine ut (W:=No) (ks:= []) (sl:=⟨#[]⟩) (val:=⟨#[]⟩) (has:=false) (s:=⟨none,0,0⟩) (ow:=none) b1 (Sl.nil rH) (cu _) fun p s b2 c e=>?_
 refine yv (nl:=k) b2 fun o b3 g=>BU (v:=v) b3 fun i j f=>?_
 have d:=g.tr f;have z:=e.size;have n:=k1.size;refine m i h1.size s j c.len c.cap n ((k1.tr e).trans d fun x hx=>.inr (by have hx:x=h1.size:=hx;omega))
theorem Q2{W:Nat→Prop}{h:ac}{b:Nat}{k v:ByteArray}{s:SliceV}{ow:Option Addr}(d:h[b]? =some (.cells (EU k true v s ow) bp (0,0))) (c:s.len=0) (hc:s.len≤s.cap) (nw:¬W b):RxN W h b k (some v) .nil:=
 ⟨v,s,ow,[],d,rfl,⟨c,rH,fun h=>absurd rfl h⟩,⟨hc,nw⟩,rfl⟩
theorem DH(s:ByteArray)(c:Nat):(s.extract 0 c).data.toList=s.data.toList.take c:=by
 rw[oU,Array.toList_extract,fI];simp
theorem DI(s:ByteArray)(c:Nat):(s.extract c s.size).data.toList=s.data.toList.drop c:=by
 rw[oU,Array.toList_extract,fI,List.take_of_length_le];rw[aO];simp
theorem Ix{W:Nat→Prop}{h:ac}{b:Nat}{sl:ByteArray}{w:Option ByteArray}{F:Fo}(r:RxN W h b sl w F)(B:∀y,W y→y<h.size)(hn:F.toL.length≤256){c:Nat}(hc:c≤sl.size){K:Option Addr→ac→Prop}
  (Y:∀h' b',RxN W h' b' (sl.extract 0 c) none (.cons (sl.data.toList.drop c) w F .nil)→Upd No h h'→K (some ⟨b',0,none⟩) h'):HC PG mY [.pointer (some ⟨b,0,none⟩),.pointer none,.int .i64 c] [.c .ptr] K h:=by
 refine yT _ none c ?_;unfold sx bV rj cG pa GE;obtain⟨val,s,ow,ks,Q,T,hs,N,L⟩:=r;have lab:∀{h'},Upd No h h'→aB h' (adr ⟨b,0,none⟩ 0)=some (.string sl):=fun k=>jt (i:=0) (k.get0 Q)
 have r0:=Upd.refl No h;refine⟨_,rfl,sl,lab r0,⟨by omega,by omega⟩,bl ?_⟩
 have k1:=Upd.hnew No h Pp bp;have b1:=be h Pp bp;simp only[bN h];generalize hnew h [.string (⟨#[]⟩:ByteArray),.bool false,.string (⟨#[]⟩:ByteArray),.slice none 0 0,.pointer none] bp=h1 at k1 b1;refine⟨lab k1,?_⟩;refine ut (W:=No) (ks:= []) (sl:=⟨#[]⟩) (val:=⟨#[]⟩) (has:=false) (s:=⟨none,0,0⟩) (ow:=none) b1 (Sl.nil rH) (cu _) fun h2 Z b2 _ p=>⟨lab (k1.tr p),?_⟩
 rw[aU];refine yv b2 fun f b3 E=>?_
 have z1:=k1.size;have d:Upd No h f:=(k1.tr p).trans E fun x hx=>.inr (by have hx:x=h1.size:=hx;omega)
 refine ut (d.get0 Q) (hs.upd d fun _ h=>h.elim) (by rw[(sV.1 L).1];exact hn) fun h4 X O I q=>?_
 refine⟨_,rfl,sl,jt (i:=0) O,⟨by omega,by omega⟩,?_⟩
 refine yv (nl:=sl.extract c sl.size) O fun g b5 o=>?_
 have n:Upd No h g:=(d.tr q).trans o fun x hx=>.inr (by have hx:x=f.size:=hx;have:=d.size;omega)
 have D:=I.upd o fun x hx e=>by have e:x=f.size:=e;have:=hx.1;omega
 have S:=aL b3;have t:g[h1.size]? =some (.cells (EU (sl.extract 0 c) false ⟨#[]⟩ Z none) bp (0,0)):=o.get (q.get0 b3) (by show ¬h1.size=f.size;omega);have z:=Upd.hnew No g [.pointer (some ⟨f.size,0,none⟩)] bf;have R:=be g [.pointer (some ⟨f.size,0,none⟩)] bf;have hz5:=n.size;have hz3:=d.size;refine bl ?_;simp only[bN g]
 generalize hnew g [.pointer (some ⟨f.size,0,none⟩)] bf=h6 at z R;have u:=z.get0 t;have P:=aL t;refine⟨_,rfl,PP (i:=3) u (show 3<5 by decide),IA (i:=3) (c':=EU (sl.extract 0 c) false ⟨#[]⟩ ⟨some ⟨g.size,0,none⟩,1,1⟩ none) u rfl fun G U j=>?_⟩
 have m:Upd No h G:=(n.tr z).trans j fun x hx=>.inr (by have hx:x=h1.size:=hx;omega)
 have C:G[g.size]? =some (.cells #[.pointer (some ⟨f.size,0,none⟩)] bf (0,0)):=j.get R (by show ¬g.size=h1.size;omega);have H:=j.get (z.get0 b5) (by show ¬f.size=h1.size;omega);have A:=(D.upd z fun _ _ h=>h).upd j fun x hx e=>by have e:x=h1.size:=e;have:=hx.1;omega
 refine Y G h1.size ⟨⟨#[]⟩,_,none,[some ⟨f.size,0,none⟩],U,rfl,⟨rfl,rH,fun _=>⟨_,rfl,(fun hx=>by have hx:W g.size:=hx;have:=B _ hx;omega),sX C fun i v J=>?_⟩⟩,⟨av _,fun hx=>by have:=B _ hx;omega⟩,?_⟩ m
 ·rw[az]
  rw[←ey]at J;exact J
 ·refine⟨f.size,sl.extract c sl.size,val,X,none,ks,[],rfl,DI ..,H,T,A.sl (fun x hx _ V=>by have:=B _ V;have:=hx.1;omega),⟨A.cap,fun hx=>by have:=B _ hx;omega⟩,RxF.upd0 m L,rfl⟩
end Go.Proofs
namespace Go.Proofs
open Go Go.Lift
theorem NH:∀{x y:List UInt8} {i:Nat},i≤x.length→i≤y.length→(∀j,j<i→x[j]? =y[j]?)→(i=x.length∨i=y.length∨x[i]?≠y[i]?)→cm x y=i
 | [],_,i,h1,_,_,_=>by simp at h1;simp[cm,h1]
 |_::_,[],i,_,h2,_,_=>by simp at h2;simp[cm,h2]
 |a::x,b::y,0,_,_,_,h=>by
  unfold cm;rw[if_neg];rintro rfl;rcases h with h|h|h<;>simp at h
 |a::x,b::y,i+1,h1,h2,h3,h4=>by
  have:=h3 0 (by omega);simp only[List.getElem?_cons_zero,bD.injEq]at this;unfold cm;rw[if_pos this,NH (i:=i) (by simpa using h1) (by simpa using h2) (fun j c=>by simpa using h3 (j+1) (by omega)) (by simpa using h4)]
theorem Lq{a b:ByteArray}(B:a.size≤1000000){h:ac}{K:Int→ac→Prop}(n:K (cm a.data.toList b.data.toList:Nat) h):HC PG tX [.string a,.string b] [.c (.int .i64)] K h:=by
 refine EB a b ?_;unfold yc;simp only[Bd];have m:(if(b.size:Int)<(a.size:Int)then(b.size:Int)else(a.size:Int))=((min a.size b.size:Nat):Int):=by split<;>omega
 rw[m];have A:a.data.toList.length=a.size:=by simp
 have z:b.data.toList.length=b.size:=by simp
 refine LoopP.ghost (fun(i:Nat) (t:Int) h'=>t=(i:Int)∧i≤min a.size b.size∧h'=h∧∀j,j<i→a.data.toList[j]? =b.data.toList[j]?) (fun i=>min a.size b.size-i) 0 ⟨rfl,cu _,rfl,fun j u=>absurd u (Nat.not_lt_zero _)⟩ ?_
 rintro I i t h' ⟨rfl,y,rfl,o⟩ x;refine ax (fun d=>?_) fun w=>?_
 ·have d:i<min a.size b.size:=by omega
  have f:i<a.size:=by omega
  have k:i<b.size:=by omega
  refine⟨a[i],by omega,by rw[aU,getElem?_pos a i f],b[i],by omega,by rw[aU,getElem?_pos b i k],?_⟩
  have s:a.data.toList[i]? =some a[i]:=by rw[←Qb,getElem?_pos a i f]
  have q:b.data.toList[i]? =some b[i]:=by rw[←Qb,getElem?_pos b i k]
  refine CondP.intro (fun g=>?_) fun c=>?_
  ·rw[NH (i:=i) (by omega) (by omega) o (.inr (.inr fun e=>?_))]at n
   ·exact n
   ·rw[s,q]at e
    rw[bD.inj e]at g;simp at g
  ·have c:a[i]=b[i]:=by
    have:((a[i].toNat:Int))=(b[i].toNat:Int):=by simpa using c
    exact UInt8.toNat_inj.1 (by omega)
   rw[gN d (by omega)];refine x (i+1) _ _ ⟨rfl,d,rfl,fun j u=>?_⟩ (by omega)
   rcases cF j i with v|v
   ·exact o j v
   ·have:j=i:=by omega
    subst this;rw[s,q,c]
 ·have p:i=min a.size b.size:=by omega
  rw[NH (i:=i) (by omega) (by omega) o (by omega)]at n;rw[←p];exact n
theorem K2{F:Fo}{i:Nat}{k:List UInt8}{v:ByteArray}(h:l8 F)(b:i<F.toL.length)(ek:hd F.toL[i].1=hd k)(c:ug (Eh F.toL[i]) (Eh F.toL[i]) k v):ug (Bu F) (Bu F) k v:=by
 have:=G9 h b ek c;rw[List.set_getElem_self,Fo.of_to]at this;exact this
theorem MC{P Q b:List UInt8→ByteArray→Prop}{k:List UInt8}{v:ByteArray}(h:ug P b k v)(e:∀k v,P k v↔Q k v):ug Q b k v:=fun k' c=>by rw[h k' c,e]
set_option maxHeartbeats 1000000 in
theorem Mw{W:Nat→Prop}:∀(n:Nat) {b:Nat} {sl:ByteArray} {w:Option ByteArray} {F:Fo} {h:ac} (k v:ByteArray),k.size<n→k.size≤1000000→RxN W h b sl w F→(∀y,W y→y<h.size)→l8 F→∀{K:(Option Addr)×Bool×Bool→ac→Prop},
  (∀h' b' w' Z C ch,Upd No h h'→RxN W h' b' sl w' Z→l8 Z→ug (Cb w F) (Cb w' Z) k.data.toList v→(ch=false→b'=b∧w'=w∧Z=F)→(Cb w F k.data.toList v→ch=false)→K (some ⟨b',0,none⟩,C,ch) h')→
  HC PG lG [.pointer (some ⟨b,0,none⟩),.pointer none,.string k,.string v] [.c .ptr,.c .bool,.c .bool] K h:=by
 intro n;induction n with
 |zero=>intro b sl w F h k v hk;omega
 |succ n ih=>
  intro b sl w F h k v G hk6 r hW hc K hk;refine BC (some ⟨b,0,none⟩) none k v ?_;unfold uK aD bT cH bV f8 rj cG mU pa L4 FB PE L1;have hr:=r;obtain⟨val,s,ow,ks,hb,hv,hs,hcap,hF⟩:=r;have X:=sV.1 hF;have hn:=Gj hc;have hcan:=gE.1 hc;rw[lg];refine ax (fun hk0=>?_) fun hk0=>?_
  ·have hke:k.data.toList= []:=by rw[hk0]
   rw[hke]at hk;refine Join.intro (fun t h'=>t=decide (w=some v)∧h'=h) (fun R hR=>⟨_,rfl,w.isSome,jt (i:=1) hb,?_⟩) ?_
   ·cases H:w with
    |none=>exact aq.2 (hR _ _ ⟨by rw[H];rfl,rfl⟩)
    |some u=>
     refine aK.2 ⟨_,rfl,val,jt (i:=2) hb,hR _ _ ⟨?_,rfl⟩⟩;rw[lg,vw hv u H,H];exact decide_eq_decide.2 ⟨fun e=>by rw[e],fun e=>bD.inj e⟩
   ·rintro t h' ⟨rfl,rfl⟩
    refine ax (fun e=>?_) fun e=>?_
    ·refine hk h' b w F false false (Upd.refl _ _) hr hc ?_ (fun _=>⟨rfl,rfl,rfl⟩) fun _=>rfl
     rw[e];exact E0 hc v
    ·refine⟨_,rfl,w.isSome,jt (i:=1) hb,?_⟩
     refine ut hb hs (by rw[X.1];exact hn) fun h1 s1 b1 ho1 q=>?_
     refine⟨jt (i:=1) (q.get0 hb),?_⟩;refine BU b1 fun A b2 B=>?_
     have d:Upd No h' A:=q.trans B fun x hx=>.inr (dX (Eq.symm hx))
     refine⟨jt (i:=1) (d.get0 hb),?_⟩;have ho2:=ho1.upd B fun x hx e=>by have e:x=h'.size:=e;have:=hx.1;omega
     refine hk A h'.size (some v) F _ true d ⟨v,s1,none,ks,b2,rfl,ho2.sl (fun x hx _ H=>by have:=hW _ H;have:=hx.1;omega),⟨ho2.cap,fun hx=>pI _ (hW _ hx)⟩,RxF.upd0 d hF⟩ hc (E0 hc v) (fun h=>by cases h) fun g=>?_
     rcases g with⟨_,h⟩|h
     ·exact absurd h e
     ·exact absurd rfl (F7 hc h)
  ·have f:k.data.toList≠[]:=fun e=>hk0 (by cases k;exact congrArg ByteArray.mk (pz.1 e))
   obtain⟨c0,hc0,hc0e⟩:=Jj f;refine⟨c0,tR _,hc0,?_⟩;have hlk:k.data.toList.length=k.size:=by simp
   refine ET hr hc (c:=c0.toNat) (UInt8.toNat_lt _) fun i ok hil hlo hhi hok=>?_
   rw[hc0e]at hlo hhi hok;cases ok with
   |false=>
    have hno:∀V:i<F.toL.length,hd F.toL[i].1≠hd k.data.toList:=fun V e=>by have:=hok.2 ⟨V,e⟩;cases this
    have hhi':∀j (hj:j<F.toL.length),i≤j→hd k.data.toList<hd F.toL[j].1:=fun j hj hij=>by
     have h1:=hhi j hj hij;rcases cF i j with Y|Y
     ·have A:=cJ.1 hcan.1 i j (by omega) hj Y
      have h3:=hhi i (by omega) (av _);omega
     ·have:i=j:=by omega
      subst this;have:=hno hj;omega
    obtain⟨hc',hp'⟩:=K4 (v:=v) hc f hlo hhi';refine aK.2 ?_;refine ut hb hs (by rw[X.1];exact hn) fun h1 s1 b1 ho1 q=>?_
    refine⟨_,rfl,s1,jt (i:=3) b1,?_⟩;refine Iy fun A fb fs fb2 hf0 hfc hfb B=>⟨jt (i:=3) (B.get0 b1),bl ?_⟩
    have k3:=Upd.hnew No A [.pointer (some ⟨fb,0,none⟩)] bf;have b3:=be A [.pointer (some ⟨fb,0,none⟩)] bf;have z3:(hnew A [.pointer (some ⟨fb,0,none⟩)] bf).size=A.size+1:=gg ..;simp only[bN A];generalize hnew A [.pointer (some ⟨fb,0,none⟩)] bf=h3 at k3 b3 z3;have D:=B.tr k3;refine⟨jt (i:=3) (D.get0 b1),?_⟩;have z1:=aL b1
    have z2:=B.size;have zf:=aL fb2;have ho3:=(ho1.upd D fun _ _ h=>h).more (M':=fun x=>(h.size<x∧x<h1.size)∨h3.size≤x) fun x hx=>.inl hx
    refine Je ho3 (k:=i) (by rw[X.1];exact hil) (by rw[X.1];omega) b3 (by rintro(h|h)<;>omega) (fun x hx=>.inr hx) fun s4 h4 U I=>?_
    have b4:=I.get (D.get0 b1) (by rintro(h|h)<;>omega)
    have f4:=I.get (k3.get0 fb2) (by rintro(h|h)<;>omega)
    refine⟨_,rfl,PP (i:=3) b4 (show 3<5 by decide),IA (i:=3) (c':=EU sl w.isSome val s4 none) b4 rfl fun h5 b5 hu5=>?_⟩
    have hu05:Upd No h h5:=((q.tr D).trans I fun x hx=>.inr (by have:=q.size;rcases hx with hx|hx<;>omega)).trans hu5 fun x hx=>.inr (dX (Eq.symm hx))
    have ho5:=U.upd hu5 fun x hx e=>by have e:x=h.size:=e;rcases hx with hx|hx<;>omega
    have f5:=hu5.get f4 (by show ¬fb=h.size;omega);refine hk h5 h.size w _ true true hu05 ⟨val,s4,none,_,b5,hv,ho5.sl (fun x hx _ H=>by have:=hW _ H;rcases hx with hx|hx<;>omega),⟨ho5.cap,fun hx=>pI _ (hW _ hx)⟩,sV.2 (by rw[Fo.to_of];exact(X.upd0 hu05).ins i ⟨fb,k,rfl,rfl,Q2 f5 hf0 hfc fun hx=>by have:=hW _ hx;omega⟩)⟩ hc' (AX f hp') (fun h=>by cases h) fun g=>?_
    rcases g with⟨h,_⟩|g
    ·exact absurd h f
    ·obtain⟨n',hn',e,_⟩:=A5 hc g
     obtain⟨j,hj,rfl⟩:=List.getElem_of_mem hn';rcases cF j i with Y|Y
     ·have:=hlo j hj Y;omega
     ·have:=hhi' j hj Y;omega
   |true=>
    obtain⟨V,J⟩:=hok.1 rfl;refine aq.2 ⟨_,rfl,s,jt (i:=3) hb,?_⟩;obtain⟨kb,ksl,hki,p,G⟩:=X.at V;have hmem:F.toL[i]∈F.toL:=cj V;have o:=hcan.2 _ hmem;obtain⟨a,ha,_,hvv⟩:=hs.at0 hki;have hslen:=hs.len;rw[X.1]at hslen;have hlt1:(i:Int)<((s.len:Nat):Int):=by omega
    refine⟨⟨by simp only;omega,hlt1⟩,a,ha,some ⟨kb,0,none⟩,hvv,_,rfl,?_⟩;obtain⟨kval,kss,kow,kks,hkb,_⟩:=id G;refine⟨ksl,jt (i:=0) hkb,Lq hk6 ?_⟩;rw[p];have hc1:=Qr f o.1 J.symm;have N:=PA k.data.toList F.toL[i].1;have Q:=Kv k.data.toList F.toL[i].1;have hcd:=Kw k.data.toList F.toL[i].1;have hll:ksl.size=F.toL[i].1.length:=by rw[←p];simp
    have L:Bu F k.data.toList v→Eh F.toL[i] k.data.toList v:=fun g=>by
     obtain⟨n',hn',e,hN⟩:=A5 hc g;rw[←Gi hc hn' hmem (by omega)];exact hN
    have hset:∀{w2:Option ByteArray} {F2:Fo} {nl:List UInt8},nl≠[]→hd nl=hd F.toL[i].1→l8 F2→Br (Cb w2 F2)→l8 (.ofL (F.toL.set i (nl,w2,F2))):=fun h1 A h3 h4=>O5 hc V ⟨h1,(NN h3).2 h4,h3⟩ A
    have T:∀{m:Bn},ug (Eh F.toL[i]) (Eh m) k.data.toList v→ug (Bu F) (Bu (.ofL (F.toL.set i m))) k.data.toList v:=fun hp=>G9 hc V J hp
    have P:ug (Eh F.toL[i]) (Eh F.toL[i]) k.data.toList v→ug (Bu F) (Bu F) k.data.toList v:=K2 hc V J;have hrset:∀{h':ac} {k':Option Addr} {m:Bn},Upd No h h'→Kid W h' k' m→RxL W h' (ks.set i k') (F.toL.set i m):=fun hu hkd=>(X.upd0 hu).set V hkd
    generalize F.toL[i]=m at p G o hc1 N Q hcd hll L hset T P J;generalize hcc:cm k.data.toList m.1=c at hc1 N Q hcd;obtain⟨lab,wk,Fk⟩:=m;simp only at p G o N Q hcd hll J hset;refine Join.intro (fun t h'=>∃ub z wu Fu,t=some ⟨ub,0,none⟩∧Upd No h h'∧RxN W h' ub z wu Fu∧l8 Fu∧z.data.toList=k.data.toList.take c∧(∀k' v',Eh (z.data.toList,wu,Fu) k' v'↔Eh (lab,wk,Fk) k' v')∧(∀w' Z,l8 Z→ug (Cb wu Fu) (Cb w' Z) (k.data.toList.drop c) v→Br (Cb w' Z))) (fun R hR=>⟨_,rfl,ksl,jt (i:=0) hkb,?_⟩) ?_
    ·refine ax (fun hlt=>?_) fun hge=>?_
     ·have hlt:c<lab.length:=by omega
      refine Ix G hW (Gj o.2.2) (c:=c) (by omega) fun h1 ub rn q=>hR _ _ ⟨ub,_,none,_,rfl,q,rn,?_,?_,?_,?_⟩
      ·rw[p]
       refine⟨fun e=>?_,o.2.1,o.2.2,fun _ h=>by simp[Fo.toL]at h,trivial⟩
       have:=congrArg jz e;rw[aO,eK]at this;omega
      ·rw[DH,p,Q]
      ·intro k' v'
       rw[DH,p];exact Li c k' v'
      ·intro w' Z hcF hp
       rw[p]at hp;refine NM (fun e=>?_) o.2.1 o.2.2 (fun hne=>?_) hp
       ·have:=congrArg jz e
        rw[aO,eK]at this;omega
       ·refine hcd ?_ hlt
        rcases cF c k.data.toList.length with Y|Y
        ·exact Y
        ·exact absurd (List.drop_eq_nil_of_le Y) hne
     ·have hce:c=lab.length:=by omega
      refine hR _ _ ⟨kb,ksl,wk,Fk,rfl,Upd.refl _ _,G,o.2.2,?_,?_,?_⟩
      ·rw[p,Q,hce,c8]
      ·intro k' v';rw[p]
      ·intro w' Z hcF hp
       exact O7 ((NN o.2.2).1 o.2.1) hp
    ·rintro t h1 ⟨ub,z,wu,Fu,rfl,q,rn,hcu,hsl,O,hbr⟩
     refine⟨⟨by omega,by omega⟩,?_⟩
     rw[aU];have hkd:(k.extract c k.size).data.toList=k.data.toList.drop c:=DI ..;have hks:(k.extract c k.size).size=k.size-c:=by simp
     have E:k.data.toList=z.data.toList++k.data.toList.drop c:=by rw[hsl,List.take_append_drop]
     have S:z.data.toList≠[]:=by
      rw[hsl];intro e;have:=congrArg jz e;rw[bi,eK]at this;omega
     have hslhd:hd z.data.toList=hd lab:=by
      rw[J];conv=>rhs;rw[E]
      rw[yA S]
     refine ih (k.extract c k.size) v (by rw[hks];omega) (by rw[hks];omega) rn (fun y hy=>aE (hW y hy) q.size) hcu fun A b2 w2 F2 C ch B rn2 hc2 hp2 hsm hch=>?_
     rw[hkd]at hp2 hch;have d:=q.tr B;have hpn:ug (Eh (lab,wk,Fk)) (Eh (z.data.toList,w2,F2)) k.data.toList v:=by
      have:=MC (K3 (lab:=z.data.toList) hp2) O;rw[←E]at this;exact this
     have hchg:Cb w F k.data.toList v→ch=false:=fun g=>by
      rcases g with⟨h,_⟩|g
      ·exact absurd h f
      ·obtain⟨r,e,hr'⟩:=(O _ _).2 (L g)
       simp only at e;rw[E]at e;have e2:=List.append_cancel_left e;rw[←E]at e;exact hch (by rw[e2];exact hr')
     cases ch with
     |false=>
      obtain⟨_,rfl,rfl⟩:=hsm rfl;refine aK.2 (hk A b w F false false d (hr.upd0 d) hc (AX f (P ?_)) (fun _=>⟨rfl,rfl,rfl⟩) fun _=>rfl)
      intro k' v';exact(O k' v').symm.trans (hpn k' v')
     |true=>
      refine aq.2 ?_;refine ut (d.get0 hb) (hs.upd d fun _ h=>h.elim) (by rw[X.1];exact hn) fun h3 s3 b3 ho3 hu3=>?_
      refine⟨_,rfl,s3,jt (i:=3) b3,?_⟩;have hil:i<ks.length:=by rw[X.1];exact V
      obtain⟨a3,ha3,hab,hw3,U,I⟩:=OwnS.setAt ho3 hil (some ⟨b2,0,none⟩);have hlen3:=ho3.len;refine⟨⟨by simp only;omega,by simp only;omega⟩,a3,ha3,?_⟩
      have hw1:Wr h3 (adr a3 (i*1)):=by
       rcases hw3 with H|⟨b',hb',H⟩
       ·cases H
       ·cases hb';exact H 0 (by simp)
      refine⟨hw1,bl ?_⟩;have b4:=I.get b3 fun e=>by have e:A.size=a3.block:=e;have:=hab.1;omega
      have hu24:Upd No A _:=hu3.trans I fun x hx=>.inr (by have hx:x=a3.block:=hx;have:=hab.1;omega)
      have hu04:=d.tr hu24;have eset:ks.set i (some ⟨b2,0,none⟩)=ks.take i++some ⟨b2,0,none⟩::ks.drop (i+1):=by rw[dw,if_pos hil]
      rw[←eset]at U;exact hk _ A.size w _ C true hu04 ⟨val,s3,none,_,b4,hv,U.sl (fun x hx _ H=>by have:=hW _ H;have:=d.size;have:=hx.1;omega),⟨U.cap,fun hx=>by have:=hW _ hx;have:=d.size;omega⟩,sV.2 (by rw[Fo.to_of];exact hrset hu04 ⟨b2,z,rfl,rfl,rn2.upd0 hu24⟩)⟩ (hset S hslhd hc2 (hbr _ _ hc2 hp2)) (AX f (T hpn)) (fun h=>by cases h) hchg
end Go.Proofs
namespace Go.Proofs
open Go Go.Lift
def IM:Fo→List (List UInt8×ByteArray)
 | .nil=> []
 | .cons lab w kids rest=>((w.map fun v=>(([]:List UInt8),v)).toList++IM kids).map (fun p=>(lab++p.1,p.2))++IM rest
def OA(w:Option ByteArray)(F:Fo):List (List UInt8×ByteArray):=(w.map fun v=>(([]:List UInt8),v)).toList++IM F
theorem CP:∀{F:Fo} {k:List UInt8} {v:ByteArray},(k,v)∈IM F↔Bu F k v
 | .nil,_,_=>by simp[IM,Bu]
 | .cons lab w kids rest,k,v=>by
  unfold IM Bu;rw[bo,CP (F:=rest)];refine or_congr ?_ xu;rw[List.mem_map];constructor
  ·rintro⟨⟨r,u⟩,hm,b⟩
   simp only[oK.injEq]at b;obtain⟨rfl,rfl⟩:=b;refine⟨r,rfl,?_⟩;rcases bo.1 hm with h|h
   ·left
    rw[Option.mem_toList,Option.map_eq_some_iff]at h;obtain⟨a,c,b⟩:=h;simp only[oK.injEq]at b;exact⟨b.1.symm,by rw[c,b.2]⟩
   ·exact .inr (CP.1 h)
  ·rintro⟨r,rfl,h⟩
   refine⟨(r,v),bo.2 ?_,rfl⟩;rcases h with⟨rfl,h⟩|h
   ·left;rw[h];simp
   ·exact .inr (CP.2 h)
theorem zB{w:Option ByteArray}{F:Fo}{k:List UInt8}{v:ByteArray}:(k,v)∈OA w F↔Cb w F k v:=by
 unfold OA Cb;rw[bo,CP];refine or_congr ?_ xu;cases w with
 |none=>simp
 |some u=>simp[Prod.ext_iff,eq_comm]
end Go.Proofs
namespace Go.Proofs
open Go Go.Lift
structure RadAt(W:Nat→Prop)(h:ac)(b:Nat)(l:List Pr):Prop where
 ex:∃w F,RxN W h b ⟨#[]⟩ w F∧l8 F∧∀k v,(k,v)∈OA w F↔∃p∈l,p.1.data.toList=k∧p.2=v
theorem RadAt.upd0{W:Nat→Prop}{h h':ac}{b:Nat}{l:List Pr}(k:Upd No h h')(r:RadAt W h b l):RadAt W h' b l:=by
 obtain⟨w,F,e,c,d⟩:=r.ex;exact⟨w,F,e.upd0 k,c,d⟩
theorem RadAt.less{W W':Nat→Prop}{h:ac}(hm:∀b,W' b→W b∨h.size≤b){b:Nat}{l:List Pr}(r:RadAt W h b l):RadAt W' h b l:=by
 obtain⟨w,F,e,c,d⟩:=r.ex;exact⟨w,F,e.less hm,c,d⟩
theorem RadAt.updM{W M:Nat→Prop}{h h':ac}(k:Upd M h h')(hm:∀b,M b→W b∨h.size≤b){b:Nat}{l:List Pr}(r:RadAt W h b l):RadAt W h' b l:=by
 obtain⟨w,F,e,c,d⟩:=r.ex;exact⟨w,F,e.updM k hm,c,d⟩
end Go.Proofs
namespace Go.Proofs
open Go Go.Lift
theorem sZ{p q:Pr}:∀{l:List Pr},fk l→(q∈jb p l↔q=p∨(q∈l∧q.1≠p.1))
 | [],_=>by simp[jb]
 |r::l,c=>by
  have c:=bK.1 c;rw[lC];by_cases d:kl r.1 p.1
  ·have f:r.1≠p.1:=fun e=>by rw[e]at d;exact fS _ d
   rw[if_pos d,ah,ah,sZ c.2];constructor
   ·rintro(rfl|h|⟨h,h'⟩)
    ·exact .inr ⟨.inl rfl,f⟩
    ·exact .inl h
    ·exact .inr ⟨.inr h,h'⟩
   ·rintro(h|⟨h|h,h'⟩)
    ·exact .inr (.inl h)
    ·exact .inl h
    ·exact .inr (.inr ⟨h,h'⟩)
  ·rw[if_neg d]
   by_cases b:r.1=p.1
   ·rw[if_pos b,ah,ah]
    constructor
    ·rintro(h|h)
     ·exact .inl h
     ·refine .inr ⟨.inr h,fun e=>?_⟩
      have:=c.1 q h;rw[e,b]at this;exact fS _ this
    ·rintro(h|⟨rfl|h,h'⟩)
     ·exact .inl h
     ·exact absurd b h'
     ·exact .inr h
   ·rw[if_neg b,ah,ah]
    have g:=F3 d b;constructor
    ·rintro(h|rfl|h)
     ·exact .inl h
     ·exact .inr ⟨.inl rfl,b⟩
     ·refine .inr ⟨.inr h,fun e=>?_⟩
      have:=rM g (c.1 q h);rw[e]at this;exact fS _ this
    ·rintro(h|⟨rfl|h,h'⟩)
     ·exact .inl h
     ·exact .inr (.inl rfl)
     ·exact .inr (.inr h)
def RadRoot(W:Nat→Prop)(h:ac)(r:Option Addr)(l:List Pr):Prop:=(r=none∧l= [])∨∃b,r=some ⟨b,0,none⟩∧RadAt W h b l
theorem RadRoot.upd0{W:Nat→Prop}{h h':ac}{r:Option Addr}{l:List Pr}(k:Upd No h h')(t:RadRoot W h r l):RadRoot W h' r l:=t.imp id fun⟨b,e,t⟩=>⟨b,e,t.upd0 k⟩
theorem yJ{a b:ByteArray}:a.data.toList=b.data.toList↔a=b:=by
 constructor
 ·intro h;cases a;cases b;exact congrArg ByteArray.mk (pz.1 h)
 ·rintro rfl;rfl
theorem Dh{W:Nat→Prop}{h:ac}(d:∀y,W y→y<h.size){K:Option Addr→ac→Prop}(c:∀h' b,RadAt W h' b []→Upd No h h'→K (some ⟨b,0,none⟩) h'):HC PG pF [] [.c .ptr] K h:=by
 refine EG ?_;unfold yh GE;refine bl (c _ h.size ⟨none,.nil,⟨⟨#[]⟩,⟨none,0,0⟩,none,[],be h Pp bp,rfl,Sl.nil rH,⟨av _,fun hx=>pI _ (d _ hx)⟩,rfl⟩,trivial,fun k v=>?_⟩ (Upd.hnew No h _ _))
 simp[OA,IM]
theorem ES{W:Nat→Prop}{h:ac}{r:Option Addr}{l:List Pr}(t:RadRoot W h r l)(e:∀y,W y→y<h.size){K:Option Addr→ac→Prop}(c:∀h' b,RadAt W h' b l→Upd No h h'→(r=some ⟨b,0,none⟩∨r=none)→K (some ⟨b,0,none⟩) h'):HC PG rt [.pointer r] [.c .ptr] K h:=by
 refine Gv r ?_;unfold Aw;rcases t with⟨rfl,rfl⟩|⟨b,rfl,t⟩
 ·exact aK.2 (Dh e fun h' b t d=>c h' b t d (.inr rfl))
 ·exact aq.2 (c h b t (Upd.refl _ _) (.inl rfl))
theorem G5{W:Nat→Prop}{h:ac}{r:Option Addr}{l:List Pr}(t:RadRoot W h r l)(B:∀y,W y→y<h.size)(n:fk l)(p:Pr)(G:p.1.size≤1000000){K:Option Addr×Bool→ac→Prop}
  (J:∀h' b' c,Upd No h h'→RadAt W h' b' (jb p l)→(p∈l→r=some ⟨b',0,none⟩∨r=none)→K (some ⟨b',0,none⟩,c) h'):
  HC PG wz [.pointer none,.pointer r,.agg #[.string p.1,.string p.2]] [.c .ptr,.c .bool] K h:=by
 refine HT none r p ?_;unfold Cg aw rm L4;have k1:=Upd.hnew No h [.string p.1,.string p.2] ar;have b1:=be h [.string p.1,.string p.2] ar;refine bl ?_;simp only[bN h];generalize hnew h [.string p.1,.string p.2] ar=h1 at k1 b1;have j:∀{h':ac},Upd No h1 h'→∀i,aB h' (adr ⟨h.size,0,none⟩ i)=(#[.string p.1,.string p.2]:Array Value)[i]?:=fun k i=>by rw[bC,aC (k.get0 b1),az]
 have D:=Upd.refl No h1;refine⟨p.1,j D 0,p.2,j D 1,ES (t.upd0 k1) (fun y s=>aE (B y s) k1.size) fun P b H d O=>⟨j d 1,j d 0,?_⟩⟩
 obtain⟨w,F,E,L,C⟩:=H.ex;refine Mw (p.1.size+1) p.1 p.2 (by omega) G E (fun y s=>aE (B y s) (k1.tr d).size) L fun I b3 w' N c Q z m u o A x=>?_
 refine J I b3 c ((k1.tr d).tr z) ⟨w',N,m,u,fun k v=>?_⟩ fun hm=>?_
 ·rw[zB,o k v,←zB,C k v]
  constructor
  ·rintro(⟨rfl,rfl⟩|⟨f,q,g,rfl,rfl⟩)
   ·exact⟨p,(sZ n).2 (.inl rfl),rfl,rfl⟩
   ·exact⟨q,(sZ n).2 (.inr ⟨g,fun e=>f (by rw[e])⟩),rfl,rfl⟩
  ·rintro⟨q,g,rfl,rfl⟩
   rcases(sZ n).1 g with rfl|⟨g,f⟩
   ·exact .inl ⟨rfl,rfl⟩
   ·exact .inr ⟨fun e=>f (yJ.1 e),q,g,rfl,rfl⟩
 ·have:=x (zB.1 ((C _ _).2 ⟨p,hm,rfl,rfl⟩))
  rw[(A this).1];exact O
end Go.Proofs
namespace Go.Proofs
open Go Go.Lift
theorem bc{h:ac}{cs:List Value}{t:TypeId}{k:ac→Prop}(b:∀h',h'[h.size]? =some (.cells cs.toArray t (0,0))→Upd No h h'→k h'):At (hnew h cs t) k:=
 bl (b _ (be h cs t) (Upd.hnew No h cs t))
theorem vc{h:ac}{b:Nat}{c:Array Value}{t:TypeId}(d:h[b]? =some (.cells c t (0,0))) (i:Nat):aB h (adr ⟨b,0,none⟩ i)=c[i]?:=by rw[bC,az];exact aC d
theorem sO{h:ac}{b:Nat}{c:Array Value}{t:TypeId}(d:h[b]? =some (.cells c t (0,0))) (i j:Nat):aB h (adr (adr ⟨b,0,none⟩ i) j)=c[i+j]?:=by rw[bC,bC,az];exact aC d
theorem KH{h:ac}{b i:Nat}{c c':Array Value}{t:TypeId}{v:Value}{k:ac→Prop}(f:h[b]? =some (.cells c t (0,0))) (j:i<c.size) (e:c.setIfInBounds i v=c') (m:∀h',h'[b]? =some (.cells c' t (0,0))→Upd (· =b) h h'→k h'):Wr h (adr ⟨b,0,none⟩ i)∧At (hset h (adr ⟨b,0,none⟩ i) v) k:=by
 rw[bC,az];exact⟨fR f j,yL f fun h' d g=>m h' (e▸d) g⟩
theorem _root_.Go.Lift.Upd.own{h d c:ac}{b:Nat}(k:Upd No h d)(e:Upd (· =b) d c)(f:h.size≤b):Upd No h c:=k.trans e fun x hx=>.inr (by have hx:x=b:=hx;omega)
theorem _root_.Go.Lift.Upd.oth{h h':ac}{b c:Nat}{o:Obj}(e:Upd (· =b) h h')(hc:h[c]? =some o) (d:c≠b):h'[c]? =some o:=e.get hc d
abbrev Tr:=Int×Int×Int×Int×(Option Addr)×(Option Addr)
abbrev jA(t:Tr):List Value:= [.int .i64 t.1,.int .u64 t.2.1,.int .u64 t.2.2.1,.int .u64 t.2.2.2.1,.pointer t.2.2.2.2.1,.pointer t.2.2.2.2.2]
abbrev GO(t:Tr):Value:=.agg #[.int .i64 t.1,.int .u64 t.2.1,.int .u64 t.2.2.1,.int .u64 t.2.2.2.1,.pointer t.2.2.2.2.1,.pointer t.2.2.2.2.2]
def Pro(W:Nat→Prop)(h b:ac)(y:Nat):Prop:=W y∨(h.size≤y∧y<b.size)
theorem Pro.lt{W:Nat→Prop}{h b:ac}(d:∀y,W y→y<h.size)(k:Upd No h b):∀y,Pro W h b y→y<b.size:=fun y c=>c.elim (fun h=>aE (d y h) k.size) fun h=>h.2
theorem Pro.hm{W:Nat→Prop}{h b:ac}:∀y,Pro W h b y→W y∨h.size≤y:=fun _ c=>c.imp id fun h=>h.1
theorem Pro.sub{W:Nat→Prop}{h b c:ac}:∀y,W y→Pro W h b y∨c.size≤y:=fun _ d=>.inl (.inl d)
theorem RootAt.less{W W':Nat→Prop}{x:Hs}{h:ac}(hm:∀b,W' b→W b∨h.size≤b){r:Option Addr}{l:List Pr}(t:RootAt W x h r l):RootAt W' x h r l:=t.imp id fun⟨b,e,t⟩=>⟨b,e,TrieAt.less hm t⟩
theorem RadRoot.less{W W':Nat→Prop}{h:ac}(hm:∀b,W' b→W b∨h.size≤b){r:Option Addr}{l:List Pr}(t:RadRoot W h r l):RadRoot W' h r l:=t.imp id fun⟨b,e,t⟩=>⟨b,e,t.less hm⟩
def TreeIs(W:Nat→Prop)(h:ac)(kind:Int)(x:Hs)(t:Tr)(l:List Pr):Prop:=(kind=0∧∃b,t=(0,x.k0,x.k1,x.mask,some ⟨b,0,none⟩,none)∧TrieAt W x h 13 b l)∨(kind=1∧∃b,t=(1,0,0,0,none,some ⟨b,0,none⟩)∧RadAt W h b l)
theorem TreeIs.upd0{W:Nat→Prop}{h h':ac}{kind:Int}{x:Hs}{t:Tr}{l:List Pr}(k:Upd No h h')(i:TreeIs W h kind x t l):TreeIs W h' kind x t l:=
 i.imp (fun⟨e,b,c,t⟩=>⟨e,b,c,TrieAt.upd0 k t⟩) fun⟨e,b,c,t⟩=>⟨e,b,c,t.upd0 k⟩
theorem TreeIs.less{W W':Nat→Prop}{h:ac}(hm:∀b,W' b→W b∨h.size≤b){kind:Int}{x:Hs}{t:Tr}{l:List Pr}(i:TreeIs W h kind x t l):TreeIs W' h kind x t l:=
 i.imp (fun⟨e,b,c,t⟩=>⟨e,b,c,TrieAt.less hm t⟩) fun⟨e,b,c,t⟩=>⟨e,b,c,t.less hm⟩
theorem TreeIs.updM{W M:Nat→Prop}{h h':ac}(k:Upd M h h')(hm:∀b,M b→W b∨h.size≤b){kind:Int}{x:Hs}{t:Tr}{l:List Pr}(i:TreeIs W h kind x t l):TreeIs W h' kind x t l:=
 i.imp (fun⟨e,b,c,t⟩=>⟨e,b,c,TrieAt.updM k hm t⟩) fun⟨e,b,c,t⟩=>⟨e,b,c,t.updM k hm⟩
theorem TreeIs.pro{W:Nat→Prop}{h b:ac}(k:Upd No h b){kind:Int}{x:Hs}{t:Tr}{l:List Pr}(i:TreeIs W h kind x t l):TreeIs (Pro W h b) b kind x t l:=(i.less Pro.hm).upd0 k
theorem Ew{W:Nat→Prop}{x:Hs}{h:ac}(e:∀y,W y→y<h.size){K:Option Addr→ac→Prop}(d:∀h' b,TrieAt W x h' 13 b []→Upd No h h'→K (some ⟨b,0,none⟩) h'):HC PG pG [] [.c .ptr] K h:=by
 refine xZ ?_;unfold uj;exact rp e fun h' b nd c=>d h' b (GN nd) c
abbrev sQ:Tr:=(0,0,0,0,none,none)
theorem GQ{W:Nat→Prop}{x:Hs}{h:ac}{r:Option Addr}{l:List Pr}(t:RootAt W x h r l)(v:∀y,W y→y<h.size){K:Tr→ac→Prop}(u:∀h' t,TreeIs W h' 0 x t l→Upd No h h'→K t h'):HC PG rS [.agg #[.int .u64 x.k0,.int .u64 x.k1,.int .u64 x.mask],.pointer r] [.agg [.int .i64,.int .u64,.int .u64,.int .u64,.ptr,.ptr]] K h:=by
 refine D6 (x.k0,x.k1,x.mask) r ?_;unfold wZ ag ad cT Hc af rE C4;refine bc fun n b1 k1=>bc fun o b2 k=>?_
 have w:=aL b1;have z:=aL b2;have e:=k1.tr k;refine Join.intro (fun t h'=>Upd No o h'∧∃b,t=some ⟨b,0,none⟩∧TrieAt (Pro W h o) x h' 13 b l) (fun R m=>?_) ?_
 ·rcases t with⟨rfl,rfl⟩|⟨b,rfl,t⟩
  ·exact aK.2 (Ew (Pro.lt v e) fun s b t d=>m _ _ ⟨d,b,rfl,t⟩)
  ·exact aq.2 (m _ _ ⟨Upd.refl _ _,b,rfl,TrieAt.upd0 e (TrieAt.less Pro.hm t)⟩)
 ·rintro j s ⟨d,b,rfl,j⟩
  have c1:=d.get0 (k.get0 b1);refine⟨_,vc c1 0,_,vc c1 1,_,vc c1 2,?_⟩;refine cU (c:=jA sQ) (vs:=jA (0,x.k0,x.k1,x.mask,some ⟨b,0,none⟩,none)) (d.get0 b2) rfl fun q f g=>?_
  refine⟨_,vc f 0,_,vc f 1,_,vc f 2,_,vc f 3,_,vc f 4,_,vc f 5,?_⟩;have i:h.size≤n.size:=k1.size;exact u q _ (.inl ⟨rfl,b,rfl,TrieAt.less Pro.sub (TrieAt.updM g (fun y p=>.inl (.inr (by have p:y=n.size:=p;omega))) j)⟩) ((e.tr d).own g i)
theorem GP{W:Nat→Prop}{x:Hs}{h:ac}{r:Option Addr}{l:List Pr}(t:RadRoot W h r l)(n:∀y,W y→y<h.size){K:Tr→ac→Prop}(q:∀h' t,TreeIs W h' 1 x t l→Upd No h h'→K t h'):HC PG rR [.pointer r] [.agg [.int .i64,.int .u64,.int .u64,.int .u64,.ptr,.ptr]] K h:=by
 refine D5 r ?_;unfold wY ag ad cT af rE C4;refine bc fun k b2 e=>?_
 have s:=aL b2;refine Join.intro (fun t h'=>Upd No k h'∧∃b,t=some ⟨b,0,none⟩∧RadAt (Pro W h k) h' b l) (fun R j=>?_) ?_
 ·rcases t with⟨rfl,rfl⟩|⟨b,rfl,t⟩
  ·exact aK.2 (Dh (Pro.lt n e) fun p b t d=>j _ _ ⟨d,b,rfl,t⟩)
  ·exact aq.2 (j _ _ ⟨Upd.refl _ _,b,rfl,(t.less Pro.hm).upd0 e⟩)
 ·rintro i p ⟨d,b,rfl,i⟩
  refine cU (c:=jA sQ) (vs:=jA (1,0,0,0,none,some ⟨b,0,none⟩)) (d.get0 b2) rfl fun o f g=>?_
  refine⟨_,vc f 0,_,vc f 1,_,vc f 2,_,vc f 3,_,vc f 4,_,vc f 5,?_⟩;exact q o _ (.inr ⟨rfl,b,rfl,(i.updM g (fun y m=>.inl (.inr (by have m:y=h.size:=m;omega)))).less Pro.sub⟩) ((e.tr d).own g (av _))
theorem Om{W:Nat→Prop}{x:Hs}{h:ac}(q:∀y,W y→y<h.size){kind:Int}(j:kind=0∨kind=1){K:Tr×Int→ac→Prop}(p:∀h' t,TreeIs W h' kind x t []→Upd No h h'→K (t,0) h'):HC PG yD [.int .i64 kind,.agg #[.int .u64 x.k0,.int .u64 x.k1,.int .u64 x.mask]] [.agg [.int .i64,.int .u64,.int .u64,.int .u64,.ptr,.ptr],.c (.int .i64)] K h:=by
 refine JE kind (x.k0,x.k1,x.mask) ?_;unfold Ea ag ad cT Hc El af rE rl;refine bc fun m b1 k1=>bc fun s b2 o=>?_
 have v:=aL b1;have w:=aL b2;have f:=k1.tr o;have g:h.size≤m.size:=k1.size;have c1:=o.get0 b1;rcases j with rfl|rfl
 ·refine aK.2 ⟨_,vc c1 0,_,vc c1 1,_,vc c1 2,?_⟩
  refine GQ (W:=Pro W h s) (x:=x) (l:= []) (.inl ⟨rfl,rfl⟩) (Pro.lt q f) fun u t n e=>?_
  refine cU (c:=jA sQ) (vs:=jA t) (e.get0 b2) rfl fun k b d=>?_
  refine⟨_,vc b 0,_,vc b 1,_,vc b 2,_,vc b 3,_,vc b 4,_,vc b 5,?_⟩;exact p k t ((n.updM d (fun y i=>.inl (.inr (by have i:y=m.size:=i;omega)))).less Pro.sub) ((f.tr e).own d g)
 ·refine aq.2 (aK.2 ?_)
  refine GP (W:=Pro W h s) (x:=x) (l:= []) (.inl ⟨rfl,rfl⟩) (Pro.lt q f) fun u t n e=>?_
  refine cU (c:=jA sQ) (vs:=jA t) (e.get0 b2) rfl fun k b d=>?_
  refine⟨_,vc b 0,_,vc b 1,_,vc b 2,_,vc b 3,_,vc b 4,_,vc b 5,?_⟩;exact p k t ((n.updM d (fun y i=>.inl (.inr (by have i:y=m.size:=i;omega)))).less Pro.sub) ((f.tr e).own d g)
theorem K8{k v:ByteArray}(d:k.size≤256)(c:v.size≤4096){h:ac}{K:Int→ac→Prop}(b:K 0 h):HC PG ve [.string k,.string v] [.c (.int .i64)] K h:=by
 refine Gx k v ?_;unfold Ay;refine ax (fun h=>absurd h (by omega)) fun _=>ax (fun h=>absurd h (by omega)) fun _=>b
theorem Mg{W:Nat→Prop}{x:Hs}{h:ac}{kind:Int}{t:Tr}{l:List Pr}(i:TreeIs W h kind x t l)(L:∀y,W y→y<h.size)(H:fk l)(O:l.length≤1000000)(p:Pr)(E:p.1.size≤256)(C:p.2.size≤4096){K:Tr×Int→ac→Prop}
  (I:∀h' t',TreeIs W h' kind x t' (jb p l)→(p∈l→t'=t)→Upd No h h'→K (t',0) h'):HC PG pi [GO t,.pointer none,.agg #[.string p.1,.string p.2]] [.agg [.int .i64,.int .u64,.int .u64,.int .u64,.ptr,.ptr],.c (.int .i64)] K h:=by
 refine Bv t none p ?_;unfold uE ag ad cT El aw di af bV rE rl C4 nU rm mU;refine bc fun J b1 k1=>bc fun A b2 B=>bc fun V b3 w=>?_
 have T:=aL b1;have U:=aL b2;have S:=aL b3;have R:h.size≤J.size:=k1.size;have X:J.size≤A.size:=B.size;have Y:=w.size;have q:=(k1.tr B).tr w;have o:=w.get0 (B.get0 b1);have u:=w.get0 b2;have P:=i.pro q;have v:=Pro.lt L q;refine⟨_,vc u 0,_,vc u 1,K8 E C (aq.2 ?_)⟩;rcases P with⟨rfl,b,rfl,D⟩|⟨rfl,b,rfl,D⟩
 ·refine⟨_,vc o 0,aq.2 ⟨_,sO o 1 0,_,sO o 1 1,_,sO o 1 2,_,vc o 4,p.1,vc u 0,p.2,vc u 1,?_⟩⟩
  refine HL (.inr ⟨b,rfl,D⟩) v H O p fun N s f z d=>?_
  refine KH (i:=4) (c':=(jA (0,x.k0,x.k1,x.mask,some ⟨s,0,none⟩,none)).toArray) (f.get0 o) (show 4<6 by decide) rfl fun Q k g=>?_
  refine⟨_,vc k 0,_,vc k 1,_,vc k 2,_,vc k 3,_,vc k 4,_,vc k 5,?_⟩;refine cU (c:=jA sQ) (vs:=jA (0,x.k0,x.k1,x.mask,some ⟨s,0,none⟩,none)) (g.oth (f.get0 b3) (by omega)) rfl fun G j n=>?_
  refine⟨_,vc j 0,_,vc j 1,_,vc j 2,_,vc j 3,_,vc j 4,_,vc j 5,?_⟩;refine I G _ (.inl ⟨rfl,s,rfl,TrieAt.less Pro.sub (TrieAt.updM n (fun y m=>.inl (.inr (by have m:y=A.size:=m;omega))) (TrieAt.updM g (fun y m=>.inl (.inr (by have m:y=h.size:=m;omega))) z))⟩) (fun hm=>?_) (((q.tr f).own g (av _)).own n (by omega))
  rcases d hm with e|e
  ·rw[e]
  ·cases e
 ·refine⟨_,vc o 0,aK.2 ⟨_,vc o 5,p.1,vc u 0,p.2,vc u 1,?_⟩⟩
  refine G5 (.inr ⟨b,rfl,D⟩) v H p (by omega) fun N s F f z d=>?_
  refine KH (i:=5) (c':=(jA (1,0,0,0,none,some ⟨s,0,none⟩)).toArray) (f.get0 o) (show 5<6 by decide) rfl fun Q k g=>?_
  refine⟨_,vc k 0,_,vc k 1,_,vc k 2,_,vc k 3,_,vc k 4,_,vc k 5,?_⟩;refine cU (c:=jA sQ) (vs:=jA (1,0,0,0,none,some ⟨s,0,none⟩)) (g.oth (f.get0 b3) (by omega)) rfl fun G j n=>?_
  refine⟨_,vc j 0,_,vc j 1,_,vc j 2,_,vc j 3,_,vc j 4,_,vc j 5,?_⟩;refine I G _ (.inr ⟨rfl,s,rfl,((z.updM g (fun y m=>.inl (.inr (by have m:y=h.size:=m;omega)))).updM n (fun y m=>.inl (.inr (by have m:y=A.size:=m;omega)))).less Pro.sub⟩) (fun hm=>?_) (((q.tr f).own g (av _)).own n (by omega))
  rcases d hm with e|e
  ·rw[e]
  ·cases e
end Go.Proofs
namespace Go.Proofs
open Go Go.Lift
def Ho(t u:Tr):Bool:=(t.1==u.1)&&((((t.2.1==u.2.1)&&((t.2.2.1==u.2.2.1)&&true)))&&((t.2.2.2.1==u.2.2.2.1)&&true))
theorem Mh{t u:Tr}{h:ac}{K:Bool→ac→Prop}(d:∀h',Upd No h h'→K (Ho t u) h'):HC PG wy [GO t,GO u] [.c .bool] K h:=by
 refine HR t u ?_;unfold Ce ag di rl;refine bc fun e b1 k1=>bc fun c b2 b=>?_
 have c1:=b.get0 b1;refine⟨_,vc c1 0,_,vc b2 0,?_⟩;have:=d c (k1.tr b);unfold Ho at this;rcases hb:(t.1==u.1)with _|_
 ·rw[hb]at this
  exact aq.2 this
 ·rw[hb]at this
  exact aK.2 ⟨_,sO c1 1 0,_,sO c1 1 1,_,sO c1 1 2,_,sO b2 1 0,_,sO b2 1 1,_,sO b2 1 2,this⟩
theorem TreeIs.plain{W:Nat→Prop}{h:ac}{kind:Int}{x:Hs}{t:Tr}{l:List Pr}(i:TreeIs W h kind x t l):(∀a,t.2.2.2.2.1=some a→fK h a)∧(∀a,t.2.2.2.2.2=some a→fK h a):=by
 rcases i with⟨rfl,b,rfl,t⟩|⟨rfl,b,rfl,t⟩
 ·obtain⟨s,nd,_⟩:=t
  obtain⟨d,n,sp,sk,ow,e,_⟩:=nd.ex;refine⟨fun a c=>?_,fun a c=>(by cases c)⟩
  cases c;exact⟨_,_,e,show 0<6 by decide⟩
 ·obtain⟨w,F,⟨val,s,ow,ks,e,_⟩,_⟩:=t.ex
  refine⟨fun a c=>(by cases c),fun a c=>?_⟩
  cases c;exact⟨_,_,e,show 0<5 by decide⟩
end Go.Proofs
namespace Go.Proofs
open Go Go.Lift
abbrev kStr:KeyE ByteArray:=⟨fun s=>.string s,.str,fun x=>⟨x,rfl⟩,fun x y=>⟨fun e=>vu e,fun e=>by subst e;exact wJ x⟩⟩
abbrev TD:=Tr×List Pr
abbrev Rr(d:TD):Value:=GO d.1
abbrev N8(n:Int):Value:=.int .u32 n
structure VS where
 gp:Nat
 gm:Nat
 tm:Nat
 bm:Nat
 nm:Nat
 kind:Int
 x:Hs
 e:Tr
 L:fH
 nx:Int
 D:List (Int×TD)
 B:List (ByteArray×Int)
 G:List (ByteArray×Int)
def VS.M(s:VS):Nat→Prop:=fun y=>y=s.gp∨y=s.gm∨y=s.tm∨y=s.bm∨y=s.nm
structure VaultAt(W:Nat→Prop)(h:ac)(vp:Nat)(s:VS):Prop where
 blk:h[vp]? =some (.cells (jA s.e++ [Value.pointer (some ⟨s.gp,0,none⟩),Value.map (some s.tm),Value.map (some s.bm),Value.map (some s.nm)]).toArray bB (0,0))
 g:GraphAt W h s.gp s.gm s.L s.nx
 t:MapAt KE Rr h s.tm s.D
 b:MapAt kStr N8 h s.bm s.B
 n:MapAt kStr N8 h s.nm s.G
 w:∀y,s.M y→W y
 wv:¬W vp
 ne: [s.gp,s.gm,s.tm,s.bm,s.nm].Nodup
 em:TreeIs W h s.kind s.x s.e []
 ts:∀d∈s.D,TreeIs W h s.kind s.x d.2.1 d.2.2∧fk d.2.2∧Fit d.2.2
 sub:∀id,id∈s.D.map (·.1)↔id∈ids s.L
 inv:Inv s.L s.nx
 kd:s.kind=0∨s.kind=1
theorem VaultAt.upd{W M:Nat→Prop}{h h':ac}{f:Nat}{s:VS}(v:VaultAt W h f s)(k:Upd M h h')(hm:∀b,M b→(W b∧¬s.M b)∨h.size≤b):VaultAt W h' f s:=by
 have i:∀y,s.M y→¬M y:=fun y m c=>(hm y c).elim (fun e=>e.2 m) fun e=>absurd (v.g.lt y (v.w y m)) (by omega)
 have j:∀b,M b→W b∨h.size≤b:=fun b c=>(hm b c).imp (·.1) id
 have n:¬M f:=fun c=>(hm f c).elim (fun e=>v.wv e.1) fun e=>absurd (aL v.blk) (by omega)
 exact⟨k.get v.blk n,v.g.upd k fun b c=>(hm b c).imp (fun e=>⟨e.1,fun g=>e.2 (.inl g),fun g=>e.2 (.inr (.inl g))⟩) id,v.t.upd k (i _ (.inr (.inr (.inl rfl)))),v.b.upd k (i _ (.inr (.inr (.inr (.inl rfl))))),v.n.upd k (i _ (.inr (.inr (.inr (.inr rfl))))),v.w,v.wv,v.ne,v.em.updM k j,fun d hd=>⟨(v.ts d hd).1.updM k j,(v.ts d hd).2⟩,v.sub,v.inv,v.kd⟩
theorem VaultAt.upd0{W:Nat→Prop}{h h':ac}{b:Nat}{s:VS}(v:VaultAt W h b s)(k:Upd No h h'):VaultAt W h' b s:=v.upd k fun _ h=>h.elim
end Go.Proofs
namespace Go.Proofs
open Go Go.Lift
theorem F1{h:ac}{r:Nat}{es:Array MapEntry}{b:Nat}(t:TypeId)(f:h[r]? =some (.map es b)) {K:Value→ac→Prop} (g:K (.iface t (.map (some h.size))) (h.push (.map es b))):
  HC PG vf [.iface t (.map (some r))] [.c .raw] K h:=by
 refine⟨fun w c=>.inr ?_⟩
 subst c;have d:(getObj r).run PG w=.ok (.map es b) w:=by simp[getObj,Sem.run,f]
 refine⟨.iface t (.map (some w.heap.size)),w.alloc (.map es b),?_,⟨rfl,rfl,rfl⟩,_,rfl,g⟩;rw[Gt];have e:Extern.MapsClone.clone #[.iface t (.map (some r))]=(getObj r>>=fun o=>match o with
   | .map entries b=>(newObj (.map entries b)>>=fun n=>pure (.iface t (.map (some n))))
   |_=>stuck "maps.clone: a map expected"):=rfl
 rw[show([Value.iface t (.map (some r))]:List Value).toArray= #[.iface t (.map (some r))]from rfl,e]
 simp only[Sem.run_bind,d,Result.andThen_ok];rfl
theorem M7{W:Nat→Prop}{h:ac}{gp gm:Nat}{L:fH}{nx:Int}(g:GraphAt W h gp gm L nx)
  {K:Option Addr→ac→Prop}(x:∀h',Upd No h h'→GraphAt (fun b=>W b∨b=h.size+1∨b=h.size) h' gp gm L nx→GraphAt (fun b=>W b∨b=h.size+1∨b=h.size) h' (h.size+1) h.size L nx→K (some ⟨h.size+1,0,none⟩) h'):
  HC PG na [.pointer (some ⟨gp,0,none⟩)] [.c .ptr] K h:=by
 refine y4 (some ⟨gp,0,none⟩) ?_;unfold sG aD dj;refine CondP.intro (fun e=>by cases e) fun _=>⟨_,rfl,_,g.c0,_,rfl,_,g.c1,?_⟩
 refine nr (some gm) ?_;unfold hE;refine CondP.intro (fun e=>by cases e) fun _=>?_
 obtain⟨m,⟨ms,c,hm,z⟩,w⟩:=g.map;refine F1 _ hm.here ⟨_,rfl,?_⟩;have k1:=Upd.push No h (.map (ms.map (AZ KE sv)).toArray c);have d:MapAt KE sv (h.push (.map (ms.map (AZ KE sv)).toArray c)) h.size m:=⟨ms,c,⟨jN h _,hm.keys,hm.nums,hm.old⟩,z⟩;refine⟨(g.upd0 k1).c1,?_⟩;have f:(h.push (.map (ms.map (AZ KE sv)).toArray c)).size=h.size+1:=by simp
 generalize (h.push (.map (ms.map (AZ KE sv)).toArray c))=h1 at k1 d f;have i:=Upd.hnew No h1 [.map (some h.size),.int .u32 nx] ff;have b2:=be h1 [.map (some h.size),.int .u32 nx] ff;have y:=gg h1 [.map (some h.size),.int .u32 nx] ff;simp only[At,bN];rw[f]at b2⊢;generalize hnew h1 [.map (some h.size),.int .u32 nx] ff=h2 at i b2 y
 have k:=k1.tr i;have o:∀b,(b=h.size+1∨b=h.size)→h.size≤b∧b<h2.size:=fun b n=>by omega
 have p:=g.more (Q:=fun b=>b=h.size+1∨b=h.size) k o
 refine⟨((g.upd0 k1).upd0 i).c1,x h2 k p ⟨b2,⟨m,d.upd i id,?_⟩,.inr (.inl rfl),.inr (.inr rfl),p.lt,g.nd⟩⟩;intro j;rcases w j with⟨s,ps,u,t,v⟩|q
 ·exact .inl ⟨s,ps,u,t,(v.less fun b n=>n.imp id fun n=>(o b n).1).upd k fun _ h=>h.elim⟩
 ·exact .inr q
end Go.Proofs
namespace Go.Proofs
open Go Go.Lift
section
variable {W:Nat→Prop} {h:ac} {vp:Nat} {s:VS}
abbrev pV(b:Nat):Value:=.pointer (some ⟨b,0,none⟩)
theorem Of(v:VaultAt W h vp s)(id:Int){K:Bool→ac→Prop}(b:K (decide (id=0∨id∈ids s.L)) h):HC PG od [pV vp,.int .u32 id] [.c .bool] K h:=by
 refine Ac (some ⟨vp,0,none⟩) id ?_;unfold tA bJ GH;refine CondP.intro (fun e=>?_) fun e=>⟨_,rfl,_,vc v.blk 6,Km v.g id ?_⟩
 ·rw[decide_eq_true (.inl (by simpa using e))]at b;exact b
 ·have e:id≠0:=by simpa using e
  rw[show decide (id=0∨id∈ids s.L)=decide (id∈ids s.L)from by simp[e]]at b;exact b
theorem GL(v:VaultAt W h vp s)(n:ByteArray){K:Int×Bool→ac→Prop}(b:K ((cz s.B n).getD 0,(cz s.B n).isSome) h):HC PG jD [pV vp,.string n] [.c (.int .u32),.c .bool] K h:=by
 refine yP (some ⟨vp,0,none⟩) n ?_;unfold sq aD;exact CondP.intro (fun e=>by cases e) fun _=>⟨_,rfl,_,vc v.blk 8,_,_,v.b.get n 0,b⟩
theorem KL(v:VaultAt W h vp s){K:Tr→ac→Prop}(f:∀h',Upd No h h'→K s.e h'):HC PG ft [pV vp] [.agg [.int .i64,.int .u64,.int .u64,.int .u64,.ptr,.ptr]] K h:=by
 refine xA (some ⟨vp,0,none⟩) ?_;unfold qU ag ad cT dS di bJ af rE C4;refine bc fun g b1 k1=>CondP.intro (fun e=>by cases e) fun _=>⟨_,rfl,?_⟩
 have c:=k1.get0 v.blk;refine⟨_,sO c 0 0,_,sO c 0 1,_,sO c 0 2,_,sO c 0 3,_,sO c 0 4,_,sO c 0 5,?_⟩;refine cU (c:=jA sQ) (vs:=jA s.e) b1 rfl fun d b2 b=>?_
 exact⟨_,vc b2 0,_,vc b2 1,_,vc b2 2,_,vc b2 3,_,vc b2 4,_,vc b2 5,f d (k1.own b (av _))⟩
theorem L6(v:VaultAt W h vp s)(id:Int){K:Tr×Int→ac→Prop}(n:id=0→∀h',Upd No h h'→K (s.e,0) h')(k:∀d,cz s.D id=some d→id≠0→∀h',Upd No h h'→K (d.1,0) h')(m:cz s.D id=none→id≠0→∀h',Upd No h h'→K (sQ,4) h'):
  HC PG fT [pV vp,.int .u32 id] [.agg [.int .i64,.int .u64,.int .u64,.int .u64,.ptr,.ptr],.c (.int .i64)] K h:=by
 refine yN (some ⟨vp,0,none⟩) id ?_;unfold sh aD ag ad cT nv dS di bJ af rE rl C4 Ke zg5;refine bc fun y b1 k1=>CondP.intro (fun e=>by cases e) fun _=>?_
 have c:=k1.get0 v.blk;refine CondP.intro (fun e=>⟨_,rfl,?_⟩) fun e=>⟨_,rfl,_,vc c 7,((cz s.D id).getD (sQ,[])).1,_,(v.t.upd k1 fun h=>h).get id (sQ,[]),bc fun t b2 p=>?_⟩
 ·refine⟨_,sO c 0 0,_,sO c 0 1,_,sO c 0 2,_,sO c 0 3,_,sO c 0 4,_,sO c 0 5,?_⟩
  refine cU (c:=jA sQ) (vs:=jA s.e) b1 rfl fun t b2 o=>?_
  exact⟨_,vc b2 0,_,vc b2 1,_,vc b2 2,_,vc b2 3,_,vc b2 4,_,vc b2 5,n (by simpa using e) t (k1.own o (av _))⟩
 ·have e:id≠0:=by simpa using e
  have x:=aL b1;have w:=k1.size;refine cU (c:=jA sQ) (vs:=jA ((cz s.D id).getD (sQ,[])).1) b2 rfl fun u b3 i=>?_
  have g:=i.oth (p.get0 b1) (by omega);have q:Upd No h u:=(k1.tr p).own i k1.size;cases hl:cz s.D id with
  |none=>
   refine aK.2 (cU (c:=jA sQ) (vs:=jA sQ) g rfl fun j b f=>?_)
   exact⟨_,vc b 0,_,vc b 1,_,vc b 2,_,vc b 3,_,vc b 4,_,vc b 5,m hl e j (q.own f (av _))⟩
  |some d=>
   rw[hl]at b3;refine aq.2 ⟨_,vc b3 0,_,vc b3 1,_,vc b3 2,_,vc b3 3,_,vc b3 4,_,vc b3 5,?_⟩;refine cU (c:=jA sQ) (vs:=jA d.1) g rfl fun j b f=>?_
   exact⟨_,vc b 0,_,vc b 1,_,vc b 2,_,vc b 3,_,vc b 4,_,vc b 5,k d hl e j (q.own f (av _))⟩
theorem KK(v:VaultAt W h vp s){K:Option Addr→ac→Prop}(d:∀h',Upd No h h'→GraphAt (fun b=>W b∨b=h.size+1∨b=h.size) h' (h.size+1) h.size s.L s.nx→K (some ⟨h.size+1,0,none⟩) h'):HC PG gB [pV vp] [.c .ptr] K h:=by
 refine xz (some ⟨vp,0,none⟩) ?_;unfold qT bJ;exact CondP.intro (fun e=>by cases e) fun _=>⟨_,rfl,_,vc v.blk 6,M7 v.g fun h' c _ g=>d h' c g⟩
theorem VaultAt.turn{M:Nat→Prop}{h':ac}{L:fH}{nx:Int}{D:List (Int×TD)}{B G:List (ByteArray×Int)}(v:VaultAt W h vp s)(k:Upd M h h')(hm:∀b,M b→W b∨h.size≤b)(g:GraphAt W h' s.gp s.gm L nx)(t:MapAt KE Rr h' s.tm D)(b:MapAt kStr N8 h' s.bm B)(n:MapAt kStr N8 h' s.nm G)
  (ts:∀d∈D,d∈s.D∨TreeIs W h' s.kind s.x d.2.1 d.2.2∧fk d.2.2∧Fit d.2.2)(sub:∀id,id∈D.map (·.1)↔id∈ids L)(inv:Inv L nx):VaultAt W h' vp {s with L:=L,nx:=nx,D:=D,B:=B,G:=G}:=by
 have f:¬M vp:=fun c=>(hm vp c).elim (fun e=>v.wv e) fun e=>absurd (aL v.blk) (by omega)
 exact⟨k.get v.blk f,g,t,b,n,v.w,v.wv,v.ne,v.em.updM k hm,fun d hd=>(ts d hd).elim (fun e=>⟨(v.ts d e).1.updM k hm,(v.ts d e).2⟩) id,sub,inv,v.kd⟩
end
end Go.Proofs
namespace Go.Proofs
open Go Go.Lift
def Ca(b:UInt8):Bool:=decide (33≤b.toNat)&&decide (b.toNat≤126)
def vT(n:ByteArray):Bool:=decide (1≤n.size)&&decide (n.size≤32)&&n.data.toList.all Ca
theorem NL{b:UInt8}{h:ac}{K:Bool→ac→Prop}(c:K (!Ca b) h):HC PG qq [.int .u8 b.toNat] [.c .bool] K h:=by
 refine CC b.toNat ?_;unfold vA;refine ax (fun e=>?_) fun e=>?_
 ·rw[show(!Ca b)=true from by simp[Ca];omega]at c;exact c
 ·rw[show(!Ca b)=decide ((b.toNat:Int)>126)from by unfold Ca;rw[decide_eq_true (by omega:33≤b.toNat),Bool.true_and,←decide_not,decide_eq_decide];omega]at c;exact c
theorem KJ{n:ByteArray}{h:ac}{K:Bool→ac→Prop}(g:∀h',Upd No h h'→K (vT n) h'):HC PG tW [.string n] [.c .bool] K h:=by
 refine EA n ?_;unfold ya;refine Join.plain (ax (fun e=>aK.2 ?_) fun e=>ax (fun o=>?_) fun o=>?_)
 ·rw[show vT n=false from by simp[vT];omega]at g;exact g _ (Upd.refl _ _)
 ·rw[show vT n=false from by simp[vT];omega]at g;exact g _ (Upd.refl _ _)
 ·refine fun c hc=>?_
  have k1:=Upd.push No h (.cells (de n++eE (c-n.size) (Value.int .u8 0)).toArray Em (c,c+1));have b1:=jN h (.cells (de n++eE (c-n.size) (Value.int .u8 0)).toArray Em (c,c+1));generalize h.push (.cells (de n++eE (c-n.size) (Value.int .u8 0)).toArray Em (c,c+1))=h1 at k1 b1;have f:n.data.toList.length=n.size:=Array.length_toList;refine nP ⟨some (aV h),n.size,c⟩ _ ?_
  unfold ir;refine pp ⟨some (aV h),n.size,c⟩ _ ?_;unfold jk aD bT;refine LoopP.ghost (fun(i:Nat) (t:Int) h'=>t=(i:Int)∧h'=h1∧i≤n.size∧∀b∈n.data.toList.take i,Ca b=true) (fun i=>n.size-i) 0 ⟨rfl,rfl,cu _,by simp⟩ ?_
  rintro I i t h' ⟨rfl,rfl,q,m⟩ p;refine ax (fun d=>?_) fun k=>?_
  ·have d:i<n.data.toList.length:=by rw[f];simp only at d;omega
   refine⟨by simp only;omega,aV h,rfl,(n.data.toList[i].toNat:Int),?_,?_⟩
   ·rw[Jl b1,ey,aU,Nat.mul_one,List.getElem?_append_left (by simp[de];omega)]
    simp[de,f▸d]
   ·refine HV.mk' (NL (b:=n.data.toList[i]) (CondP.intro (fun e=>?_) fun e=>?_))
    ·rw[show vT n=false from ?_]at g
     ·rw[decide_eq_true (by omega)];exact g _ k1
     ·unfold vT
      rw[show n.data.toList.all Ca=false from List.all_eq_false.2 ⟨_,cj d,by simpa using e⟩,Bool.and_false]
    ·rw[gN (n:=n.size) (by omega) (by omega)]
     refine p (i+1) _ _ ⟨rfl,rfl,by omega,?_⟩ (by omega)
     rw[List.take_succ_eq_append_getElem d];intro b j;rcases bo.1 j with j|j
     ·exact m b j
     ·rw[ak.1 j];simpa using e
  ·have:i=n.size:=by simp only at k;omega
   subst this;rw[←f,c8]at m;rw[show vT n=true from by unfold vT;rw[List.all_eq_true.2 m];simp;omega]at g
   exact g _ k1
def xy(B:List (ByteArray×Int))(L:fH)(n:ByteArray)(id:Int)(no:Bool):Int:=if vT n=false then 1 else if(cz B n).isSome then 7 else if no|| !decide (id=0∨id∈ids L)then 4 else if B.length≥256 then 6 else 0
theorem Pd{W:Nat→Prop}{h:ac}{g:Nat}{s:VS}(v:VaultAt W h g s){r:Nat}{B:List (ByteArray×Int)}(m:MapAt kStr N8 h r B)(n:ByteArray)(id:Int)(no:Bool){K:Int→ac→Prop}
  (k:∀h',Upd (· =r) h h'→MapAt kStr N8 h' r (if xy B s.L n id no=0 then my B n id else B)→K (xy B s.L n id no) h'):HC PG oc [.map (some r),pV g,.string n,.int .u32 id,.bool no] [.c (.int .i64)] K h:=by
 refine Ab (some r) (some ⟨g,0,none⟩) n id no ?_;unfold tx GH;refine⟨_,_,m.get n 0,KJ fun p k1=>?_⟩
 have b:∀e h',xy B s.L n id no=e→e≠0→Upd No h h'→K e h':=fun e h' w u j=>by
  have:=k h' j.wide;rw[w,if_neg u]at this;exact this (m.upd j fun h=>h)
 refine CondP.intro (fun e=>b 1 p ?_ (by decide) k1) fun e=>CondP.intro (fun d=>b 7 p ?_ (by decide) k1) fun d=>?_
 ·unfold xy;rw[if_pos (by simpa using e)]
 ·unfold xy;rw[if_neg (by simpa using e),if_pos d]
 ·have e:¬vT n=false:=by simpa using e
  have d:¬(cz B n).isSome=true:=by simp[d]
  refine Join.intro (fun t h'=>t=(no|| !decide (id=0∨id∈ids s.L))∧Upd No h h') (fun R q=>?_) ?_
  ·refine CondP.intro (fun c=>q _ _ ⟨by rw[c];rfl,k1⟩) fun c=>Of (v.upd0 k1) id (q _ _ ⟨by rw[c];rfl,k1⟩)
  ·rintro t i ⟨rfl,f⟩
   refine CondP.intro (fun c=>b 4 i ?_ (by decide) f) fun c=>⟨_,(m.upd f fun h=>h).len,ax (fun y=>b 6 i ?_ (by decide) f) fun y=>?_⟩
   ·unfold xy;rw[if_neg e,if_neg d,if_pos c]
   ·unfold xy;rw[if_neg e,if_neg d,if_neg (by rw[c];decide),if_pos (by omega)]
   ·have o:=m.upd f fun h=>h
    have x:xy B s.L n id no=0:=by unfold xy;rw[if_neg e,if_neg d,if_neg (by rw[c];decide),if_neg (by omega)]
    refine⟨r,rfl,o.isMap,?_⟩;have:=k _ ((f.wide).tr (ur (M:=(· =r)) i (.string n) (.int .u32 id) rfl))
    rw[x,if_pos rfl]at this;exact this (o.put n id)
theorem VS.neB{s:VS}(h: [s.gp,s.gm,s.tm,s.bm,s.nm].Nodup):s.gp≠s.gm∧s.gp≠s.tm∧s.gp≠s.bm∧s.gp≠s.nm∧s.gm≠s.tm∧s.gm≠s.bm∧s.gm≠s.nm∧s.tm≠s.bm∧s.tm≠s.nm∧s.bm≠s.nm:=by
 simp only[List.nodup_cons,ah,List.not_mem_nil,or_false,not_or]at h;exact⟨h.1.1,h.1.2.1,h.1.2.2.1,h.1.2.2.2,h.2.1.1,h.2.1.2.1,h.2.1.2.2,h.2.2.1.1,h.2.2.1.2,h.2.2.2.1⟩
theorem VaultAt.setB{W:Nat→Prop}{h h':ac}{i:Nat}{s:VS}{B:List (ByteArray×Int)}(v:VaultAt W h i s)(k:Upd (· =s.bm) h h')(b:MapAt kStr N8 h' s.bm B):VaultAt W h' i {s with B:=B}:=by
 obtain⟨w,p,n,u,o,j,t,m,q,c⟩:=VS.neB v.ne;have g:∀b,b=s.bm→W b:=fun b e=>v.w b (.inr (.inr (.inr (.inl e))))
 exact v.turn k (fun b e=>.inl (g b e)) (v.g.upd k fun b e=>.inl ⟨g b e,fun f=>n (f.symm.trans e),fun f=>j (f.symm.trans e)⟩) (v.t.upd k m) b (v.n.upd k fun e=>c e.symm) (fun d hd=>.inl hd) v.sub v.inv
theorem Ig{W:Nat→Prop}{h:ac}{b:Nat}{s:VS}(v:VaultAt W h b s)(n:ByteArray)(id:Int){K:Int→ac→Prop}
  (d:∀h',Upd (· =s.bm) h h'→VaultAt W h' b {s with B:=if xy s.B s.L n id false=0 then my s.B n id else s.B}→K (xy s.B s.L n id false) h'):HC PG kU [pV b,.string n,.int .u32 id] [.c (.int .i64)] K h:=by
 refine wO (some ⟨b,0,none⟩) n id ?_;unfold p9 aD;exact CondP.intro (fun e=>by cases e) fun _=>⟨_,rfl,_,vc v.blk 8,Pd v v.b n id false fun h' c m=>d h' c (v.setB c m)⟩
end Go.Proofs
