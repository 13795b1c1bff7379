/- A part of the proof that the named laws of this program answer true, whatever the input. -/
import Derived.Test.YtfmnhpbjeapjaaaGreatPart2
open Array renaming toList_inj→kq
open ByteArray renaming data_extract→mw,mk→r6
open Iff renaming rfl→rZ
open Int renaming toNat_natCast→aL
open List renaming zip_cons_cons→iW,mem_cons→au,mem_cons_self→ay,mem_cons_of_mem→aI,length_append→ad,mem_append→bq,mem_singleton→aw,length_take→aK,zip_eq_zipWith→kI,length_drop→aM,set_eq_take_append_cons_drop→cY,getElem_mem→cR,pairwise_cons→aQ,length_singleton→bf,length_cons→az,pairwise_iff_getElem→dd,extract_eq_take_drop→fq,getElem?_toArray→fz,length→fV,length_nil→bH,take_length→cQ,mem_map→cX,pairwise_append→bP,lt_irrefl→p9,replicate→eE
open List.Pairwise renaming nil→dC
open Nat renaming zero_le→cj,zero_add→aC,lt_or_ge→cd,le_of_eq→dG,le_refl→aq,lt_irrefl→ni,lt_of_lt_of_le→aG
open Option renaming some→bE,map_eq_some_iff→iV
open Prod renaming mk→nh
namespace Go.Proofs
open Go Go.Lift
def CH(lab:ByteArray)(has:Bool)(val:ByteArray)(s:SliceV)(ow:Option Addr):Array Value:= #[.string lab,.bool has,.string val,sv s,.pointer ow]
theorem vw{w:Option ByteArray}{val:ByteArray}(h:val=w.getD ⟨#[]⟩):∀v,w=some v→val=v:=fun v e=>by rw[h,e];rfl
def RxF(W:Nat→Prop)(h:ac):Fo→List (Option Addr)→Prop
 | .nil,ks=>ks= []
 | .cons lab w kids rest,ks=>∃b sl val s ow ks1 ks',ks=some ⟨b,0,none⟩::ks'∧sl.data.toList=lab∧h[b]? =some (.cells (CH sl w.isSome val s ow) bI (0,0))∧val=w.getD ⟨#[]⟩∧Sl xN 1 W h s ks1∧(s.len≤s.cap∧¬W b)∧RxF W h kids ks1∧RxF W h rest ks'
def RxN(W:Nat→Prop)(h:ac)(b:Nat)(sl:ByteArray)(w:Option ByteArray)(F:Fo):Prop:=∃val s ow ks,h[b]? =some (.cells (CH sl w.isSome val s ow) bI (0,0))∧val=w.getD ⟨#[]⟩∧Sl xN 1 W h s ks∧(s.len≤s.cap∧¬W b)∧RxF W h F ks
def Kid(W:Nat→Prop)(h:ac)(k:Option Addr)(n:Bn):Prop:=∃b sl,k=some ⟨b,0,none⟩∧sl.data.toList=n.1∧RxN W h b sl n.2.1 n.2.2
def RxL(W:Nat→Prop)(h:ac)(ks:List (Option Addr))(L:List Bn):Prop:=ks.length=L.length∧∀p∈ks.zip L,Kid W h p.1 p.2
theorem oU{W:Nat→Prop}{h:ac}:∀{F:Fo} {ks:List (Option Addr)},RxF W h F ks↔RxL W h ks F.toL
 | .nil,ks=>by
  unfold RxF RxL;simp[Fo.toL]
 | .cons lab w kids rest,ks=>by
  unfold RxF RxL;rw[Fo.toL_cons];constructor
  ·rintro⟨b,sl,val,s,ow,c,d,rfl,o,i,f,j,m,n,v⟩
   obtain⟨u,t⟩:=oU.1 v;refine⟨by simp[u],fun p a=>?_⟩
   rw[iW]at a;rcases au.1 a with rfl|a
   ·exact⟨b,sl,rfl,o,val,s,ow,c,i,f,j,m,n⟩
   ·exact t p a
  ·cases ks with
   |nil=>rintro⟨e,_⟩;simp at e
   |cons k d=>
    rintro⟨e,a⟩;rw[iW]at a;obtain⟨b,sl,q,o,val,s,ow,c,i,f,j,m,n⟩:=a _ (ay ..);refine⟨b,sl,val,s,ow,c,d,by rw[←q],o,i,f,j,m,n,oU.2 ⟨by simpa using e,fun p g=>a p (aI _ g)⟩⟩
theorem RxF.upd0{W:Nat→Prop}{h h':ac}(k:Upd No h h'):∀{F:Fo} {ks:List (Option Addr)},RxF W h F ks→RxF W h' F ks
 | .nil,_,r=>r
 | .cons _ _ _ _,_,⟨b,sl,val,s,ow,ks1,ks',e0,e1,e2,e3,e4,e5,e6,e7⟩=>⟨b,sl,val,s,ow,ks1,ks',e0,e1,k.get0 e2,e3,e4.upd k fun _ h=>h.elim,e5,RxF.upd0 k e6,RxF.upd0 k e7⟩
theorem RxN.upd0{W:Nat→Prop}{h h':ac}(k:Upd No h h'){b:Nat}{sl:ByteArray}{w:Option ByteArray}{F:Fo}:RxN W h b sl w F→RxN W h' b sl w F
 |⟨val,s,ow,ks,e2,e3,e4,e5,e6⟩=>⟨val,s,ow,ks,k.get0 e2,e3,e4.upd k fun _ h=>h.elim,e5,RxF.upd0 k e6⟩
theorem Kid.upd0{W:Nat→Prop}{h h':ac}(k:Upd No h h'){a:Option Addr}{n:Bn}:Kid W h a n→Kid W h' a n
 |⟨b,sl,e1,e2,e3⟩=>⟨b,sl,e1,e2,e3.upd0 k⟩
theorem RxF.less{W W':Nat→Prop}{h:ac}(hm:∀b,W' b→W b∨h.size≤b):∀{F:Fo} {ks:List (Option Addr)},RxF W h F ks→RxF W' h F ks
 | .nil,_,r=>r
 | .cons _ _ _ _,_,⟨b,sl,val,s,ow,ks1,ks',e0,e1,e2,e3,e4,e5,e6,e7⟩=>⟨b,sl,val,s,ow,ks1,ks',e0,e1,e2,e3,e4.less hm,⟨e5.1,fun hx=>(hm _ hx).elim e5.2 fun h=>by have:=aW e2;omega⟩,RxF.less hm e6,RxF.less hm e7⟩
theorem RxN.less{W W':Nat→Prop}{h:ac}(hm:∀b,W' b→W b∨h.size≤b){b:Nat}{sl:ByteArray}{w:Option ByteArray}{F:Fo}:RxN W h b sl w F→RxN W' h b sl w F
 |⟨val,s,ow,ks,e2,e3,e4,e5,e6⟩=>⟨val,s,ow,ks,e2,e3,e4.less hm,⟨e5.1,fun hx=>(hm _ hx).elim e5.2 fun h=>by have:=aW e2;omega⟩,RxF.less hm e6⟩
theorem RxF.updM{W M:Nat→Prop}{h h':ac}(k:Upd M h h')(hm:∀b,M b→W b∨h.size≤b):∀{F:Fo} {ks:List (Option Addr)},RxF W h F ks→RxF W h' F ks
 | .nil,_,r=>r
 | .cons _ _ _ _,_,⟨b,sl,val,s,ow,ks1,ks',e0,e1,e2,e3,e4,e5,e6,e7⟩=>⟨b,sl,val,s,ow,ks1,ks',e0,e1,k.get e2 (fun hx=>(hm _ hx).elim e5.2 fun h=>by have:=aW e2;omega),e3,e4.upd k hm,e5,RxF.updM k hm e6,RxF.updM k hm e7⟩
theorem RxN.updM{W M:Nat→Prop}{h h':ac}(k:Upd M h h')(hm:∀b,M b→W b∨h.size≤b){b:Nat}{sl:ByteArray}{w:Option ByteArray}{F:Fo}:RxN W h b sl w F→RxN W h' b sl w F
 |⟨val,s,ow,ks,e2,e3,e4,e5,e6⟩=>⟨val,s,ow,ks,k.get e2 (fun hx=>(hm _ hx).elim e5.2 fun h=>by have:=aW e2;omega),e3,e4.upd k hm,e5,RxF.updM k hm e6⟩
theorem RxL.upd0{W:Nat→Prop}{h h':ac}(k:Upd No h h'){ks:List (Option Addr)}{L:List Bn}(r:RxL W h ks L):RxL W h' ks L:=⟨r.1,fun p a=>(r.2 p a).upd0 k⟩
theorem RxL.app{W:Nat→Prop}{h:ac}{ks b:List (Option Addr)}{L L':List Bn}(r:RxL W h ks L)(c:RxL W h b L'):RxL W h (ks++b) (L++L'):=by
 refine⟨by rw[ad,ad,r.1,c.1],fun p a=>?_⟩
 rw[List.zip_append r.1]at a;rcases bq.1 a with a|a
 ·exact r.2 p a
 ·exact c.2 p a
theorem RxL.one{W:Nat→Prop}{h:ac}{k:Option Addr}{n:Bn}(c:Kid W h k n):RxL W h [k] [n]:=⟨rfl,fun p a=>by rw[iW,List.zip_nil_left]at a;rw[aw.1 a];exact c⟩
theorem RxL.take{W:Nat→Prop}{h:ac}{ks:List (Option Addr)}{L:List Bn}(r:RxL W h ks L)(i:Nat):RxL W h (ks.take i) (L.take i):=by
 refine⟨by rw[aK,aK,r.1],fun p a=>r.2 p ?_⟩
 have:(ks.take i).zip (L.take i)=(ks.zip L).take i:=by rw[kI,kI,List.take_zipWith]
 rw[this]at a;exact List.mem_of_mem_take a
theorem RxL.drop{W:Nat→Prop}{h:ac}{ks:List (Option Addr)}{L:List Bn}(r:RxL W h ks L)(i:Nat):RxL W h (ks.drop i) (L.drop i):=by
 refine⟨by rw[aM,aM,r.1],fun p a=>r.2 p ?_⟩
 have:(ks.drop i).zip (L.drop i)=(ks.zip L).drop i:=by rw[kI,kI,List.drop_zipWith]
 rw[this]at a;exact List.mem_of_mem_drop a
theorem RxL.ins{W:Nat→Prop}{h:ac}{ks:List (Option Addr)}{L:List Bn}(r:RxL W h ks L)(i:Nat){k:Option Addr}{n:Bn}(c:Kid W h k n):RxL W h (ks.take i++k::ks.drop i) (L.take i++n::L.drop i):=by
 have:=(r.take i).app ((RxL.one c).app (r.drop i));exact this
theorem RxL.set{W:Nat→Prop}{h:ac}{ks:List (Option Addr)}{L:List Bn}(r:RxL W h ks L){i:Nat}(hi:i<L.length){k:Option Addr}{n:Bn}(c:Kid W h k n):RxL W h (ks.set i k) (L.set i n):=by
 have:=(r.take i).app ((RxL.one c).app (r.drop (i+1)));rw[cY,cY,if_pos (by rw[r.1];exact hi),if_pos hi];exact this
theorem RxL.at{W:Nat→Prop}{h:ac}{ks:List (Option Addr)}{L:List Bn}(r:RxL W h ks L){i:Nat}(hi:i<L.length):∃b sl,ks[i]? =some (some ⟨b,0,none⟩)∧sl.data.toList=L[i].1∧RxN W h b sl L[i].2.1 L[i].2.2:=by
 have d:i<ks.length:=by rw[r.1];exact hi
 have e:i<(ks.zip L).length:=by rw[List.length_zip];omega
 have:=r.2 _ (cR e);rw[List.getElem_zip]at this;obtain⟨b,sl,f,c,a⟩:=this;exact⟨b,sl,by rw[List.getElem?_eq_getElem d];exact congrArg some f,c,a⟩
theorem CJ:∀{L:List Bn} {c:Nat},L.Pairwise (fun m n=>hd m.1<hd n.1)→(∀n∈L,c≤hd n.1)→L= []∨c+L.length≤256
 | [],_,_,_=>.inl rfl
 |n::L,c,a,hc=>by
  have a:=aQ.1 a;have d:=hc n (ay ..);have b:=Nr n.1;rcases CJ (c:=hd n.1+1) a.2 fun m hm=>a.1 m hm with e|e
  ·rw[e];right;simp only[bf];omega
  ·right;rw[az];omega
theorem Aa{F:Fo}(h:jb F):F.toL.length≤256:=by
 rcases CJ (c:=0) (fS.1 h).1 fun _ _=>cj _ with e|e
 ·rw[e];simp
 ·omega
theorem gO{h:ac}{b i:Nat}{c:Array Value}(a:h[b]? =some (.cells c bI (0,0))):aF h (adr ⟨b,0,none⟩ i)=c[i]?:=by rw[bO,aC];exact aP a
theorem NM{h:ac}{b i:Nat}{c:Array Value}(a:h[b]? =some (.cells c bI (0,0))) (hi:i<c.size):Wr h (adr ⟨b,0,none⟩ i):=by rw[bO,aC];exact gR a hi
theorem GJ{h:ac}{b i:Nat}{c c':Array Value}{v:Value}{k:ac→Prop}(g:h[b]? =some (.cells c bI (0,0))) (e:c.setIfInBounds i v=c') (f:∀h',h'[b]? =some (.cells c' bI (0,0))→Upd (· =b) h h'→k h'):At (hset h (adr ⟨b,0,none⟩ i) v) k:=by
 rw[bO,aC];exact vD g fun h' a d=>f h' (e▸a) d
theorem Lk(s:ByteArray)(i:Nat):s[i]? =s.data.toList[i]?:=by
 rw[Array.getElem?_toList];by_cases h:i<s.size
 ·rw[getElem?_pos s i h,getElem?_pos s.data i h];rfl
 ·rw[getElem?_neg s i h,getElem?_neg s.data i h]
theorem Hm{s:ByteArray}(a:s.data.toList≠[]):∃c:UInt8,s[0]? =some c∧c.toNat=hd s.data.toList:=by
 rw[Lk];match s.data.toList,a with
 |c::l,_=>exact⟨c,rfl,rfl⟩
theorem CG{W:Nat→Prop}{h:ac}{b:Nat}{sl:ByteArray}{w:Option ByteArray}{F:Fo}(r:RxN W h b sl w F)(hc:jb F){c:Nat}(hc8:c<256){K:Int×Bool→ac→Prop}
  (C:∀i ok,i≤F.toL.length→(∀j (p:j<F.toL.length),j<i→hd F.toL[j].1<c)→(∀j (p:j<F.toL.length),i≤j→c≤hd F.toL[j].1)→(ok=true↔∃hi:i<F.toL.length,hd F.toL[i].1=c)→K ((i:Int),ok) h):HC PG js [.pointer (some ⟨b,0,none⟩),.int .u8 c] [.c (.int .i64),.c .bool] K h:=by
 refine xb _ c ?_;unfold qx bW;obtain⟨val,s,ow,ks,hb,_,U,Z,hF⟩:=r;refine⟨_,rfl,s,gO (i:=3) hb,?_⟩;have T:=oU.1 hF;have d:=fS.1 hc;have hn:=Aa hc;have y:=U.len;rw[T.1]at y;generalize hLe:F.toL=L at T d hn y C;refine fG s c _ ?_;unfold dz bB dw rc Du
 have G:∀{i:Nat} (hi:i<L.length) {K:Int→ac→Prop},K ((hd L[i].1:Int)-(c:Int)) h→∃a,s.a=some a∧∃v,aF h (adr a (i*1))=some (.pointer v)∧HV PG (.func (.func kD) #[] #[]) [.pointer v,.int .u8 c] [.c (.int .i64)] K h:=by
  intro i hi K C;obtain⟨kb,E,S,D,Q⟩:=T.at hi;obtain⟨a,ha,_,hv⟩:=U.at0 S;refine⟨a,ha,_,hv,HV.mk' (ul (some ⟨kb,0,none⟩) c ?_)⟩;unfold oM bD;obtain⟨kval,kss,kow,kks,H,_⟩:=Q;have J:E.data.toList≠[]:=by rw[D];exact(d.2 _ (cR hi)).1
  obtain⟨u,hu,P⟩:=Hm J;refine⟨_,rfl,E,gO (i:=0) H,u,Int.le_refl _,hu,?_⟩;simp only[Bd];have e:=Nr L[i].1;rw[P,D,gi (x:=(hd L[i].1:Int)) (by omega),gi (x:=(c:Int)) (by omega),gi (by omega)];exact C
 have mono:∀i j (hi:i<L.length) (p:j<L.length),i<j→hd L[i].1<hd L[j].1:=fun i j hi p f=>dd.1 d.1 i j hi p f
 refine LoopP.ghost (fun(g:Nat×Nat) (t:Int×Int) h'=>t.1=(g.1:Int)∧t.2=(g.2:Int)∧g.1≤g.2∧g.2≤L.length∧h'=h∧(∀j (p:j<L.length),j<g.1→hd L[j].1<c)∧(∀j (p:j<L.length),g.2≤j→c≤hd L[j].1)) (fun g=>g.2-g.1) (0,L.length)
  ⟨rfl,by simp only;omega,by simp,by simp,rfl,fun j p h=>by omega,fun j p h=>by simp only at h;omega⟩ ?_
 rintro I ⟨i,j⟩ ⟨ti,tj⟩ h' ⟨e1,Y,f,k,rfl,n,o⟩ hI;simp only at e1 Y f k n o;subst e1 Y;refine aE (fun e=>?_) fun R=>?_
 ·have e:i<j:=by have:(i:Int)<(j:Int):=e;omega
  have em:IntKind.wrap .i64 (Int.fdiv (IntKind.wrap .u64 (IntKind.wrap .i64 ((i:Int)+(j:Int)))) (2^(min (1:Int).toNat (IntKind.bits .u64))))=(((i+j)/2:Nat):Int):=by
   have e3:(2^(min (1:Int).toNat (IntKind.bits .u64)):Int)=2:=rfl;rw[e3,gi (x:=(i:Int)+(j:Int)) (by omega),Go.IntWalk.u64_in _ (by omega),Int.fdiv_eq_ediv_of_nonneg _ (by omega),gi (by omega)];omega
  refine⟨by decide,?_⟩;simp only[Bd];rw[em];generalize hm:(i+j)/2=m;have z:m<L.length:=by omega
  refine⟨by omega,?_⟩;refine G z ?_;refine aE (fun V=>?_) fun X=>?_
  ·refine hI (m+1,j) _ _ ⟨by simp only;rw[gi (by omega)];omega,rfl,by simp only;omega,k,rfl,fun q N B=>?_,o⟩ (by simp only;omega)
   simp only at B;rcases cd q m with h|h
   ·have:=mono q m N z h;omega
   ·have:q=m:=by omega
    subst this;omega
  ·refine hI (i,m) _ _ ⟨rfl,rfl,by simp only;omega,by simp only;omega,rfl,n,fun q N B=>?_⟩ (by simp only;omega)
   simp only at B;rcases cd m q with h|h
   ·have:=mono m q z N h;omega
   ·have:q=m:=by omega
    subst this;omega
 ·have f:i=j:=by have:¬(i:Int)<(j:Int):=R;omega
  subst f;refine aE (fun e=>?_) fun O=>?_
  ·have A:i<L.length:=by have:(i:Int)<(s.len:Int):=e;omega
   refine⟨by simp only;omega,?_⟩;refine G A ?_;refine C i _ k n o ?_;rw[beq_iff_eq];exact⟨fun h=>⟨A,by omega⟩,fun⟨_,h⟩=>by omega⟩
  ·have A:i=L.length:=by have:¬(i:Int)<(s.len:Int):=O;omega
   exact C i false k n o ⟨fun h=>(by cases h),fun h=>(by obtain⟨h,_⟩:=h;omega)⟩
end Go.Proofs
namespace Go.Proofs
open Go Go.Lift
theorem EW{b:Nat}{h:ac}{K:Bool→ac→Prop}(a:K false h):HC PG lz [.pointer (some ⟨b,0,none⟩),.pointer none] [.c .bool] K h:=by
 refine vQ _ none ?_;unfold pU gt;exact aB.2 (sJ (ak.2 a))
abbrev Nm:List Value:= [.string (⟨#[]⟩:ByteArray),.bool false,.string (⟨#[]⟩:ByteArray),.slice none 0 0,.pointer none]
theorem rb{W:Nat→Prop}{h:ac}{b:Nat}{sl val:ByteArray}{has:Bool}{s:SliceV}{ow:Option Addr}{ks:List (Option Addr)}(d:h[b]? =some (.cells (CH sl has val s ow) bI (0,0))) (w:Sl xN 1 W h s ks) (D:ks.length≤256) {K:Option Addr→ac→Prop}
  (B:∀h' s',h'[h.size]? =some (.cells (CH sl has val s' none) bI (0,0))→OwnS xN 1 bv (fun x=>h.size<x∧x<h'.size) h' s' ks→Upd No h h'→K (some ⟨h.size,0,none⟩) h'):
  HC PG eN [.pointer (some ⟨b,0,none⟩),.pointer none] [.c .ptr] K h:=by
 refine yD _ none ?_;unfold rz bD dJ nv gt eh Ez bW oQ OC;refine EW (ak.2 ?_);refine⟨_,rfl,sl,gO (i:=0) d,has,gO (i:=1) d,val,gO (i:=2) d,s,gO (i:=3) d,ow,gO (i:=4) d,aX ?_⟩;have k1:=Upd.hnew No h Nm bI;have b1:=bN h Nm bI;simp only[cr h];generalize hnew h [.string (⟨#[]⟩:ByteArray),.bool false,.string (⟨#[]⟩:ByteArray),.slice none 0 0,.pointer none] bI=h1 at k1 b1
 refine dW (c:=Nm) (vs:= [.string sl,.bool has,.string val,.slice s.a s.len s.cap,.pointer ow]) b1 rfl fun u b2 k=>?_
 have p:Upd No h u:=k1.trans k fun x hx=>.inr (dG hx.symm)
 have A:h.size<u.size:=aW b2;have o:=p.get0 d;refine⟨_,rfl,s,gO (i:=3) o,?_⟩;refine Dh (w.upd p fun _ h=>h.elim) (by omega) fun m z j g=>?_
 have b3:z[h.size]? =some (.cells (CH sl has val s ow) bI (0,0)):=g.get0 b2;refine⟨NM (i:=3) b3 (show 3<5 by decide),GJ (i:=3) (c':=CH sl has val m ow) b3 rfl fun E v n=>?_⟩
 refine⟨NM (i:=4) v (show 4<5 by decide),GJ (i:=4) (c':=CH sl has val m none) v rfl fun t y q=>?_⟩
 refine sJ (ak.2 ?_);have a:=n.tr q;have C:=a.size;have f:=(j.within.upd a fun x hx e=>by have e:x=h.size:=e;have:=hx.1;omega).more (M':=fun x=>h.size<x∧x<t.size) fun x hx=>⟨by have:=hx.1;omega,by have:=hx.2;omega⟩
 exact B t m y f ((p.tr g).trans a fun x hx=>.inr (dG hx.symm))
theorem u0{h:ac}{b:Nat}{sl nl:ByteArray}{has:Bool}{val:ByteArray}{s:SliceV}{ow:Option Addr}(a:h[b]? =some (.cells (CH sl has val s ow) bI (0,0))) {K:Option Addr→ac→Prop}
  (c:∀h',h'[b]? =some (.cells (CH nl has val s ow) bI (0,0))→Upd (· =b) h h'→K (some ⟨b,0,none⟩) h'):HC PG gw [.pointer (some ⟨b,0,none⟩),.string nl] [.c .ptr] K h:=by
 refine vP _ nl ?_;unfold pT dJ;exact⟨_,rfl,NM (i:=0) a (show 0<5 by decide),GJ (i:=0) (c':=CH nl has val s ow) a rfl c⟩
theorem yT{h:ac}{b:Nat}{sl v:ByteArray}{has:Bool}{val:ByteArray}{s:SliceV}{ow:Option Addr}(d:h[b]? =some (.cells (CH sl has val s ow) bI (0,0))) {K:Option Addr→ac→Prop}
  (e:∀h',h'[b]? =some (.cells (CH sl true v s ow) bI (0,0))→Upd (· =b) h h'→K (some ⟨b,0,none⟩) h'):HC PG ik [.pointer (some ⟨b,0,none⟩),.string v] [.c .ptr] K h:=by
 refine uk _ v ?_;unfold oL dJ;exact⟨_,rfl,NM (i:=1) d (show 1<5 by decide),GJ (i:=1) (c':=CH sl true val s ow) d rfl fun g b1 a=>⟨_,rfl,NM (i:=2) b1 (show 2<5 by decide),GJ (i:=2) (c':=CH sl true v s ow) b1 rfl fun f b2 c=>e f b2 (a.tr c)⟩⟩
theorem GH{h:ac}{k v:ByteArray}{K:Option Addr→ac→Prop}(j:∀h' b s,h'[b]? =some (.cells (CH k true v s none) bI (0,0))→s.len=0→s.len≤s.cap→h.size≤b→Upd No h h'→K (some ⟨b,0,none⟩) h'):HC PG qS [.pointer none,.string k,.string v] [.c .ptr] K h:=by
 refine Ck none k v ?_;unfold uK oT Ez oQ;have k1:=Upd.hnew No h Nm bI;have b1:=bN h Nm bI;refine aX ?_;simp only[cr h];generalize hnew h [.string (⟨#[]⟩:ByteArray),.bool false,.string (⟨#[]⟩:ByteArray),.slice none 0 0,.pointer none] bI=h1 at k1 b1;refine rb (W:=No) (ks:= []) (sl:=⟨#[]⟩) (val:=⟨#[]⟩) (has:=false) (s:=⟨none,0,0⟩) (ow:=none) b1 (Sl.nil pg) (cj _) fun n s b2 a d=>?_
 refine u0 (nl:=k) b2 fun o b3 f=>yT (v:=v) b3 fun i m e=>?_
 have c:=f.tr e;have z:=d.size;have g:=k1.size;refine j i h1.size s m a.len a.cap g ((k1.tr d).trans c fun x hx=>.inr (by have hx:x=h1.size:=hx;omega))
theorem O0{W:Nat→Prop}{h:ac}{b:Nat}{k v:ByteArray}{s:SliceV}{ow:Option Addr}(c:h[b]? =some (.cells (CH k true v s ow) bI (0,0))) (a:s.len=0) (hc:s.len≤s.cap) (nw:¬W b):RxN W h b k (some v) .nil:=
 ⟨v,s,ow,[],c,rfl,⟨a,pg,fun h=>absurd rfl h⟩,⟨hc,nw⟩,rfl⟩
theorem A5(s:ByteArray)(c:Nat):(s.extract 0 c).data.toList=s.data.toList.take c:=by
 rw[mw,Array.toList_extract,fq];simp
theorem A6(s:ByteArray)(c:Nat):(s.extract c s.size).data.toList=s.data.toList.drop c:=by
 rw[mw,Array.toList_extract,fq,List.take_of_length_le];rw[aM];simp
theorem GG{W:Nat→Prop}{h:ac}{b:Nat}{sl:ByteArray}{w:Option ByteArray}{F:Fo}(r:RxN W h b sl w F)(A:∀y,W y→y<h.size)(T:F.toL.length≤256){c:Nat}(hc:c≤sl.size){K:Option Addr→ac→Prop}
  (Z:∀h' b',RxN W h' b' (sl.extract 0 c) none (.cons (sl.data.toList.drop c) w F .nil)→Upd No h h'→K (some ⟨b',0,none⟩) h'):HC PG ly [.pointer (some ⟨b,0,none⟩),.pointer none,.int .i64 c] [.c .ptr] K h:=by
 refine vO _ none c ?_;unfold pS bD dJ oT Ez oQ;obtain⟨val,s,ow,ks,J,U,R,L,O⟩:=r;have lab:∀{h'},Upd No h h'→aF h' (adr ⟨b,0,none⟩ 0)=some (.string sl):=fun k=>gO (i:=0) (k.get0 J)
 have X:=Upd.refl No h;refine⟨_,rfl,sl,lab X,⟨by omega,by omega⟩,aX ?_⟩
 have k1:=Upd.hnew No h Nm bI;have b1:=bN h Nm bI;simp only[cr h];generalize hnew h [.string (⟨#[]⟩:ByteArray),.bool false,.string (⟨#[]⟩:ByteArray),.slice none 0 0,.pointer none] bI=h1 at k1 b1;refine⟨lab k1,?_⟩;refine rb (W:=No) (ks:= []) (sl:=⟨#[]⟩) (val:=⟨#[]⟩) (has:=false) (s:=⟨none,0,0⟩) (ow:=none) b1 (Sl.nil pg) (cj _) fun h2 s2 b2 _ t=>⟨lab (k1.tr t),?_⟩
 rw[aL];refine u0 b2 fun d b3 H=>?_
 have z1:=k1.size;have a:Upd No h d:=(k1.tr t).trans H fun x hx=>.inr (by have hx:x=h1.size:=hx;omega)
 refine rb (a.get0 J) (R.upd a fun _ h=>h.elim) (by rw[(oU.1 O).1];exact T) fun h4 V P E u=>?_
 refine⟨_,rfl,sl,gO (i:=0) P,⟨by omega,by omega⟩,?_⟩
 refine u0 (nl:=sl.extract c sl.size) P fun f S n=>?_
 have m:Upd No h f:=(a.tr u).trans n fun x hx=>.inr (by have hx:x=d.size:=hx;have:=a.size;omega)
 have C:=E.upd n fun x hx e=>by have e:x=d.size:=e;have:=hx.1;omega
 have hb3:=aW b3;have o:f[h1.size]? =some (.cells (CH (sl.extract 0 c) false ⟨#[]⟩ s2 none) bI (0,0)):=n.get (u.get0 b3) (by show ¬h1.size=d.size;omega);have q:=Upd.hnew No f [.pointer (some ⟨d.size,0,none⟩)] bv;have N:=bN f [.pointer (some ⟨d.size,0,none⟩)] bv;have Q:=m.size;have Y:=a.size;refine aX ?_;simp only[cr f]
 generalize hnew f [.pointer (some ⟨d.size,0,none⟩)] bv=h6 at q N;have p:=q.get0 o;have I:=aW o;refine⟨_,rfl,NM (i:=3) p (show 3<5 by decide),GJ (i:=3) (c':=CH (sl.extract 0 c) false ⟨#[]⟩ ⟨some ⟨f.size,0,none⟩,1,1⟩ none) p rfl fun B b7 g=>?_⟩
 have j:Upd No h B:=(m.tr q).trans g fun x hx=>.inr (by have hx:x=h1.size:=hx;omega)
 have D:B[f.size]? =some (.cells #[.pointer (some ⟨d.size,0,none⟩)] bv (0,0)):=g.get N (by show ¬f.size=h1.size;omega);have G:=g.get (q.get0 S) (by show ¬d.size=h1.size;omega);have z:=(C.upd q fun _ _ h=>h).upd g fun x hx e=>by have e:x=h1.size:=e;have:=hx.1;omega
 refine Z B h1.size ⟨⟨#[]⟩,_,none,[some ⟨d.size,0,none⟩],b7,rfl,⟨rfl,pg,fun _=>⟨_,rfl,(fun hx=>by have hx:W f.size:=hx;have:=A _ hx;omega),qe D fun i v hi=>?_⟩⟩,⟨aq _,fun hx=>by have:=A _ hx;omega⟩,?_⟩ j
 ·rw[aC]
  rw[←fz]at hi;exact hi
 ·refine⟨d.size,sl.extract c sl.size,val,V,none,ks,[],rfl,A6 ..,G,U,z.sl (fun x hx _ hw=>by have:=A _ hw;have:=hx.1;omega),⟨z.cap,fun hx=>by have:=A _ hx;omega⟩,RxF.upd0 j O,rfl⟩
end Go.Proofs
namespace Go.Proofs
open Go Go.Lift
theorem LB:∀{x y:List UInt8} {i:Nat},i≤x.length→i≤y.length→(∀j,j<i→x[j]? =y[j]?)→(i=x.length∨i=y.length∨x[i]?≠y[i]?)→cm x y=i
 | [],_,i,h1,_,_,_=>by simp at h1;simp[cm,h1]
 |_::_,[],i,_,h2,_,_=>by simp at h2;simp[cm,h2]
 |a::x,b::y,0,_,_,_,h=>by
  unfold cm;rw[if_neg];rintro rfl;rcases h with h|h|h<;>simp at h
 |a::x,b::y,i+1,h1,h2,h3,h4=>by
  have:=h3 0 (by omega);simp only[List.getElem?_cons_zero,bE.injEq]at this;unfold cm;rw[if_pos this,LB (i:=i) (by simpa using h1) (by simpa using h2) (fun j c=>by simpa using h3 (j+1) (by omega)) (by simpa using h4)]
theorem JD{a b:ByteArray}(z:a.size≤1000000){h:ac}{K:Int→ac→Prop}(n:K (cm a.data.toList b.data.toList:Nat) h):HC PG qP [.string a,.string b] [.c (.int .i64)] K h:=by
 refine Cf a b ?_;unfold uG;simp only[Bd];have f:(if(b.size:Int)<(a.size:Int)then(b.size:Int)else(a.size:Int))=((min a.size b.size:Nat):Int):=by split<;>omega
 rw[f];have y:a.data.toList.length=a.size:=by simp
 have A:b.data.toList.length=b.size:=by simp
 refine LoopP.ghost (fun(i:Nat) (t:Int) h'=>t=(i:Int)∧i≤min a.size b.size∧h'=h∧∀j,j<i→a.data.toList[j]? =b.data.toList[j]?) (fun i=>min a.size b.size-i) 0 ⟨rfl,cj _,rfl,fun j s=>absurd s (Nat.not_lt_zero _)⟩ ?_
 rintro I i t h' ⟨rfl,hi,rfl,p⟩ x;refine aE (fun c=>?_) fun w=>?_
 ·have c:i<min a.size b.size:=by omega
  have k:i<a.size:=by omega
  have m:i<b.size:=by omega
  refine⟨a[i],by omega,by rw[aL,getElem?_pos a i k],b[i],by omega,by rw[aL,getElem?_pos b i m],?_⟩
  have v:a.data.toList[i]? =some a[i]:=by rw[←Lk,getElem?_pos a i k]
  have q:b.data.toList[i]? =some b[i]:=by rw[←Lk,getElem?_pos b i m]
  refine CondP.intro (fun g=>?_) fun d=>?_
  ·rw[LB (i:=i) (by omega) (by omega) p (.inr (.inr fun e=>?_))]at n
   ·exact n
   ·rw[v,q]at e
    rw[bE.inj e]at g;simp at g
  ·have d:a[i]=b[i]:=by
    have:((a[i].toNat:Int))=(b[i].toNat:Int):=by simpa using d
    exact UInt8.toNat_inj.1 (by omega)
   rw[ec c (by omega)];refine x (i+1) _ _ ⟨rfl,c,rfl,fun j s=>?_⟩ (by omega)
   rcases cd j i with u|u
   ·exact p j u
   ·have:j=i:=by omega
    subst this;rw[v,q,d]
 ·have o:i=min a.size b.size:=by omega
  rw[LB (i:=i) (by omega) (by omega) p (by omega)]at n;rw[←o];exact n
theorem Jf{F:Fo}{i:Nat}{k:List UInt8}{v:ByteArray}(h:jb F)(hi:i<F.toL.length)(ek:hd F.toL[i].1=hd k)(a:qV (BQ F.toL[i]) (BQ F.toL[i]) k v):qV (xD F) (xD F) k v:=by
 have:=E5 h hi ek a;rw[List.set_getElem_self,Fo.of_to]at this;exact this
theorem KU{P Q a:List UInt8→ByteArray→Prop}{k:List UInt8}{v:ByteArray}(h:qV P a k v)(e:∀k v,P k v↔Q k v):qV Q a k v:=fun k' b=>by rw[h k' b,e]
set_option maxHeartbeats 1000000 in
theorem KK{W:Nat→Prop}:∀(n:Nat) {b:Nat} {sl:ByteArray} {w:Option ByteArray} {F:Fo} {h:ac} (k v:ByteArray),k.size<n→k.size≤1000000→RxN W h b sl w F→(∀y,W y→y<h.size)→jb F→∀{K:(Option Addr)×Bool×Bool→ac→Prop},
  (∀h' b' w' Y C ch,Upd No h h'→RxN W h' b' sl w' Y→jb Y→qV (zg w F) (zg w' Y) k.data.toList v→(ch=false→b'=b∧w'=w∧Y=F)→(zg w F k.data.toList v→ch=false)→K (some ⟨b',0,none⟩,C,ch) h')→
  HC PG j7 [.pointer (some ⟨b,0,none⟩),.pointer none,.string k,.string v] [.c .ptr,.c .bool,.c .bool] K h:=by
 intro n;induction n with
 |zero=>intro b sl w F h k v hk;omega
 |succ n ih=>
  intro b sl w F h k v I hk6 r hW hc K hk;refine yC (some ⟨b,0,none⟩) none k v ?_;unfold ry bB dw bD dJ kB eh oT Ko bW Du oQ NA Km;have hr:=r;obtain⟨val,s,ow,ks,hb,hv,hs,hcap,hF⟩:=r;have V:=oU.1 hF;have hn:=Aa hc;have hcan:=fS.1 hc;rw[gC];refine aE (fun hk0=>?_) fun hk0=>?_
  ·have hke:k.data.toList= []:=by rw[hk0]
   rw[hke]at hk;refine Join.intro (fun t h'=>t=decide (w=some v)∧h'=h) (fun R hR=>⟨_,rfl,w.isSome,gO (i:=1) hb,?_⟩) ?_
   ·cases G:w with
    |none=>exact ak.2 (hR _ _ ⟨by rw[G];rfl,rfl⟩)
    |some u=>
     refine aB.2 ⟨_,rfl,val,gO (i:=2) hb,hR _ _ ⟨?_,rfl⟩⟩;rw[gC,vw hv u G,G];exact decide_eq_decide.2 ⟨fun e=>by rw[e],fun e=>bE.inj e⟩
   ·rintro t h' ⟨rfl,rfl⟩
    refine aE (fun e=>?_) fun e=>?_
    ·refine hk h' b w F false false (Upd.refl _ _) hr hc ?_ (fun _=>⟨rfl,rfl,rfl⟩) fun _=>rfl
     rw[e];exact CP hc v
    ·refine⟨_,rfl,w.isSome,gO (i:=1) hb,?_⟩
     refine rb hb hs (by rw[V.1];exact hn) fun h1 s1 b1 ho1 p=>?_
     refine⟨gO (i:=1) (p.get0 hb),?_⟩;refine yT b1 fun A b2 B=>?_
     have d:Upd No h' A:=p.trans B fun x hx=>.inr (dG (Eq.symm hx))
     refine⟨gO (i:=1) (d.get0 hb),?_⟩;have ho2:=ho1.upd B fun x hx e=>by have e:x=h'.size:=e;have:=hx.1;omega
     refine hk A h'.size (some v) F _ true d ⟨v,s1,none,ks,b2,rfl,ho2.sl (fun x hx _ G=>by have:=hW _ G;have:=hx.1;omega),⟨ho2.cap,fun hx=>ni _ (hW _ hx)⟩,RxF.upd0 d hF⟩ hc (CP hc v) (fun h=>by cases h) fun o=>?_
     rcases o with⟨_,h⟩|h
     ·exact absurd h e
     ·exact absurd rfl (vh hc h)
  ·have f:k.data.toList≠[]:=fun e=>hk0 (by cases k;exact congrArg r6 (kq.1 e))
   obtain⟨c0,hc0,hc0e⟩:=Hm f;refine⟨c0,Int.le_refl _,hc0,?_⟩;have hlk:k.data.toList.length=k.size:=by simp
   refine CG hr hc (c:=c0.toNat) (UInt8.toNat_lt _) fun i ok hil hlo hhi hok=>?_
   rw[hc0e]at hlo hhi hok;cases ok with
   |false=>
    have hno:∀hi:i<F.toL.length,hd F.toL[i].1≠hd k.data.toList:=fun hi e=>by have:=hok.2 ⟨hi,e⟩;cases this
    have hhi':∀j (hj:j<F.toL.length),i≤j→hd k.data.toList<hd F.toL[j].1:=fun j hj hij=>by
     have h1:=hhi j hj hij;rcases cd i j with X|X
     ·have A:=dd.1 hcan.1 i j (by omega) hj X
      have h3:=hhi i (by omega) (aq _);omega
     ·have:i=j:=by omega
      subst this;have:=hno hj;omega
    obtain⟨hc',hp'⟩:=Jh (v:=v) hc f hlo hhi';refine aB.2 ?_;refine rb hb hs (by rw[V.1];exact hn) fun h1 s1 b1 ho1 p=>?_
    refine⟨_,rfl,s1,gO (i:=3) b1,?_⟩;refine GH fun A fb fs fb2 hf0 hfc hfb B=>⟨gO (i:=3) (B.get0 b1),aX ?_⟩
    have k3:=Upd.hnew No A [.pointer (some ⟨fb,0,none⟩)] bv;have b3:=bN A [.pointer (some ⟨fb,0,none⟩)] bv;have z3:(hnew A [.pointer (some ⟨fb,0,none⟩)] bv).size=A.size+1:=gX ..;simp only[cr A];generalize hnew A [.pointer (some ⟨fb,0,none⟩)] bv=h3 at k3 b3 z3;have E:=B.tr k3;refine⟨gO (i:=3) (E.get0 b1),?_⟩;have z1:=aW b1
    have z2:=B.size;have zf:=aW fb2;have Z:=(ho1.upd E fun _ _ h=>h).more (M':=fun x=>(h.size<x∧x<h1.size)∨h3.size≤x) fun x hx=>.inl hx
    refine Hh Z (k:=i) (by rw[V.1];exact hil) (by rw[V.1];omega) b3 (by rintro(h|h)<;>omega) (fun x hx=>.inr hx) fun s4 h4 N H=>?_
    have b4:=H.get (E.get0 b1) (by rintro(h|h)<;>omega)
    have f4:=H.get (k3.get0 fb2) (by rintro(h|h)<;>omega)
    refine⟨_,rfl,NM (i:=3) b4 (show 3<5 by decide),GJ (i:=3) (c':=CH sl w.isSome val s4 none) b4 rfl fun h5 b5 hu5=>?_⟩
    have hu05:Upd No h h5:=((p.tr E).trans H fun x hx=>.inr (by have:=p.size;rcases hx with hx|hx<;>omega)).trans hu5 fun x hx=>.inr (dG (Eq.symm hx))
    have ho5:=N.upd hu5 fun x hx e=>by have e:x=h.size:=e;rcases hx with hx|hx<;>omega
    have f5:=hu5.get f4 (by show ¬fb=h.size;omega);refine hk h5 h.size w _ true true hu05 ⟨val,s4,none,_,b5,hv,ho5.sl (fun x hx _ G=>by have:=hW _ G;rcases hx with hx|hx<;>omega),⟨ho5.cap,fun hx=>ni _ (hW _ hx)⟩,oU.2 (by rw[Fo.to_of];exact(V.upd0 hu05).ins i ⟨fb,k,rfl,rfl,O0 f5 hf0 hfc fun hx=>by have:=hW _ hx;omega⟩)⟩ hc' (xU f hp') (fun h=>by cases h) fun o=>?_
    rcases o with⟨h,_⟩|o
    ·exact absurd h f
    ·obtain⟨n',hn',e,_⟩:=vi hc o
     obtain⟨j,hj,rfl⟩:=List.getElem_of_mem hn';rcases cd j i with X|X
     ·have:=hlo j hj X;omega
     ·have:=hhi' j hj X;omega
   |true=>
    obtain⟨hi,J⟩:=hok.1 rfl;refine ak.2 ⟨_,rfl,s,gO (i:=3) hb,?_⟩;obtain⟨kb,ksl,hki,q,I⟩:=V.at hi;have hmem:F.toL[i]∈F.toL:=cR hi;have g:=hcan.2 _ hmem;obtain⟨a,ha,_,hvv⟩:=hs.at0 hki;have hslen:=hs.len;rw[V.1]at hslen;have hlt1:(i:Int)<((s.len:Nat):Int):=by omega
    refine⟨⟨by simp only;omega,hlt1⟩,a,ha,some ⟨kb,0,none⟩,hvv,_,rfl,?_⟩;obtain⟨kval,kss,kow,kks,hkb,_⟩:=id I;refine⟨ksl,gO (i:=0) hkb,JD hk6 ?_⟩;rw[q];have hc1:=Ob f g.1 J.symm;have U:=Nu k.data.toList F.toL[i].1;have O:=IH k.data.toList F.toL[i].1;have hcd:=II k.data.toList F.toL[i].1;have hll:ksl.size=F.toL[i].1.length:=by rw[←q];simp
    have S:xD F k.data.toList v→BQ F.toL[i] k.data.toList v:=fun o=>by
     obtain⟨n',hn',e,hN⟩:=vi hc o;rw[←Eb hc hn' hmem (by omega)];exact hN
    have hset:∀{w2:Option ByteArray} {F2:Fo} {nl:List UInt8},nl≠[]→hd nl=hd F.toL[i].1→jb F2→Br (zg w2 F2)→jb (.ofL (F.toL.set i (nl,w2,F2))):=fun h1 A h3 h4=>MY hc hi ⟨h1,(LI h3).2 h4,h3⟩ A
    have P:∀{m:Bn},qV (BQ F.toL[i]) (BQ m) k.data.toList v→qV (xD F) (xD (.ofL (F.toL.set i m))) k.data.toList v:=fun hp=>E5 hc hi J hp
    have T:qV (BQ F.toL[i]) (BQ F.toL[i]) k.data.toList v→qV (xD F) (xD F) k.data.toList v:=Jf hc hi J;have hrset:∀{h':ac} {k':Option Addr} {m:Bn},Upd No h h'→Kid W h' k' m→RxL W h' (ks.set i k') (F.toL.set i m):=fun hu hkd=>(V.upd0 hu).set hi hkd
    generalize F.toL[i]=m at q I g hc1 U O hcd hll S hset P T J;generalize hcc:cm k.data.toList m.1=c at hc1 U O hcd;obtain⟨lab,wk,Fk⟩:=m;simp only at q I g U O hcd hll J hset;refine Join.intro (fun t h'=>∃ub z wu Fu,t=some ⟨ub,0,none⟩∧Upd No h h'∧RxN W h' ub z wu Fu∧jb Fu∧z.data.toList=k.data.toList.take c∧(∀k' v',BQ (z.data.toList,wu,Fu) k' v'↔BQ (lab,wk,Fk) k' v')∧(∀w' Y,jb Y→qV (zg wu Fu) (zg w' Y) (k.data.toList.drop c) v→Br (zg w' Y))) (fun R hR=>⟨_,rfl,ksl,gO (i:=0) hkb,?_⟩) ?_
    ·refine aE (fun hlt=>?_) fun hge=>?_
     ·have hlt:c<lab.length:=by omega
      refine GG I hW (Aa g.2.2) (c:=c) (by omega) fun h1 ub rn p=>hR _ _ ⟨ub,_,none,_,rfl,p,rn,?_,?_,?_,?_⟩
      ·rw[q]
       refine⟨fun e=>?_,g.2.1,g.2.2,fun _ h=>by simp[Fo.toL]at h,trivial⟩
       have:=congrArg fV e;rw[aM,bH]at this;omega
      ·rw[A5,q,O]
      ·intro k' v'
       rw[A5,q];exact Jv c k' v'
      ·intro w' Y hcF hp
       rw[q]at hp;refine LH (fun e=>?_) g.2.1 g.2.2 (fun hne=>?_) hp
       ·have:=congrArg fV e
        rw[aM,bH]at this;omega
       ·refine hcd ?_ hlt
        rcases cd c k.data.toList.length with X|X
        ·exact X
        ·exact absurd (List.drop_eq_nil_of_le X) hne
     ·have hce:c=lab.length:=by omega
      refine hR _ _ ⟨kb,ksl,wk,Fk,rfl,Upd.refl _ _,I,g.2.2,?_,?_,?_⟩
      ·rw[q,O,hce,cQ]
      ·intro k' v';rw[q]
      ·intro w' Y hcF hp
       exact M1 ((LI g.2.2).1 g.2.1) hp
    ·rintro t h1 ⟨ub,z,wu,Fu,rfl,p,rn,hcu,hsl,L,hbr⟩
     refine⟨⟨by omega,by omega⟩,?_⟩
     rw[aL];have hkd:(k.extract c k.size).data.toList=k.data.toList.drop c:=A6 ..;have hks:(k.extract c k.size).size=k.size-c:=by simp
     have D:k.data.toList=z.data.toList++k.data.toList.drop c:=by rw[hsl,List.take_append_drop]
     have Q:z.data.toList≠[]:=by
      rw[hsl];intro e;have:=congrArg fV e;rw[aK,bH]at this;omega
     have hslhd:hd z.data.toList=hd lab:=by
      rw[J];conv=>rhs;rw[D]
      rw[sO Q]
     refine ih (k.extract c k.size) v (by rw[hks];omega) (by rw[hks];omega) rn (fun y hy=>aG (hW y hy) p.size) hcu fun A b2 w2 F2 C ch B rn2 hc2 hp2 hsm hch=>?_
     rw[hkd]at hp2 hch;have d:=p.tr B;have hpn:qV (BQ (lab,wk,Fk)) (BQ (z.data.toList,w2,F2)) k.data.toList v:=by
      have:=KU (Jg (lab:=z.data.toList) hp2) L;rw[←D]at this;exact this
     have hchg:zg w F k.data.toList v→ch=false:=fun o=>by
      rcases o with⟨h,_⟩|o
      ·exact absurd h f
      ·obtain⟨r,e,hr'⟩:=(L _ _).2 (S o)
       simp only at e;rw[D]at e;have e2:=List.append_cancel_left e;rw[←D]at e;exact hch (by rw[e2];exact hr')
     cases ch with
     |false=>
      obtain⟨_,rfl,rfl⟩:=hsm rfl;refine aB.2 (hk A b w F false false d (hr.upd0 d) hc (xU f (T ?_)) (fun _=>⟨rfl,rfl,rfl⟩) fun _=>rfl)
      intro k' v';exact(L k' v').symm.trans (hpn k' v')
     |true=>
      refine ak.2 ?_;refine rb (d.get0 hb) (hs.upd d fun _ h=>h.elim) (by rw[V.1];exact hn) fun h3 s3 b3 Z hu3=>?_
      refine⟨_,rfl,s3,gO (i:=3) b3,?_⟩;have hil:i<ks.length:=by rw[V.1];exact hi
      obtain⟨a3,ha3,hab,hw3,N,H⟩:=OwnS.setAt Z hil (some ⟨b2,0,none⟩);have hlen3:=Z.len;refine⟨⟨by simp only;omega,by simp only;omega⟩,a3,ha3,?_⟩
      have hw1:Wr h3 (adr a3 (i*1)):=by
       rcases hw3 with G|⟨b',hb',G⟩
       ·cases G
       ·cases hb';exact G 0 (by simp)
      refine⟨hw1,aX ?_⟩;have b4:=H.get b3 fun e=>by have e:A.size=a3.block:=e;have:=hab.1;omega
      have hu24:Upd No A _:=hu3.trans H fun x hx=>.inr (by have hx:x=a3.block:=hx;have:=hab.1;omega)
      have hu04:=d.tr hu24;have eset:ks.set i (some ⟨b2,0,none⟩)=ks.take i++some ⟨b2,0,none⟩::ks.drop (i+1):=by rw[cY,if_pos hil]
      rw[←eset]at N;exact hk _ A.size w _ C true hu04 ⟨val,s3,none,_,b4,hv,N.sl (fun x hx _ G=>by have:=hW _ G;have:=d.size;have:=hx.1;omega),⟨N.cap,fun hx=>by have:=hW _ hx;have:=d.size;omega⟩,oU.2 (by rw[Fo.to_of];exact hrset hu04 ⟨b2,z,rfl,rfl,rn2.upd0 hu24⟩)⟩ (hset Q hslhd hc2 (hbr _ _ hc2 hp2)) (xU f (P hpn)) (fun h=>by cases h) hchg
end Go.Proofs
namespace Go.Proofs
open Go Go.Lift
def vd:Fo→List (List UInt8×ByteArray)
 | .nil=> []
 | .cons lab w kids rest=>((w.map fun v=>(([]:List UInt8),v)).toList++vd kids).map (fun p=>(lab++p.1,p.2))++vd rest
def xV(w:Option ByteArray)(F:Fo):List (List UInt8×ByteArray):=(w.map fun v=>(([]:List UInt8),v)).toList++vd F
theorem qg:∀{F:Fo} {k:List UInt8} {v:ByteArray},(k,v)∈vd F↔xD F k v
 | .nil,_,_=>by simp[vd,xD]
 | .cons lab w kids rest,k,v=>by
  unfold vd xD;rw[bq,qg (F:=rest)];refine or_congr ?_ rZ;rw[cX];constructor
  ·rintro⟨⟨r,u⟩,hm,b⟩
   simp only[nh.injEq]at b;obtain⟨rfl,rfl⟩:=b;refine⟨r,rfl,?_⟩;rcases bq.1 hm with h|h
   ·left
    rw[Option.mem_toList,iV]at h;obtain⟨a,c,b⟩:=h;simp only[nh.injEq]at b;exact⟨b.1.symm,by rw[c,b.2]⟩
   ·exact .inr (qg.1 h)
  ·rintro⟨r,rfl,h⟩
   refine⟨(r,v),bq.2 ?_,rfl⟩;rcases h with⟨rfl,h⟩|h
   ·left;rw[h];simp
   ·exact .inr (qg.2 h)
theorem po{w:Option ByteArray}{F:Fo}{k:List UInt8}{v:ByteArray}:(k,v)∈xV w F↔zg w F k v:=by
 unfold xV zg;rw[bq,qg];refine or_congr ?_ rZ;cases w with
 |none=>simp
 |some u=>simp[Prod.ext_iff,eq_comm]
abbrev Up(l:List (List UInt8×ByteArray)):Prop:=l.Pairwise fun p q=>p.1<q.1
theorem Oi{a x y:List UInt8}(h:x<y):a++x<a++y:=by
 induction a with
 |nil=>exact h
 |cons c a ih=>exact List.Lex.cons ih
theorem Lh{x y:List UInt8}(c:y≠[])(h:hd x<hd y):x<y:=by
 match x,y,c with
 | [],b::y,_=>exact List.Lex.nil
 |a::x,b::y,_=>exact List.Lex.rel (UInt8.lt_iff_toNat_lt.2 h)
theorem GU:∀{F:Fo},jb F→Up (vd F)
 | .nil,_=>dC
 | .cons lab w kids rest,h=>by
  unfold vd;refine bP.2 ⟨?_,GU h.2.2.2.2,?_⟩
  ·rw[List.pairwise_map]
   refine List.Pairwise.imp (R:=fun p q:List UInt8×ByteArray=>p.1<q.1) (fun i=>Oi i) ?_
   refine bP.2 ⟨?_,GU h.2.2.1,?_⟩
   ·cases w<;>simp
   ·intro a g b f
    have d:b.1≠[]:=vh h.2.2.1 (qg (F:=kids).1 (show(b.1,b.2)∈_ from f))
    have j:a.1= []:=by
     rw[Option.mem_toList,iV]at g;obtain⟨v,_,e⟩:=g;rw[←e]
    rw[j];match b.1,d with
    |c::l,_=>exact List.Lex.nil
  ·intro a g b f
   obtain⟨p,_,rfl⟩:=cX.1 g;obtain⟨n,k,e,_⟩:=vi h.2.2.2.2 (qg (F:=rest).1 (show(b.1,b.2)∈_ from f))
   have d:b.1≠[]:=vh h.2.2.2.2 (qg (F:=rest).1 (show(b.1,b.2)∈_ from f))
   have:=h.2.2.2.1 n k;exact Lh d (by rw[sO h.1];omega)
theorem Mr{w:Option ByteArray}{F:Fo}(h:jb F):Up (xV w F):=by
 refine bP.2 ⟨by cases w<;>simp,GU h,?_⟩
 intro a g b i;have f:b.1≠[]:=vh h (qg (F:=F).1 (show(b.1,b.2)∈_ from i))
 have d:a.1= []:=by
  rw[Option.mem_toList,iV]at g;obtain⟨v,_,e⟩:=g;rw[←e]
 rw[d];match b.1,f with
 |c::l,_=>exact List.Lex.nil
theorem Ks:∀{l l':List (List UInt8×ByteArray)},Up l→Up l'→(∀p,p∈l↔p∈l')→l=l'
 | [],[],_,_,_=>rfl
 | [],q::l',_,_,h=>absurd ((h q).2 (ay ..)) (by simp)
 |p::l,[],_,_,h=>absurd ((h p).1 (ay ..)) (by simp)
 |p::l,q::l',c,a,h=>by
  have c:=aQ.1 c;have a:=aQ.1 a;have e:p=q:=by
   rcases au.1 ((h p).1 (ay ..))with e|f
   ·exact e
   ·rcases au.1 ((h q).2 (ay ..))with e|g
    ·exact e.symm
    ·exact absurd (List.lt_trans (c.1 q g) (a.1 p f)) (p9 _)
  subst e;rw[Ks c.2 a.2 fun z=>?_]
  constructor
  ·intro d
   rcases au.1 ((h z).1 (aI _ d))with e|b
   ·exact absurd (c.1 z d) (by rw[e];exact p9 _)
   ·exact b
  ·intro d
   rcases au.1 ((h z).2 (aI _ d))with e|b
   ·exact absurd (a.1 z d) (by rw[e];exact p9 _)
   ·exact b
def Bh:Fo→Nat
 | .nil=>0
 | .cons _ _ kids rest=>1+Bh kids+Bh rest
theorem Ea:∀{F:Fo},jb F→Bh F+F.toL.length≤2*(vd F).length
 | .nil,_=>by simp[Bh,Fo.toL]
 | .cons lab w kids rest,h=>by
  have c:=Ea h.2.2.1;have b:=Ea h.2.2.2.2;have a:=h.2.1;rw[Fo.toL_cons];unfold Bh vd;rw[ad,List.length_map,ad,az];cases w with
  |none=>
   simp only[Option.map_none,Option.toList_none,bH];have:2≤kids.toL.length:=a.resolve_left (by simp);omega
  |some v=>simp only[Option.map_some,Option.toList_some,bf];omega
end Go.Proofs
namespace Go.Proofs
open Go Go.Lift
structure RadAt(W:Nat→Prop)(h:ac)(b:Nat)(l:List Pr):Prop where
 ex:∃w F,RxN W h b ⟨#[]⟩ w F∧jb F∧∀k v,(k,v)∈xV w F↔∃p∈l,p.1.data.toList=k∧p.2=v
theorem RadAt.upd0{W:Nat→Prop}{h h':ac}{b:Nat}{l:List Pr}(k:Upd No h h')(r:RadAt W h b l):RadAt W h' b l:=by
 obtain⟨w,F,d,c,a⟩:=r.ex;exact⟨w,F,d.upd0 k,c,a⟩
theorem RadAt.less{W W':Nat→Prop}{h:ac}(hm:∀b,W' b→W b∨h.size≤b){b:Nat}{l:List Pr}(r:RadAt W h b l):RadAt W' h b l:=by
 obtain⟨w,F,d,c,a⟩:=r.ex;exact⟨w,F,d.less hm,c,a⟩
theorem RadAt.updM{W M:Nat→Prop}{h h':ac}(k:Upd M h h')(hm:∀b,M b→W b∨h.size≤b){b:Nat}{l:List Pr}(r:RadAt W h b l):RadAt W h' b l:=by
 obtain⟨w,F,d,c,a⟩:=r.ex;exact⟨w,F,d.updM k hm,c,a⟩
def Et(l:List Pr):List (List UInt8×ByteArray):=l.map fun p=>(p.1.data.toList,p.2)
theorem NG{l:List Pr}(c:di l):Up (Et l):=by
 unfold Et Up;rw[List.pairwise_map];refine List.Pairwise.imp (R:=fun p q:Pr=>kl p.1 q.1) (fun{a b} h=>?_) c
 rw[Ha,ByteArray.toList_eq,ByteArray.toList_eq]at h;exact h
theorem Ia:∀{l l':List Pr},Et l=Et l'→l=l'
 | [],[],_=>rfl
 | [],_::_,h=>by simp[Et]at h
 |_::_,[],h=>by simp[Et]at h
 |p::l,q::l',h=>by
  unfold Et at h;simp only[List.map_cons,List.cons.injEq,nh.injEq]at h;obtain⟨⟨c,d⟩,f⟩:=h;have e:p.1=q.1:=by
   generalize p.1=a at c;generalize q.1=b at c;cases a;cases b;exact congrArg r6 (kq.1 c)
  rw[Ia f,Prod.ext e d]
theorem Ml{w:Option ByteArray}{F:Fo}{l:List Pr}(hc:jb F)(c:di l)(b:∀k v,(k,v)∈xV w F↔∃p∈l,p.1.data.toList=k∧p.2=v):xV w F=Et l:=by
 refine Ks (Mr hc) (NG c) fun p=>?_
 have:=b p.1 p.2;rw[show(p.1,p.2)=p from rfl]at this
 rw[this];unfold Et;rw[cX];constructor
 ·rintro⟨q,a,f,d⟩;exact⟨q,a,Prod.ext f d⟩
 ·rintro⟨q,a,e⟩;rw[←e];exact⟨q,a,rfl,rfl⟩
end Go.Proofs
namespace Go.Proofs
open Go Go.Lift
theorem nu{p q:Pr}:∀{l:List Pr},di l→(q∈eX p l↔q=p∨(q∈l∧q.1≠p.1))
 | [],_=>by simp[eX]
 |r::l,c=>by
  have c:=aQ.1 c;rw[fC];by_cases b:kl r.1 p.1
  ·have d:r.1≠p.1:=fun e=>by rw[e]at b;exact cP _ b
   rw[if_pos b,au,au,nu c.2];constructor
   ·rintro(rfl|h|⟨h,h'⟩)
    ·exact .inr ⟨.inl rfl,d⟩
    ·exact .inl h
    ·exact .inr ⟨.inr h,h'⟩
   ·rintro(h|⟨h|h,h'⟩)
    ·exact .inr (.inl h)
    ·exact .inl h
    ·exact .inr (.inr ⟨h,h'⟩)
  ·rw[if_neg b]
   by_cases a:r.1=p.1
   ·rw[if_pos a,au,au]
    constructor
    ·rintro(h|h)
     ·exact .inl h
     ·refine .inr ⟨.inr h,fun e=>?_⟩
      have:=c.1 q h;rw[e,a]at this;exact cP _ this
    ·rintro(h|⟨rfl|h,h'⟩)
     ·exact .inl h
     ·exact absurd a h'
     ·exact .inr h
   ·rw[if_neg a,au,au]
    have f:=qM b a;constructor
    ·rintro(h|rfl|h)
     ·exact .inl h
     ·exact .inr ⟨.inl rfl,a⟩
     ·refine .inr ⟨.inr h,fun e=>?_⟩
      have:=g5 f (c.1 q h);rw[e]at this;exact cP _ this
    ·rintro(h|⟨rfl|h,h'⟩)
     ·exact .inl h
     ·exact .inr (.inl rfl)
     ·exact .inr (.inr h)
def RadRoot(W:Nat→Prop)(h:ac)(r:Option Addr)(l:List Pr):Prop:=(r=none∧l= [])∨∃b,r=some ⟨b,0,none⟩∧RadAt W h b l
theorem RadRoot.upd0{W:Nat→Prop}{h h':ac}{r:Option Addr}{l:List Pr}(k:Upd No h h')(t:RadRoot W h r l):RadRoot W h' r l:=t.imp id fun⟨b,e,t⟩=>⟨b,e,t.upd0 k⟩
theorem rU{a b:ByteArray}:a.data.toList=b.data.toList↔a=b:=by
 constructor
 ·intro h;cases a;cases b;exact congrArg r6 (kq.1 h)
 ·rintro rfl;rfl
theorem AA{W:Nat→Prop}{h:ac}(c:∀y,W y→y<h.size){K:Option Addr→ac→Prop}(a:∀h' b,RadAt W h' b []→Upd No h h'→K (some ⟨b,0,none⟩) h'):HC PG na [] [.c .ptr] K h:=by
 refine Cl ?_;unfold uL Ez;refine aX (a _ h.size ⟨none,.nil,⟨⟨#[]⟩,⟨none,0,0⟩,none,[],bN h Nm bI,rfl,Sl.nil pg,⟨aq _,fun hx=>ni _ (c _ hx)⟩,rfl⟩,trivial,fun k v=>?_⟩ (Upd.hnew No h _ _))
 simp[xV,vd]
theorem CF{W:Nat→Prop}{h:ac}{r:Option Addr}{l:List Pr}(t:RadRoot W h r l)(d:∀y,W y→y<h.size){K:Option Addr→ac→Prop}(a:∀h' b,RadAt W h' b l→Upd No h h'→(r=some ⟨b,0,none⟩∨r=none)→K (some ⟨b,0,none⟩) h'):HC PG oZ [.pointer r] [.c .ptr] K h:=by
 refine En r ?_;unfold xr;rcases t with⟨rfl,rfl⟩|⟨b,rfl,t⟩
 ·exact aB.2 (AA d fun h' b t c=>a h' b t c (.inr rfl))
 ·exact ak.2 (a h b t (Upd.refl _ _) (.inl rfl))
theorem E1{W:Nat→Prop}{h:ac}{r:Option Addr}{l:List Pr}(t:RadRoot W h r l)(A:∀y,W y→y<h.size)(j:di l)(p:Pr)(E:p.1.size≤1000000){K:Option Addr×Bool→ac→Prop}
  (L:∀h' b' a,Upd No h h'→RadAt W h' b' (eX p l)→(p∈l→r=some ⟨b',0,none⟩∨r=none)→K (some ⟨b',0,none⟩,a) h'):
  HC PG te [.pointer none,.pointer r,.agg #[.string p.1,.string p.2]] [.c .ptr,.c .bool] K h:=by
 refine F1 none r p ?_;unfold zm al sF Ko;have k1:=Upd.hnew No h [.string p.1,.string p.2] af;have b1:=bN h [.string p.1,.string p.2] af;refine aX ?_;simp only[cr h];generalize hnew h [.string p.1,.string p.2] af=h1 at k1 b1;have g:∀{h':ac},Upd No h1 h'→∀i,aF h' (adr ⟨h.size,0,none⟩ i)=(#[.string p.1,.string p.2]:Array Value)[i]?:=fun k i=>by rw[bO,aP (k.get0 b1),aC]
 have B:=Upd.refl No h1;refine⟨p.1,g B 0,p.2,g B 1,CF (t.upd0 k1) (fun y n=>aG (A y n) k1.size) fun P b I c H=>⟨g c 1,g c 0,?_⟩⟩
 obtain⟨w,F,G,N,C⟩:=I.ex;refine KK (p.1.size+1) p.1 p.2 (by omega) E G (fun y n=>aG (A y n) (k1.tr c).size) N fun J b3 w' D a O z x s o m u=>?_
 refine L J b3 a ((k1.tr c).tr z) ⟨w',D,x,s,fun k v=>?_⟩ fun hm=>?_
 ·rw[po,o k v,←po,C k v]
  constructor
  ·rintro(⟨rfl,rfl⟩|⟨d,q,f,rfl,rfl⟩)
   ·exact⟨p,(nu j).2 (.inl rfl),rfl,rfl⟩
   ·exact⟨q,(nu j).2 (.inr ⟨f,fun e=>d (by rw[e])⟩),rfl,rfl⟩
  ·rintro⟨q,f,rfl,rfl⟩
   rcases(nu j).1 f with rfl|⟨f,d⟩
   ·exact .inl ⟨rfl,rfl⟩
   ·exact .inr ⟨fun e=>d (rU.1 e),q,f,rfl,rfl⟩
 ·have:=u (po.1 ((C _ _).2 ⟨p,hm,rfl,rfl⟩))
  rw[(m this).1];exact H
end Go.Proofs
namespace Go.Proofs
open Go Go.Lift
theorem bA{h:ac}{cs:List Value}{t:TypeId}{k:ac→Prop}(a:∀h',h'[h.size]? =some (.cells cs.toArray t (0,0))→Upd No h h'→k h'):At (hnew h cs t) k:=
 aX (a _ (bN h cs t) (Upd.hnew No h cs t))
theorem vc{h:ac}{b:Nat}{c:Array Value}{t:TypeId}(a:h[b]? =some (.cells c t (0,0))) (i:Nat):aF h (adr ⟨b,0,none⟩ i)=c[i]?:=by rw[bO,aC];exact aP a
theorem wa{h:ac}{b:Nat}{c:Array Value}{t:TypeId}(a:h[b]? =some (.cells c t (0,0))) (i j:Nat):aF h (adr (adr ⟨b,0,none⟩ i) j)=c[i+j]?:=by rw[bO,bO,aC];exact aP a
theorem Ak{h:ac}{b i:Nat}{c c':Array Value}{t:TypeId}{v:Value}{k:ac→Prop}(d:h[b]? =some (.cells c t (0,0))) (hi:i<c.size) (e:c.setIfInBounds i v=c') (g:∀h',h'[b]? =some (.cells c' t (0,0))→Upd (· =b) h h'→k h'):Wr h (adr ⟨b,0,none⟩ i)∧At (hset h (adr ⟨b,0,none⟩ i) v) k:=by
 rw[bO,aC];exact⟨gR d hi,vD d fun h' a f=>g h' (e▸a) f⟩
theorem _root_.Go.Lift.Upd.own{h c a:ac}{b:Nat}(k:Upd No h c)(d:Upd (· =b) c a)(e:h.size≤b):Upd No h a:=k.trans d fun x hx=>.inr (by have hx:x=b:=hx;omega)
theorem _root_.Go.Lift.Upd.oth{h h':ac}{b c:Nat}{o:Obj}(d:Upd (· =b) h h')(hc:h[c]? =some o) (a:c≠b):h'[c]? =some o:=d.get hc a
abbrev Tr:=Int×Int×Int×Int×(Option Addr)×(Option Addr)
abbrev sA(t:Tr):List Value:= [.int .i64 t.1,.int .u64 t.2.1,.int .u64 t.2.2.1,.int .u64 t.2.2.2.1,.pointer t.2.2.2.2.1,.pointer t.2.2.2.2.2]
abbrev H9(t:Tr):Value:=.agg #[.int .i64 t.1,.int .u64 t.2.1,.int .u64 t.2.2.1,.int .u64 t.2.2.2.1,.pointer t.2.2.2.2.1,.pointer t.2.2.2.2.2]
def Pro(W:Nat→Prop)(h a:ac)(y:Nat):Prop:=W y∨(h.size≤y∧y<a.size)
theorem Pro.lt{W:Nat→Prop}{h a:ac}(c:∀y,W y→y<h.size)(k:Upd No h a):∀y,Pro W h a y→y<a.size:=fun y b=>b.elim (fun h=>aG (c y h) k.size) fun h=>h.2
theorem Pro.hm{W:Nat→Prop}{h a:ac}:∀y,Pro W h a y→W y∨h.size≤y:=fun _ b=>b.imp id fun h=>h.1
theorem Pro.sub{W:Nat→Prop}{h b a:ac}:∀y,W y→Pro W h b y∨a.size≤y:=fun _ c=>.inl (.inl c)
theorem RootAt.less{W W':Nat→Prop}{x:Hs}{h:ac}(hm:∀b,W' b→W b∨h.size≤b){r:Option Addr}{l:List Pr}(t:RootAt W x h r l):RootAt W' x h r l:=t.imp id fun⟨b,e,t⟩=>⟨b,e,TrieAt.less hm t⟩
theorem RadRoot.less{W W':Nat→Prop}{h:ac}(hm:∀b,W' b→W b∨h.size≤b){r:Option Addr}{l:List Pr}(t:RadRoot W h r l):RadRoot W' h r l:=t.imp id fun⟨b,e,t⟩=>⟨b,e,t.less hm⟩
def TreeIs(W:Nat→Prop)(h:ac)(kind:Int)(x:Hs)(t:Tr)(l:List Pr):Prop:=(kind=0∧∃b,t=(0,x.k0,x.k1,x.mask,some ⟨b,0,none⟩,none)∧TrieAt W x h 13 b l)∨(kind=1∧∃b,t=(1,0,0,0,none,some ⟨b,0,none⟩)∧RadAt W h b l)
theorem TreeIs.upd0{W:Nat→Prop}{h h':ac}{kind:Int}{x:Hs}{t:Tr}{l:List Pr}(k:Upd No h h')(i:TreeIs W h kind x t l):TreeIs W h' kind x t l:=
 i.imp (fun⟨e,b,a,t⟩=>⟨e,b,a,TrieAt.upd0 k t⟩) fun⟨e,b,a,t⟩=>⟨e,b,a,t.upd0 k⟩
theorem TreeIs.less{W W':Nat→Prop}{h:ac}(hm:∀b,W' b→W b∨h.size≤b){kind:Int}{x:Hs}{t:Tr}{l:List Pr}(i:TreeIs W h kind x t l):TreeIs W' h kind x t l:=
 i.imp (fun⟨e,b,a,t⟩=>⟨e,b,a,TrieAt.less hm t⟩) fun⟨e,b,a,t⟩=>⟨e,b,a,t.less hm⟩
theorem TreeIs.updM{W M:Nat→Prop}{h h':ac}(k:Upd M h h')(hm:∀b,M b→W b∨h.size≤b){kind:Int}{x:Hs}{t:Tr}{l:List Pr}(i:TreeIs W h kind x t l):TreeIs W h' kind x t l:=
 i.imp (fun⟨e,b,a,t⟩=>⟨e,b,a,TrieAt.updM k hm t⟩) fun⟨e,b,a,t⟩=>⟨e,b,a,t.updM k hm⟩
theorem TreeIs.pro{W:Nat→Prop}{h a:ac}(k:Upd No h a){kind:Int}{x:Hs}{t:Tr}{l:List Pr}(i:TreeIs W h kind x t l):TreeIs (Pro W h a) a kind x t l:=(i.less Pro.hm).upd0 k
theorem Cb{W:Nat→Prop}{x:Hs}{h:ac}(d:∀y,W y→y<h.size){K:Option Addr→ac→Prop}(c:∀h' b,TrieAt W x h' 13 b []→Upd No h h'→K (some ⟨b,0,none⟩) h'):HC PG nf [] [.c .ptr] K h:=by
 refine uD ?_;unfold qZ;exact oV d fun h' b nd a=>c h' b (EJ nd) a
abbrev Dw:Tr:=(0,0,0,0,none,none)
theorem EM{W:Nat→Prop}{x:Hs}{h:ac}{r:Option Addr}{l:List Pr}(t:RootAt W x h r l)(p:∀y,W y→y<h.size){K:Tr→ac→Prop}(s:∀h' t,TreeIs W h' 0 x t l→Upd No h h'→K t h'):HC PG px [.agg #[.int .u64 x.k0,.int .u64 x.k1,.int .u64 x.mask],.pointer r] [.agg [.int .i64,.int .u64,.int .u64,.int .u64,.ptr,.ptr]] K h:=by
 refine Bw (x.k0,x.k1,x.mask) r ?_;unfold tO av ae eg Gh ai BP Kk;refine bA fun j b1 k1=>bA fun k b2 m=>?_
 have w:=aW b1;have v:=aW b2;have d:=k1.tr m;refine Join.intro (fun t h'=>Upd No k h'∧∃b,t=some ⟨b,0,none⟩∧TrieAt (Pro W h k) x h' 13 b l) (fun R n=>?_) ?_
 ·rcases t with⟨rfl,rfl⟩|⟨b,rfl,t⟩
  ·exact aB.2 (Cb (Pro.lt p d) fun u b t a=>n _ _ ⟨a,b,rfl,t⟩)
  ·exact ak.2 (n _ _ ⟨Upd.refl _ _,b,rfl,TrieAt.upd0 d (TrieAt.less Pro.hm t)⟩)
 ·rintro o u ⟨a,b,rfl,o⟩
  have c1:=a.get0 (m.get0 b1);refine⟨_,vc c1 0,_,vc c1 1,_,vc c1 2,?_⟩;refine dW (c:=sA Dw) (vs:=sA (0,x.k0,x.k1,x.mask,some ⟨b,0,none⟩,none)) (a.get0 b2) rfl fun q e f=>?_
  refine⟨_,vc e 0,_,vc e 1,_,vc e 2,_,vc e 3,_,vc e 4,_,vc e 5,?_⟩;have g:h.size≤j.size:=k1.size;exact s q _ (.inl ⟨rfl,b,rfl,TrieAt.less Pro.sub (TrieAt.updM f (fun y i=>.inl (.inr (by have i:y=j.size:=i;omega))) o)⟩) ((d.tr a).own f g)
theorem EL{W:Nat→Prop}{x:Hs}{h:ac}{r:Option Addr}{l:List Pr}(t:RadRoot W h r l)(m:∀y,W y→y<h.size){K:Tr→ac→Prop}(o:∀h' t,TreeIs W h' 1 x t l→Upd No h h'→K t h'):HC PG pw [.pointer r] [.agg [.int .i64,.int .u64,.int .u64,.int .u64,.ptr,.ptr]] K h:=by
 refine Bv r ?_;unfold tN av ae eg ai BP Kk;refine bA fun j b2 d=>?_
 have q:=aW b2;refine Join.intro (fun t h'=>Upd No j h'∧∃b,t=some ⟨b,0,none⟩∧RadAt (Pro W h j) h' b l) (fun R i=>?_) ?_
 ·rcases t with⟨rfl,rfl⟩|⟨b,rfl,t⟩
  ·exact aB.2 (AA (Pro.lt m d) fun p b t a=>i _ _ ⟨a,b,rfl,t⟩)
  ·exact ak.2 (i _ _ ⟨Upd.refl _ _,b,rfl,(t.less Pro.hm).upd0 d⟩)
 ·rintro g p ⟨a,b,rfl,g⟩
  refine dW (c:=sA Dw) (vs:=sA (1,0,0,0,none,some ⟨b,0,none⟩)) (a.get0 b2) rfl fun n e f=>?_
  refine⟨_,vc e 0,_,vc e 1,_,vc e 2,_,vc e 3,_,vc e 4,_,vc e 5,?_⟩;exact o n _ (.inr ⟨rfl,b,rfl,(g.updM f (fun y k=>.inl (.inr (by have k:y=h.size:=k;omega)))).less Pro.sub⟩) ((d.tr a).own f (aq _))
theorem Me{W:Nat→Prop}{x:Hs}{h:ac}(n:∀y,W y→y<h.size){kind:Int}(k:kind=0∨kind=1){K:Tr×Int→ac→Prop}(o:∀h' t,TreeIs W h' kind x t []→Upd No h h'→K (t,0) h'):HC PG vq [.int .i64 kind,.agg #[.int .u64 x.k0,.int .u64 x.k1,.int .u64 x.mask]] [.agg [.int .i64,.int .u64,.int .u64,.int .u64,.ptr,.ptr],.c (.int .i64)] K h:=by
 refine HJ kind (x.k0,x.k1,x.mask) ?_;unfold BD av ae eg Gh Cy ai BP ug;refine bA fun i b1 k1=>bA fun q b2 p=>?_
 have v:=aW b1;have u:=aW b2;have e:=k1.tr p;have g:h.size≤i.size:=k1.size;have c1:=p.get0 b1;rcases k with rfl|rfl
 ·refine aB.2 ⟨_,vc c1 0,_,vc c1 1,_,vc c1 2,?_⟩
  refine EM (W:=Pro W h q) (x:=x) (l:= []) (.inl ⟨rfl,rfl⟩) (Pro.lt n e) fun s t m b=>?_
  refine dW (c:=sA Dw) (vs:=sA t) (b.get0 b2) rfl fun j a d=>?_
  refine⟨_,vc a 0,_,vc a 1,_,vc a 2,_,vc a 3,_,vc a 4,_,vc a 5,?_⟩;exact o j t ((m.updM d (fun y f=>.inl (.inr (by have f:y=i.size:=f;omega)))).less Pro.sub) ((e.tr b).own d g)
 ·refine ak.2 (aB.2 ?_)
  refine EL (W:=Pro W h q) (x:=x) (l:= []) (.inl ⟨rfl,rfl⟩) (Pro.lt n e) fun s t m b=>?_
  refine dW (c:=sA Dw) (vs:=sA t) (b.get0 b2) rfl fun j a d=>?_
  refine⟨_,vc a 0,_,vc a 1,_,vc a 2,_,vc a 3,_,vc a 4,_,vc a 5,?_⟩;exact o j t ((m.updM d (fun y f=>.inl (.inr (by have f:y=i.size:=f;omega)))).less Pro.sub) ((e.tr b).own d g)
theorem Jm{k v:ByteArray}(b:k.size≤256)(c:v.size≤4096){h:ac}{K:Int→ac→Prop}(a:K 0 h):HC PG rS [.string k,.string v] [.c (.int .i64)] K h:=by
 refine Ep k v ?_;unfold xu;refine aE (fun h=>absurd h (by omega)) fun _=>aE (fun h=>absurd h (by omega)) fun _=>a
theorem KB{W:Nat→Prop}{x:Hs}{h:ac}{kind:Int}{t:Tr}{l:List Pr}(i:TreeIs W h kind x t l)(L:∀y,W y→y<h.size)(G:di l)(N:l.length≤1000000)(p:Pr)(z:p.1.size≤256)(w:p.2.size≤4096){K:Tr×Int→ac→Prop}
  (H:∀h' t',TreeIs W h' kind x t' (eX p l)→(p∈l→t'=t)→Upd No h h'→K (t',0) h'):HC PG mM [H9 t,.pointer none,.agg #[.string p.1,.string p.2]] [.agg [.int .i64,.int .u64,.int .u64,.int .u64,.ptr,.ptr],.c (.int .i64)] K h:=by
 refine yw t none p ?_;unfold rq av ae al eg dJ Cy kB pf sF ai BP ug gr Kk;refine bA fun I b1 k1=>bA fun D b2 F=>bA fun T b3 v=>?_
 have V:=aW b1;have Q:=aW b2;have U:=aW b3;have R:h.size≤I.size:=k1.size;have X:I.size≤D.size:=F.size;have S:=v.size;have n:=(k1.tr F).tr v;have o:=v.get0 (F.get0 b1);have s:=v.get0 b2;have J:=i.pro n;have u:=Pro.lt L n;refine⟨_,vc s 0,_,vc s 1,Jm z w (ak.2 ?_)⟩;rcases J with⟨rfl,b,rfl,A⟩|⟨rfl,b,rfl,A⟩
 ·refine⟨_,vc o 0,ak.2 ⟨_,wa o 1 0,_,wa o 1 1,_,wa o 1 2,_,vc o 4,p.1,vc s 0,p.2,vc s 1,?_⟩⟩
  refine FP (.inr ⟨b,rfl,A⟩) u G N p fun O q d E a=>?_
  refine Ak (i:=4) (c':=(sA (0,x.k0,x.k1,x.mask,some ⟨q,0,none⟩,none)).toArray) (d.get0 o) (show 4<6 by decide) rfl fun P j f=>?_
  refine⟨_,vc j 0,_,vc j 1,_,vc j 2,_,vc j 3,_,vc j 4,_,vc j 5,?_⟩;refine dW (c:=sA Dw) (vs:=sA (0,x.k0,x.k1,x.mask,some ⟨q,0,none⟩,none)) (f.oth (d.get0 b3) (by omega)) rfl fun B g k=>?_
  refine⟨_,vc g 0,_,vc g 1,_,vc g 2,_,vc g 3,_,vc g 4,_,vc g 5,?_⟩;refine H B _ (.inl ⟨rfl,q,rfl,TrieAt.less Pro.sub (TrieAt.updM k (fun y m=>.inl (.inr (by have m:y=D.size:=m;omega))) (TrieAt.updM f (fun y m=>.inl (.inr (by have m:y=h.size:=m;omega))) E))⟩) (fun hm=>?_) (((n.tr d).own f (aq _)).own k (by omega))
  rcases a hm with e|e
  ·rw[e]
  ·cases e
 ·refine⟨_,vc o 0,aB.2 ⟨_,vc o 5,p.1,vc s 0,p.2,vc s 1,?_⟩⟩
  refine E1 (.inr ⟨b,rfl,A⟩) u G p (by omega) fun O q C d E a=>?_
  refine Ak (i:=5) (c':=(sA (1,0,0,0,none,some ⟨q,0,none⟩)).toArray) (d.get0 o) (show 5<6 by decide) rfl fun P j f=>?_
  refine⟨_,vc j 0,_,vc j 1,_,vc j 2,_,vc j 3,_,vc j 4,_,vc j 5,?_⟩;refine dW (c:=sA Dw) (vs:=sA (1,0,0,0,none,some ⟨q,0,none⟩)) (f.oth (d.get0 b3) (by omega)) rfl fun B g k=>?_
  refine⟨_,vc g 0,_,vc g 1,_,vc g 2,_,vc g 3,_,vc g 4,_,vc g 5,?_⟩;refine H B _ (.inr ⟨rfl,q,rfl,((E.updM f (fun y m=>.inl (.inr (by have m:y=h.size:=m;omega)))).updM k (fun y m=>.inl (.inr (by have m:y=D.size:=m;omega)))).less Pro.sub⟩) (fun hm=>?_) (((n.tr d).own f (aq _)).own k (by omega))
  rcases a hm with e|e
  ·rw[e]
  ·cases e
end Go.Proofs
namespace Go.Proofs
open Go Go.Lift
def Fp(t u:Tr):Bool:=(t.1==u.1)&&((((t.2.1==u.2.1)&&((t.2.2.1==u.2.2.1)&&true)))&&((t.2.2.2.1==u.2.2.2.1)&&true))
theorem KC{t u:Tr}{h:ac}{K:Bool→ac→Prop}(c:∀h',Upd No h h'→K (Fp t u) h'):HC PG sZ [H9 t,H9 u] [.c .bool] K h:=by
 refine FX t u ?_;unfold zi av ug gr;refine bA fun d b1 k1=>bA fun b b2 a=>?_
 have c1:=a.get0 b1;refine⟨_,vc c1 0,_,vc b2 0,?_⟩;have:=c b (k1.tr a);unfold Fp at this;rcases hb:(t.1==u.1)with _|_
 ·rw[hb]at this
  exact ak.2 this
 ·rw[hb]at this
  exact aB.2 ⟨_,wa c1 1 0,_,wa c1 1 1,_,wa c1 1 2,_,wa b2 1 0,_,wa b2 1 1,_,wa b2 1 2,this⟩
theorem TreeIs.plain{W:Nat→Prop}{h:ac}{kind:Int}{x:Hs}{t:Tr}{l:List Pr}(i:TreeIs W h kind x t l):(∀a,t.2.2.2.2.1=some a→fP h a)∧(∀a,t.2.2.2.2.2=some a→fP h a):=by
 rcases i with⟨rfl,b,rfl,t⟩|⟨rfl,b,rfl,t⟩
 ·obtain⟨s,nd,_⟩:=t
  obtain⟨d,n,sp,sk,ow,e,_⟩:=nd.ex;refine⟨fun a c=>?_,fun a c=>(by cases c)⟩
  cases c;exact⟨_,_,e,show 0<6 by decide⟩
 ·obtain⟨w,F,⟨val,s,ow,ks,e,_⟩,_⟩:=t.ex
  refine⟨fun a c=>(by cases c),fun a c=>?_⟩
  cases c;exact⟨_,_,e,show 0<5 by decide⟩
end Go.Proofs
namespace Go.Proofs
open Go Go.Lift
abbrev kStr:KeyE ByteArray:=⟨fun s=>.string s,.str,fun x=>⟨x,rfl⟩,fun x y=>⟨fun e=>r9 e,fun e=>by subst e;exact tA x⟩⟩
abbrev TD:=Tr×List Pr
abbrev Pm(d:TD):Value:=H9 d.1
abbrev MG(n:Int):Value:=.int .u32 n
structure VS where
 gp:Nat
 gm:Nat
 tm:Nat
 bm:Nat
 nm:Nat
 kind:Int
 x:Hs
 e:Tr
 L:fu
 nx:Int
 D:List (Int×TD)
 B:List (ByteArray×Int)
 G:List (ByteArray×Int)
def VS.M(s:VS):Nat→Prop:=fun y=>y=s.gp∨y=s.gm∨y=s.tm∨y=s.bm∨y=s.nm
structure VaultAt(W:Nat→Prop)(h:ac)(vp:Nat)(s:VS):Prop where
 blk:h[vp]? =some (.cells (sA s.e++ [Value.pointer (some ⟨s.gp,0,none⟩),Value.map (some s.tm),Value.map (some s.bm),Value.map (some s.nm)]).toArray bM (0,0))
 g:GraphAt W h s.gp s.gm s.L s.nx
 t:MapAt KE Pm h s.tm s.D
 b:MapAt kStr MG h s.bm s.B
 n:MapAt kStr MG h s.nm s.G
 w:∀y,s.M y→W y
 wv:¬W vp
 ne: [s.gp,s.gm,s.tm,s.bm,s.nm].Nodup
 em:TreeIs W h s.kind s.x s.e []
 ts:∀d∈s.D,TreeIs W h s.kind s.x d.2.1 d.2.2∧di d.2.2∧Fit d.2.2
 sub:∀id,id∈s.D.map (·.1)↔id∈ids s.L
 inv:Inv s.L s.nx
 kd:s.kind=0∨s.kind=1
theorem VaultAt.upd{W M:Nat→Prop}{h h':ac}{c:Nat}{s:VS}(v:VaultAt W h c s)(k:Upd M h h')(hm:∀b,M b→(W b∧¬s.M b)∨h.size≤b):VaultAt W h' c s:=by
 have g:∀y,s.M y→¬M y:=fun y j a=>(hm y a).elim (fun e=>e.2 j) fun e=>absurd (v.g.lt y (v.w y j)) (by omega)
 have i:∀b,M b→W b∨h.size≤b:=fun b a=>(hm b a).imp (·.1) id
 have m:¬M c:=fun a=>(hm c a).elim (fun e=>v.wv e.1) fun e=>absurd (aW v.blk) (by omega)
 exact⟨k.get v.blk m,v.g.upd k fun b a=>(hm b a).imp (fun e=>⟨e.1,fun f=>e.2 (.inl f),fun f=>e.2 (.inr (.inl f))⟩) id,v.t.upd k (g _ (.inr (.inr (.inl rfl)))),v.b.upd k (g _ (.inr (.inr (.inr (.inl rfl))))),v.n.upd k (g _ (.inr (.inr (.inr (.inr rfl))))),v.w,v.wv,v.ne,v.em.updM k i,fun d hd=>⟨(v.ts d hd).1.updM k i,(v.ts d hd).2⟩,v.sub,v.inv,v.kd⟩
theorem VaultAt.upd0{W:Nat→Prop}{h h':ac}{a:Nat}{s:VS}(v:VaultAt W h a s)(k:Upd No h h'):VaultAt W h' a s:=v.upd k fun _ h=>h.elim
end Go.Proofs
namespace Go.Proofs
open Go Go.Lift
end Go.Proofs
namespace Go.Proofs
open Go Go.Lift
section
variable {W:Nat→Prop} {h:ac} {vp:Nat} {s:VS}
abbrev pV(a:Nat):Value:=.pointer (some ⟨a,0,none⟩)
theorem L9(v:VaultAt W h vp s)(id:Int){K:Bool→ac→Prop}(a:K (decide (id=0∨id∈ids s.L)) h):HC PG lW [pV vp,.int .u32 id] [.c .bool] K h:=by
 refine w7 (some ⟨vp,0,none⟩) id ?_;unfold qt gt IS;refine CondP.intro (fun e=>?_) fun e=>⟨_,rfl,_,vc v.blk 6,Iz v.g id ?_⟩
 ·rw[decide_eq_true (.inl (by simpa using e))]at a;exact a
 ·have e:id≠0:=by simpa using e
  rw[show decide (id=0∨id∈ids s.L)=decide (id∈ids s.L)from by simp[e]]at a;exact a
theorem EI(v:VaultAt W h vp s)(n:ByteArray){K:Int×Bool→ac→Prop}(a:K ((dh s.B n).getD 0,(dh s.B n).isSome) h):HC PG iQ [pV vp,.string n] [.c (.int .u32),.c .bool] K h:=by
 refine vG (some ⟨vp,0,none⟩) n ?_;unfold pL bB;exact CondP.intro (fun e=>by cases e) fun _=>⟨_,rfl,_,vc v.blk 8,_,_,v.b.get n 0,a⟩
theorem Kq(v:VaultAt W h vp s)(id:Int){K:Tr×Int→ac→Prop}(n:id=0→∀h',Upd No h h'→K (s.e,0) h')(m:∀d,dh s.D id=some d→id≠0→∀h',Upd No h h'→K (d.1,0) h')(k:dh s.D id=none→id≠0→∀h',Upd No h h'→K (Dw,4) h'):
  HC PG gu [pV vp,.int .u32 id] [.agg [.int .i64,.int .u64,.int .u64,.int .u64,.ptr,.ptr],.c (.int .i64)] K h:=by
 refine vF (some ⟨vp,0,none⟩) id ?_;unfold pK bB av CO ae eg nv ai BP ug gr gt Kk zg8 Ka;refine bA fun u b1 k1=>CondP.intro (fun e=>by cases e) fun _=>?_
 have c:=k1.get0 v.blk;refine CondP.intro (fun e=>⟨_,rfl,?_⟩) fun e=>⟨_,rfl,_,vc c 7,((dh s.D id).getD (Dw,[])).1,_,(v.t.upd k1 fun h=>h).get id (Dw,[]),bA fun q b2 p=>?_⟩
 ·refine⟨_,wa c 0 0,_,wa c 0 1,_,wa c 0 2,_,wa c 0 3,_,wa c 0 4,_,wa c 0 5,?_⟩
  refine dW (c:=sA Dw) (vs:=sA s.e) b1 rfl fun q b2 i=>?_
  exact⟨_,vc b2 0,_,vc b2 1,_,vc b2 2,_,vc b2 3,_,vc b2 4,_,vc b2 5,n (by simpa using e) q (k1.own i (aq _))⟩
 ·have e:id≠0:=by simpa using e
  have x:=aW b1;have w:=k1.size;refine dW (c:=sA Dw) (vs:=sA ((dh s.D id).getD (Dw,[])).1) b2 rfl fun t b3 f=>?_
  have g:=f.oth (p.get0 b1) (by omega);have o:Upd No h t:=(k1.tr p).own f k1.size;cases hl:dh s.D id with
  |none=>
   refine aB.2 (dW (c:=sA Dw) (vs:=sA Dw) g rfl fun j a b=>?_)
   exact⟨_,vc a 0,_,vc a 1,_,vc a 2,_,vc a 3,_,vc a 4,_,vc a 5,k hl e j (o.own b (aq _))⟩
  |some d=>
   rw[hl]at b3;refine ak.2 ⟨_,vc b3 0,_,vc b3 1,_,vc b3 2,_,vc b3 3,_,vc b3 4,_,vc b3 5,?_⟩;refine dW (c:=sA Dw) (vs:=sA d.1) g rfl fun j a b=>?_
   exact⟨_,vc a 0,_,vc a 1,_,vc a 2,_,vc a 3,_,vc a 4,_,vc a 5,m d hl e j (o.own b (aq _))⟩
theorem VaultAt.turn{M:Nat→Prop}{h':ac}{L:fu}{nx:Int}{D:List (Int×TD)}{B G:List (ByteArray×Int)}(v:VaultAt W h vp s)(k:Upd M h h')(hm:∀b,M b→W b∨h.size≤b)(g:GraphAt W h' s.gp s.gm L nx)(t:MapAt KE Pm h' s.tm D)(b:MapAt kStr MG h' s.bm B)(n:MapAt kStr MG h' s.nm G)
  (ts:∀d∈D,d∈s.D∨TreeIs W h' s.kind s.x d.2.1 d.2.2∧di d.2.2∧Fit d.2.2)(sub:∀id,id∈D.map (·.1)↔id∈ids L)(inv:Inv L nx):VaultAt W h' vp {s with L:=L,nx:=nx,D:=D,B:=B,G:=G}:=by
 have a:¬M vp:=fun c=>(hm vp c).elim (fun e=>v.wv e) fun e=>absurd (aW v.blk) (by omega)
 exact⟨k.get v.blk a,g,t,b,n,v.w,v.wv,v.ne,v.em.updM k hm,fun d hd=>(ts d hd).elim (fun e=>⟨(v.ts d e).1.updM k hm,(v.ts d e).2⟩) id,sub,inv,v.kd⟩
end
end Go.Proofs
namespace Go.Proofs
open Go Go.Lift
def ze(b:UInt8):Bool:=decide (33≤b.toNat)&&decide (b.toNat≤126)
def sG(n:ByteArray):Bool:=decide (1≤n.size)&&decide (n.size≤32)&&n.data.toList.all ze
theorem LG{b:UInt8}{h:ac}{K:Bool→ac→Prop}(a:K (!ze b) h):HC PG od [.int .u8 b.toNat] [.c .bool] K h:=by
 refine zG b.toNat ?_;unfold sf;refine aE (fun e=>?_) fun e=>?_
 ·rw[show(!ze b)=true from by simp[ze];omega]at a;exact a
 ·rw[show(!ze b)=decide ((b.toNat:Int)>126)from by unfold ze;rw[decide_eq_true (by omega:33≤b.toNat),Bool.true_and,←decide_not,decide_eq_decide];omega]at a;exact a
theorem IT{n:ByteArray}{h:ac}{K:Bool→ac→Prop}(f:∀h',Upd No h h'→K (sG n) h'):HC PG qO [.string n] [.c .bool] K h:=by
 refine Ce n ?_;unfold uF;refine Join.plain (aE (fun e=>aB.2 ?_) fun e=>aE (fun o=>?_) fun o=>?_)
 ·rw[show sG n=false from by simp[sG];omega]at f;exact f _ (Upd.refl _ _)
 ·rw[show sG n=false from by simp[sG];omega]at f;exact f _ (Upd.refl _ _)
 ·refine fun c hc=>?_
  have k1:=Upd.push No h (.cells (dy n++eE (c-n.size) (Value.int .u8 0)).toArray Aq (c,c+1));have b1:=pj h (.cells (dy n++eE (c-n.size) (Value.int .u8 0)).toArray Aq (c,c+1));generalize h.push (.cells (dy n++eE (c-n.size) (Value.int .u8 0)).toArray Aq (c,c+1))=h1 at k1 b1;have d:n.data.toList.length=n.size:=Array.length_toList;refine lQ ⟨some (bc h),n.size,c⟩ _ ?_
  unfold gQ;refine mU ⟨some (bc h),n.size,c⟩ _ ?_;unfold iw bB dw;refine LoopP.ghost (fun(i:Nat) (t:Int) h'=>t=(i:Int)∧h'=h1∧i≤n.size∧∀b∈n.data.toList.take i,ze b=true) (fun i=>n.size-i) 0 ⟨rfl,rfl,cj _,by simp⟩ ?_
  rintro I i t h' ⟨rfl,rfl,hi,j⟩ m;refine aE (fun a=>?_) fun k=>?_
  ·have a:i<n.data.toList.length:=by rw[d];simp only at a;omega
   refine⟨by simp only;omega,bc h,rfl,(n.data.toList[i].toNat:Int),?_,?_⟩
   ·rw[Ho b1,fz,aL,Nat.mul_one,List.getElem?_append_left (by simp[dy];omega)]
    simp[dy,d▸a]
   ·refine HV.mk' (LG (b:=n.data.toList[i]) (CondP.intro (fun e=>?_) fun e=>?_))
    ·rw[show sG n=false from ?_]at f
     ·rw[decide_eq_true (by omega)];exact f _ k1
     ·unfold sG
      rw[show n.data.toList.all ze=false from List.all_eq_false.2 ⟨_,cR a,by simpa using e⟩,Bool.and_false]
    ·rw[ec (n:=n.size) (by omega) (by omega)]
     refine m (i+1) _ _ ⟨rfl,rfl,by omega,?_⟩ (by omega)
     rw[List.take_succ_eq_append_getElem a];intro b g;rcases bq.1 g with g|g
     ·exact j b g
     ·rw[aw.1 g];simpa using e
  ·have:i=n.size:=by simp only at k;omega
   subst this;rw[←d,cQ]at j;rw[show sG n=true from by unfold sG;rw[List.all_eq_true.2 j];simp;omega]at f
   exact f _ k1
def tC(B:List (ByteArray×Int))(L:fu)(n:ByteArray)(id:Int)(no:Bool):Int:=if sG n=false then 1 else if(dh B n).isSome then 7 else if no|| !decide (id=0∨id∈ids L)then 4 else if B.length≥256 then 6 else 0
theorem M5{W:Nat→Prop}{h:ac}{f:Nat}{s:VS}(v:VaultAt W h f s){r:Nat}{B:List (ByteArray×Int)}(m:MapAt kStr MG h r B)(n:ByteArray)(id:Int)(no:Bool){K:Int→ac→Prop}
  (o:∀h',Upd (· =r) h h'→MapAt kStr MG h' r (if tC B s.L n id no=0 then ke B n id else B)→K (tC B s.L n id no) h'):HC PG lV [.map (some r),pV f,.string n,.int .u32 id,.bool no] [.c (.int .i64)] K h:=by
 refine w6 (some r) (some ⟨f,0,none⟩) n id no ?_;unfold qs IS;refine⟨_,_,m.get n 0,IT fun j k1=>?_⟩
 have a:∀e h',tC B s.L n id no=e→e≠0→Upd No h h'→K e h':=fun e h' u x i=>by
  have:=o h' i.wide;rw[u,if_neg x]at this;exact this (m.upd i fun h=>h)
 refine CondP.intro (fun e=>a 1 j ?_ (by decide) k1) fun e=>CondP.intro (fun c=>a 7 j ?_ (by decide) k1) fun c=>?_
 ·unfold tC;rw[if_pos (by simpa using e)]
 ·unfold tC;rw[if_neg (by simpa using e),if_pos c]
 ·have e:¬sG n=false:=by simpa using e
  have c:¬(dh B n).isSome=true:=by simp[c]
  refine Join.intro (fun t h'=>t=(no|| !decide (id=0∨id∈ids s.L))∧Upd No h h') (fun R p=>?_) ?_
  ·refine CondP.intro (fun b=>p _ _ ⟨by rw[b];rfl,k1⟩) fun b=>L9 (v.upd0 k1) id (p _ _ ⟨by rw[b];rfl,k1⟩)
  ·rintro t g ⟨rfl,d⟩
   refine CondP.intro (fun b=>a 4 g ?_ (by decide) d) fun b=>⟨_,(m.upd d fun h=>h).len,aE (fun w=>a 6 g ?_ (by decide) d) fun w=>?_⟩
   ·unfold tC;rw[if_neg e,if_neg c,if_pos b]
   ·unfold tC;rw[if_neg e,if_neg c,if_neg (by rw[b];decide),if_pos (by omega)]
   ·have k:=m.upd d fun h=>h
    have q:tC B s.L n id no=0:=by unfold tC;rw[if_neg e,if_neg c,if_neg (by rw[b];decide),if_neg (by omega)]
    refine⟨r,rfl,k.isMap,?_⟩;have:=o _ ((d.wide).tr (wg (M:=(· =r)) g (.string n) (.int .u32 id) rfl))
    rw[q,if_pos rfl]at this;exact this (k.put n id)
theorem VS.neB{s:VS}(h: [s.gp,s.gm,s.tm,s.bm,s.nm].Nodup):s.gp≠s.gm∧s.gp≠s.tm∧s.gp≠s.bm∧s.gp≠s.nm∧s.gm≠s.tm∧s.gm≠s.bm∧s.gm≠s.nm∧s.tm≠s.bm∧s.tm≠s.nm∧s.bm≠s.nm:=by
 simp only[List.nodup_cons,au,List.not_mem_nil,or_false,not_or]at h;exact⟨h.1.1,h.1.2.1,h.1.2.2.1,h.1.2.2.2,h.2.1.1,h.2.1.2.1,h.2.1.2.2,h.2.2.1.1,h.2.2.1.2,h.2.2.2.1⟩
theorem VaultAt.setB{W:Nat→Prop}{h h':ac}{g:Nat}{s:VS}{B:List (ByteArray×Int)}(v:VaultAt W h g s)(k:Upd (· =s.bm) h h')(b:MapAt kStr MG h' s.bm B):VaultAt W h' g {s with B:=B}:=by
 obtain⟨o,q,m,u,n,j,p,i,t,c⟩:=VS.neB v.ne;have f:∀b,b=s.bm→W b:=fun b e=>v.w b (.inr (.inr (.inr (.inl e))))
 exact v.turn k (fun b e=>.inl (f b e)) (v.g.upd k fun b e=>.inl ⟨f b e,fun a=>m (a.symm.trans e),fun a=>j (a.symm.trans e)⟩) (v.t.upd k i) b (v.n.upd k fun e=>c e.symm) (fun d hd=>.inl hd) v.sub v.inv
theorem Gr{W:Nat→Prop}{h:ac}{a:Nat}{s:VS}(v:VaultAt W h a s)(n:ByteArray)(id:Int){K:Int→ac→Prop}
  (c:∀h',Upd (· =s.bm) h h'→VaultAt W h' a {s with B:=if tC s.B s.L n id false=0 then ke s.B n id else s.B}→K (tC s.B s.L n id false) h'):HC PG jM [pV a,.string n,.int .u32 id] [.c (.int .i64)] K h:=by
 refine tF (some ⟨a,0,none⟩) n id ?_;unfold nN bB;exact CondP.intro (fun e=>by cases e) fun _=>⟨_,rfl,_,vc v.blk 8,M5 v v.b n id false fun h' b m=>c h' b (v.setB b m)⟩
end Go.Proofs
