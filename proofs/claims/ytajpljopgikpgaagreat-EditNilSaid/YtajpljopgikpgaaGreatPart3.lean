/- A part of the proof that the named laws of this program answer true, whatever the input. -/
import Derived.Test.YtajpljopgikpgaaGreatPart2
open Array renaming toList_inj→gF
open ByteArray renaming data_extract→iV
open Int renaming toNat_natCast→aK
open List renaming mem_cons→ai,mem_cons_self→aC,mem_cons_of_mem→aS,length_append→ae,mem_append→cn,mem_singleton→ag,length_take→aE,zip_eq_zipWith→gM,length_drop→aB,set_eq_take_append_cons_drop→cX,getElem_mem→bO,getElem?_eq_getElem→aq,pairwise_iff_getElem→cH,extract_eq_take_drop→du,getElem?_cons_zero→bM,length_eq_zero_iff→bp,getElem?_cons_succ→cx,mem_of_getElem?→aR,getElem_of_mem→dd,getElem?_append_left→dt,getElem?_take→ig,getElem?_append_right→c8,getElem?_drop→ii,getElem?_set→f8,length→iq,length_nil→dQ
open Nat renaming zero_le→d4,zero_add→ar,lt_or_ge→bV,le_of_eq→eP,le_refl→av,min_eq_left→aL
open Option renaming some→aN
namespace Go.Proofs
open Go Go.Lift
def qh(lab:ByteArray)(has:Bool)(val:ByteArray)(s:SliceV)(ow:Option Addr):Array Value:= #[.string lab,.bool has,.string val,sv s,.pointer ow]
theorem vw{w:Option ByteArray}{val:ByteArray}(h:val=w.getD ⟨#[]⟩):∀v,w=some v→val=v:=fun v e=>by rw[h,e];rfl
def RxF(W:Nat→Prop)(h:ac):Fo→List (Option Addr)→Prop
 | .nil,ks=>ks= []
 | .cons lab w kids rest,ks=>∃b sl val s ow ks1 ks',ks=some ⟨b,0,none⟩::ks'∧sl.data.toList=lab∧h[b]? =some (.cells (qh sl w.isSome val s ow) aD (0,0))∧val=w.getD ⟨#[]⟩∧Sl kR 1 W h s ks1∧(s.len≤s.cap∧¬W b∧OwOk W h ow)∧RxF W h kids ks1∧RxF W h rest ks'
def RxN(W:Nat→Prop)(h:ac)(b:Nat)(sl:ByteArray)(w:Option ByteArray)(F:Fo):Prop:=∃val s ow ks,h[b]? =some (.cells (qh sl w.isSome val s ow) aD (0,0))∧val=w.getD ⟨#[]⟩∧Sl kR 1 W h s ks∧(s.len≤s.cap∧¬W b∧OwOk W h ow)∧RxF W h F ks
def Kid(W:Nat→Prop)(h:ac)(k:Option Addr)(n:Bn):Prop:=∃b sl,k=some ⟨b,0,none⟩∧sl.data.toList=n.1∧RxN W h b sl n.2.1 n.2.2
def RxL(W:Nat→Prop)(h:ac)(ks:List (Option Addr))(L:List Bn):Prop:=ks.length=L.length∧∀p∈ks.zip L,Kid W h p.1 p.2
theorem nJ{W:Nat→Prop}{h:ac}:∀{F:Fo} {ks:List (Option Addr)},RxF W h F ks↔RxL W h ks F.toL
 | .nil,ks=>by
  unfold RxF RxL;simp[Fo.toL]
 | .cons lab w kids rest,ks=>by
  unfold RxF RxL;rw[Fo.toL_cons];constructor
  ·rintro⟨b,sl,val,s,ow,c,d,rfl,i,o,m,j,n,g,v⟩
   obtain⟨q,t⟩:=nJ.1 v;refine⟨by simp[q],fun p a=>?_⟩
   rw[List.zip_cons_cons]at a;rcases ai.1 a with rfl|a
   ·exact⟨b,sl,rfl,i,val,s,ow,c,o,m,j,n,g⟩
   ·exact t p a
  ·cases ks with
   |nil=>rintro⟨e,_⟩;simp at e
   |cons k d=>
    rintro⟨e,a⟩;rw[List.zip_cons_cons]at a;obtain⟨b,sl,u,i,val,s,ow,c,o,m,j,n,g⟩:=a _ (aC ..);refine⟨b,sl,val,s,ow,c,d,by rw[←u],i,o,m,j,n,g,nJ.2 ⟨by simpa using e,fun p f=>a p (aS _ f)⟩⟩
theorem RxF.upd0{W:Nat→Prop}{h a:ac}(k:Upd No h a):∀{F:Fo} {ks:List (Option Addr)},RxF W h F ks→RxF W a F ks
 | .nil,_,r=>r
 | .cons _ _ _ _,_,⟨b,sl,val,s,ow,ks1,ks',e0,e1,e2,e3,e4,e5,e6,e7⟩=>⟨b,sl,val,s,ow,ks1,ks',e0,e1,k.get0 e2,e3,e4.upd k fun _ h=>h.elim,⟨e5.1,e5.2.1,e5.2.2.upd k fun _ h=>h.elim⟩,RxF.upd0 k e6,RxF.upd0 k e7⟩
theorem RxN.upd0{W:Nat→Prop}{h a:ac}(k:Upd No h a){b:Nat}{sl:ByteArray}{w:Option ByteArray}{F:Fo}:RxN W h b sl w F→RxN W a b sl w F
 |⟨val,s,ow,ks,e2,e3,e4,e5,e6⟩=>⟨val,s,ow,ks,k.get0 e2,e3,e4.upd k fun _ h=>h.elim,⟨e5.1,e5.2.1,e5.2.2.upd k fun _ h=>h.elim⟩,RxF.upd0 k e6⟩
theorem Kid.upd0{W:Nat→Prop}{h c:ac}(k:Upd No h c){a:Option Addr}{n:Bn}:Kid W h a n→Kid W c a n
 |⟨b,sl,e1,e2,e3⟩=>⟨b,sl,e1,e2,e3.upd0 k⟩
theorem RxF.less{W W':Nat→Prop}{h:ac}(hm:∀b,W' b→W b∨h.size≤b):∀{F:Fo} {ks:List (Option Addr)},RxF W h F ks→RxF W' h F ks
 | .nil,_,r=>r
 | .cons _ _ _ _,_,⟨b,sl,val,s,ow,ks1,ks',e0,e1,e2,e3,e4,e5,e6,e7⟩=>⟨b,sl,val,s,ow,ks1,ks',e0,e1,e2,e3,e4.less hm,⟨e5.1,fun hx=>(hm _ hx).elim e5.2.1 fun h=>by have:=aW e2;omega,e5.2.2.less hm⟩,RxF.less hm e6,RxF.less hm e7⟩
theorem RxN.less{W W':Nat→Prop}{h:ac}(hm:∀b,W' b→W b∨h.size≤b){b:Nat}{sl:ByteArray}{w:Option ByteArray}{F:Fo}:RxN W h b sl w F→RxN W' h b sl w F
 |⟨val,s,ow,ks,e2,e3,e4,e5,e6⟩=>⟨val,s,ow,ks,e2,e3,e4.less hm,⟨e5.1,fun hx=>(hm _ hx).elim e5.2.1 fun h=>by have:=aW e2;omega,e5.2.2.less hm⟩,RxF.less hm e6⟩
theorem RxF.updM{W M:Nat→Prop}{h a:ac}(k:Upd M h a)(hm:∀b,M b→W b∨h.size≤b):∀{F:Fo} {ks:List (Option Addr)},RxF W h F ks→RxF W a F ks
 | .nil,_,r=>r
 | .cons _ _ _ _,_,⟨b,sl,val,s,ow,ks1,ks',e0,e1,e2,e3,e4,e5,e6,e7⟩=>⟨b,sl,val,s,ow,ks1,ks',e0,e1,k.get e2 (fun hx=>(hm _ hx).elim e5.2.1 fun h=>by have:=aW e2;omega),e3,e4.upd k hm,⟨e5.1,e5.2.1,e5.2.2.upd k hm⟩,RxF.updM k hm e6,RxF.updM k hm e7⟩
theorem RxN.updM{W M:Nat→Prop}{h a:ac}(k:Upd M h a)(hm:∀b,M b→W b∨h.size≤b){b:Nat}{sl:ByteArray}{w:Option ByteArray}{F:Fo}:RxN W h b sl w F→RxN W a b sl w F
 |⟨val,s,ow,ks,e2,e3,e4,e5,e6⟩=>⟨val,s,ow,ks,k.get e2 (fun hx=>(hm _ hx).elim e5.2.1 fun h=>by have:=aW e2;omega),e3,e4.upd k hm,⟨e5.1,e5.2.1,e5.2.2.upd k hm⟩,RxF.updM k hm e6⟩
theorem RxL.upd0{W:Nat→Prop}{h a:ac}(k:Upd No h a){ks:List (Option Addr)}{L:List Bn}(r:RxL W h ks L):RxL W a ks L:=⟨r.1,fun p b=>(r.2 p b).upd0 k⟩
theorem RxL.app{W:Nat→Prop}{h:ac}{ks b:List (Option Addr)}{L d:List Bn}(r:RxL W h ks L)(c:RxL W h b d):RxL W h (ks++b) (L++d):=by
 refine⟨by rw[ae,ae,r.1,c.1],fun p a=>?_⟩
 rw[List.zip_append r.1]at a;rcases cn.1 a with a|a
 ·exact r.2 p a
 ·exact c.2 p a
theorem RxL.one{W:Nat→Prop}{h:ac}{k:Option Addr}{n:Bn}(c:Kid W h k n):RxL W h [k] [n]:=⟨rfl,fun p a=>by rw[List.zip_cons_cons,List.zip_nil_left]at a;rw[ag.1 a];exact c⟩
theorem RxL.take{W:Nat→Prop}{h:ac}{ks:List (Option Addr)}{L:List Bn}(r:RxL W h ks L)(i:Nat):RxL W h (ks.take i) (L.take i):=by
 refine⟨by rw[aE,aE,r.1],fun p a=>r.2 p ?_⟩
 have:(ks.take i).zip (L.take i)=(ks.zip L).take i:=by rw[gM,gM,List.take_zipWith]
 rw[this]at a;exact List.mem_of_mem_take a
theorem RxL.drop{W:Nat→Prop}{h:ac}{ks:List (Option Addr)}{L:List Bn}(r:RxL W h ks L)(i:Nat):RxL W h (ks.drop i) (L.drop i):=by
 refine⟨by rw[aB,aB,r.1],fun p a=>r.2 p ?_⟩
 have:(ks.drop i).zip (L.drop i)=(ks.zip L).drop i:=by rw[gM,gM,List.drop_zipWith]
 rw[this]at a;exact List.mem_of_mem_drop a
theorem RxL.ins{W:Nat→Prop}{h:ac}{ks:List (Option Addr)}{L:List Bn}(r:RxL W h ks L)(i:Nat){k:Option Addr}{n:Bn}(c:Kid W h k n):RxL W h (ks.take i++k::ks.drop i) (L.take i++n::L.drop i):=by
 have:=(r.take i).app ((RxL.one c).app (r.drop i));exact this
theorem RxL.set{W:Nat→Prop}{h:ac}{ks:List (Option Addr)}{L:List Bn}(r:RxL W h ks L){i:Nat}(a:i<L.length){k:Option Addr}{n:Bn}(c:Kid W h k n):RxL W h (ks.set i k) (L.set i n):=by
 have:=(r.take i).app ((RxL.one c).app (r.drop (i+1)));rw[cX,cX,if_pos (by rw[r.1];exact a),if_pos a];exact this
theorem RxL.at{W:Nat→Prop}{h:ac}{ks:List (Option Addr)}{L:List Bn}(r:RxL W h ks L){i:Nat}(c:i<L.length):∃b sl,ks[i]? =some (some ⟨b,0,none⟩)∧sl.data.toList=L[i].1∧RxN W h b sl L[i].2.1 L[i].2.2:=by
 have a:i<ks.length:=by rw[r.1];exact c
 have hz:i<(ks.zip L).length:=by rw[List.length_zip];omega
 have:=r.2 _ (bO hz);rw[List.getElem_zip]at this;obtain⟨b,sl,d,f,e⟩:=this;exact⟨b,sl,by rw[aq a];exact congrArg some d,f,e⟩
theorem uz:∀{L:List Bn} {c:Nat},L.Pairwise (fun m n=>hd m.1<hd n.1)→(∀n∈L,c≤hd n.1)→L= []∨c+L.length≤256
 | [],_,_,_=>.inl rfl
 |n::L,c,a,hc=>by
  have a:=List.pairwise_cons.1 a;have d:=hc n (aC ..);have b:=CZ n.1;rcases uz (c:=hd n.1+1) a.2 fun m hm=>a.1 m hm with e|e
  ·rw[e];right;simp only[List.length_singleton];omega
  ·right;rw[List.length_cons];omega
theorem pP{F:Fo}(h:fK F):F.toL.length≤256:=by
 rcases uz (c:=0) (eh.1 h).1 fun _ _=>d4 _ with e|e
 ·rw[e];simp
 ·omega
theorem fa{h:ac}{b i:Nat}{c:Array Value}(a:h[b]? =some (.cells c aD (0,0))):aP h (adr ⟨b,0,none⟩ i)=c[i]?:=by rw[aX,ar];exact aH a
theorem CW{h:ac}{b i:Nat}{c:Array Value}(a:h[b]? =some (.cells c aD (0,0))) (d:i<c.size):Wr h (adr ⟨b,0,none⟩ i):=by rw[aX,ar];exact fq a d
theorem wh{h:ac}{b i:Nat}{c c':Array Value}{v:Value}{k:ac→Prop}(f:h[b]? =some (.cells c aD (0,0))) (e:c.setIfInBounds i v=c') (g:∀a,a[b]? =some (.cells c' aD (0,0))→Upd (· =b) h a→k a):At (hset h (adr ⟨b,0,none⟩ i) v) k:=by
 rw[aX,ar];exact qK f fun a d j=>g a (e▸d) j
theorem Dx(s:ByteArray)(i:Nat):s[i]? =s.data.toList[i]?:=by
 rw[Array.getElem?_toList];by_cases h:i<s.size
 ·rw[getElem?_pos s i h,getElem?_pos s.data i h];rfl
 ·rw[getElem?_neg s i h,getElem?_neg s.data i h]
theorem Bh{s:ByteArray}(a:s.data.toList≠[]):∃c:UInt8,s[0]? =some c∧c.toNat=hd s.data.toList:=by
 rw[Dx];match s.data.toList,a with
 |c::l,_=>exact⟨c,rfl,rfl⟩
theorem zM{W:Nat→Prop}{h:ac}{b:Nat}{sl:ByteArray}{w:Option ByteArray}{F:Fo}(r:RxN W h b sl w F)(hc:fK F){c:Nat}(hc8:c<256){K:Int×Bool→ac→Prop}
  (D:∀i ok,i≤F.toL.length→(∀j (p:j<F.toL.length),j<i→hd F.toL[j].1<c)→(∀j (p:j<F.toL.length),i≤j→c≤hd F.toL[j].1)→(ok=true↔∃C:i<F.toL.length,hd F.toL[i].1=c)→K ((i:Int),ok) h):HC PG iG [.pointer (some ⟨b,0,none⟩),.int .u8 c] [.c (.int .i64),.c .bool] K h:=by
 refine pV _ c ?_;unfold lw ci;obtain⟨val,s,ow,ks,hb,_,U,hcap,hF⟩:=r;refine⟨_,rfl,s,fa (i:=3) hb,?_⟩;have T:=nJ.1 hF;have f:=eh.1 hc;have hn:=pP hc;have y:=U.len;rw[T.1]at y;generalize hLe:F.toL=L at T f hn y D;refine dA s c _ ?_;unfold bZ dT gg yd C5
 have E:∀{i:Nat} (C:i<L.length) {K:Int→ac→Prop},K ((hd L[i].1:Int)-(c:Int)) h→∃a,s.a=some a∧∃v,aP h (adr a (i*1))=some (.pointer v)∧HV PG (.func (.func gJ) #[] #[]) [.pointer v,.int .u8 c] [.c (.int .i64)] K h:=by
  intro i C K D;obtain⟨kb,H,P,G,M⟩:=T.at C;obtain⟨a,ha,_,hv⟩:=U.at0 P;refine⟨a,ha,_,hv,HV.mk' (nX (some ⟨kb,0,none⟩) c ?_)⟩;unfold j2 dZ;obtain⟨X,kss,kow,kks,N,_⟩:=M;have R:H.data.toList≠[]:=by rw[G];exact(f.2 _ (bO C)).1
  obtain⟨u,hu,O⟩:=Bh R;refine⟨_,rfl,H,fa (i:=0) N,u,Int.le_refl _,hu,?_⟩;simp only[Bd];have e:=CZ L[i].1;rw[O,G,nT (x:=(hd L[i].1:Int)) (by omega),nT (x:=(c:Int)) (by omega),nT (by omega)];exact D
 have mono:∀i j (C:i<L.length) (p:j<L.length),i<j→hd L[i].1<hd L[j].1:=fun i j C p d=>cH.1 f.1 i j C p d
 refine LoopP.ghost (fun(g:Nat×Nat) (t:Int×Int) h'=>t.1=(g.1:Int)∧t.2=(g.2:Int)∧g.1≤g.2∧g.2≤L.length∧h'=h∧(∀j (p:j<L.length),j<g.1→hd L[j].1<c)∧(∀j (p:j<L.length),g.2≤j→c≤hd L[j].1)) (fun g=>g.2-g.1) (0,L.length)
  ⟨rfl,by simp only;omega,by simp,by simp,rfl,fun j p h=>by omega,fun j p h=>by simp only at h;omega⟩ ?_
 rintro I ⟨i,j⟩ ⟨ti,tj⟩ h' ⟨V,e2,d,n,rfl,o,k⟩ Y;simp only at V e2 d n o k;subst V e2;refine bi (fun e=>?_) fun Q=>?_
 ·have e:i<j:=by have:(i:Int)<(j:Int):=e;omega
  have em:IntKind.wrap .i64 (Int.fdiv (IntKind.wrap .u64 (IntKind.wrap .i64 ((i:Int)+(j:Int)))) (2^(min (1:Int).toNat (IntKind.bits .u64))))=(((i+j)/2:Nat):Int):=by
   have e3:(2^(min (1:Int).toNat (IntKind.bits .u64)):Int)=2:=rfl;rw[e3,nT (x:=(i:Int)+(j:Int)) (by omega),Go.IntWalk.u64_in _ (by omega),Int.fdiv_eq_ediv_of_nonneg _ (by omega),nT (by omega)];omega
  refine⟨by decide,?_⟩;simp only[Bd];rw[em];generalize hm:(i+j)/2=m;have B:m<L.length:=by omega
  refine⟨by omega,?_⟩;refine E B ?_;refine bi (fun hneg=>?_) fun Z=>?_
  ·refine Y (m+1,j) _ _ ⟨by simp only;rw[nT (by omega)];omega,rfl,by simp only;omega,n,rfl,fun q J z=>?_,k⟩ (by simp only;omega)
   simp only at z;rcases bV q m with h|h
   ·have:=mono q m J B h;omega
   ·have:q=m:=by omega
    subst this;omega
  ·refine Y (i,m) _ _ ⟨rfl,rfl,by simp only;omega,by simp only;omega,rfl,o,fun q J z=>?_⟩ (by simp only;omega)
   simp only at z;rcases bV m q with h|h
   ·have:=mono m q B J h;omega
   ·have:q=m:=by omega
    subst this;omega
 ·have d:i=j:=by have:¬(i:Int)<(j:Int):=Q;omega
  subst d;refine bi (fun e=>?_) fun S=>?_
  ·have A:i<L.length:=by have:(i:Int)<(s.len:Int):=e;omega
   refine⟨by simp only;omega,?_⟩;refine E A ?_;refine D i _ n o k ?_;rw[beq_iff_eq];exact⟨fun h=>⟨A,by omega⟩,fun⟨_,h⟩=>by omega⟩
  ·have A:i=L.length:=by have:¬(i:Int)<(s.len:Int):=S;omega
   exact D i false n o k ⟨fun h=>(by cases h),fun h=>(by obtain⟨h,_⟩:=h;omega)⟩
end Go.Proofs
namespace Go.Proofs
open Go Go.Lift
abbrev CV:List Value:= [.string (⟨#[]⟩:ByteArray),.bool false,.string (⟨#[]⟩:ByteArray),.slice none 0 0,.pointer none]
theorem oI{h:ac}{b:Nat}{sl nl:ByteArray}{has:Bool}{val:ByteArray}{s:SliceV}{ow:Option Addr}(a:h[b]? =some (.cells (qh sl has val s ow) aD (0,0))) {K:Option Addr→ac→Prop}
  (c:∀h',h'[b]? =some (.cells (qh nl has val s ow) aD (0,0))→Upd (· =b) h h'→K (some ⟨b,0,none⟩) h'):HC PG ef [.pointer (some ⟨b,0,none⟩),.string nl] [.c .ptr] K h:=by
 refine o9 _ nl ?_;unfold kH c5;exact⟨_,rfl,CW (i:=0) a (show 0<5 by decide),wh (i:=0) (c':=qh nl has val s ow) a rfl c⟩
theorem kV{h:ac}{b:Nat}{sl v:ByteArray}{has:Bool}{val:ByteArray}{s:SliceV}{ow:Option Addr}(d:h[b]? =some (.cells (qh sl has val s ow) aD (0,0))) {K:Option Addr→ac→Prop}
  (f:∀h',h'[b]? =some (.cells (qh sl true v s ow) aD (0,0))→Upd (· =b) h h'→K (some ⟨b,0,none⟩) h'):HC PG c9 [.pointer (some ⟨b,0,none⟩),.string v] [.c .ptr] K h:=by
 refine nW _ v ?_;unfold j1 c5;exact⟨_,rfl,CW (i:=1) d (show 1<5 by decide),wh (i:=1) (c':=qh sl true val s ow) d rfl fun g b1 a=>⟨_,rfl,CW (i:=2) b1 (show 2<5 by decide),wh (i:=2) (c':=qh sl true v s ow) b1 rfl fun e b2 c=>f e b2 (a.tr c)⟩⟩
theorem wQ(s:ByteArray)(c:Nat):(s.extract 0 c).data.toList=s.data.toList.take c:=by
 rw[iV,Array.toList_extract,du];simp
theorem wR(s:ByteArray)(c:Nat):(s.extract c s.size).data.toList=s.data.toList.drop c:=by
 rw[iV,Array.toList_extract,du,List.take_of_length_le];rw[aB];simp
end Go.Proofs
namespace Go.Proofs
open Go Go.Lift
theorem BN:∀{x y:List UInt8} {i:Nat},i≤x.length→i≤y.length→(∀j,j<i→x[j]? =y[j]?)→(i=x.length∨i=y.length∨x[i]?≠y[i]?)→cm x y=i
 | [],_,i,h1,_,_,_=>by simp at h1;simp[cm,h1]
 |_::_,[],i,_,h2,_,_=>by simp at h2;simp[cm,h2]
 |a::x,b::y,0,_,_,_,h=>by
  unfold cm;rw[if_neg];rintro rfl;rcases h with h|h|h<;>simp at h
 |a::x,b::y,i+1,h1,h2,h3,h4=>by
  have:=h3 0 (by omega);simp only[bM,aN.injEq]at this;unfold cm;rw[if_pos this,BN (i:=i) (by simpa using h1) (by simpa using h2) (fun j c=>by simpa using h3 (j+1) (by omega)) (by simpa using h4)]
theorem Al{a b:ByteArray}(z:a.size≤1000000){h:ac}{K:Int→ac→Prop}(n:K (cm a.data.toList b.data.toList:Nat) h):HC PG lM [.string a,.string b] [.c (.int .i64)] K h:=by
 refine ui a b ?_;unfold ot;simp only[Bd];have k:(if(b.size:Int)<(a.size:Int)then(b.size:Int)else(a.size:Int))=((min a.size b.size:Nat):Int):=by split<;>omega
 rw[k];have A:a.data.toList.length=a.size:=by simp
 have B:b.data.toList.length=b.size:=by simp
 refine LoopP.ghost (fun(i:Nat) (t:Int) w=>t=(i:Int)∧i≤min a.size b.size∧w=h∧∀j,j<i→a.data.toList[j]? =b.data.toList[j]?) (fun i=>min a.size b.size-i) 0 ⟨rfl,d4 _,rfl,fun j q=>absurd q (Nat.not_lt_zero _)⟩ ?_
 rintro I i t w ⟨rfl,C,rfl,o⟩ x;refine bi (fun c=>?_) fun y=>?_
 ·have c:i<min a.size b.size:=by omega
  have g:i<a.size:=by omega
  have f:i<b.size:=by omega
  refine⟨a[i],by omega,by rw[aK,getElem?_pos a i g],b[i],by omega,by rw[aK,getElem?_pos b i f],?_⟩
  have s:a.data.toList[i]? =some a[i]:=by rw[←Dx,getElem?_pos a i g]
  have u:b.data.toList[i]? =some b[i]:=by rw[←Dx,getElem?_pos b i f]
  refine CondP.intro (fun m=>?_) fun d=>?_
  ·rw[BN (i:=i) (by omega) (by omega) o (.inr (.inr fun e=>?_))]at n
   ·exact n
   ·rw[s,u]at e
    rw[aN.inj e]at m;simp at m
  ·have d:a[i]=b[i]:=by
    have:((a[i].toNat:Int))=(b[i].toNat:Int):=by simpa using d
    exact UInt8.toNat_inj.1 (by omega)
   rw[ke c (by omega)];refine x (i+1) _ _ ⟨rfl,c,rfl,fun j q=>?_⟩ (by omega)
   rcases bV j i with v|v
   ·exact o j v
   ·have:j=i:=by omega
    subst this;rw[s,u,d]
 ·have p:i=min a.size b.size:=by omega
  rw[BN (i:=i) (by omega) (by omega) o (by omega)]at n;rw[←p];exact n
theorem zT{F:Fo}{i:Nat}{k:List UInt8}{v:ByteArray}(h:fK F)(b:i<F.toL.length)(ek:hd F.toL[i].1=hd k)(a:lQ (tW F.toL[i]) (tW F.toL[i]) k v):lQ (rx F) (rx F) k v:=by
 have:=ws h b ek a;rw[List.set_getElem_self,Fo.of_to]at this;exact this
theorem AX{P Q a:List UInt8→ByteArray→Prop}{k:List UInt8}{v:ByteArray}(h:lQ P a k v)(e:∀k v,P k v↔Q k v):lQ Q a k v:=fun k' b=>by rw[h k' b,e]
end Go.Proofs
namespace Go.Proofs
open Go Go.Lift
def Dj(S T:Nat→Prop):Prop:=∀y,S y→¬T y
def PD(Ts:List (Nat→Prop)):Prop:=∀(i j:Nat) (S T:Nat→Prop),i≠j→Ts[i]? =some S→Ts[j]? =some T→Dj S T
def FoO(o:Option Addr)(W:Nat→Prop)(h:ac):Fo→List (Option Addr)→List (Nat→Prop)→Prop
 | .nil,ks,Ts=>ks= []∧Ts= []
 | .cons lab w kids rest,ks,Ts=>∃(b:Nat) (sl:ByteArray) (ks':List (Option Addr)) (S:Nat→Prop) (Ts':List (Nat→Prop)),ks=some ⟨b,0,none⟩::ks'∧Ts=S::Ts'∧sl.data.toList=lab∧
  ((RxN W h b sl w kids∧∀y,¬S y)∨(o.isSome=true∧∃(val:ByteArray) (s:SliceV) (ks1:List (Option Addr)) (A:Nat→Prop) (Us:List (Nat→Prop)),h[b]? =some (.cells (qh sl w.isSome val s o) aD (0,0))∧val=w.getD ⟨#[]⟩∧OwnS kR 1 ax A h s ks1∧
   (∀y,A y→S y∧y≠b∧y<h.size)∧S b∧(∀U∈Us,∀y,U y→S y∧¬A y∧y≠b)∧PD Us∧FoO o W h kids ks1 Us))∧FoO o W h rest ks' Ts'
def RxO(o:Option Addr)(W:Nat→Prop)(h:ac)(b:Nat)(sl:ByteArray)(w:Option ByteArray)(F:Fo)(S:Nat→Prop):Prop:=
 (RxN W h b sl w F∧∀y,¬S y)∨(o.isSome=true∧∃(val:ByteArray) (s:SliceV) (ks1:List (Option Addr)) (A:Nat→Prop) (Us:List (Nat→Prop)),h[b]? =some (.cells (qh sl w.isSome val s o) aD (0,0))∧val=w.getD ⟨#[]⟩∧OwnS kR 1 ax A h s ks1∧
  (∀y,A y→S y∧y≠b∧y<h.size)∧S b∧(∀U∈Us,∀y,U y→S y∧¬A y∧y≠b)∧PD Us∧FoO o W h F ks1 Us)
theorem Bi{o:Option Addr}{W:Nat→Prop}{h:ac}{lab:List UInt8}{w:Option ByteArray}{c a:Fo}{ks:List (Option Addr)}{Ts:List (Nat→Prop)}:
 FoO o W h (.cons lab w c a) ks Ts↔∃b sl ks' S Ts',ks=some ⟨b,0,none⟩::ks'∧Ts=S::Ts'∧sl.data.toList=lab∧RxO o W h b sl w c S∧FoO o W h a ks' Ts':=Iff.rfl
def KidO(o:Option Addr)(W:Nat→Prop)(h:ac)(k:Option Addr)(n:Bn)(S:Nat→Prop):Prop:=∃b sl,k=some ⟨b,0,none⟩∧sl.data.toList=n.1∧RxO o W h b sl n.2.1 n.2.2 S
def LsO(o:Option Addr)(W:Nat→Prop)(h:ac)(ks:List (Option Addr))(L:List Bn)(Ts:List (Nat→Prop)):Prop:=ks.length=L.length∧Ts.length=L.length∧∀(i:Nat) (k:Option Addr) (n:Bn) (S:Nat→Prop),ks[i]? =some k→L[i]? =some n→Ts[i]? =some S→KidO o W h k n S
theorem r6{o:Option Addr}{W:Nat→Prop}{h:ac}:∀{F:Fo} {ks:List (Option Addr)} {Ts:List (Nat→Prop)},FoO o W h F ks Ts↔LsO o W h ks F.toL Ts
 | .nil,ks,Ts=>by
  constructor
  ·rintro⟨rfl,rfl⟩;exact⟨rfl,rfl,fun i k n S h=>by simp at h⟩
  ·rintro⟨c,a,_⟩;exact⟨bp.1 c,bp.1 a⟩
 | .cons lab w kids rest,ks,Ts=>by
  rw[Bi,Fo.toL_cons];constructor
  ·rintro⟨b,sl,j,S,Ts',rfl,rfl,e,r,f⟩
   obtain⟨c,a,m⟩:=r6.1 f;refine⟨by simp[c],by simp[a],fun i k n p ek g d=>?_⟩
   cases i with
   |zero=>
    simp only[bM,aN.injEq]at ek g d;subst ek g d;exact⟨b,sl,rfl,e,r⟩
   |succ i=>
    simp only[cx]at ek g d;exact m i k n p ek g d
  ·rintro⟨c,a,m⟩
   cases ks with
   |nil=>simp at c
   |cons k j=>
    cases Ts with
    |nil=>simp at a
    |cons S Ts'=>
     obtain⟨b,sl,s,q,r⟩:=m 0 k _ S rfl rfl rfl;exact⟨b,sl,j,S,Ts',by rw[s],rfl,q,r,r6.2 ⟨by simpa using c,by simpa using a,fun i k n p ek g d=>m (i+1) k n p ek g d⟩⟩
theorem FoO.freeze{o:Option Addr}{W W':Nat→Prop}{h:ac}(g:∀y,W' y→W y)(d:OwOk W' h o):∀{F:Fo} {ks:List (Option Addr)} {Ts:List (Nat→Prop)},FoO o W h F ks Ts→(∀U∈Ts,∀y,U y→¬W' y)→RxF W' h F ks
 | .nil,_,_,f,_=>f.1
 | .cons lab w kids rest,ks,Ts,⟨b,sl,ks',S,Ts',e1,e2,e3,r,f⟩,hT=>by
  subst e1 e2;have p:=FoO.freeze g d f fun U m=>hT U (aS _ m)
  have i:=hT S (aC ..);rcases r with⟨r,_⟩|⟨_,val,s,a,A,Us,v,hv,n,e,j,m,_,B⟩
  ·obtain⟨val,s,ow,a,z,t,u,q,x⟩:=RxN.less (fun y c=>.inl (g y c)) r
   exact⟨b,sl,val,s,ow,a,ks',rfl,e3,z,t,u,q,x,p⟩
  ·exact⟨b,sl,val,s,o,a,ks',rfl,e3,v,hv,n.sl fun y c _=>i y (e y c).1,⟨n.cap,i b j,d⟩,FoO.freeze g d B fun U k y c=>i y (m U k y c).1,p⟩
theorem RxO.freeze{o:Option Addr}{W W':Nat→Prop}{h:ac}(k:∀y,W' y→W y)(j:OwOk W' h o){b:Nat}{sl:ByteArray}{w:Option ByteArray}{F:Fo}{S:Nat→Prop}(r:RxO o W h b sl w F S)(d:∀y,S y→¬W' y):RxN W' h b sl w F:=by
 rcases r with⟨r,_⟩|⟨_,val,s,g,A,Us,m,hv,i,c,e,p,_,n⟩
 ·exact RxN.less (fun y a=>.inl (k y a)) r
 ·exact⟨val,s,o,g,m,hv,i.sl fun y a _=>d y (c y a).1,⟨i.cap,d b e,j⟩,FoO.freeze k j n fun U f y a=>d y (p U f y a).1⟩
theorem RxO.read{o w':Option Addr}{W S:Nat→Prop}{h:ac}{b:Nat}{sl:ByteArray}{w:Option ByteArray}{F:Fo}(r:RxO o W h b sl w F S)(t:By h w' o):RxN No h b sl w F:=
 r.freeze (fun _ h=>h.elim) (fun a e=>⟨id,t.plain a (t.tok e)⟩) fun _ _ h=>h
theorem RxO.off{W S:Nat→Prop}{h:ac}{b:Nat}{sl:ByteArray}{w:Option ByteArray}{F:Fo}(r:RxO none W h b sl w F S):RxN W h b sl w F∧∀y,¬S y:=r.elim id fun h=>absurd h.1 (by simp)
theorem FoO.upd{o:Option Addr}{W M:Nat→Prop}{h t:ac}(k:Upd M h t):∀{F:Fo} {ks:List (Option Addr)} {Ts:List (Nat→Prop)},FoO o W h F ks Ts→(∀U∈Ts,∀y,U y→y<h.size)→(∀y,M y→(W y∧∀U∈Ts,¬U y)∨h.size≤y)→FoO o W t F ks Ts
 | .nil,_,_,f,_,_=>f
 | .cons lab w kids rest,ks,Ts,⟨b,sl,ks',S,Ts',e1,e2,e3,r,f⟩,hT,hm=>by
  subst e1 e2;have n:=FoO.upd k f (fun U i=>hT U (aS _ i)) fun y a=>(hm y a).imp (fun h=>⟨h.1,fun U i=>h.2 U (aS _ i)⟩) id
  have p:=hT S (aC ..);have d:∀y,M y→(W y∧¬S y)∨h.size≤y:=fun y a=>(hm y a).imp (fun h=>⟨h.1,h.2 S (aC ..)⟩) id
  have q:∀y,S y→¬M y:=fun y a C=>by
   have:=p y a;rcases d y C with h|h
   ·exact h.2 a
   ·omega
  have z:=k.size;rcases r with⟨r,e⟩|⟨e,val,s,m,A,Us,v,hv,u,c,j,i,x,D⟩
  ·exact⟨b,sl,ks',S,Ts',rfl,rfl,e3,.inl ⟨RxN.updM k (fun y a=>(d y a).imp (fun h=>h.1) id) r,e⟩,n⟩
  ·exact⟨b,sl,ks',S,Ts',rfl,rfl,e3,.inr ⟨e,val,s,m,A,Us,k.get v (q b j),hv,u.upd k fun y a=>q y (c y a).1,fun y a=>⟨(c y a).1,(c y a).2.1,by have:=(c y a).2.2;omega⟩,j,i,x,FoO.upd k D (fun U g y a=>p y (i U g y a).1) fun y a=>(d y a).imp (fun h=>⟨h.1,fun U g B=>h.2 (i U g y B).1⟩) id⟩,n⟩
theorem RxO.upd{o:Option Addr}{W M:Nat→Prop}{h g:ac}(k:Upd M h g){b:Nat}{sl:ByteArray}{w:Option ByteArray}{F:Fo}{S:Nat→Prop}(r:RxO o W h b sl w F S)(j:∀y,S y→y<h.size)(hm:∀y,M y→(W y∧¬S y)∨h.size≤y):RxO o W g b sl w F S:=by
 have:=FoO.upd (F:=.cons sl.data.toList w F .nil) k (ks:= [some ⟨b,0,none⟩]) (Ts:= [S]) ⟨b,sl,[],S,[],rfl,rfl,rfl,r,rfl,rfl⟩ (fun U f=>by rw[ag.1 f];exact j) fun y i=>(hm y i).imp (fun h=>⟨h.1,fun U f=>by rw[ag.1 f];exact h.2⟩) id
 obtain⟨q,a,n,p,Ts',c,d,e,m,_⟩:=this;simp only[List.cons.injEq,aN.injEq,Addr.mk.injEq,and_true]at c d;obtain⟨c,_⟩:=c;obtain⟨d,_⟩:=d;subst c d;have e:a=sl:=by cases a;cases sl;exact congrArg ByteArray.mk (gF.1 e)
 subst e;exact m
theorem FoO.upd0{o:Option Addr}{W:Nat→Prop}{h i:ac}(k:Upd No h i):∀{F:Fo} {ks:List (Option Addr)} {Ts:List (Nat→Prop)},FoO o W h F ks Ts→FoO o W i F ks Ts
 | .nil,_,_,f=>f
 | .cons lab w kids rest,ks,Ts,⟨b,sl,ks',S,Ts',e1,e2,e3,r,f⟩=>by
  have z:=k.size;refine⟨b,sl,ks',S,Ts',e1,e2,e3,?_,FoO.upd0 k f⟩;rcases r with⟨r,e⟩|⟨e,val,s,g,A,Us,m,hv,j,a,d,q,n,p⟩
  ·exact .inl ⟨RxN.upd0 k r,e⟩
  ·exact .inr ⟨e,val,s,g,A,Us,k.get0 m,hv,j.upd k fun _ _ h=>h,fun y c=>⟨(a y c).1,(a y c).2.1,by have:=(a y c).2.2;omega⟩,d,q,n,FoO.upd0 k p⟩
theorem RxO.upd0{o:Option Addr}{W S:Nat→Prop}{h g:ac}(k:Upd No h g){b:Nat}{sl:ByteArray}{w:Option ByteArray}{F:Fo}(r:RxO o W h b sl w F S):RxO o W g b sl w F S:=by
 have z:=k.size;rcases r with⟨r,e⟩|⟨e,val,s,f,A,Us,j,hv,i,a,d,p,m,n⟩
 ·exact .inl ⟨RxN.upd0 k r,e⟩
 ·exact .inr ⟨e,val,s,f,A,Us,k.get0 j,hv,i.upd k fun _ _ h=>h,fun y c=>⟨(a y c).1,(a y c).2.1,by have:=(a y c).2.2;omega⟩,d,p,m,FoO.upd0 k n⟩
theorem FoO.less{o:Option Addr}{W W':Nat→Prop}{h:ac}(hm:∀y,W' y→W y∨h.size≤y):∀{F:Fo} {ks:List (Option Addr)} {Ts:List (Nat→Prop)},FoO o W h F ks Ts→FoO o W' h F ks Ts
 | .nil,_,_,f=>f
 | .cons lab w kids rest,ks,Ts,⟨b,sl,ks',S,Ts',e1,e2,e3,r,f⟩=>by
  refine⟨b,sl,ks',S,Ts',e1,e2,e3,?_,FoO.less hm f⟩;rcases r with⟨r,e⟩|⟨e,val,s,d,A,Us,i,hv,g,a,c,m,j,k⟩
  ·exact .inl ⟨RxN.less hm r,e⟩
  ·exact .inr ⟨e,val,s,d,A,Us,i,hv,g,a,c,m,j,FoO.less hm k⟩
theorem RxO.less{o:Option Addr}{W W' S:Nat→Prop}{h:ac}(hm:∀y,W' y→W y∨h.size≤y){b:Nat}{sl:ByteArray}{w:Option ByteArray}{F:Fo}(r:RxO o W h b sl w F S):RxO o W' h b sl w F S:=by
 rcases r with⟨r,e⟩|⟨e,val,s,d,A,Us,g,hv,f,a,c,k,i,j⟩
 ·exact .inl ⟨RxN.less hm r,e⟩
 ·exact .inr ⟨e,val,s,d,A,Us,g,hv,f,a,c,k,i,FoO.less hm j⟩
theorem KidO.upd{o:Option Addr}{W M:Nat→Prop}{h c:ac}(k:Upd M h c){a:Option Addr}{n:Bn}{S:Nat→Prop}(r:KidO o W h a n S)(f:∀y,S y→y<h.size)(hm:∀y,M y→(W y∧¬S y)∨h.size≤y):KidO o W c a n S:=let⟨b,sl,e,d,r⟩:=r;⟨b,sl,e,d,r.upd k f hm⟩
theorem KidO.less{o:Option Addr}{W W' S:Nat→Prop}{h:ac}(hm:∀y,W' y→W y∨h.size≤y){a:Option Addr}{n:Bn}(r:KidO o W h a n S):KidO o W' h a n S:=let⟨b,sl,d,c,r⟩:=r;⟨b,sl,d,c,r.less hm⟩
theorem Dr{o:Option Addr}{W:Nat→Prop}{h:ac}{F:Fo}{ks:List (Option Addr)}(f:RxF W h F ks):LsO o W h ks F.toL (List.replicate F.toL.length No):=by
 have g:=nJ.1 f;refine⟨g.1,by simp,fun i k n S ek c a=>?_⟩
 obtain⟨d,c⟩:=List.getElem?_eq_some_iff.1 c;obtain⟨b,sl,e,j,r⟩:=g.at d;rw[ek]at e;cases e;have a:S=No:=by
  rw[List.getElem?_replicate,if_pos d]at a;exact(aN.inj a).symm
 subst a c;exact⟨b,sl,rfl,j,.inl ⟨r,fun _ h=>h⟩⟩
theorem RxO.view{o:Option Addr}{W S:Nat→Prop}{h:ac}{b:Nat}{sl:ByteArray}{w:Option ByteArray}{F:Fo}(r:RxO o W h b sl w F S):
  ∃(val:ByteArray) (s:SliceV) (ow:Option Addr) (ks:List (Option Addr)) (Us:List (Nat→Prop)),h[b]? =some (.cells (qh sl w.isSome val s ow) aD (0,0))∧val=w.getD ⟨#[]⟩∧Sl kR 1 No h s ks∧LsO o W h ks F.toL Us∧(∀U∈Us,∀y,U y→S y)∧PD Us∧
   ((OwOk W h ow∧(¬W b)∧Sl kR 1 W h s ks∧∀y,¬S y)∨(o.isSome=true∧ow=o∧∃A:Nat→Prop,OwnS kR 1 ax A h s ks∧(∀y,A y→S y∧y≠b∧y<h.size)∧S b∧∀U∈Us,∀y,U y→¬A y∧y≠b)):=by
 rcases r with⟨⟨val,s,ow,ks,x,q,p,m,u⟩,e⟩|⟨e,val,s,k,A,Us,t,hv,n,f,g,d,v,z⟩
 ·refine⟨val,s,ow,ks,_,x,q,p.less fun _ h=>h.elim,Dr u,fun U d y a=>?_,fun i j S T _ B C y a _=>?_,.inl ⟨m.2.2,m.2.1,p,e⟩⟩
  ·rw[List.eq_of_mem_replicate d]at a;exact a.elim
  ·rw[List.eq_of_mem_replicate (aR B)]at a;exact a.elim
 ·exact⟨val,s,o,k,Us,t,hv,n.sl fun _ _ _ h=>h,r6.1 z,fun U c y a=>(d U c y a).1,v,.inr ⟨e,rfl,A,n,f,g,fun U c y a=>(d U c y a).2⟩⟩
def SR(o:Option Addr)(b:Nat)(A:Nat→Prop)(Us:List (Nat→Prop))(y:Nat):Prop:=o.isSome=true∧(y=b∨A y∨∃U∈Us,U y)
theorem qq{o:Option Addr}{W:Nat→Prop}{h:ac}{b:Nat}{sl val:ByteArray}{s:SliceV}{w:Option ByteArray}{F:Fo}{ks:List (Option Addr)}{A:Nat→Prop}{Us:List (Nat→Prop)}(u:h[b]? =some (.cells (qh sl w.isSome val s o) aD (0,0))) (hv:val=w.getD ⟨#[]⟩) (j:OwnS kR 1 ax A h s ks)
  (n:∀y,A y→y≠b∧y<h.size) (C:∀U∈Us,∀y,U y→¬A y∧y≠b) (q:PD Us) (g:LsO o W h ks F.toL Us) (z:o=none→(∀y,A y→¬W y)∧¬W b):RxO o W h b sl w F (SR o b A Us):=by
 cases o with
 |none=>
  obtain⟨G,v⟩:=z rfl;refine .inl ⟨⟨val,s,none,ks,u,hv,j.sl fun y c _=>G y c,⟨j.cap,v,fT⟩,nJ.2 ⟨g.1,fun p q=>?_⟩⟩,fun y c=>by simp[SR]at c⟩
  obtain⟨i,E,e⟩:=dd q;rw[List.length_zip]at E;have k:i<ks.length:=by omega
  have d:i<F.toL.length:=by omega
  have m:i<Us.length:=by rw[g.2.1];exact d
  rw[List.getElem_zip]at e;subst e;obtain⟨x,t,B,D,r⟩:=g.2.2 i _ _ _ (aq k) (aq d) (aq m);exact⟨x,t,B,D,r.off.1⟩
 |some a=>exact .inr ⟨rfl,val,s,ks,A,Us,u,hv,j,fun y c=>⟨⟨rfl,.inr (.inl c)⟩,n y c⟩,⟨rfl,.inl rfl⟩,fun U f y c=>⟨⟨rfl,.inr (.inr ⟨U,f,c⟩)⟩,C U f y c⟩,q,r6.2 g⟩
end Go.Proofs
namespace Go.Proofs
open Go Go.Lift
theorem sL{h:ac}{w o:Option Addr}{b:Nat}{sl val:ByteArray}{has:Bool}{s:SliceV}{ow:Option Addr}(t:By h w o)(d:h[b]? =some (.cells (qh sl has val s ow) aD (0,0))) (f:∀a,ow=some a→cq h a) {K:Bool→ac→Prop} (c:K (o.isSome&&(ow==w)) h):
  HC PG hP [.pointer (some ⟨b,0,none⟩),.pointer w] [.c .bool] K h:=by
 refine pc _ w ?_;unfold kJ cL;refine ao.2 (pB t ?_);cases o with
 |none=>exact al.2 c
 |some a=>exact ao.2 ⟨_,rfl,ow,fa (i:=4) d,trivial,fun x y hx e=>⟨f x hx,t.plain y e⟩,c⟩
theorem ja{W S:Nat→Prop}{h:ac}{w o:Option Addr}{b:Nat}{sl val:ByteArray}{has:Bool}{s:SliceV}{ow:Option Addr}{ks:List (Option Addr)}{Us:List (Nat→Prop)}(t:By h w o)(Z:∀a,o=some a→W a.block)(g:h[b]? =some (.cells (qh sl has val s ow) aD (0,0))) (hn:ks.length≤256)
  (F:(OwOk W h ow∧Sl kR 1 No h s ks∧(∀U∈Us,∀y,U y→y<h.size))∨(o.isSome=true∧ow=o∧∃A:Nat→Prop,OwnS kR 1 ax A h s ks∧(∀y,A y→S y∧y≠b∧y<h.size)∧S b∧∀U∈Us,∀y,U y→¬A y∧y≠b)) {K:Option Addr→ac→Prop}
  (R:∀h' b' s' A,h'[b']? =some (.cells (qh sl has val s' o) aD (0,0))→OwnS kR 1 ax A h' s' ks→(∀y,A y→(S y∨h.size≤y)∧y≠b'∧y<h'.size)→(S b'∨h.size≤b')→(∀U∈Us,∀y,U y→¬A y∧y≠b')→Upd No h h'→K (some ⟨b',0,none⟩) h'):
  HC PG cF [.pointer (some ⟨b,0,none⟩),.pointer w] [.c .ptr] K h:=by
 refine qR _ w ?_;unfold l8 nv c5 cL qg dZ iW ci vT D7;rcases F with⟨u,F,B⟩|⟨e,N,A,X,v,P,B⟩
 ·refine sL t g (fun a e=>(u a e).2) ?_
  have G:(o.isSome&&(ow==w))=false:=by
   cases ho:o with
   |none=>rfl
   |some a=>
    have e:=t.tok ho;rw[Option.isSome_some,Bool.true_and,beq_eq_false_iff_ne];intro j;rw[e]at j;exact(u a j).1 (Z a ho)
  rw[G];refine al.2 ⟨_,rfl,sl,fa (i:=0) g,has,fa (i:=1) g,val,fa (i:=2) g,s,fa (i:=3) g,ow,fa (i:=4) g,bK ?_⟩;have k1:=Upd.hnew No h CV aD;have b1:=cf h CV aD;simp only[dK h];generalize hnew h [.string (⟨#[]⟩:ByteArray),.bool false,.string (⟨#[]⟩:ByteArray),.slice none 0 0,.pointer none] aD=h1 at k1 b1;refine fV (c:=CV) (vs:= [.string sl,.bool has,.string val,.slice s.a s.len s.cap,.pointer ow]) b1 rfl fun D b2 J=>?_
  have I:Upd No h D:=k1.trans J fun x hx=>.inr (eP hx.symm)
  have Y:h.size<D.size:=aW b2;have L:=I.get0 g;refine⟨_,rfl,s,fa (i:=3) L,?_⟩;refine uR (F.upd I fun _ h=>h.elim) (by omega) fun s3 T M k=>?_
  have b3:T[h.size]? =some (.cells (qh sl has val s ow) aD (0,0)):=k.get0 b2;refine⟨CW (i:=3) b3 (show 3<5 by decide),wh (i:=3) (c':=qh sl has val s3 ow) b3 rfl fun h4 V C=>?_⟩
  refine⟨CW (i:=4) V (show 4<5 by decide),wh (i:=4) (c':=qh sl has val s3 none) V rfl fun Q E H=>?_⟩
  have d:=C.tr H;have z3:=k.size;have z5:=d.size;have q:Upd No h Q:=(I.tr k).trans d fun x hx=>.inr (eP hx.symm)
  have fin:∀{n:ac},n[h.size]? =some (.cells (qh sl has val s3 o) aD (0,0))→Upd (· =h.size) Q n→K (some ⟨h.size,0,none⟩) n:=fun{n} O f=>by
   have z6:=f.size;exact R n h.size s3 (fun x=>D.size≤x∧x<T.size) O (M.within.upd (d.tr f) fun x hx e=>by have e:x=h.size:=e;have:=hx.1;omega) (fun y m=>⟨.inr (by omega),by omega,by omega⟩) (.inr (av _)) (fun U z y m=>⟨fun h=>by have:=B U z y m;omega,by have:=B U z y m;omega⟩) (q.trans f fun x hx=>.inr (eP hx.symm))
  refine pB (t.upd0 q) ?_;cases ho:o with
  |none=>rw[ho]at fin;exact al.2 (fin E (Upd.refl _ _))
  |some a=>
   rw[ho]at fin;rw[t.tok ho];exact ao.2 ⟨CW (i:=4) E (show 4<5 by decide),wh (i:=4) (c':=qh sl has val s3 (some a)) E rfl fun n O f=>fin O f⟩
 ·refine sL t g (fun a j=>t.plain a (t.tok (by rw[←N];exact j))) ?_
  have p:(o.isSome&&(ow==w))=true:=by
   obtain⟨a,j⟩:=Option.isSome_iff_exists.1 e;rw[e,N,j,t.tok j];simp
  rw[p];subst N;exact ao.2 (R h b s A g X (fun y m=>⟨.inl (v y m).1,(v y m).2⟩) (.inl P) B (Upd.refl _ _))
theorem wf{h:ac}{w o:Option Addr}{k v:ByteArray}(t:By h w o){K:Option Addr→ac→Prop}(u:∀h' b s A,h'[b]? =some (.cells (qh k true v s o) aD (0,0))→OwnS kR 1 ax A h' s []→(∀y,A y→h.size≤y∧y≠b∧y<h'.size)→h.size≤b→Upd No h h'→K (some ⟨b,0,none⟩) h'):HC PG lN [.pointer w,.string k,.string v] [.c .ptr] K h:=by
 refine uj w k v ?_;unfold ou sw qg vT;have k1:=Upd.hnew No h CV aD;have b1:=cf h CV aD;refine bK ?_;simp only[dK h];generalize hnew h [.string (⟨#[]⟩:ByteArray),.bool false,.string (⟨#[]⟩:ByteArray),.slice none 0 0,.pointer none] aD=h1 at k1 b1;have E:=k1.size;refine ja (W:=fun y=>∃a,o=some a∧a.block=y) (S:=No) (Us:= []) (ks:= []) (sl:=⟨#[]⟩) (val:=⟨#[]⟩) (has:=false) (s:=⟨none,0,0⟩) (ow:=none) (t.upd0 k1) (fun a e=>⟨a,e,rfl⟩) b1 (d4 _) (.inl ⟨fT,Sl.nil lL,fun U C=>by cases C⟩) fun D b2 s A q n d f _ j=>?_
 refine oI (nl:=k) q fun F b3 m=>kV (v:=v) b3 fun p B g=>?_
 have c:=m.tr g;have z:h1.size≤b2:=f.elim (fun h=>h.elim) id
 have G:=c.size;exact u p b2 s A B (n.upd c fun x hx e=>(d x hx).2.1 e) (fun y i=>⟨(d y i).1.elim (fun h=>h.elim) fun h=>by omega,(d y i).2.1,by have:=(d y i).2.2;omega⟩) (by omega) ((k1.tr j).trans c fun x hx=>.inr (by have hx:x=b2:=hx;omega))
theorem Eh{o:Option Addr}{W:Nat→Prop}{h:ac}{b:Nat}{k v:ByteArray}{s:SliceV}{A:Nat→Prop}(c:h[b]? =some (.cells (qh k true v s o) aD (0,0))) (d:OwnS kR 1 ax A h s []) (a:∀y,A y→y≠b∧y<h.size) (nw:o=none→(∀y,A y→¬W y)∧¬W b):RxO o W h b k (some v) .nil (SR o b A []):=
 qq c rfl d a (fun _ h=>by cases h) (fun i j S T _ e=>by simp at e) ⟨rfl,rfl,fun i k n S e=>by simp at e⟩ nw
theorem LsO.ins{o:Option Addr}{W:Nat→Prop}{h:ac}{ks:List (Option Addr)}{L:List Bn}{Ts:List (Nat→Prop)}(r:LsO o W h ks L Ts){i:Nat}(t:i≤L.length){k:Option Addr}{n:Bn}{S:Nat→Prop}(c:KidO o W h k n S):LsO o W h (ks.take i++k::ks.drop i) (L.take i++n::L.drop i) (Ts.take i++S::Ts.drop i):=by
 obtain⟨s,p,d⟩:=r;have g:∀{α:Type _} {xs:List α} {x:α} {j:Nat},i≤xs.length→(xs.take i++x::xs.drop i)[j]? =if j<i then xs[j]? else if j=i then some x else xs[j-1]?:=fun{α xs x j} q=>by
  split
  ·rename_i hj
   rw[dt (by rw[aE];omega),ig,if_pos hj]
  ·rename_i hj
   rw[c8 (by rw[aE];omega),aE,aL q];split
   ·rename_i e;subst e;simp
   ·rename_i e
    have:j-i=(j-i-1)+1:=by omega
    rw[this,cx,ii];congr 1;omega
 refine⟨by simp[s],by simp[p],fun j k' f m ek b a=>?_⟩
 rw[g (by omega)]at ek b a;split at ek
 ·rename_i hj
  rw[if_pos hj]at b a;exact d j k' f m ek b a
 ·rename_i hj
  rw[if_neg hj]at b a;split at ek
  ·rename_i e
   rw[if_pos e]at b a;cases ek;cases b;cases a;exact c
  ·rename_i e
   rw[if_neg e]at b a;exact d (j-1) k' f m ek b a
theorem Dq{Ts:List (Nat→Prop)}(d:PD Ts){i:Nat}(o:i≤Ts.length){S:Nat→Prop}(f:∀U∈Ts,Dj S U):PD (Ts.take i++S::Ts.drop i):=by
 have g:∀{j:Nat},(Ts.take i++S::Ts.drop i)[j]? =if j<i then Ts[j]? else if j=i then some S else Ts[j-1]?:=fun{j}=>by
  split
  ·rename_i hj
   rw[dt (by rw[aE];omega),ig,if_pos hj]
  ·rename_i hj
   rw[c8 (by rw[aE];omega),aE,aL o];split
   ·rename_i e;subst e;simp
   ·rename_i e
    have:j-i=(j-i-1)+1:=by omega
    rw[this,cx,ii];congr 1;omega
 have m:∀{A B:Nat→Prop},Dj A B→Dj B A:=fun h y n p=>h y p n
 intro a b A B k c eb;rw[g]at c eb;split at c<;>split at eb
 ·exact d a b A B k c eb
 ·rename_i h1 h2
  split at eb
  ·cases eb;exact m (f A (aR c))
  ·exact d a (b-1) A B (by omega) c eb
 ·rename_i h1 h2
  split at c
  ·cases c;exact f B (aR eb)
  ·exact d (a-1) b A B (by omega) c eb
 ·rename_i h1 h2
  split at c<;>split at eb
  ·omega
  ·cases c;exact f B (aR eb)
  ·cases eb;exact m (f A (aR c))
  ·exact d (a-1) (b-1) A B (by omega) c eb
theorem Dp{Ts:List (Nat→Prop)}(f:PD Ts){i:Nat}{S:Nat→Prop}(e:∀j U,j≠i→Ts[j]? =some U→Dj S U):PD (Ts.set i S):=by
 have m:∀{A B:Nat→Prop},Dj A B→Dj B A:=fun h y g k=>h y k g
 intro a b A B c d eb;rw[f8]at d eb;split at d<;>split at eb
 ·omega
 ·rename_i h1 h2
  subst h1;split at d
  ·cases d;exact e b B (Ne.symm c) eb
  ·cases d
 ·rename_i h1 h2
  subst h2;split at eb
  ·cases eb;exact m (e a A c d)
  ·cases eb
 ·exact f a b A B c d eb
theorem LsO.set{o:Option Addr}{W:Nat→Prop}{h:ac}{ks:List (Option Addr)}{L:List Bn}{Ts:List (Nat→Prop)}(g:ks.length=L.length)(d:Ts.length=L.length){i:Nat}(f:∀(j:Nat) (k:Option Addr) (n:Bn) (S:Nat→Prop),j≠i→ks[j]? =some k→L[j]? =some n→Ts[j]? =some S→KidO o W h k n S) {k:Option Addr} {n:Bn} {S:Nat→Prop} (c:KidO o W h k n S):LsO o W h (ks.set i k) (L.set i n) (Ts.set i S):=by
 refine⟨by simp[g],by simp[d],fun j k' m p ek b a=>?_⟩
 rw[f8]at ek b a;by_cases e:i=j
 ·rw[if_pos e]at ek b a
  split at ek
  ·rename_i hj
   rw[if_pos (by omega)]at b a;cases ek;cases b;cases a;exact c
  ·cases ek
 ·rw[if_neg e]at ek b a
  exact f j k' m p (Ne.symm e) ek b a
end Go.Proofs
namespace Go.Proofs
open Go Go.Lift
theorem By.lt{h:ac}{w o:Option Addr}(t:By h w o){a:Addr}(e:w=some a):a.block<h.size:=by
 obtain⟨c,ty,b,_⟩:=t.plain a e;exact aW b
theorem LsO.move{o:Option Addr}{W W' M:Nat→Prop}{h c:ac}{ks:List (Option Addr)}{L:List Bn}{Us:List (Nat→Prop)}(r:LsO o W h ks L Us)(k:Upd M h c)(j:∀U∈Us,∀y,U y→y<h.size)(hm:∀y,M y→(W y∧∀U∈Us,¬U y)∨h.size≤y)(e:∀y,W' y→W y∨h.size≤y):LsO o W' c ks L Us:=by
 refine⟨r.1,r.2.1,fun i f n S ek g d=>?_⟩
 have b:=aR d;exact(((r.2.2 i f n S ek g d).less (W':=fun y=>W y∨h.size≤y) fun y a=>a).upd k (j S b) fun y a=>(hm y a).imp (fun h=>⟨.inl h.1,h.2 S b⟩) id).less fun y a=>.inl (e y a)
theorem tK{o:Option Addr}{S A:Nat→Prop}{Us:List (Nat→Prop)}{b z:Nat}{a:ac}(g:S b∨z≤b)(c:b<a.size)(e:∀y,A y→(S y∨z≤y)∧y<a.size)(i:∀U∈Us,∀y,U y→(S y∨z≤y)∧y<a.size){y:Nat}(f:SR o b A Us y):(S y∨z≤y)∧y<a.size:=by
 rcases f.2 with rfl|h|⟨U,d,h⟩
 ·exact⟨g,c⟩
 ·exact e y h
 ·exact i U d y h
set_option maxHeartbeats 1000000 in
theorem wc{W S:Nat→Prop}{h:ac}{w' o:Option Addr}{b:Nat}{sl:ByteArray}{w:Option ByteArray}{F:Fo}(r:RxO o W h b sl w F S)(t:By h w' o)(hW:∀y,W y→y<h.size)(M:∀y,S y→W y)(R:∀a,o=some a→W a.block)(hn:F.toL.length≤256){c:Nat}(hc:c≤sl.size){K:Option Addr→ac→Prop}
  (hk:∀h' b' S',RxO o (fun y=>W y∨S' y) h' b' (sl.extract 0 c) none (.cons (sl.data.toList.drop c) w F .nil) S'→(∀y,S' y→(S y∨h.size≤y)∧y<h'.size)→Upd S h h'→K (some ⟨b',0,none⟩) h'):HC PG hJ [.pointer (some ⟨b,0,none⟩),.pointer w',.int .i64 c] [.c .ptr] K h:=by
 refine o8 _ w' c ?_;unfold kG sw c5 qg dZ vT;have hno:o=none→∀y,¬S y:=fun e=>by subst e;exact r.off.2
 obtain⟨val,s,ow,ks,Us,hb,hv,hs,hL,C,hPD,Z⟩:=r.view;have v:∀y,S y→y<h.size:=fun y d=>hW y (M y d)
 have lab:∀{h'},Upd No h h'→aP h' (adr ⟨b,0,none⟩ 0)=some (.string sl):=fun k=>fa (i:=0) (k.get0 hb)
 have r0:=Upd.refl No h;refine⟨_,rfl,sl,lab r0,⟨by omega,by omega⟩,bK ?_⟩
 have k1:=Upd.hnew No h CV aD;have b1:=cf h CV aD;simp only[dK h];generalize hnew h [.string (⟨#[]⟩:ByteArray),.bool false,.string (⟨#[]⟩:ByteArray),.slice none 0 0,.pointer none] aD=h1 at k1 b1;have z1:=k1.size;refine⟨lab k1,?_⟩;refine ja (W:=W) (S:=No) (Us:= []) (ks:= []) (sl:=⟨#[]⟩) (val:=⟨#[]⟩) (has:=false) (s:=⟨none,0,0⟩) (ow:=none) (t.upd0 k1) R b1 (d4 _) (.inl ⟨fT,Sl.nil lL,fun U q=>by cases q⟩) fun h2 u s2 A2 b2 _ _ hbu _ hu2=>⟨lab (k1.tr hu2),?_⟩
 have hbu:h1.size≤u:=hbu.elim (fun h=>h.elim) id
 have hbu2:=aW b2;rw[aK];refine oI b2 fun h3 b3 hu3=>?_
 have k02:=k1.tr hu2;have g:Upd No h h3:=k02.trans hu3 fun x hx=>.inr (by have hx:x=u:=hx;omega)
 have z02:=k02.size;have z3:=hu3.size;have z03:=g.size;have t3:=t.upd0 g;refine ja (W:=W) (S:=S) (Us:=Us) (ks:=ks) (s:=s) (ow:=ow) (val:=val) (sl:=sl) (has:=w.isSome) t3 R (g.get0 hb) (by rw[hL.1];exact hn) ?_ fun h4 m s4 A4 O hA4 f hb4 hU4 N=>?_
 ·rcases Z with⟨how,_,_,hS0⟩|⟨e,eo,A,hA,J,hSbb,hUA⟩
  ·exact .inl ⟨how.upd g fun _ h=>h.elim,hs.upd g fun _ h=>h.elim,fun U q y d=>absurd (C U q y d) (hS0 y)⟩
  ·exact .inr ⟨e,eo,A,hA.upd g fun _ _ h=>h,fun y d=>⟨(J y d).1,(J y d).2.1,by have:=(J y d).2.2;omega⟩,hSbb,hUA⟩
 refine⟨_,rfl,sl,fa (i:=0) O,⟨by omega,by omega⟩,?_⟩
 refine oI (nl:=sl.extract c sl.size) O fun p b5 G=>?_
 have z4:=N.size;have z5:=G.size;have hA5:=hA4.upd G fun x hx e=>(f x hx).2.1 e
 have nb:u≠m:=fun e=>by
  rcases hb4 with h|h
  ·have:=v _ h;omega
  ·omega
 have b35:p[u]? =some (.cells (qh (sl.extract 0 c) false ⟨#[]⟩ s2 o) aD (0,0)):=G.get (N.get0 b3) (by show ¬u=m;omega);have k6:=Upd.hnew No p [.pointer (some ⟨m,0,none⟩)] ax;have b6:=cf p [.pointer (some ⟨m,0,none⟩)] ax;refine bK ?_;simp only[dK p];generalize hnew p [.pointer (some ⟨m,0,none⟩)] ax=h6 at k6 b6;have z6:=aW b6
 have b36:=k6.get0 b35;refine⟨_,rfl,CW (i:=3) b36 (show 3<5 by decide),wh (i:=3) (c':=qh (sl.extract 0 c) false ⟨#[]⟩ ⟨some ⟨p.size,0,none⟩,1,1⟩ o) b36 rfl fun I b7 E=>?_⟩
 have z7:=E.size;have zb4:=aW O;have u07:Upd (· =m) h I:=((((g.tr N).wide.tr G).tr k6.wide).trans E fun x hx=>.inr (by have hx:x=u:=hx;omega))
 have b57:=E.get (k6.get0 b5) (by show ¬m=u;omega);have b67:I[p.size]? =some (.cells #[.pointer (some ⟨m,0,none⟩)] ax (0,0)):=E.get b6 (by show ¬p.size=u;omega);have hA7:=(hA5.upd k6 fun _ _ h=>h).upd E fun x hx e=>by
  have e:x=u:=e;rcases(f x hx).1 with h|h
  ·have:=v x h;omega
  ·omega
 have D:∀y,A4 y→(S y∨h.size≤y)∧y<I.size:=fun y d=>⟨(f y d).1.imp id fun h=>by omega,by have:=(f y d).2.2;omega⟩
 have z:S m∨h.size≤m:=hb4.imp id fun h=>by omega
 have hUb:∀U∈Us,∀y,U y→(S y∨h.size≤y)∧y<I.size:=fun U q y d=>⟨.inl (C U q y d),by have:=v y (C U q y d);omega⟩
 have Q:∀y,SR o m A4 Us y→(S y∨h.size≤y)∧y<I.size:=fun y d=>tK z (by omega) D hUb d
 have Y:∀y,SR o m A4 Us y→y<p.size:=fun y d=>by
  rcases d.2 with rfl|h|⟨U,L,h⟩
  ·omega
  ·have:=(f y h).2.2;omega
  ·have:=v y (C U L y h);omega
 have V:∀y,SR o m A4 Us y→y≠u:=fun y d e=>by
  subst e;rcases d.2 with h|h|⟨U,L,h⟩
  ·exact nb h
  ·rcases(f y h).1 with h|h
   ·have:=v y h;omega
   ·omega
  ·have:=v y (C U L y h);omega
 have H:∀{A:Nat→Prop} {bb:Nat} {T:List (Nat→Prop)} {X:Nat→Prop},(∀y,A y→S y∨h.size≤y)→(S bb∨h.size≤bb)→o=none→(∀y,A y→¬(W y∨SR o u X T y))∧¬(W bb∨SR o u X T bb):=fun{A bb T X} hA hb e=>by
  have no:∀y,(S y∨h.size≤y)→¬(W y∨SR o u X T y):=fun y d P=>by
   rcases P with P|⟨P,_⟩
   ·rcases d with h|h
    ·exact hno e y h
    ·have:=hW y P;omega
   ·rw[e]at P;cases P
  exact⟨fun y d=>no y (hA y d),no _ hb⟩
 refine hk I u (SR o u (· =p.size) [SR o m A4 Us]) (qq (ks:= [some ⟨m,0,none⟩]) b7 rfl (⟨rfl,lL,av _,.inr ⟨p.size,[],rfl,rfl,by simpa[kR]using b67,rfl⟩⟩:OwnS kR 1 ax (· =p.size) I ⟨some ⟨p.size,0,none⟩,1,1⟩ [some ⟨m,0,none⟩]) (fun y d=>?_) (fun U q y d=>?_) (fun i j A B hij e1 e2=>?_) ⟨rfl,rfl,fun i kk n U ek en eU=>?_⟩ (H (fun y d=>?_) (.inr (by omega)))) (fun y d=>?_) (u07.mono fun y d=>?_)
 ·have d:y=p.size:=d
  omega
 ·rw[ag.1 q]at d
  have:=Y y d;exact⟨fun h=>by have h:y=p.size:=h;omega,V y d⟩
 ·cases i with
  |zero=>cases j with
   |zero=>exact absurd rfl hij
   |succ j=>simp at e2
  |succ i=>simp at e1
 ·cases i with
  |succ i=>simp at ek
  |zero=>
   simp only[bM,aN.injEq,Fo.toL]at ek en eU;subst ek en eU;refine⟨m,sl.extract c sl.size,rfl,wR ..,qq b57 hv hA7 (fun y d=>⟨(f y d).2.1,(D y d).2⟩) hU4 hPD (hL.move u07 (fun U q y d=>v y (C U q y d)) (fun y d=>?_) fun y d=>?_) (H (fun y d=>(D y d).1) z)⟩
   ·have d:y=m:=d
    subst d;exact z.imp (fun h=>⟨M y h,fun U q hu=>(hU4 U q y hu).2 rfl⟩) id
   ·rcases d with h|h
    ·exact .inl h
    ·rcases h.2 with rfl|h|⟨U,q,h⟩
     ·exact .inr (by omega)
     ·have h:y=p.size:=h
      exact .inr (by omega)
     ·rw[ag.1 q]at h
      exact(Q y h).1.imp (M y) id
 ·have d:y=p.size:=d
  exact .inr (by omega)
 ·refine tK (.inr (by omega)) (aW b7) (fun y d=>?_) (fun U q y d=>?_) d
  ·have d:y=p.size:=d
   exact⟨.inr (by omega),by omega⟩
  ·rw[ag.1 q]at d
   exact Q y d
 ·have d:y=m:=d
  rw[d];exact z
end Go.Proofs
namespace Go.Proofs
open Go Go.Lift
theorem KidO.move{o:Option Addr}{W W' M:Nat→Prop}{h c:ac}(k:Upd M h c){a:Option Addr}{n:Bn}{S:Nat→Prop}(r:KidO o W h a n S)(e:∀y,S y→y<h.size)(hm:∀y,M y→(W y∧¬S y)∨h.size≤y)(d:∀y,W' y→W y∨h.size≤y):KidO o W' c a n S:=
 ((r.less (W':=fun y=>W y∨h.size≤y) fun y b=>b).upd k e fun y b=>(hm y b).imp (fun h=>⟨.inl h.1,h.2⟩) id).less fun y b=>.inl (d y b)
theorem zX{o ow:Option Addr}{W S M:Nat→Prop}{h f:ac}{b:Nat}{s:SliceV}{ks:List (Option Addr)}{Us Us':List (Nat→Prop)}
  (g:(OwOk W h ow∧(¬W b)∧Sl kR 1 W h s ks∧∀y,¬S y)∨(o.isSome=true∧ow=o∧∃A:Nat→Prop,OwnS kR 1 ax A h s ks∧(∀y,A y→S y∧y≠b∧y<h.size)∧S b∧∀U∈Us,∀y,U y→¬A y∧y≠b))
  (C:b<h.size)(m:Upd M h f)(p:∀y,M y→S y∧∃U∈Us,U y)(q:∀U∈Us',∀y,U y→((∃V∈Us,V y)∨h.size≤y)∧y<f.size):
  (OwOk W f ow∧Sl kR 1 No f s ks∧(∀U∈Us',∀y,U y→y<f.size))∨(o.isSome=true∧ow=o∧∃A:Nat→Prop,OwnS kR 1 ax A f s ks∧(∀y,A y→S y∧y≠b∧y<f.size)∧S b∧∀U∈Us',∀y,U y→¬A y∧y≠b):=by
 have z:=m.size;rcases g with⟨n,_,u,k⟩|⟨e,B,A,t,d,i,j⟩
 ·exact .inl ⟨n.upd m fun y a=>absurd (p y a).1 (k y),(u.upd m fun y a=>absurd (p y a).1 (k y)).less fun _ h=>h.elim,fun U c y a=>(q U c y a).2⟩
 ·refine .inr ⟨e,B,A,t.upd m fun y a hm=>?_,fun y a=>⟨(d y a).1,(d y a).2.1,by have:=(d y a).2.2;omega⟩,i,fun U c y a=>?_⟩
  ·obtain⟨_,U,c,v⟩:=p y hm
   exact(j U c y v).1 a
  ·rcases(q U c y a).1 with⟨V,x,hv⟩|h
   ·exact j V x y hv
   ·exact⟨fun w=>by have:=(d y w).2.2;omega,by omega⟩
set_option maxHeartbeats 4000000 in
theorem zK{w' o:Option Addr}:∀(n:Nat) {W S:Nat→Prop} {b:Nat} {sl:ByteArray} {w:Option ByteArray} {F:Fo} {h:ac} (k v:ByteArray),k.size<n→k.size≤1000000→RxO o W h b sl w F S→By h w' o→(∀y,W y→y<h.size)→(∀y,S y→W y)→(∀a,o=some a→W a.block)→(∀a,w'=some a→¬S a.block)→fK F→∀{K:(Option Addr)×Bool×Bool→ac→Prop},
  (∀Y q w2 F2 S2 E ch,Upd S h Y→RxO o (fun y=>W y∨S2 y) Y q sl w2 F2 S2→(∀y,S2 y→(S y∨h.size≤y)∧y<Y.size)→fK F2→lQ (rv w F) (rv w2 F2) k.data.toList v→(ch=false→q=b∧w2=w∧F2=F∧Upd No h Y∧rv w F k.data.toList v)→(rv w F k.data.toList v→ch=false)→K (some ⟨q,0,none⟩,E,ch) Y)→
  HC PG gu [.pointer (some ⟨b,0,none⟩),.pointer w',.string k,.string v] [.c .ptr,.c .bool,.c .bool] K h:=by
 intro n;induction n with
 |zero=>intro W S b sl w F h k v hk;omega
 |succ n ih=>
  intro W S b sl w F h k v hkn hk6 r t hW D hWo hwS hc K hk;refine qQ (some ⟨b,0,none⟩) w' k v ?_;unfold l7 dT gg sw c5 uY qg dZ D5 iW ci C5 C8 AH;have hr:=r;have hno:o=none→∀y,¬S y:=fun e=>by subst e;exact r.off.2
  obtain⟨val,s,ow,ks,Us,hb,hv,hs,hL,hUS,hPD,hown⟩:=r.view;have hn:=pP hc;have hcan:=eh.1 hc;have hSb:∀y,S y→y<h.size:=fun y d=>hW y (D y d)
  have N:∀U∈Us,∀y,U y→y<h.size:=fun U G y d=>hSb y (hUS U G y d)
  have zb:=aW hb;have own2:=fun{B:ac} {M:Nat→Prop} (ku:Upd M h B) (hM:∀y,M y→S y∧∃U∈Us,U y) (Us':List (Nat→Prop)) (G:∀U∈Us',∀y,U y→((∃V∈Us,V y)∨h.size≤y)∧y<B.size)=>zX (Us':=Us') hown zb ku hM G
  have hUh:∀{B:ac},h.size≤B.size→∀U∈Us,∀y,U y→((∃V∈Us,V y)∨h.size≤y)∧y<B.size:=fun z U G y d=>⟨.inl ⟨U,G,d⟩,by have:=N U G y d;omega⟩
  have hno':∀{A X:Nat→Prop} {bb bx:Nat} {T:List (Nat→Prop)},(∀y,A y→S y∨h.size≤y)→(S bb∨h.size≤bb)→o=none→(∀y,A y→¬(W y∨SR o bx X T y))∧¬(W bb∨SR o bx X T bb):=fun{A X bb bx T} hA hb e=>by
   have no:∀y,(S y∨h.size≤y)→¬(W y∨SR o bx X T y):=fun y d hw=>by
    rcases hw with hw|⟨hw,_⟩
    ·rcases d with h|h
     ·exact hno e y h
     ·have:=hW y hw;omega
    ·rw[e]at hw;cases hw
   exact⟨fun y d=>no y (hA y d),no _ hb⟩
  rw[kB];refine bi (fun hk0=>?_) fun hk0=>?_
  ·have hke:k.data.toList= []:=by rw[hk0]
   rw[hke]at hk;refine Join.intro (fun t Y=>t=decide (w=some v)∧Y=h) (fun R hR=>⟨_,rfl,w.isSome,fa (i:=1) hb,?_⟩) ?_
   ·cases hw:w with
    |none=>exact al.2 (hR _ _ ⟨by rw[hw];rfl,rfl⟩)
    |some u=>
     refine ao.2 ⟨_,rfl,val,fa (i:=2) hb,hR _ _ ⟨?_,rfl⟩⟩;rw[kB,vw hv u hw,hw];exact decide_eq_decide.2 ⟨fun e=>by rw[e],fun e=>aN.inj e⟩
   ·rintro t' Y ⟨rfl,rfl⟩
    refine bi (fun e=>?_) fun e=>?_
    ·refine hk Y b w F S false false (Upd.refl _ _) (hr.less fun y d=>.inl (d.elim id (D y))) (fun y d=>⟨.inl d,hSb y d⟩) hc ?_ (fun _=>⟨rfl,rfl,rfl,Upd.refl _ _,.inl ⟨rfl,e⟩⟩) fun _=>rfl
     rw[e];exact uD hc v
    ·have fin:∀{h1 B:ac} {q:Nat} {s1:SliceV} {A1:Nat→Prop},OwnS kR 1 ax A1 h1 s1 ks→(∀y,A1 y→(S y∨Y.size≤y)∧y≠q∧y<h1.size)→(S q∨Y.size≤q)→(∀U∈Us,∀y,U y→¬A1 y∧y≠q)→Upd No Y h1→B[q]? =some (.cells (qh sl true v s1 o) aD (0,0))→Upd (· =q) h1 B→∀E,K (some ⟨q,0,none⟩,E,true) B:=fun{h1 B q s1 A1} hA1 f g P p b2 C E=>by
      have z1:=p.size;have z2:=C.size;have zb':=aW b2;have u02:Upd (· =q) Y B:=p.wide.tr C
      have hSR:∀y,SR o q A1 Us y→(S y∨Y.size≤y)∧y<B.size:=fun y d=>tK g zb' (fun y d=>⟨(f y d).1,by have:=(f y d).2.2;omega⟩) (fun U G y d=>⟨.inl (hUS U G y d),by have:=N U G y d;omega⟩) d
      refine hk B q (some v) F (SR o q A1 Us) E true (u02.mono fun y d=>by have d:y=q:=d;rw[d];exact g) (qq b2 rfl (hA1.upd C fun y d=>(f y d).2.1) (fun y d=>⟨(f y d).2.1,by have:=(f y d).2.2;omega⟩) P hPD (hL.move u02 N (fun y d=>?_) fun y d=>d.elim .inl fun h=>(hSR y h).1.imp (D y) id) (hno' (fun y d=>(f y d).1) g)) hSR hc (uD hc v) (fun h=>by cases h) fun J=>?_
      ·have d:y=q:=d
       subst d;exact g.imp (fun h=>⟨D y h,fun U G hu=>(P U G y hu).2 rfl⟩) id
      ·rcases J with⟨_,h⟩|h
       ·exact absurd h e
       ·exact absurd rfl (qy hc h)
     have ow0:=own2 (Upd.refl No Y) (fun _ h=>h.elim) Us (hUh (av _))
     refine⟨_,rfl,?_,w.isSome,fa (i:=1) hb,?_⟩
     ·refine ja (S:=S) (Us:=Us) t hWo hb (by rw[hL.1];exact hn) ow0 fun h1 q s1 A1 b1 hA1 f g P p=>⟨?_,w.isSome,fa (i:=1) (p.get0 hb),?_⟩
      ·refine kV b1 fun B b2 C=>?_
       have hb2:∃val2,aP B (adr ⟨b,0,none⟩ 1)=some (.bool val2):=by
        by_cases e2:b=q
        ·rw[e2];exact⟨_,fa (i:=1) b2⟩
        ·exact⟨_,fa (i:=1) ((p.wide.tr C).get hb e2)⟩
       obtain⟨v2,hv2⟩:=hb2;exact⟨v2,hv2,fin hA1 f g P p b2 C _⟩
      ·exact kV b1 fun B b2 C=>fin hA1 f g P p b2 C _
     ·exact ja (S:=S) (Us:=Us) t hWo hb (by rw[hL.1];exact hn) ow0 fun h1 q s1 A1 b1 hA1 f g P p=>kV b1 fun B b2 C=>fin hA1 f g P p b2 C _
  ·have L:k.data.toList≠[]:=fun e=>hk0 (by cases k;exact congrArg ByteArray.mk (gF.1 e))
   obtain⟨c0,hc0,hc0e⟩:=Bh L;refine⟨c0,Int.le_refl _,hc0,?_⟩;have hlk:k.data.toList.length=k.size:=by simp
   refine zM (hr.read t) hc (c:=c0.toNat) (UInt8.toNat_lt _) fun i ok hil hlo hhi hok=>?_
   rw[hc0e]at hlo hhi hok;cases ok with
   |false=>
    have hno2:∀hi:i<F.toL.length,hd F.toL[i].1≠hd k.data.toList:=fun hi e=>by have:=hok.2 ⟨hi,e⟩;cases this
    have hhi':∀j (hj:j<F.toL.length),i≤j→hd k.data.toList<hd F.toL[j].1:=fun j hj hij=>by
     have h1:=hhi j hj hij;rcases bV i j with hl|hl
     ·have B:=cH.1 hcan.1 i j (by omega) hj hl
      have h3:=hhi i (by omega) (av _);omega
     ·have:i=j:=by omega
      subst this;have:=hno2 hj;omega
    obtain⟨hc',hp'⟩:=zV (v:=v) hc L hlo hhi';refine ao.2 ?_;refine ja (S:=S) (Us:=Us) t hWo hb (by rw[hL.1];exact hn) (own2 (Upd.refl No h) (fun _ h=>h.elim) Us (hUh (av _))) fun h1 q s1 A1 b1 hA1 f g P p=>?_
    refine⟨_,rfl,s1,fa (i:=3) b1,?_⟩;refine wf (t.upd0 p) fun B fb fs Af fb2 hAf hAfs hfb C=>⟨fa (i:=3) (C.get0 b1),bK ?_⟩
    have k3:=Upd.hnew No B [.pointer (some ⟨fb,0,none⟩)] ax;have b3:=cf B [.pointer (some ⟨fb,0,none⟩)] ax;have z3:(hnew B [.pointer (some ⟨fb,0,none⟩)] ax).size=B.size+1:=je ..;simp only[dK B];generalize hnew B [.pointer (some ⟨fb,0,none⟩)] ax=h3 at k3 b3 z3;have hu13:=C.tr k3;refine⟨fa (i:=3) (hu13.get0 b1),?_⟩;have z01:=p.size
    have z1:=aW b1;have z2:=C.size;have zf:=aW fb2;have ho3:=(hA1.upd hu13 fun _ _ h=>h).more (M':=fun x=>A1 x∨h3.size≤x) fun x hx=>.inl hx
    refine yg ho3 (k:=i) (by rw[hL.1];exact hil) (by rw[hL.1];omega) b3 (fun h=>h.elim (fun h=>by have:=(f _ h).2.2;omega) fun h=>by omega) (fun x hx=>.inr hx) fun s4 h4 ho4 hu4=>?_
    have b4:=hu4.get (hu13.get0 b1) (fun h=>h.elim (fun h=>(f _ h).2.1 rfl) fun h=>by omega)
    have f4:=hu4.get (k3.get0 fb2) (fun h=>h.elim (fun h=>by have:=(f _ h).2.2;omega) fun h=>by omega)
    refine⟨_,rfl,CW (i:=3) b4 (show 3<5 by decide),wh (i:=3) (c':=qh sl w.isSome val s4 o) b4 rfl fun h5 b5 hu5=>?_⟩
    have z4:=hu4.size;have z5:=hu5.size;have u05:Upd (fun y=>y=q∨A1 y) h h5:=((p.tr hu13).wide.trans hu4 fun x hx=>hx.imp .inr fun h=>by omega).trans hu5 fun x hx=>.inl (.inl hx)
    have ho5:=ho4.within.upd hu5 fun x hx e=>by
     have e:x=q:=e;subst e;rcases hx.1 with h|h
     ·exact(f _ h).2.1 rfl
     ·omega
    have nfb:¬fb=q:=by omega
    have f5:=hu5.get f4 nfb;have hAf5:=((hAf.upd k3 fun _ _ h=>h).upd hu4 (fun y d h=>by
     have:=hAfs y d
     rcases h with h|h
     ·have:=(f y h).2.2;omega
     ·omega)).upd hu5 fun y d e=>by
      have e:y=q:=e;have:=hAfs y d;omega
    have hSf:∀y,SR o fb Af [] y→h1.size≤y∧y<B.size:=fun y d=>by
     rcases d.2 with rfl|h|⟨U,G,_⟩
     ·exact⟨hfb,zf⟩
     ·have:=hAfs y h;omega
     ·cases G
    have hmem:∀U∈Us.take i++SR o fb Af []::Us.drop i,U∈Us∨U=SR o fb Af []:=fun U G=>by
     rcases cn.1 G with h|h
     ·exact .inl (List.mem_of_mem_take h)
     ·rcases ai.1 h with h|h
      ·exact .inr h
      ·exact .inl (List.mem_of_mem_drop h)
    have hA5:∀y,((A1 y∨h3.size≤y)∧y<h4.size)→(S y∨h.size≤y)∧y≠q∧y<h5.size:=fun y d=>by
     rcases d.1 with h|h
     ·exact⟨(f y h).1,(f y h).2.1,by omega⟩
     ·exact⟨.inr (by omega),by omega,by omega⟩
    have hS2:∀y,SR o q (fun y=>(A1 y∨h3.size≤y)∧y<h4.size) (Us.take i++SR o fb Af []::Us.drop i) y→(S y∨h.size≤y)∧y<h5.size:=fun y d=>tK g (aW b5) (fun y d=>⟨(hA5 y d).1,(hA5 y d).2.2⟩) (fun U G y d=>by
     rcases hmem U G with h|rfl
     ·exact⟨.inl (hUS U h y d),by have:=N U h y d;omega⟩
     ·have:=hSf y d;exact⟨.inr (by omega),by omega⟩) d
    refine hk h5 q w _ (SR o q (fun y=>(A1 y∨h3.size≤y)∧y<h4.size) (Us.take i++SR o fb Af []::Us.drop i)) true true (u05.mono fun y d=>?_) (qq b5 hv ho5 (fun y d=>(hA5 y d).2) (fun U G y d=>?_) (Dq hPD (by rw[hL.2.1];exact hil) fun U G y d hu=>?_) (by
     rw[Fo.to_of]
     refine(hL.move u05 N (fun y d=>?_) fun y d=>d.elim .inl fun h=>(hS2 y h).1.imp (D y) id).ins hil ⟨fb,k,rfl,rfl,Eh f5 hAf5 (fun y d=>?_) (hno' (fun y d=>.inr ?_) (.inr (by omega)))⟩
     ·rcases d with rfl|h
      ·exact g.imp (fun h=>⟨D _ h,fun U G hu=>(P U G _ hu).2 rfl⟩) id
      ·exact(f y h).1.imp (fun hs=>⟨D y hs,fun U G hu=>(P U G y hu).1 h⟩) id
     ·have:=hAfs y d;exact⟨this.2.1,by omega⟩
     ·have:=hAfs y d;omega) (hno' (fun y d=>(hA5 y d).1) g)) hS2 hc' (qu L hp') (fun h=>by cases h) fun J=>?_
    ·rcases d with rfl|h
     ·exact g
     ·exact(f y h).1
    ·rcases hmem U G with h|rfl
     ·have:=P U h y d
      have B:=N U h y d;exact⟨fun h=>h.1.elim this.1 fun h=>by omega,this.2⟩
     ·have:=hSf y d
      exact⟨fun h=>h.1.elim (fun h=>by have:=(f y h).2.2;omega) fun h=>by omega,by omega⟩
    ·have:=hSf y d;have:=N U G y hu;omega
    ·rcases J with⟨h,_⟩|J
     ·exact absurd h L
     ·obtain⟨n',hn',e,_⟩:=qz hc J
      obtain⟨j,hj,rfl⟩:=dd hn';rcases bV j i with hl|hl
      ·have:=hlo j hj hl;omega
      ·have:=hhi' j hj hl;omega
   |true=>
    obtain⟨hi,hie⟩:=hok.1 rfl;refine al.2 ⟨_,rfl,s,fa (i:=3) hb,?_⟩;have hki0:i<ks.length:=by rw[hL.1];exact hi
    have hUi0:i<Us.length:=by rw[hL.2.1];exact hi
    obtain⟨kb,ksl,hke,O,hkn⟩:=hL.2.2 i _ _ _ (aq hki0) (aq hi) (aq hUi0);have hki:ks[i]? =some (some ⟨kb,0,none⟩):=by rw[aq hki0,hke]
    have hUie:Us[i]? =some Us[i]:=aq hUi0;have hUim:Us[i]∈Us:=bO hUi0;have hmem:F.toL[i]∈F.toL:=bO hi;have Q:=hcan.2 _ hmem;obtain⟨a,ha,_,hvv⟩:=hs.at0 hki;have hslen:=hs.len;rw[hL.1]at hslen;have hlt1:(i:Int)<((s.len:Nat):Int):=by omega
    refine⟨⟨by simp only;omega,hlt1⟩,a,ha,some ⟨kb,0,none⟩,hvv,_,rfl,?_⟩;obtain⟨kval,kss,kow,kks,kUs,hkb,_⟩:=hkn.view;refine⟨ksl,fa (i:=0) hkb,Al hk6 ?_⟩;rw[O];have hc1:=DL L Q.1 hie.symm;have hcle:=C2 k.data.toList F.toL[i].1;have hct:=zr k.data.toList F.toL[i].1;have hcd:=zs k.data.toList F.toL[i].1;have hll:ksl.size=F.toL[i].1.length:=by rw[←O];simp
    have hin_m:rx F k.data.toList v→tW F.toL[i] k.data.toList v:=fun J=>by
     obtain⟨n',hn',e,hN⟩:=qz hc J;rw[←zv hc hn' hmem (by omega)];exact hN
    have hin_f:tW F.toL[i] k.data.toList v→rx F k.data.toList v:=fun J=>g4.2 ⟨_,hmem,J⟩
    have hset:∀{w2:Option ByteArray} {F2:Fo} {nl:List UInt8},nl≠[]→hd nl=hd F.toL[i].1→fK F2→Br (rv w2 F2)→fK (.ofL (F.toL.set i (nl,w2,F2))):=fun h1 B h3 h4=>CI hc hi ⟨h1,(BQ h3).2 h4,h3⟩ B
    have hputs:∀{m:Bn},lQ (tW F.toL[i]) (tW m) k.data.toList v→lQ (rx F) (rx (.ofL (F.toL.set i m))) k.data.toList v:=fun hp=>ws hc hi hie hp
    have hsame:lQ (tW F.toL[i]) (tW F.toL[i]) k.data.toList v→lQ (rx F) (rx F) k.data.toList v:=zT hc hi hie;have H:∀y,Us[i] y→S y:=hUS _ hUim;have hUib:∀y,Us[i] y→y<h.size:=N _ hUim;have hUid:∀j U,j≠i→Us[j]? =some U→Dj Us[i] U:=fun j U hj eU=>hPD i j _ _ (Ne.symm hj) hUie eU
    have nUb:¬Us[i] b:=fun hu=>by
     rcases hown with⟨_,_,_,hS0⟩|⟨_,_,A,_,_,_,hUA⟩
     ·exact hS0 _ (H _ hu)
     ·exact(hUA _ hUim b hu).2 rfl
    generalize F.toL[i]=m at O hkn Q hc1 hcle hct hcd hll hin_m hin_f hset hputs hsame hie;generalize Us[i]=Ui at hkn hUie hUim H hUib hUid nUb;generalize hcc:cm k.data.toList m.1=c at hc1 hcle hct hcd;obtain⟨lab,wk,Fk⟩:=m;simp only at O hkn Q hcle hct hcd hll hie hset;refine Join.intro (fun t Y=>∃ub Z wu Fu SU,t=some ⟨ub,0,none⟩∧Upd Ui h Y∧RxO o (fun y=>W y∨SU y) Y ub Z wu Fu SU∧(∀y,SU y→(Ui y∨h.size≤y)∧y<Y.size)∧fK Fu∧Z.data.toList=k.data.toList.take c∧(∀k' v',tW (Z.data.toList,wu,Fu) k' v'↔tW (lab,wk,Fk) k' v')∧(∀w' F',fK F'→lQ (rv wu Fu) (rv w' F') (k.data.toList.drop c) v→Br (rv w' F'))∧(Upd No h Y∨¬rv wu Fu (k.data.toList.drop c) v)) (fun R hR=>⟨_,rfl,ksl,fa (i:=0) hkb,?_⟩) ?_
    ·refine bi (fun hlt=>?_) fun hge=>?_
     ·have hlt:c<lab.length:=by omega
      have hdne:lab.drop c≠[]:=fun e=>by
       have:=congrArg iq e;rw[aB,dQ]at this;omega
      have hhd:k.data.toList.drop c≠[]→hd (k.data.toList.drop c)≠hd (lab.drop c):=fun hne=>by
       refine hcd ?_ hlt;rcases bV c k.data.toList.length with hl|hl
       ·exact hl
       ·exact absurd (List.drop_eq_nil_of_le hl) hne
      have hcs:fK (.cons (ksl.data.toList.drop c) wk Fk .nil):=by
       rw[O];exact⟨hdne,Q.2.1,Q.2.2,fun _ h=>by simp[Fo.toL]at h,trivial⟩
      refine wc hkn t hW (fun y d=>D y (H y d)) hWo (pP Q.2.2) (c:=c) (by omega) fun h1 ub SU rn hSU p=>hR _ _ ⟨ub,_,none,_,SU,rfl,p,rn,hSU,hcs,?_,?_,?_,.inr ?_⟩
      ·rw[wQ,O,hct]
      ·intro k' v'
       rw[wQ,O];exact z9 c k' v'
      ·intro w' F' hcF hp
       rw[O]at hp;exact BP hdne Q.2.1 Q.2.2 hhd hp
      ·rintro(⟨_,h⟩|J)
       ·cases h
       ·obtain⟨n',hn',e,r',er,_⟩:=qz hcs J
        rw[O]at hn';simp only[Fo.toL,ag]at hn';subst hn';refine hhd (fun e2=>hdne ?_) e.symm
        rw[e2]at er;exact(List.append_eq_nil_iff.1 er.symm).1
     ·have hce:c=lab.length:=by omega
      refine hR _ _ ⟨kb,ksl,wk,Fk,Ui,rfl,Upd.refl _ _,hkn.less fun y d=>.inl (d.elim id fun h=>D y (H y h)),fun y d=>⟨.inl d,hUib y d⟩,Q.2.2,?_,?_,?_,.inl (Upd.refl _ _)⟩
      ·rw[O,hct,hce,List.take_length]
      ·intro k' v';rw[O]
      ·intro w' F' hcF hp
       exact CL ((BQ Q.2.2).1 Q.2.1) hp
    ·rintro t' h1 ⟨ub,Z,wu,Fu,SU,rfl,p,rn,hSU,hcu,hsl,hinn,hbr,hsp⟩
     refine⟨⟨by omega,by omega⟩,?_⟩
     rw[aK];have hkd:(k.extract c k.size).data.toList=k.data.toList.drop c:=wR ..;have hks:(k.extract c k.size).size=k.size-c:=by simp
     have hktd:k.data.toList=Z.data.toList++k.data.toList.drop c:=by rw[hsl,List.take_append_drop]
     have hslne:Z.data.toList≠[]:=by
      rw[hsl];intro e;have:=congrArg iq e;rw[aE,dQ]at this;omega
     have hslhd:hd Z.data.toList=hd lab:=by
      rw[hie];conv=>rhs;rw[hktd]
      rw[nn hslne]
     have z01:=p.size;have tU:∀{M:Nat→Prop} {Y:ac},Upd M h Y→(∀y,M y→Ui y)→By Y w' o:=fun ku hM=>t.upd ku fun b e d=>absurd (H _ (hM _ d)) (hwS _ e)
     refine ih (W:=fun y=>W y∨SU y) (S:=SU) (k.extract c k.size) v (by rw[hks];omega) (by rw[hks];omega) rn (tU p fun _ h=>h) (fun y d=>d.elim (fun h=>Nat.lt_of_lt_of_le (hW y h) z01) fun h=>(hSU y h).2) (fun y d=>.inr d) (fun a e=>.inl (hWo a e)) (fun a e d=>?_) hcu fun B b2 w2 F2 SV E ch C rn2 hSV hc2 hp2 hsm hch=>?_
     ·rcases(hSU _ d).1 with h|h
      ·exact hwS a e (H _ h)
      ·have:=t.lt e;omega
     rw[hkd]at hp2 hch hsm;have z12:=C.size;have hpn:lQ (tW (lab,wk,Fk)) (tW (Z.data.toList,w2,F2)) k.data.toList v:=by
      have:=AX (zU (lab:=Z.data.toList) hp2) hinn;rw[←hktd]at this;exact this
     have hchg:rv w F k.data.toList v→ch=false:=fun J=>by
      rcases J with⟨h,_⟩|J
      ·exact absurd h L
      ·obtain⟨r,e,hr'⟩:=(hinn _ _).2 (hin_m J)
       simp only at e;rw[hktd]at e;have e2:=List.append_cancel_left e;rw[←hktd]at e;exact hch (by rw[e2];exact hr')
     cases ch with
     |false=>
      obtain⟨_,e2,e3,hu20,hin2⟩:=hsm rfl;subst e2 e3;rcases hsp with u01|hn2
      ·have hu02:=u01.tr hu20
       have hsz:=hu02.size;refine ao.2 (hk B b w F S false false hu02.wide ((hr.upd0 hu02).less fun y d=>.inl (d.elim id (D y))) (fun y d=>⟨.inl d,by have:=hSb y d;omega⟩) hc (qu L (hsame ?_)) (fun _=>⟨rfl,rfl,rfl,hu02,.inr (hin_f ((hinn _ _).1 ⟨_,hktd,hin2⟩))⟩) fun _=>rfl)
       intro k' v';exact(hinn k' v').symm.trans (hpn k' v')
      ·exact absurd hin2 hn2
     |true=>
      refine al.2 ?_;have ku:Upd Ui h B:=p.trans C fun y d=>(hSU y d).1
      have hSV':∀y,SV y→(Ui y∨h.size≤y)∧y<B.size:=fun y d=>⟨(hSV y d).1.elim (fun h=>(hSU y h).1) fun h=>.inr (by omega),(hSV y d).2⟩
      have hmem2:∀U∈Us.set i SV,U∈Us∨U=SV:=fun U G=>List.mem_or_eq_of_mem_set G
      have hSVm:SV∈Us.set i SV:=aR (i:=i) (by rw[f8,if_pos rfl,if_pos hUi0]);refine ja (W:=W) (S:=S) (Us:=Us.set i SV) (tU ku fun _ h=>h) hWo (ku.get hb nUb) (by rw[hL.1];exact hn) (own2 ku (fun y d=>⟨H y d,_,hUim,d⟩) _ fun U G y d=>?_) fun h3 q s3 A3 b3 ho3 I g hU3 hu3=>?_
      ·rcases hmem2 U G with h|rfl
       ·exact⟨.inl ⟨U,h,d⟩,by have:=N U h y d;omega⟩
       ·exact⟨(hSV' y d).1.imp (fun h=>⟨_,hUim,h⟩) id,(hSV' y d).2⟩
      refine⟨_,rfl,s3,fa (i:=3) b3,?_⟩;obtain⟨a3,ha3,hab,hw3,ho4,hu4⟩:=OwnS.setAt ho3 hki0 (some ⟨b2,0,none⟩);have hlen3:=ho3.len;refine⟨⟨by simp only;omega,by simp only;omega⟩,a3,ha3,?_⟩
      have hw1:Wr h3 (adr a3 (i*1)):=by
       rcases hw3 with hw|⟨q,g,hw⟩
       ·cases hw
       ·cases g;exact hw 0 (by simp)
      refine⟨hw1,bK ?_⟩;have b4:=hu4.get b3 fun e=>by have e:q=a3.block:=e;exact(I _ hab).2.1 e.symm
      have hu24:Upd A3 B _:=hu3.wide.trans hu4 fun x hx=>.inl (by have hx:x=a3.block:=hx;rw[hx];exact hab)
      have u04:Upd (fun y=>Ui y∨A3 y) h _:=(ku.mono fun y d=>.inl (.inl d)).trans hu24 fun x hx=>.inl (.inr hx)
      have eset:ks.set i (some ⟨b2,0,none⟩)=ks.take i++some ⟨b2,0,none⟩::ks.drop (i+1):=by rw[cX,if_pos hki0]
      rw[←eset]at ho4;have z3:=hu3.size;have z4:=hu4.size;change K (some ⟨q,0,none⟩,E,true) (fX h3 (adr a3 (i*1)) 0 (kR (some ⟨b2,0,none⟩)));generalize fX h3 (adr a3 (i*1)) 0 (kR (some ⟨b2,0,none⟩))=h4 at*;have hS2:∀y,SR o q A3 (Us.set i SV) y→(S y∨h.size≤y)∧y<h4.size:=fun y d=>tK (g.imp id fun h=>by omega) (aW b4) (fun y d=>⟨(I y d).1.imp id fun h=>by omega,by have:=(I y d).2.2;omega⟩) (fun U G y hz=>by
       rcases hmem2 U G with h|rfl
       ·exact⟨.inl (hUS U h y hz),by have:=N U h y hz;omega⟩
       ·exact⟨(hSV' y hz).1.imp (H y) id,by have:=(hSV' y hz).2;omega⟩) d
      refine hk h4 q w _ (SR o q A3 (Us.set i SV)) E true (u04.mono fun y d=>?_) (qq b4 hv ho4 (fun y d=>⟨(I y d).2.1,by have:=(I y d).2.2;omega⟩) hU3 (Dp hPD fun j U hj eU y d hu=>?_) (by
       rw[Fo.to_of]
       refine LsO.set hL.1 hL.2.1 (fun j k' n' U hj ek en eU=>KidO.move u04 (hL.2.2 j k' n' U ek en eU) (N U (aR eU)) (fun y d=>?_) fun y d=>d.elim .inl fun h=>(hS2 y h).1.imp (D y) id) (KidO.move hu24 ⟨b2,Z,rfl,rfl,rn2⟩ (fun y d=>(hSV y d).2) (fun y d=>?_) fun y d=>?_)
       ·rcases d with h|h
        ·exact .inl ⟨D y (H y h),hUid j U hj eU y h⟩
        ·refine(I y h).1.imp (fun hs=>⟨D y hs,fun hu=>(hU3 U (aR (i:=j) (by rw[f8,if_neg (Ne.symm hj)];exact eU)) y hu).1 h⟩) fun h=>by omega
       ·exact(I y d).1.imp (fun hs=>⟨.inl (.inl (D y hs)),fun hu=>(hU3 SV hSVm y hu).1 d⟩) id
       ·rcases d with h|⟨_,rfl|h|⟨U,G,h⟩⟩
        ·exact .inl (.inl (.inl h))
        ·exact g.imp (fun h=>.inl (.inl (D _ h))) id
        ·exact(I y h).1.imp (fun h=>.inl (.inl (D _ h))) id
        ·rcases hmem2 U G with B|rfl
         ·exact .inl (.inl (.inl (D _ (hUS U B y h))))
         ·exact .inl (.inr h)) (hno' (fun y d=>(I y d).1.imp id fun h=>by omega) (g.imp id fun h=>by omega))) hS2 (hset hslne hslhd hc2 (hbr _ _ hc2 hp2)) (qu L (hputs hpn)) (fun h=>by cases h) hchg
      ·rcases d with h|h
       ·exact .inl (H y h)
       ·exact(I y h).1.imp id fun h=>by omega
      ·rcases(hSV' y d).1 with h|h
       ·exact hUid j U hj eU y h hu
       ·have:=N U (aR eU) y hu;omega
end Go.Proofs
