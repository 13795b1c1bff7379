/- A part of the proof that the named laws of this program answer true, whatever the input. -/
import Derived.Test.YtajpljopgikpgaaGreatPart2
open Array renaming toList_inj→gF
open ByteArray renaming data_extract→iV
open Int renaming toNat_natCast→aK
open List renaming mem_cons→ai,mem_cons_self→aC,mem_cons_of_mem→aS,length_append→ae,mem_append→cn,mem_singleton→ag,length_take→aE,zip_eq_zipWith→gM,length_drop→aB,set_eq_take_append_cons_drop→cX,getElem_mem→bO,getElem?_eq_getElem→aq,pairwise_iff_getElem→cH,extract_eq_take_drop→du,getElem?_cons_zero→bM,length_eq_zero_iff→bp,getElem?_cons_succ→cx,mem_of_getElem?→aR,getElem_of_mem→dd,getElem?_append_left→dt,getElem?_take→ig,getElem?_append_right→c8,getElem?_drop→ii,getElem?_set→f8,length→iq,length_nil→dQ
open Nat renaming zero_le→d4,zero_add→ar,lt_or_ge→bV,le_of_eq→eP,le_refl→av,min_eq_left→aL
open Option renaming some→aN
namespace Go.Proofs
open Go Go.Lift
def qg(lab:ByteArray)(has:Bool)(val:ByteArray)(s:SliceV)(ow:Option Addr):Array Value:= #[.string lab,.bool has,.string val,sv s,.pointer ow]
theorem vw{w:Option ByteArray}{val:ByteArray}(h:val=w.getD ⟨#[]⟩):∀v,w=some v→val=v:=fun v e=>by rw[h,e];rfl
def RxF(W:Nat→Prop)(h:ac):Fo→List (Option Addr)→Prop
 | .nil,ks=>ks= []
 | .cons lab w kids rest,ks=>∃b sl val s ow ks1 ks',ks=some ⟨b,0,none⟩::ks'∧sl.data.toList=lab∧h[b]? =some (.cells (qg sl w.isSome val s ow) aD (0,0))∧val=w.getD ⟨#[]⟩∧Sl kR 1 W h s ks1∧(s.len≤s.cap∧¬W b∧OwOk W h ow)∧RxF W h kids ks1∧RxF W h rest ks'
def RxN(W:Nat→Prop)(h:ac)(b:Nat)(sl:ByteArray)(w:Option ByteArray)(F:Fo):Prop:=∃val s ow ks,h[b]? =some (.cells (qg sl w.isSome val s ow) aD (0,0))∧val=w.getD ⟨#[]⟩∧Sl kR 1 W h s ks∧(s.len≤s.cap∧¬W b∧OwOk W h ow)∧RxF W h F ks
def Kid(W:Nat→Prop)(h:ac)(k:Option Addr)(n:Bn):Prop:=∃b sl,k=some ⟨b,0,none⟩∧sl.data.toList=n.1∧RxN W h b sl n.2.1 n.2.2
def RxL(W:Nat→Prop)(h:ac)(ks:List (Option Addr))(L:List Bn):Prop:=ks.length=L.length∧∀p∈ks.zip L,Kid W h p.1 p.2
theorem nJ{W:Nat→Prop}{h:ac}:∀{F:Fo} {ks:List (Option Addr)},RxF W h F ks↔RxL W h ks F.toL
 | .nil,ks=>by
  unfold RxF RxL;simp[Fo.toL]
 | .cons lab w kids rest,ks=>by
  unfold RxF RxL;rw[Fo.toL_cons];constructor
  ·rintro⟨b,sl,val,s,ow,c,d,rfl,g,o,m,j,n,i,t⟩
   obtain⟨u,q⟩:=nJ.1 t;refine⟨by simp[u],fun p a=>?_⟩
   rw[List.zip_cons_cons]at a;rcases ai.1 a with rfl|a
   ·exact⟨b,sl,rfl,g,val,s,ow,c,o,m,j,n,i⟩
   ·exact q p a
  ·cases ks with
   |nil=>rintro⟨e,_⟩;simp at e
   |cons k d=>
    rintro⟨e,a⟩;rw[List.zip_cons_cons]at a;obtain⟨b,sl,v,g,val,s,ow,c,o,m,j,n,i⟩:=a _ (aC ..);refine⟨b,sl,val,s,ow,c,d,by rw[←v],g,o,m,j,n,i,nJ.2 ⟨by simpa using e,fun p f=>a p (aS _ f)⟩⟩
theorem RxF.upd0{W:Nat→Prop}{h a:ac}(k:Upd No h a):∀{F:Fo} {ks:List (Option Addr)},RxF W h F ks→RxF W a F ks
 | .nil,_,r=>r
 | .cons _ _ _ _,_,⟨b,sl,val,s,ow,ks1,ks',e0,e1,e2,e3,e4,e5,e6,e7⟩=>⟨b,sl,val,s,ow,ks1,ks',e0,e1,k.get0 e2,e3,e4.upd k fun _ h=>h.elim,⟨e5.1,e5.2.1,e5.2.2.upd k fun _ h=>h.elim⟩,RxF.upd0 k e6,RxF.upd0 k e7⟩
theorem RxN.upd0{W:Nat→Prop}{h a:ac}(k:Upd No h a){b:Nat}{sl:ByteArray}{w:Option ByteArray}{F:Fo}:RxN W h b sl w F→RxN W a b sl w F
 |⟨val,s,ow,ks,e2,e3,e4,e5,e6⟩=>⟨val,s,ow,ks,k.get0 e2,e3,e4.upd k fun _ h=>h.elim,⟨e5.1,e5.2.1,e5.2.2.upd k fun _ h=>h.elim⟩,RxF.upd0 k e6⟩
theorem Kid.upd0{W:Nat→Prop}{h c:ac}(k:Upd No h c){a:Option Addr}{n:Bn}:Kid W h a n→Kid W c a n
 |⟨b,sl,e1,e2,e3⟩=>⟨b,sl,e1,e2,e3.upd0 k⟩
theorem RxF.less{W W':Nat→Prop}{h:ac}(hm:∀b,W' b→W b∨h.size≤b):∀{F:Fo} {ks:List (Option Addr)},RxF W h F ks→RxF W' h F ks
 | .nil,_,r=>r
 | .cons _ _ _ _,_,⟨b,sl,val,s,ow,ks1,ks',e0,e1,e2,e3,e4,e5,e6,e7⟩=>⟨b,sl,val,s,ow,ks1,ks',e0,e1,e2,e3,e4.less hm,⟨e5.1,fun hx=>(hm _ hx).elim e5.2.1 fun h=>by have:=aW e2;omega,e5.2.2.less hm⟩,RxF.less hm e6,RxF.less hm e7⟩
theorem RxN.less{W W':Nat→Prop}{h:ac}(hm:∀b,W' b→W b∨h.size≤b){b:Nat}{sl:ByteArray}{w:Option ByteArray}{F:Fo}:RxN W h b sl w F→RxN W' h b sl w F
 |⟨val,s,ow,ks,e2,e3,e4,e5,e6⟩=>⟨val,s,ow,ks,e2,e3,e4.less hm,⟨e5.1,fun hx=>(hm _ hx).elim e5.2.1 fun h=>by have:=aW e2;omega,e5.2.2.less hm⟩,RxF.less hm e6⟩
theorem RxF.updM{W M:Nat→Prop}{h a:ac}(k:Upd M h a)(hm:∀b,M b→W b∨h.size≤b):∀{F:Fo} {ks:List (Option Addr)},RxF W h F ks→RxF W a F ks
 | .nil,_,r=>r
 | .cons _ _ _ _,_,⟨b,sl,val,s,ow,ks1,ks',e0,e1,e2,e3,e4,e5,e6,e7⟩=>⟨b,sl,val,s,ow,ks1,ks',e0,e1,k.get e2 (fun hx=>(hm _ hx).elim e5.2.1 fun h=>by have:=aW e2;omega),e3,e4.upd k hm,⟨e5.1,e5.2.1,e5.2.2.upd k hm⟩,RxF.updM k hm e6,RxF.updM k hm e7⟩
theorem RxN.updM{W M:Nat→Prop}{h a:ac}(k:Upd M h a)(hm:∀b,M b→W b∨h.size≤b){b:Nat}{sl:ByteArray}{w:Option ByteArray}{F:Fo}:RxN W h b sl w F→RxN W a b sl w F
 |⟨val,s,ow,ks,e2,e3,e4,e5,e6⟩=>⟨val,s,ow,ks,k.get e2 (fun hx=>(hm _ hx).elim e5.2.1 fun h=>by have:=aW e2;omega),e3,e4.upd k hm,⟨e5.1,e5.2.1,e5.2.2.upd k hm⟩,RxF.updM k hm e6⟩
theorem RxL.upd0{W:Nat→Prop}{h a:ac}(k:Upd No h a){ks:List (Option Addr)}{L:List Bn}(r:RxL W h ks L):RxL W a ks L:=⟨r.1,fun p b=>(r.2 p b).upd0 k⟩
theorem RxL.app{W:Nat→Prop}{h:ac}{ks b:List (Option Addr)}{L c:List Bn}(r:RxL W h ks L)(d:RxL W h b c):RxL W h (ks++b) (L++c):=by
 refine⟨by rw[ae,ae,r.1,d.1],fun p a=>?_⟩
 rw[List.zip_append r.1]at a;rcases cn.1 a with a|a
 ·exact r.2 p a
 ·exact d.2 p a
theorem RxL.one{W:Nat→Prop}{h:ac}{k:Option Addr}{n:Bn}(c:Kid W h k n):RxL W h [k] [n]:=⟨rfl,fun p a=>by rw[List.zip_cons_cons,List.zip_nil_left]at a;rw[ag.1 a];exact c⟩
theorem RxL.take{W:Nat→Prop}{h:ac}{ks:List (Option Addr)}{L:List Bn}(r:RxL W h ks L)(i:Nat):RxL W h (ks.take i) (L.take i):=by
 refine⟨by rw[aE,aE,r.1],fun p a=>r.2 p ?_⟩
 have:(ks.take i).zip (L.take i)=(ks.zip L).take i:=by rw[gM,gM,List.take_zipWith]
 rw[this]at a;exact List.mem_of_mem_take a
theorem RxL.drop{W:Nat→Prop}{h:ac}{ks:List (Option Addr)}{L:List Bn}(r:RxL W h ks L)(i:Nat):RxL W h (ks.drop i) (L.drop i):=by
 refine⟨by rw[aB,aB,r.1],fun p a=>r.2 p ?_⟩
 have:(ks.drop i).zip (L.drop i)=(ks.zip L).drop i:=by rw[gM,gM,List.drop_zipWith]
 rw[this]at a;exact List.mem_of_mem_drop a
theorem RxL.ins{W:Nat→Prop}{h:ac}{ks:List (Option Addr)}{L:List Bn}(r:RxL W h ks L)(i:Nat){k:Option Addr}{n:Bn}(c:Kid W h k n):RxL W h (ks.take i++k::ks.drop i) (L.take i++n::L.drop i):=by
 have:=(r.take i).app ((RxL.one c).app (r.drop i));exact this
theorem RxL.set{W:Nat→Prop}{h:ac}{ks:List (Option Addr)}{L:List Bn}(r:RxL W h ks L){i:Nat}(a:i<L.length){k:Option Addr}{n:Bn}(c:Kid W h k n):RxL W h (ks.set i k) (L.set i n):=by
 have:=(r.take i).app ((RxL.one c).app (r.drop (i+1)));rw[cX,cX,if_pos (by rw[r.1];exact a),if_pos a];exact this
theorem RxL.at{W:Nat→Prop}{h:ac}{ks:List (Option Addr)}{L:List Bn}(r:RxL W h ks L){i:Nat}(e:i<L.length):∃b sl,ks[i]? =some (some ⟨b,0,none⟩)∧sl.data.toList=L[i].1∧RxN W h b sl L[i].2.1 L[i].2.2:=by
 have d:i<ks.length:=by rw[r.1];exact e
 have hz:i<(ks.zip L).length:=by rw[List.length_zip];omega
 have:=r.2 _ (bO hz);rw[List.getElem_zip]at this;obtain⟨b,sl,a,f,c⟩:=this;exact⟨b,sl,by rw[aq d];exact congrArg some a,f,c⟩
theorem ux:∀{L:List Bn} {c:Nat},L.Pairwise (fun m n=>hd m.1<hd n.1)→(∀n∈L,c≤hd n.1)→L= []∨c+L.length≤256
 | [],_,_,_=>.inl rfl
 |n::L,c,a,hc=>by
  have a:=List.pairwise_cons.1 a;have b:=hc n (aC ..);have d:=CX n.1;rcases ux (c:=hd n.1+1) a.2 fun m hm=>a.1 m hm with e|e
  ·rw[e];right;simp only[List.length_singleton];omega
  ·right;rw[List.length_cons];omega
theorem pO{F:Fo}(h:fK F):F.toL.length≤256:=by
 rcases ux (c:=0) (eh.1 h).1 fun _ _=>d4 _ with e|e
 ·rw[e];simp
 ·omega
theorem fa{h:ac}{b i:Nat}{c:Array Value}(a:h[b]? =some (.cells c aD (0,0))):aP h (adr ⟨b,0,none⟩ i)=c[i]?:=by rw[aX,ar];exact aH a
theorem CU{h:ac}{b i:Nat}{c:Array Value}(a:h[b]? =some (.cells c aD (0,0))) (d:i<c.size):Wr h (adr ⟨b,0,none⟩ i):=by rw[aX,ar];exact fq a d
theorem wg{h:ac}{b i:Nat}{c c':Array Value}{v:Value}{k:ac→Prop}(f:h[b]? =some (.cells c aD (0,0))) (e:c.setIfInBounds i v=c') (j:∀a,a[b]? =some (.cells c' aD (0,0))→Upd (· =b) h a→k a):At (hset h (adr ⟨b,0,none⟩ i) v) k:=by
 rw[aX,ar];exact qJ f fun a d g=>j a (e▸d) g
theorem Dw(s:ByteArray)(i:Nat):s[i]? =s.data.toList[i]?:=by
 rw[Array.getElem?_toList];by_cases h:i<s.size
 ·rw[getElem?_pos s i h,getElem?_pos s.data i h];rfl
 ·rw[getElem?_neg s i h,getElem?_neg s.data i h]
theorem Bg{s:ByteArray}(a:s.data.toList≠[]):∃c:UInt8,s[0]? =some c∧c.toNat=hd s.data.toList:=by
 rw[Dw];match s.data.toList,a with
 |c::l,_=>exact⟨c,rfl,rfl⟩
theorem zL{W:Nat→Prop}{h:ac}{b:Nat}{sl:ByteArray}{w:Option ByteArray}{F:Fo}(r:RxN W h b sl w F)(hc:fK F){c:Nat}(hc8:c<256){K:Int×Bool→ac→Prop}
  (D:∀i ok,i≤F.toL.length→(∀j (p:j<F.toL.length),j<i→hd F.toL[j].1<c)→(∀j (p:j<F.toL.length),i≤j→c≤hd F.toL[j].1)→(ok=true↔∃z:i<F.toL.length,hd F.toL[i].1=c)→K ((i:Int),ok) h):HC PG iG [.pointer (some ⟨b,0,none⟩),.int .u8 c] [.c (.int .i64),.c .bool] K h:=by
 refine pU _ c ?_;unfold lw ci;obtain⟨val,s,ow,ks,hb,_,hs,Z,hF⟩:=r;refine⟨_,rfl,s,fa (i:=3) hb,?_⟩;have R:=nJ.1 hF;have e:=eh.1 hc;have hn:=pO hc;have y:=hs.len;rw[R.1]at y;generalize hLe:F.toL=L at R e hn y D;refine dA s c _ ?_;unfold bZ dT gg yc C3
 have H:∀{i:Nat} (z:i<L.length) {K:Int→ac→Prop},K ((hd L[i].1:Int)-(c:Int)) h→∃a,s.a=some a∧∃v,aP h (adr a (i*1))=some (.pointer v)∧HV PG (.func (.func gJ) #[] #[]) [.pointer v,.int .u8 c] [.c (.int .i64)] K h:=by
  intro i z K D;obtain⟨kb,G,J,E,T⟩:=R.at z;obtain⟨a,ha,_,hv⟩:=hs.at0 J;refine⟨a,ha,_,hv,HV.mk' (nW (some ⟨kb,0,none⟩) c ?_)⟩;unfold j2 dZ;obtain⟨V,kss,kow,kks,Q,_⟩:=T;have O:G.data.toList≠[]:=by rw[E];exact(e.2 _ (bO z)).1
  obtain⟨u,hu,S⟩:=Bg O;refine⟨_,rfl,G,fa (i:=0) Q,u,Int.le_refl _,hu,?_⟩;simp only[Bd];have d:=CX L[i].1;rw[S,E,nR (x:=(hd L[i].1:Int)) (by omega),nR (x:=(c:Int)) (by omega),nR (by omega)];exact D
 have mono:∀i j (z:i<L.length) (p:j<L.length),i<j→hd L[i].1<hd L[j].1:=fun i j z p f=>cH.1 e.1 i j z p f
 refine LoopP.ghost (fun(g:Nat×Nat) (t:Int×Int) h'=>t.1=(g.1:Int)∧t.2=(g.2:Int)∧g.1≤g.2∧g.2≤L.length∧h'=h∧(∀j (p:j<L.length),j<g.1→hd L[j].1<c)∧(∀j (p:j<L.length),g.2≤j→c≤hd L[j].1)) (fun g=>g.2-g.1) (0,L.length)
  ⟨rfl,by simp only;omega,by simp,by simp,rfl,fun j p h=>by omega,fun j p h=>by simp only at h;omega⟩ ?_
 rintro I ⟨i,j⟩ ⟨ti,tj⟩ h' ⟨X,e2,f,k,rfl,n,o⟩ Y;simp only at X e2 f k n o;subst X e2;refine bi (fun d=>?_) fun P=>?_
 ·have d:i<j:=by have:(i:Int)<(j:Int):=d;omega
  have em:IntKind.wrap .i64 (Int.fdiv (IntKind.wrap .u64 (IntKind.wrap .i64 ((i:Int)+(j:Int)))) (2^(min (1:Int).toNat (IntKind.bits .u64))))=(((i+j)/2:Nat):Int):=by
   have e3:(2^(min (1:Int).toNat (IntKind.bits .u64)):Int)=2:=rfl;rw[e3,nR (x:=(i:Int)+(j:Int)) (by omega),Go.IntWalk.u64_in _ (by omega),Int.fdiv_eq_ediv_of_nonneg _ (by omega),nR (by omega)];omega
  refine⟨by decide,?_⟩;simp only[Bd];rw[em];generalize hm:(i+j)/2=m;have C:m<L.length:=by omega
  refine⟨by omega,?_⟩;refine H C ?_;refine bi (fun hneg=>?_) fun U=>?_
  ·refine Y (m+1,j) _ _ ⟨by simp only;rw[nR (by omega)];omega,rfl,by simp only;omega,k,rfl,fun q M A=>?_,o⟩ (by simp only;omega)
   simp only at A;rcases bV q m with h|h
   ·have:=mono q m M C h;omega
   ·have:q=m:=by omega
    subst this;omega
  ·refine Y (i,m) _ _ ⟨rfl,rfl,by simp only;omega,by simp only;omega,rfl,n,fun q M A=>?_⟩ (by simp only;omega)
   simp only at A;rcases bV m q with h|h
   ·have:=mono m q C M h;omega
   ·have:q=m:=by omega
    subst this;omega
 ·have f:i=j:=by have:¬(i:Int)<(j:Int):=P;omega
  subst f;refine bi (fun d=>?_) fun N=>?_
  ·have B:i<L.length:=by have:(i:Int)<(s.len:Int):=d;omega
   refine⟨by simp only;omega,?_⟩;refine H B ?_;refine D i _ k n o ?_;rw[beq_iff_eq];exact⟨fun h=>⟨B,by omega⟩,fun⟨_,h⟩=>by omega⟩
  ·have B:i=L.length:=by have:¬(i:Int)<(s.len:Int):=N;omega
   exact D i false k n o ⟨fun h=>(by cases h),fun h=>(by obtain⟨h,_⟩:=h;omega)⟩
end Go.Proofs
namespace Go.Proofs
open Go Go.Lift
abbrev CT:List Value:= [.string (⟨#[]⟩:ByteArray),.bool false,.string (⟨#[]⟩:ByteArray),.slice none 0 0,.pointer none]
theorem oH{h:ac}{b:Nat}{sl nl:ByteArray}{has:Bool}{val:ByteArray}{s:SliceV}{ow:Option Addr}(a:h[b]? =some (.cells (qg sl has val s ow) aD (0,0))) {K:Option Addr→ac→Prop}
  (c:∀h',h'[b]? =some (.cells (qg nl has val s ow) aD (0,0))→Upd (· =b) h h'→K (some ⟨b,0,none⟩) h'):HC PG ef [.pointer (some ⟨b,0,none⟩),.string nl] [.c .ptr] K h:=by
 refine o8 _ nl ?_;unfold kH c5;exact⟨_,rfl,CU (i:=0) a (show 0<5 by decide),wg (i:=0) (c':=qg nl has val s ow) a rfl c⟩
theorem kV{h:ac}{b:Nat}{sl v:ByteArray}{has:Bool}{val:ByteArray}{s:SliceV}{ow:Option Addr}(d:h[b]? =some (.cells (qg sl has val s ow) aD (0,0))) {K:Option Addr→ac→Prop}
  (f:∀h',h'[b]? =some (.cells (qg sl true v s ow) aD (0,0))→Upd (· =b) h h'→K (some ⟨b,0,none⟩) h'):HC PG c9 [.pointer (some ⟨b,0,none⟩),.string v] [.c .ptr] K h:=by
 refine nV _ v ?_;unfold j1 c5;exact⟨_,rfl,CU (i:=1) d (show 1<5 by decide),wg (i:=1) (c':=qg sl true val s ow) d rfl fun g b1 c=>⟨_,rfl,CU (i:=2) b1 (show 2<5 by decide),wg (i:=2) (c':=qg sl true v s ow) b1 rfl fun e b2 a=>f e b2 (c.tr a)⟩⟩
theorem wP(s:ByteArray)(c:Nat):(s.extract 0 c).data.toList=s.data.toList.take c:=by
 rw[iV,Array.toList_extract,du];simp
theorem wQ(s:ByteArray)(c:Nat):(s.extract c s.size).data.toList=s.data.toList.drop c:=by
 rw[iV,Array.toList_extract,du,List.take_of_length_le];rw[aB];simp
end Go.Proofs
namespace Go.Proofs
open Go Go.Lift
theorem BM:∀{x y:List UInt8} {i:Nat},i≤x.length→i≤y.length→(∀j,j<i→x[j]? =y[j]?)→(i=x.length∨i=y.length∨x[i]?≠y[i]?)→cm x y=i
 | [],_,i,h1,_,_,_=>by simp at h1;simp[cm,h1]
 |_::_,[],i,_,h2,_,_=>by simp at h2;simp[cm,h2]
 |a::x,b::y,0,_,_,_,h=>by
  unfold cm;rw[if_neg];rintro rfl;rcases h with h|h|h<;>simp at h
 |a::x,b::y,i+1,h1,h2,h3,h4=>by
  have:=h3 0 (by omega);simp only[bM,aN.injEq]at this;unfold cm;rw[if_pos this,BM (i:=i) (by simpa using h1) (by simpa using h2) (fun j c=>by simpa using h3 (j+1) (by omega)) (by simpa using h4)]
theorem Ak{a b:ByteArray}(C:a.size≤1000000){h:ac}{K:Int→ac→Prop}(n:K (cm a.data.toList b.data.toList:Nat) h):HC PG lM [.string a,.string b] [.c (.int .i64)] K h:=by
 refine uh a b ?_;unfold oq;simp only[Bd];have m:(if(b.size:Int)<(a.size:Int)then(b.size:Int)else(a.size:Int))=((min a.size b.size:Nat):Int):=by split<;>omega
 rw[m];have B:a.data.toList.length=a.size:=by simp
 have A:b.data.toList.length=b.size:=by simp
 refine LoopP.ghost (fun(i:Nat) (t:Int) w=>t=(i:Int)∧i≤min a.size b.size∧w=h∧∀j,j<i→a.data.toList[j]? =b.data.toList[j]?) (fun i=>min a.size b.size-i) 0 ⟨rfl,d4 _,rfl,fun j v=>absurd v (Nat.not_lt_zero _)⟩ ?_
 rintro I i t w ⟨rfl,z,rfl,p⟩ y;refine bi (fun c=>?_) fun x=>?_
 ·have c:i<min a.size b.size:=by omega
  have g:i<a.size:=by omega
  have k:i<b.size:=by omega
  refine⟨a[i],by omega,by rw[aK,getElem?_pos a i g],b[i],by omega,by rw[aK,getElem?_pos b i k],?_⟩
  have q:a.data.toList[i]? =some a[i]:=by rw[←Dw,getElem?_pos a i g]
  have s:b.data.toList[i]? =some b[i]:=by rw[←Dw,getElem?_pos b i k]
  refine CondP.intro (fun f=>?_) fun d=>?_
  ·rw[BM (i:=i) (by omega) (by omega) p (.inr (.inr fun e=>?_))]at n
   ·exact n
   ·rw[q,s]at e
    rw[aN.inj e]at f;simp at f
  ·have d:a[i]=b[i]:=by
    have:((a[i].toNat:Int))=(b[i].toNat:Int):=by simpa using d
    exact UInt8.toNat_inj.1 (by omega)
   rw[ke c (by omega)];refine y (i+1) _ _ ⟨rfl,c,rfl,fun j v=>?_⟩ (by omega)
   rcases bV j i with u|u
   ·exact p j u
   ·have:j=i:=by omega
    subst this;rw[q,s,d]
 ·have o:i=min a.size b.size:=by omega
  rw[BM (i:=i) (by omega) (by omega) p (by omega)]at n;rw[←o];exact n
theorem zS{F:Fo}{i:Nat}{k:List UInt8}{v:ByteArray}(h:fK F)(b:i<F.toL.length)(ek:hd F.toL[i].1=hd k)(a:lQ (tV F.toL[i]) (tV F.toL[i]) k v):lQ (rv F) (rv F) k v:=by
 have:=wq h b ek a;rw[List.set_getElem_self,Fo.of_to]at this;exact this
theorem AW{P Q a:List UInt8→ByteArray→Prop}{k:List UInt8}{v:ByteArray}(h:lQ P a k v)(e:∀k v,P k v↔Q k v):lQ Q a k v:=fun k' b=>by rw[h k' b,e]
end Go.Proofs
namespace Go.Proofs
open Go Go.Lift
def Dj(S T:Nat→Prop):Prop:=∀y,S y→¬T y
def PD(Ts:List (Nat→Prop)):Prop:=∀(i j:Nat) (S T:Nat→Prop),i≠j→Ts[i]? =some S→Ts[j]? =some T→Dj S T
def FoO(o:Option Addr)(W:Nat→Prop)(h:ac):Fo→List (Option Addr)→List (Nat→Prop)→Prop
 | .nil,ks,Ts=>ks= []∧Ts= []
 | .cons lab w kids rest,ks,Ts=>∃(b:Nat) (sl:ByteArray) (ks':List (Option Addr)) (S:Nat→Prop) (Ts':List (Nat→Prop)),ks=some ⟨b,0,none⟩::ks'∧Ts=S::Ts'∧sl.data.toList=lab∧
  ((RxN W h b sl w kids∧∀y,¬S y)∨(o.isSome=true∧∃(val:ByteArray) (s:SliceV) (ks1:List (Option Addr)) (A:Nat→Prop) (Us:List (Nat→Prop)),h[b]? =some (.cells (qg sl w.isSome val s o) aD (0,0))∧val=w.getD ⟨#[]⟩∧OwnS kR 1 ax A h s ks1∧
   (∀y,A y→S y∧y≠b∧y<h.size)∧S b∧(∀U∈Us,∀y,U y→S y∧¬A y∧y≠b)∧PD Us∧FoO o W h kids ks1 Us))∧FoO o W h rest ks' Ts'
def RxO(o:Option Addr)(W:Nat→Prop)(h:ac)(b:Nat)(sl:ByteArray)(w:Option ByteArray)(F:Fo)(S:Nat→Prop):Prop:=
 (RxN W h b sl w F∧∀y,¬S y)∨(o.isSome=true∧∃(val:ByteArray) (s:SliceV) (ks1:List (Option Addr)) (A:Nat→Prop) (Us:List (Nat→Prop)),h[b]? =some (.cells (qg sl w.isSome val s o) aD (0,0))∧val=w.getD ⟨#[]⟩∧OwnS kR 1 ax A h s ks1∧
  (∀y,A y→S y∧y≠b∧y<h.size)∧S b∧(∀U∈Us,∀y,U y→S y∧¬A y∧y≠b)∧PD Us∧FoO o W h F ks1 Us)
theorem Bh{o:Option Addr}{W:Nat→Prop}{h:ac}{lab:List UInt8}{w:Option ByteArray}{c a:Fo}{ks:List (Option Addr)}{Ts:List (Nat→Prop)}:
 FoO o W h (.cons lab w c a) ks Ts↔∃b sl ks' S Ts',ks=some ⟨b,0,none⟩::ks'∧Ts=S::Ts'∧sl.data.toList=lab∧RxO o W h b sl w c S∧FoO o W h a ks' Ts':=Iff.rfl
def KidO(o:Option Addr)(W:Nat→Prop)(h:ac)(k:Option Addr)(n:Bn)(S:Nat→Prop):Prop:=∃b sl,k=some ⟨b,0,none⟩∧sl.data.toList=n.1∧RxO o W h b sl n.2.1 n.2.2 S
def LsO(o:Option Addr)(W:Nat→Prop)(h:ac)(ks:List (Option Addr))(L:List Bn)(Ts:List (Nat→Prop)):Prop:=ks.length=L.length∧Ts.length=L.length∧∀(i:Nat) (k:Option Addr) (n:Bn) (S:Nat→Prop),ks[i]? =some k→L[i]? =some n→Ts[i]? =some S→KidO o W h k n S
theorem r4{o:Option Addr}{W:Nat→Prop}{h:ac}:∀{F:Fo} {ks:List (Option Addr)} {Ts:List (Nat→Prop)},FoO o W h F ks Ts↔LsO o W h ks F.toL Ts
 | .nil,ks,Ts=>by
  constructor
  ·rintro⟨rfl,rfl⟩;exact⟨rfl,rfl,fun i k n S h=>by simp at h⟩
  ·rintro⟨g,a,_⟩;exact⟨bp.1 g,bp.1 a⟩
 | .cons lab w kids rest,ks,Ts=>by
  rw[Bh,Fo.toL_cons];constructor
  ·rintro⟨b,sl,j,S,Ts',rfl,rfl,e,r,f⟩
   obtain⟨g,a,m⟩:=r4.1 f;refine⟨by simp[g],by simp[a],fun i k n p ek c d=>?_⟩
   cases i with
   |zero=>
    simp only[bM,aN.injEq]at ek c d;subst ek c d;exact⟨b,sl,rfl,e,r⟩
   |succ i=>
    simp only[cx]at ek c d;exact m i k n p ek c d
  ·rintro⟨g,a,m⟩
   cases ks with
   |nil=>simp at g
   |cons k j=>
    cases Ts with
    |nil=>simp at a
    |cons S Ts'=>
     obtain⟨b,sl,s,q,r⟩:=m 0 k _ S rfl rfl rfl;exact⟨b,sl,j,S,Ts',by rw[s],rfl,q,r,r4.2 ⟨by simpa using g,by simpa using a,fun i k n p ek c d=>m (i+1) k n p ek c d⟩⟩
theorem FoO.freeze{o:Option Addr}{W W':Nat→Prop}{h:ac}(d:∀y,W' y→W y)(m:OwOk W' h o):∀{F:Fo} {ks:List (Option Addr)} {Ts:List (Nat→Prop)},FoO o W h F ks Ts→(∀U∈Ts,∀y,U y→¬W' y)→RxF W' h F ks
 | .nil,_,_,f,_=>f.1
 | .cons lab w kids rest,ks,Ts,⟨b,sl,ks',S,Ts',e1,e2,e3,r,f⟩,hT=>by
  subst e1 e2;have p:=FoO.freeze d m f fun U e=>hT U (aS _ e)
  have k:=hT S (aC ..);rcases r with⟨r,_⟩|⟨_,val,s,a,A,Us,u,hv,n,j,i,e,_,v⟩
  ·obtain⟨val,s,ow,a,B,q,z,x,t⟩:=RxN.less (fun y c=>.inl (d y c)) r
   exact⟨b,sl,val,s,ow,a,ks',rfl,e3,B,q,z,x,t,p⟩
  ·exact⟨b,sl,val,s,o,a,ks',rfl,e3,u,hv,n.sl fun y c _=>k y (j y c).1,⟨n.cap,k b i,m⟩,FoO.freeze d m v fun U g y c=>k y (e U g y c).1,p⟩
theorem RxO.freeze{o:Option Addr}{W W':Nat→Prop}{h:ac}(i:∀y,W' y→W y)(k:OwOk W' h o){b:Nat}{sl:ByteArray}{w:Option ByteArray}{F:Fo}{S:Nat→Prop}(r:RxO o W h b sl w F S)(f:∀y,S y→¬W' y):RxN W' h b sl w F:=by
 rcases r with⟨r,_⟩|⟨_,val,s,g,A,Us,n,hv,j,e,d,m,_,p⟩
 ·exact RxN.less (fun y a=>.inl (i y a)) r
 ·exact⟨val,s,o,g,n,hv,j.sl fun y a _=>f y (e y a).1,⟨j.cap,f b d,k⟩,FoO.freeze i k p fun U c y a=>f y (m U c y a).1⟩
theorem RxO.read{o w':Option Addr}{W S:Nat→Prop}{h:ac}{b:Nat}{sl:ByteArray}{w:Option ByteArray}{F:Fo}(r:RxO o W h b sl w F S)(t:By h w' o):RxN No h b sl w F:=
 r.freeze (fun _ h=>h.elim) (fun a e=>⟨id,t.plain a (t.tok e)⟩) fun _ _ h=>h
theorem RxO.off{W S:Nat→Prop}{h:ac}{b:Nat}{sl:ByteArray}{w:Option ByteArray}{F:Fo}(r:RxO none W h b sl w F S):RxN W h b sl w F∧∀y,¬S y:=r.elim id fun h=>absurd h.1 (by simp)
theorem FoO.upd{o:Option Addr}{W M:Nat→Prop}{h n:ac}(k:Upd M h n):∀{F:Fo} {ks:List (Option Addr)} {Ts:List (Nat→Prop)},FoO o W h F ks Ts→(∀U∈Ts,∀y,U y→y<h.size)→(∀y,M y→(W y∧∀U∈Ts,¬U y)∨h.size≤y)→FoO o W n F ks Ts
 | .nil,_,_,f,_,_=>f
 | .cons lab w kids rest,ks,Ts,⟨b,sl,ks',S,Ts',e1,e2,e3,r,f⟩,hT,hm=>by
  subst e1 e2;have q:=FoO.upd k f (fun U d=>hT U (aS _ d)) fun y a=>(hm y a).imp (fun h=>⟨h.1,fun U d=>h.2 U (aS _ d)⟩) id
  have p:=hT S (aC ..);have i:∀y,M y→(W y∧¬S y)∨h.size≤y:=fun y a=>(hm y a).imp (fun h=>⟨h.1,h.2 S (aC ..)⟩) id
  have t:∀y,S y→¬M y:=fun y a D=>by
   have:=p y a;rcases i y D with h|h
   ·exact h.2 a
   ·omega
  have z:=k.size;rcases r with⟨r,e⟩|⟨e,val,s,m,A,Us,v,hv,C,c,j,d,u,B⟩
  ·exact⟨b,sl,ks',S,Ts',rfl,rfl,e3,.inl ⟨RxN.updM k (fun y a=>(i y a).imp (fun h=>h.1) id) r,e⟩,q⟩
  ·exact⟨b,sl,ks',S,Ts',rfl,rfl,e3,.inr ⟨e,val,s,m,A,Us,k.get v (t b j),hv,C.upd k fun y a=>t y (c y a).1,fun y a=>⟨(c y a).1,(c y a).2.1,by have:=(c y a).2.2;omega⟩,j,d,u,FoO.upd k B (fun U g y a=>p y (d U g y a).1) fun y a=>(i y a).imp (fun h=>⟨h.1,fun U g x=>h.2 (d U g y x).1⟩) id⟩,q⟩
theorem RxO.upd{o:Option Addr}{W M:Nat→Prop}{h g:ac}(k:Upd M h g){b:Nat}{sl:ByteArray}{w:Option ByteArray}{F:Fo}{S:Nat→Prop}(r:RxO o W h b sl w F S)(n:∀y,S y→y<h.size)(hm:∀y,M y→(W y∧¬S y)∨h.size≤y):RxO o W g b sl w F S:=by
 have:=FoO.upd (F:=.cons sl.data.toList w F .nil) k (ks:= [some ⟨b,0,none⟩]) (Ts:= [S]) ⟨b,sl,[],S,[],rfl,rfl,rfl,r,rfl,rfl⟩ (fun U e=>by rw[ag.1 e];exact n) fun y i=>(hm y i).imp (fun h=>⟨h.1,fun U e=>by rw[ag.1 e];exact h.2⟩) id
 obtain⟨p,a,m,q,Ts',c,d,f,j,_⟩:=this;simp only[List.cons.injEq,aN.injEq,Addr.mk.injEq,and_true]at c d;obtain⟨c,_⟩:=c;obtain⟨d,_⟩:=d;subst c d;have f:a=sl:=by cases a;cases sl;exact congrArg ByteArray.mk (gF.1 f)
 subst f;exact j
theorem FoO.upd0{o:Option Addr}{W:Nat→Prop}{h i:ac}(k:Upd No h i):∀{F:Fo} {ks:List (Option Addr)} {Ts:List (Nat→Prop)},FoO o W h F ks Ts→FoO o W i F ks Ts
 | .nil,_,_,f=>f
 | .cons lab w kids rest,ks,Ts,⟨b,sl,ks',S,Ts',e1,e2,e3,r,f⟩=>by
  have z:=k.size;refine⟨b,sl,ks',S,Ts',e1,e2,e3,?_,FoO.upd0 k f⟩;rcases r with⟨r,e⟩|⟨e,val,s,g,A,Us,n,hv,q,a,d,m,j,p⟩
  ·exact .inl ⟨RxN.upd0 k r,e⟩
  ·exact .inr ⟨e,val,s,g,A,Us,k.get0 n,hv,q.upd k fun _ _ h=>h,fun y c=>⟨(a y c).1,(a y c).2.1,by have:=(a y c).2.2;omega⟩,d,m,j,FoO.upd0 k p⟩
theorem RxO.upd0{o:Option Addr}{W S:Nat→Prop}{h g:ac}(k:Upd No h g){b:Nat}{sl:ByteArray}{w:Option ByteArray}{F:Fo}(r:RxO o W h b sl w F S):RxO o W g b sl w F S:=by
 have z:=k.size;rcases r with⟨r,e⟩|⟨e,val,s,f,A,Us,m,hv,p,a,d,j,i,n⟩
 ·exact .inl ⟨RxN.upd0 k r,e⟩
 ·exact .inr ⟨e,val,s,f,A,Us,k.get0 m,hv,p.upd k fun _ _ h=>h,fun y c=>⟨(a y c).1,(a y c).2.1,by have:=(a y c).2.2;omega⟩,d,j,i,FoO.upd0 k n⟩
theorem FoO.less{o:Option Addr}{W W':Nat→Prop}{h:ac}(hm:∀y,W' y→W y∨h.size≤y):∀{F:Fo} {ks:List (Option Addr)} {Ts:List (Nat→Prop)},FoO o W h F ks Ts→FoO o W' h F ks Ts
 | .nil,_,_,f=>f
 | .cons lab w kids rest,ks,Ts,⟨b,sl,ks',S,Ts',e1,e2,e3,r,f⟩=>by
  refine⟨b,sl,ks',S,Ts',e1,e2,e3,?_,FoO.less hm f⟩;rcases r with⟨r,e⟩|⟨e,val,s,d,A,Us,j,hv,m,c,a,i,g,k⟩
  ·exact .inl ⟨RxN.less hm r,e⟩
  ·exact .inr ⟨e,val,s,d,A,Us,j,hv,m,c,a,i,g,FoO.less hm k⟩
theorem RxO.less{o:Option Addr}{W W' S:Nat→Prop}{h:ac}(hm:∀y,W' y→W y∨h.size≤y){b:Nat}{sl:ByteArray}{w:Option ByteArray}{F:Fo}(r:RxO o W h b sl w F S):RxO o W' h b sl w F S:=by
 rcases r with⟨r,e⟩|⟨e,val,s,d,A,Us,i,hv,k,c,a,g,f,j⟩
 ·exact .inl ⟨RxN.less hm r,e⟩
 ·exact .inr ⟨e,val,s,d,A,Us,i,hv,k,c,a,g,f,FoO.less hm j⟩
theorem KidO.upd{o:Option Addr}{W M:Nat→Prop}{h c:ac}(k:Upd M h c){a:Option Addr}{n:Bn}{S:Nat→Prop}(r:KidO o W h a n S)(d:∀y,S y→y<h.size)(hm:∀y,M y→(W y∧¬S y)∨h.size≤y):KidO o W c a n S:=let⟨b,sl,f,e,r⟩:=r;⟨b,sl,f,e,r.upd k d hm⟩
theorem KidO.less{o:Option Addr}{W W' S:Nat→Prop}{h:ac}(hm:∀y,W' y→W y∨h.size≤y){a:Option Addr}{n:Bn}(r:KidO o W h a n S):KidO o W' h a n S:=let⟨b,sl,c,d,r⟩:=r;⟨b,sl,c,d,r.less hm⟩
theorem Dp{o:Option Addr}{W:Nat→Prop}{h:ac}{F:Fo}{ks:List (Option Addr)}(f:RxF W h F ks):LsO o W h ks F.toL (List.replicate F.toL.length No):=by
 have d:=nJ.1 f;refine⟨d.1,by simp,fun i k n S ek c a=>?_⟩
 obtain⟨g,c⟩:=List.getElem?_eq_some_iff.1 c;obtain⟨b,sl,e,j,r⟩:=d.at g;rw[ek]at e;cases e;have a:S=No:=by
  rw[List.getElem?_replicate,if_pos g]at a;exact(aN.inj a).symm
 subst a c;exact⟨b,sl,rfl,j,.inl ⟨r,fun _ h=>h⟩⟩
theorem RxO.view{o:Option Addr}{W S:Nat→Prop}{h:ac}{b:Nat}{sl:ByteArray}{w:Option ByteArray}{F:Fo}(r:RxO o W h b sl w F S):
  ∃(val:ByteArray) (s:SliceV) (ow:Option Addr) (ks:List (Option Addr)) (Us:List (Nat→Prop)),h[b]? =some (.cells (qg sl w.isSome val s ow) aD (0,0))∧val=w.getD ⟨#[]⟩∧Sl kR 1 No h s ks∧LsO o W h ks F.toL Us∧(∀U∈Us,∀y,U y→S y)∧PD Us∧
   ((OwOk W h ow∧(¬W b)∧Sl kR 1 W h s ks∧∀y,¬S y)∨(o.isSome=true∧ow=o∧∃A:Nat→Prop,OwnS kR 1 ax A h s ks∧(∀y,A y→S y∧y≠b∧y<h.size)∧S b∧∀U∈Us,∀y,U y→¬A y∧y≠b)):=by
 rcases r with⟨⟨val,s,ow,ks,B,t,p,n,u⟩,e⟩|⟨e,val,s,k,A,Us,v,hv,m,g,f,d,q,x⟩
 ·refine⟨val,s,ow,ks,_,B,t,p.less fun _ h=>h.elim,Dp u,fun U d y a=>?_,fun i j S T _ z C y a _=>?_,.inl ⟨n.2.2,n.2.1,p,e⟩⟩
  ·rw[List.eq_of_mem_replicate d]at a;exact a.elim
  ·rw[List.eq_of_mem_replicate (aR z)]at a;exact a.elim
 ·exact⟨val,s,o,k,Us,v,hv,m.sl fun _ _ _ h=>h,r4.1 x,fun U c y a=>(d U c y a).1,q,.inr ⟨e,rfl,A,m,g,f,fun U c y a=>(d U c y a).2⟩⟩
def SR(o:Option Addr)(b:Nat)(A:Nat→Prop)(Us:List (Nat→Prop))(y:Nat):Prop:=o.isSome=true∧(y=b∨A y∨∃U∈Us,U y)
theorem qp{o:Option Addr}{W:Nat→Prop}{h:ac}{b:Nat}{sl val:ByteArray}{s:SliceV}{w:Option ByteArray}{F:Fo}{ks:List (Option Addr)}{A:Nat→Prop}{Us:List (Nat→Prop)}(u:h[b]? =some (.cells (qg sl w.isSome val s o) aD (0,0))) (hv:val=w.getD ⟨#[]⟩) (k:OwnS kR 1 ax A h s ks)
  (j:∀y,A y→y≠b∧y<h.size) (E:∀U∈Us,∀y,U y→¬A y∧y≠b) (n:PD Us) (g:LsO o W h ks F.toL Us) (G:o=none→(∀y,A y→¬W y)∧¬W b):RxO o W h b sl w F (SR o b A Us):=by
 cases o with
 |none=>
  obtain⟨D,x⟩:=G rfl;refine .inl ⟨⟨val,s,none,ks,u,hv,k.sl fun y c _=>D y c,⟨k.cap,x,fT⟩,nJ.2 ⟨g.1,fun p n=>?_⟩⟩,fun y c=>by simp[SR]at c⟩
  obtain⟨i,v,e⟩:=dd n;rw[List.length_zip]at v;have t:i<ks.length:=by omega
  have f:i<F.toL.length:=by omega
  have m:i<Us.length:=by rw[g.2.1];exact f
  rw[List.getElem_zip]at e;subst e;obtain⟨B,q,z,C,r⟩:=g.2.2 i _ _ _ (aq t) (aq f) (aq m);exact⟨B,q,z,C,r.off.1⟩
 |some a=>exact .inr ⟨rfl,val,s,ks,A,Us,u,hv,k,fun y c=>⟨⟨rfl,.inr (.inl c)⟩,j y c⟩,⟨rfl,.inl rfl⟩,fun U d y c=>⟨⟨rfl,.inr (.inr ⟨U,d,c⟩)⟩,E U d y c⟩,n,r4.2 g⟩
end Go.Proofs
namespace Go.Proofs
open Go Go.Lift
theorem sK{h:ac}{w o:Option Addr}{b:Nat}{sl val:ByteArray}{has:Bool}{s:SliceV}{ow:Option Addr}(t:By h w o)(e:h[b]? =some (.cells (qg sl has val s ow) aD (0,0))) (d:∀a,ow=some a→cq h a) {K:Bool→ac→Prop} (c:K (o.isSome&&(ow==w)) h):
  HC PG hP [.pointer (some ⟨b,0,none⟩),.pointer w] [.c .bool] K h:=by
 refine pa _ w ?_;unfold kJ cL;refine ao.2 (pA t ?_);cases o with
 |none=>exact al.2 c
 |some a=>exact ao.2 ⟨_,rfl,ow,fa (i:=4) e,trivial,fun x y hx f=>⟨d x hx,t.plain y f⟩,c⟩
theorem ja{W S:Nat→Prop}{h:ac}{w o:Option Addr}{b:Nat}{sl val:ByteArray}{has:Bool}{s:SliceV}{ow:Option Addr}{ks:List (Option Addr)}{Us:List (Nat→Prop)}(t:By h w o)(Z:∀a,o=some a→W a.block)(g:h[b]? =some (.cells (qg sl has val s ow) aD (0,0))) (hn:ks.length≤256)
  (O:(OwOk W h ow∧Sl kR 1 No h s ks∧(∀U∈Us,∀y,U y→y<h.size))∨(o.isSome=true∧ow=o∧∃A:Nat→Prop,OwnS kR 1 ax A h s ks∧(∀y,A y→S y∧y≠b∧y<h.size)∧S b∧∀U∈Us,∀y,U y→¬A y∧y≠b)) {K:Option Addr→ac→Prop}
  (R:∀h' b' s' A,h'[b']? =some (.cells (qg sl has val s' o) aD (0,0))→OwnS kR 1 ax A h' s' ks→(∀y,A y→(S y∨h.size≤y)∧y≠b'∧y<h'.size)→(S b'∨h.size≤b')→(∀U∈Us,∀y,U y→¬A y∧y≠b')→Upd No h h'→K (some ⟨b',0,none⟩) h'):
  HC PG cF [.pointer (some ⟨b,0,none⟩),.pointer w] [.c .ptr] K h:=by
 refine qQ _ w ?_;unfold l8 nv c5 cL qf dZ iW ci vR D6;rcases O with⟨z,O,B⟩|⟨e,D,A,X,p,M,B⟩
 ·refine sK t g (fun a e=>(z a e).2) ?_
  have C:(o.isSome&&(ow==w))=false:=by
   cases ho:o with
   |none=>rfl
   |some a=>
    have e:=t.tok ho;rw[Option.isSome_some,Bool.true_and,beq_eq_false_iff_ne];intro k;rw[e]at k;exact(z a k).1 (Z a ho)
  rw[C];refine al.2 ⟨_,rfl,sl,fa (i:=0) g,has,fa (i:=1) g,val,fa (i:=2) g,s,fa (i:=3) g,ow,fa (i:=4) g,bK ?_⟩;have k1:=Upd.hnew No h CT aD;have b1:=cf h CT aD;simp only[dK h];generalize hnew h [.string (⟨#[]⟩:ByteArray),.bool false,.string (⟨#[]⟩:ByteArray),.slice none 0 0,.pointer none] aD=h1 at k1 b1;refine fV (c:=CT) (vs:= [.string sl,.bool has,.string val,.slice s.a s.len s.cap,.pointer ow]) b1 rfl fun I b2 L=>?_
  have G:Upd No h I:=k1.trans L fun x hx=>.inr (eP hx.symm)
  have Y:h.size<I.size:=aW b2;have E:=G.get0 g;refine⟨_,rfl,s,fa (i:=3) E,?_⟩;refine uP (O.upd G fun _ h=>h.elim) (by omega) fun s3 V N j=>?_
  have b3:V[h.size]? =some (.cells (qg sl has val s ow) aD (0,0)):=j.get0 b2;refine⟨CU (i:=3) b3 (show 3<5 by decide),wg (i:=3) (c':=qg sl has val s3 ow) b3 rfl fun h4 T J=>?_⟩
  refine⟨CU (i:=4) T (show 4<5 by decide),wg (i:=4) (c':=qg sl has val s3 none) T rfl fun Q F H=>?_⟩
  have d:=J.tr H;have z3:=j.size;have z5:=d.size;have v:Upd No h Q:=(G.tr j).trans d fun x hx=>.inr (eP hx.symm)
  have fin:∀{m:ac},m[h.size]? =some (.cells (qg sl has val s3 o) aD (0,0))→Upd (· =h.size) Q m→K (some ⟨h.size,0,none⟩) m:=fun{m} P f=>by
   have z6:=f.size;exact R m h.size s3 (fun x=>I.size≤x∧x<V.size) P (N.within.upd (d.tr f) fun x hx e=>by have e:x=h.size:=e;have:=hx.1;omega) (fun y n=>⟨.inr (by omega),by omega,by omega⟩) (.inr (av _)) (fun U q y n=>⟨fun h=>by have:=B U q y n;omega,by have:=B U q y n;omega⟩) (v.trans f fun x hx=>.inr (eP hx.symm))
  refine pA (t.upd0 v) ?_;cases ho:o with
  |none=>rw[ho]at fin;exact al.2 (fin F (Upd.refl _ _))
  |some a=>
   rw[ho]at fin;rw[t.tok ho];exact ao.2 ⟨CU (i:=4) F (show 4<5 by decide),wg (i:=4) (c':=qg sl has val s3 (some a)) F rfl fun m P f=>fin P f⟩
 ·refine sK t g (fun a k=>t.plain a (t.tok (by rw[←D];exact k))) ?_
  have u:(o.isSome&&(ow==w))=true:=by
   obtain⟨a,k⟩:=Option.isSome_iff_exists.1 e;rw[e,D,k,t.tok k];simp
  rw[u];subst D;exact ao.2 (R h b s A g X (fun y n=>⟨.inl (p y n).1,(p y n).2⟩) (.inl M) B (Upd.refl _ _))
theorem wd{h:ac}{w o:Option Addr}{k v:ByteArray}(t:By h w o){K:Option Addr→ac→Prop}(B:∀h' b s A,h'[b]? =some (.cells (qg k true v s o) aD (0,0))→OwnS kR 1 ax A h' s []→(∀y,A y→h.size≤y∧y≠b∧y<h'.size)→h.size≤b→Upd No h h'→K (some ⟨b,0,none⟩) h'):HC PG lN [.pointer w,.string k,.string v] [.c .ptr] K h:=by
 refine ui w k v ?_;unfold ot su qf vR;have k1:=Upd.hnew No h CT aD;have b1:=cf h CT aD;refine bK ?_;simp only[dK h];generalize hnew h [.string (⟨#[]⟩:ByteArray),.bool false,.string (⟨#[]⟩:ByteArray),.slice none 0 0,.pointer none] aD=h1 at k1 b1;have E:=k1.size;refine ja (W:=fun y=>∃a,o=some a∧a.block=y) (S:=No) (Us:= []) (ks:= []) (sl:=⟨#[]⟩) (val:=⟨#[]⟩) (has:=false) (s:=⟨none,0,0⟩) (ow:=none) (t.upd0 k1) (fun a e=>⟨a,e,rfl⟩) b1 (d4 _) (.inl ⟨fT,Sl.nil lL,fun U q=>by cases q⟩) fun D b2 s A C n d j _ i=>?_
 refine oH (nl:=k) C fun G b3 m=>kV (v:=v) b3 fun u z g=>?_
 have c:=m.tr g;have p:h1.size≤b2:=j.elim (fun h=>h.elim) id
 have F:=c.size;exact B u b2 s A z (n.upd c fun x hx e=>(d x hx).2.1 e) (fun y f=>⟨(d y f).1.elim (fun h=>h.elim) fun h=>by omega,(d y f).2.1,by have:=(d y f).2.2;omega⟩) (by omega) ((k1.tr i).trans c fun x hx=>.inr (by have hx:x=b2:=hx;omega))
theorem Eg{o:Option Addr}{W:Nat→Prop}{h:ac}{b:Nat}{k v:ByteArray}{s:SliceV}{A:Nat→Prop}(c:h[b]? =some (.cells (qg k true v s o) aD (0,0))) (d:OwnS kR 1 ax A h s []) (a:∀y,A y→y≠b∧y<h.size) (nw:o=none→(∀y,A y→¬W y)∧¬W b):RxO o W h b k (some v) .nil (SR o b A []):=
 qp c rfl d a (fun _ h=>by cases h) (fun i j S T _ e=>by simp at e) ⟨rfl,rfl,fun i k n S e=>by simp at e⟩ nw
theorem LsO.ins{o:Option Addr}{W:Nat→Prop}{h:ac}{ks:List (Option Addr)}{L:List Bn}{Ts:List (Nat→Prop)}(r:LsO o W h ks L Ts){i:Nat}(t:i≤L.length){k:Option Addr}{n:Bn}{S:Nat→Prop}(c:KidO o W h k n S):LsO o W h (ks.take i++k::ks.drop i) (L.take i++n::L.drop i) (Ts.take i++S::Ts.drop i):=by
 obtain⟨s,p,m⟩:=r;have g:∀{α:Type _} {xs:List α} {x:α} {j:Nat},i≤xs.length→(xs.take i++x::xs.drop i)[j]? =if j<i then xs[j]? else if j=i then some x else xs[j-1]?:=fun{α xs x j} q=>by
  split
  ·rename_i hj
   rw[dt (by rw[aE];omega),ig,if_pos hj]
  ·rename_i hj
   rw[c8 (by rw[aE];omega),aE,aL q];split
   ·rename_i e;subst e;simp
   ·rename_i e
    have:j-i=(j-i-1)+1:=by omega
    rw[this,cx,ii];congr 1;omega
 refine⟨by simp[s],by simp[p],fun j k' f d ek a b=>?_⟩
 rw[g (by omega)]at ek a b;split at ek
 ·rename_i hj
  rw[if_pos hj]at a b;exact m j k' f d ek a b
 ·rename_i hj
  rw[if_neg hj]at a b;split at ek
  ·rename_i e
   rw[if_pos e]at a b;cases ek;cases a;cases b;exact c
  ·rename_i e
   rw[if_neg e]at a b;exact m (j-1) k' f d ek a b
theorem Dn{Ts:List (Nat→Prop)}(d:PD Ts){i:Nat}(p:i≤Ts.length){S:Nat→Prop}(f:∀U∈Ts,Dj S U):PD (Ts.take i++S::Ts.drop i):=by
 have g:∀{j:Nat},(Ts.take i++S::Ts.drop i)[j]? =if j<i then Ts[j]? else if j=i then some S else Ts[j-1]?:=fun{j}=>by
  split
  ·rename_i hj
   rw[dt (by rw[aE];omega),ig,if_pos hj]
  ·rename_i hj
   rw[c8 (by rw[aE];omega),aE,aL p];split
   ·rename_i e;subst e;simp
   ·rename_i e
    have:j-i=(j-i-1)+1:=by omega
    rw[this,cx,ii];congr 1;omega
 have m:∀{A B:Nat→Prop},Dj A B→Dj B A:=fun h y n o=>h y o n
 intro a b A B k c eb;rw[g]at c eb;split at c<;>split at eb
 ·exact d a b A B k c eb
 ·rename_i h1 h2
  split at eb
  ·cases eb;exact m (f A (aR c))
  ·exact d a (b-1) A B (by omega) c eb
 ·rename_i h1 h2
  split at c
  ·cases c;exact f B (aR eb)
  ·exact d (a-1) b A B (by omega) c eb
 ·rename_i h1 h2
  split at c<;>split at eb
  ·omega
  ·cases c;exact f B (aR eb)
  ·cases eb;exact m (f A (aR c))
  ·exact d (a-1) (b-1) A B (by omega) c eb
theorem Dm{Ts:List (Nat→Prop)}(f:PD Ts){i:Nat}{S:Nat→Prop}(e:∀j U,j≠i→Ts[j]? =some U→Dj S U):PD (Ts.set i S):=by
 have g:∀{A B:Nat→Prop},Dj A B→Dj B A:=fun h y k m=>h y m k
 intro a b A B c d eb;rw[f8]at d eb;split at d<;>split at eb
 ·omega
 ·rename_i h1 h2
  subst h1;split at d
  ·cases d;exact e b B (Ne.symm c) eb
  ·cases d
 ·rename_i h1 h2
  subst h2;split at eb
  ·cases eb;exact g (e a A c d)
  ·cases eb
 ·exact f a b A B c d eb
theorem LsO.set{o:Option Addr}{W:Nat→Prop}{h:ac}{ks:List (Option Addr)}{L:List Bn}{Ts:List (Nat→Prop)}(p:ks.length=L.length)(d:Ts.length=L.length){i:Nat}(m:∀(j:Nat) (k:Option Addr) (n:Bn) (S:Nat→Prop),j≠i→ks[j]? =some k→L[j]? =some n→Ts[j]? =some S→KidO o W h k n S) {k:Option Addr} {n:Bn} {S:Nat→Prop} (c:KidO o W h k n S):LsO o W h (ks.set i k) (L.set i n) (Ts.set i S):=by
 refine⟨by simp[p],by simp[d],fun j k' g f ek a b=>?_⟩
 rw[f8]at ek a b;by_cases e:i=j
 ·rw[if_pos e]at ek a b
  split at ek
  ·rename_i hj
   rw[if_pos (by omega)]at a b;cases ek;cases a;cases b;exact c
  ·cases ek
 ·rw[if_neg e]at ek a b
  exact m j k' g f (Ne.symm e) ek a b
end Go.Proofs
namespace Go.Proofs
open Go Go.Lift
theorem By.lt{h:ac}{w o:Option Addr}(t:By h w o){a:Addr}(e:w=some a):a.block<h.size:=by
 obtain⟨c,ty,b,_⟩:=t.plain a e;exact aW b
theorem LsO.move{o:Option Addr}{W W' M:Nat→Prop}{h d:ac}{ks:List (Option Addr)}{L:List Bn}{Us:List (Nat→Prop)}(r:LsO o W h ks L Us)(k:Upd M h d)(f:∀U∈Us,∀y,U y→y<h.size)(hm:∀y,M y→(W y∧∀U∈Us,¬U y)∨h.size≤y)(e:∀y,W' y→W y∨h.size≤y):LsO o W' d ks L Us:=by
 refine⟨r.1,r.2.1,fun i j n S ek g b=>?_⟩
 have c:=aR b;exact(((r.2.2 i j n S ek g b).less (W':=fun y=>W y∨h.size≤y) fun y a=>a).upd k (f S c) fun y a=>(hm y a).imp (fun h=>⟨.inl h.1,h.2 S c⟩) id).less fun y a=>.inl (e y a)
theorem tJ{o:Option Addr}{S A:Nat→Prop}{Us:List (Nat→Prop)}{b z:Nat}{a:ac}(g:S b∨z≤b)(c:b<a.size)(i:∀y,A y→(S y∨z≤y)∧y<a.size)(f:∀U∈Us,∀y,U y→(S y∨z≤y)∧y<a.size){y:Nat}(e:SR o b A Us y):(S y∨z≤y)∧y<a.size:=by
 rcases e.2 with rfl|h|⟨U,d,h⟩
 ·exact⟨g,c⟩
 ·exact i y h
 ·exact f U d y h
set_option maxHeartbeats 1000000 in
theorem wb{W S:Nat→Prop}{h:ac}{w' o:Option Addr}{b:Nat}{sl:ByteArray}{w:Option ByteArray}{F:Fo}(r:RxO o W h b sl w F S)(t:By h w' o)(hW:∀y,W y→y<h.size)(L:∀y,S y→W y)(R:∀a,o=some a→W a.block)(hn:F.toL.length≤256){c:Nat}(hc:c≤sl.size){K:Option Addr→ac→Prop}
  (hk:∀h' b' S',RxO o (fun y=>W y∨S' y) h' b' (sl.extract 0 c) none (.cons (sl.data.toList.drop c) w F .nil) S'→(∀y,S' y→(S y∨h.size≤y)∧y<h'.size)→Upd S h h'→K (some ⟨b',0,none⟩) h'):HC PG hJ [.pointer (some ⟨b,0,none⟩),.pointer w',.int .i64 c] [.c .ptr] K h:=by
 refine o6 _ w' c ?_;unfold kG su c5 qf dZ vR;have hno:o=none→∀y,¬S y:=fun e=>by subst e;exact r.off.2
 obtain⟨val,s,ow,ks,Us,hb,hv,hs,hL,C,hPD,hown⟩:=r.view;have u:∀y,S y→y<h.size:=fun y d=>hW y (L y d)
 have lab:∀{h'},Upd No h h'→aP h' (adr ⟨b,0,none⟩ 0)=some (.string sl):=fun k=>fa (i:=0) (k.get0 hb)
 have r0:=Upd.refl No h;refine⟨_,rfl,sl,lab r0,⟨by omega,by omega⟩,bK ?_⟩
 have k1:=Upd.hnew No h CT aD;have b1:=cf h CT aD;simp only[dK h];generalize hnew h [.string (⟨#[]⟩:ByteArray),.bool false,.string (⟨#[]⟩:ByteArray),.slice none 0 0,.pointer none] aD=h1 at k1 b1;have z1:=k1.size;refine⟨lab k1,?_⟩;refine ja (W:=W) (S:=No) (Us:= []) (ks:= []) (sl:=⟨#[]⟩) (val:=⟨#[]⟩) (has:=false) (s:=⟨none,0,0⟩) (ow:=none) (t.upd0 k1) R b1 (d4 _) (.inl ⟨fT,Sl.nil lL,fun U q=>by cases q⟩) fun h2 v s2 A2 b2 _ _ hbu _ hu2=>⟨lab (k1.tr hu2),?_⟩
 have hbu:h1.size≤v:=hbu.elim (fun h=>h.elim) id
 have hbu2:=aW b2;rw[aK];refine oH b2 fun h3 b3 Q=>?_
 have Y:=k1.tr hu2;have f:Upd No h h3:=Y.trans Q fun x hx=>.inr (by have hx:x=v:=hx;omega)
 have z02:=Y.size;have z3:=Q.size;have z03:=f.size;have t3:=t.upd0 f;refine ja (W:=W) (S:=S) (Us:=Us) (ks:=ks) (s:=s) (ow:=ow) (val:=val) (sl:=sl) (has:=w.isSome) t3 R (f.get0 hb) (by rw[hL.1];exact hn) ?_ fun h4 m s4 A4 M hA4 g hb4 hU4 J=>?_
 ·rcases hown with⟨how,_,_,hS0⟩|⟨e,eo,A,hA,N,hSbb,hUA⟩
  ·exact .inl ⟨how.upd f fun _ h=>h.elim,hs.upd f fun _ h=>h.elim,fun U q y d=>absurd (C U q y d) (hS0 y)⟩
  ·exact .inr ⟨e,eo,A,hA.upd f fun _ _ h=>h,fun y d=>⟨(N y d).1,(N y d).2.1,by have:=(N y d).2.2;omega⟩,hSbb,hUA⟩
 refine⟨_,rfl,sl,fa (i:=0) M,⟨by omega,by omega⟩,?_⟩
 refine oH (nl:=sl.extract c sl.size) M fun p b5 G=>?_
 have z4:=J.size;have z5:=G.size;have hA5:=hA4.upd G fun x hx e=>(g x hx).2.1 e
 have nb:v≠m:=fun e=>by
  rcases hb4 with h|h
  ·have:=u _ h;omega
  ·omega
 have b35:p[v]? =some (.cells (qg (sl.extract 0 c) false ⟨#[]⟩ s2 o) aD (0,0)):=G.get (J.get0 b3) (by show ¬v=m;omega);have k6:=Upd.hnew No p [.pointer (some ⟨m,0,none⟩)] ax;have b6:=cf p [.pointer (some ⟨m,0,none⟩)] ax;refine bK ?_;simp only[dK p];generalize hnew p [.pointer (some ⟨m,0,none⟩)] ax=h6 at k6 b6;have z6:=aW b6
 have b36:=k6.get0 b35;refine⟨_,rfl,CU (i:=3) b36 (show 3<5 by decide),wg (i:=3) (c':=qg (sl.extract 0 c) false ⟨#[]⟩ ⟨some ⟨p.size,0,none⟩,1,1⟩ o) b36 rfl fun I b7 D=>?_⟩
 have z7:=D.size;have zb4:=aW M;have u07:Upd (· =m) h I:=((((f.tr J).wide.tr G).tr k6.wide).trans D fun x hx=>.inr (by have hx:x=v:=hx;omega))
 have b57:=D.get (k6.get0 b5) (by show ¬m=v;omega);have b67:I[p.size]? =some (.cells #[.pointer (some ⟨m,0,none⟩)] ax (0,0)):=D.get b6 (by show ¬p.size=v;omega);have hA7:=(hA5.upd k6 fun _ _ h=>h).upd D fun x hx e=>by
  have e:x=v:=e;rcases(g x hx).1 with h|h
  ·have:=u x h;omega
  ·omega
 have E:∀y,A4 y→(S y∨h.size≤y)∧y<I.size:=fun y d=>⟨(g y d).1.imp id fun h=>by omega,by have:=(g y d).2.2;omega⟩
 have z:S m∨h.size≤m:=hb4.imp id fun h=>by omega
 have hUb:∀U∈Us,∀y,U y→(S y∨h.size≤y)∧y<I.size:=fun U q y d=>⟨.inl (C U q y d),by have:=u y (C U q y d);omega⟩
 have hSk:∀y,SR o m A4 Us y→(S y∨h.size≤y)∧y<I.size:=fun y d=>tJ z (by omega) E hUb d
 have V:∀y,SR o m A4 Us y→y<p.size:=fun y d=>by
  rcases d.2 with rfl|h|⟨U,O,h⟩
  ·omega
  ·have:=(g y h).2.2;omega
  ·have:=u y (C U O y h);omega
 have Z:∀y,SR o m A4 Us y→y≠v:=fun y d e=>by
  subst e;rcases d.2 with h|h|⟨U,O,h⟩
  ·exact nb h
  ·rcases(g y h).1 with h|h
   ·have:=u y h;omega
   ·omega
  ·have:=u y (C U O y h);omega
 have H:∀{A:Nat→Prop} {bb:Nat} {T:List (Nat→Prop)} {X:Nat→Prop},(∀y,A y→S y∨h.size≤y)→(S bb∨h.size≤bb)→o=none→(∀y,A y→¬(W y∨SR o v X T y))∧¬(W bb∨SR o v X T bb):=fun{A bb T X} hA hb e=>by
  have no:∀y,(S y∨h.size≤y)→¬(W y∨SR o v X T y):=fun y d P=>by
   rcases P with P|⟨P,_⟩
   ·rcases d with h|h
    ·exact hno e y h
    ·have:=hW y P;omega
   ·rw[e]at P;cases P
  exact⟨fun y d=>no y (hA y d),no _ hb⟩
 refine hk I v (SR o v (· =p.size) [SR o m A4 Us]) (qp (ks:= [some ⟨m,0,none⟩]) b7 rfl (⟨rfl,lL,av _,.inr ⟨p.size,[],rfl,rfl,by simpa[kR]using b67,rfl⟩⟩:OwnS kR 1 ax (· =p.size) I ⟨some ⟨p.size,0,none⟩,1,1⟩ [some ⟨m,0,none⟩]) (fun y d=>?_) (fun U q y d=>?_) (fun i j A B hij e1 e2=>?_) ⟨rfl,rfl,fun i kk n U ek en eU=>?_⟩ (H (fun y d=>?_) (.inr (by omega)))) (fun y d=>?_) (u07.mono fun y d=>?_)
 ·have d:y=p.size:=d
  omega
 ·rw[ag.1 q]at d
  have:=V y d;exact⟨fun h=>by have h:y=p.size:=h;omega,Z y d⟩
 ·cases i with
  |zero=>cases j with
   |zero=>exact absurd rfl hij
   |succ j=>simp at e2
  |succ i=>simp at e1
 ·cases i with
  |succ i=>simp at ek
  |zero=>
   simp only[bM,aN.injEq,Fo.toL]at ek en eU;subst ek en eU;refine⟨m,sl.extract c sl.size,rfl,wQ ..,qp b57 hv hA7 (fun y d=>⟨(g y d).2.1,(E y d).2⟩) hU4 hPD (hL.move u07 (fun U q y d=>u y (C U q y d)) (fun y d=>?_) fun y d=>?_) (H (fun y d=>(E y d).1) z)⟩
   ·have d:y=m:=d
    subst d;exact z.imp (fun h=>⟨L y h,fun U q hu=>(hU4 U q y hu).2 rfl⟩) id
   ·rcases d with h|h
    ·exact .inl h
    ·rcases h.2 with rfl|h|⟨U,q,h⟩
     ·exact .inr (by omega)
     ·have h:y=p.size:=h
      exact .inr (by omega)
     ·rw[ag.1 q]at h
      exact(hSk y h).1.imp (L y) id
 ·have d:y=p.size:=d
  exact .inr (by omega)
 ·refine tJ (.inr (by omega)) (aW b7) (fun y d=>?_) (fun U q y d=>?_) d
  ·have d:y=p.size:=d
   exact⟨.inr (by omega),by omega⟩
  ·rw[ag.1 q]at d
   exact hSk y d
 ·have d:y=m:=d
  rw[d];exact z
end Go.Proofs
namespace Go.Proofs
open Go Go.Lift
theorem KidO.move{o:Option Addr}{W W' M:Nat→Prop}{h c:ac}(k:Upd M h c){a:Option Addr}{n:Bn}{S:Nat→Prop}(r:KidO o W h a n S)(d:∀y,S y→y<h.size)(hm:∀y,M y→(W y∧¬S y)∨h.size≤y)(e:∀y,W' y→W y∨h.size≤y):KidO o W' c a n S:=
 ((r.less (W':=fun y=>W y∨h.size≤y) fun y b=>b).upd k d fun y b=>(hm y b).imp (fun h=>⟨.inl h.1,h.2⟩) id).less fun y b=>.inl (e y b)
theorem zW{o ow:Option Addr}{W S M:Nat→Prop}{h f:ac}{b:Nat}{s:SliceV}{ks:List (Option Addr)}{Us Us':List (Nat→Prop)}
  (i:(OwOk W h ow∧(¬W b)∧Sl kR 1 W h s ks∧∀y,¬S y)∨(o.isSome=true∧ow=o∧∃A:Nat→Prop,OwnS kR 1 ax A h s ks∧(∀y,A y→S y∧y≠b∧y<h.size)∧S b∧∀U∈Us,∀y,U y→¬A y∧y≠b))
  (C:b<h.size)(m:Upd M h f)(n:∀y,M y→S y∧∃U∈Us,U y)(q:∀U∈Us',∀y,U y→((∃V∈Us,V y)∨h.size≤y)∧y<f.size):
  (OwOk W f ow∧Sl kR 1 No f s ks∧(∀U∈Us',∀y,U y→y<f.size))∨(o.isSome=true∧ow=o∧∃A:Nat→Prop,OwnS kR 1 ax A f s ks∧(∀y,A y→S y∧y≠b∧y<f.size)∧S b∧∀U∈Us',∀y,U y→¬A y∧y≠b):=by
 have z:=m.size;rcases i with⟨p,_,x,k⟩|⟨e,v,A,w,d,g,j⟩
 ·exact .inl ⟨p.upd m fun y a=>absurd (n y a).1 (k y),(x.upd m fun y a=>absurd (n y a).1 (k y)).less fun _ h=>h.elim,fun U c y a=>(q U c y a).2⟩
 ·refine .inr ⟨e,v,A,w.upd m fun y a hm=>?_,fun y a=>⟨(d y a).1,(d y a).2.1,by have:=(d y a).2.2;omega⟩,g,fun U c y a=>?_⟩
  ·obtain⟨_,U,c,t⟩:=n y hm
   exact(j U c y t).1 a
  ·rcases(q U c y a).1 with⟨V,u,hv⟩|h
   ·exact j V u y hv
   ·exact⟨fun B=>by have:=(d y B).2.2;omega,by omega⟩
set_option maxHeartbeats 4000000 in
theorem zJ{w' o:Option Addr}:∀(n:Nat) {W S:Nat→Prop} {b:Nat} {sl:ByteArray} {w:Option ByteArray} {F:Fo} {h:ac} (k v:ByteArray),k.size<n→k.size≤1000000→RxO o W h b sl w F S→By h w' o→(∀y,W y→y<h.size)→(∀y,S y→W y)→(∀a,o=some a→W a.block)→(∀a,w'=some a→¬S a.block)→fK F→∀{K:(Option Addr)×Bool×Bool→ac→Prop},
  (∀Y q w2 F2 S2 E ch,Upd S h Y→RxO o (fun y=>W y∨S2 y) Y q sl w2 F2 S2→(∀y,S2 y→(S y∨h.size≤y)∧y<Y.size)→fK F2→lQ (rt w F) (rt w2 F2) k.data.toList v→(ch=false→q=b∧w2=w∧F2=F∧Upd No h Y∧rt w F k.data.toList v)→(rt w F k.data.toList v→ch=false)→K (some ⟨q,0,none⟩,E,ch) Y)→
  HC PG gu [.pointer (some ⟨b,0,none⟩),.pointer w',.string k,.string v] [.c .ptr,.c .bool,.c .bool] K h:=by
 intro n;induction n with
 |zero=>intro W S b sl w F h k v hk;omega
 |succ n ih=>
  intro W S b sl w F h k v hkn hk6 r t hW C hWo hwS hc K hk;refine qP (some ⟨b,0,none⟩) w' k v ?_;unfold l7 dT gg su c5 uW qf dZ D4 iW ci C3 C6 AG;have hr:=r;have hno:o=none→∀y,¬S y:=fun e=>by subst e;exact r.off.2
  obtain⟨val,s,ow,ks,Us,hb,hv,hs,hL,hUS,hPD,hown⟩:=r.view;have hn:=pO hc;have hcan:=eh.1 hc;have hSb:∀y,S y→y<h.size:=fun y d=>hW y (C y d)
  have N:∀U∈Us,∀y,U y→y<h.size:=fun U G y d=>hSb y (hUS U G y d)
  have zb:=aW hb;have own2:=fun{B:ac} {M:Nat→Prop} (ku:Upd M h B) (hM:∀y,M y→S y∧∃U∈Us,U y) (Us':List (Nat→Prop)) (G:∀U∈Us',∀y,U y→((∃V∈Us,V y)∨h.size≤y)∧y<B.size)=>zW (Us':=Us') hown zb ku hM G
  have hUh:∀{B:ac},h.size≤B.size→∀U∈Us,∀y,U y→((∃V∈Us,V y)∨h.size≤y)∧y<B.size:=fun z U G y d=>⟨.inl ⟨U,G,d⟩,by have:=N U G y d;omega⟩
  have hno':∀{A X:Nat→Prop} {bb bx:Nat} {T:List (Nat→Prop)},(∀y,A y→S y∨h.size≤y)→(S bb∨h.size≤bb)→o=none→(∀y,A y→¬(W y∨SR o bx X T y))∧¬(W bb∨SR o bx X T bb):=fun{A X bb bx T} hA hb e=>by
   have no:∀y,(S y∨h.size≤y)→¬(W y∨SR o bx X T y):=fun y d hw=>by
    rcases hw with hw|⟨hw,_⟩
    ·rcases d with h|h
     ·exact hno e y h
     ·have:=hW y hw;omega
    ·rw[e]at hw;cases hw
   exact⟨fun y d=>no y (hA y d),no _ hb⟩
  rw[kB];refine bi (fun hk0=>?_) fun hk0=>?_
  ·have hke:k.data.toList= []:=by rw[hk0]
   rw[hke]at hk;refine Join.intro (fun t Y=>t=decide (w=some v)∧Y=h) (fun R hR=>⟨_,rfl,w.isSome,fa (i:=1) hb,?_⟩) ?_
   ·cases hw:w with
    |none=>exact al.2 (hR _ _ ⟨by rw[hw];rfl,rfl⟩)
    |some u=>
     refine ao.2 ⟨_,rfl,val,fa (i:=2) hb,hR _ _ ⟨?_,rfl⟩⟩;rw[kB,vw hv u hw,hw];exact decide_eq_decide.2 ⟨fun e=>by rw[e],fun e=>aN.inj e⟩
   ·rintro t' Y ⟨rfl,rfl⟩
    refine bi (fun e=>?_) fun e=>?_
    ·refine hk Y b w F S false false (Upd.refl _ _) (hr.less fun y d=>.inl (d.elim id (C y))) (fun y d=>⟨.inl d,hSb y d⟩) hc ?_ (fun _=>⟨rfl,rfl,rfl,Upd.refl _ _,.inl ⟨rfl,e⟩⟩) fun _=>rfl
     rw[e];exact uB hc v
    ·have fin:∀{h1 B:ac} {q:Nat} {s1:SliceV} {A1:Nat→Prop},OwnS kR 1 ax A1 h1 s1 ks→(∀y,A1 y→(S y∨Y.size≤y)∧y≠q∧y<h1.size)→(S q∨Y.size≤q)→(∀U∈Us,∀y,U y→¬A1 y∧y≠q)→Upd No Y h1→B[q]? =some (.cells (qg sl true v s1 o) aD (0,0))→Upd (· =q) h1 B→∀E,K (some ⟨q,0,none⟩,E,true) B:=fun{h1 B q s1 A1} hA1 f g P p b2 D E=>by
      have z1:=p.size;have z2:=D.size;have zb':=aW b2;have u02:Upd (· =q) Y B:=p.wide.tr D
      have hSR:∀y,SR o q A1 Us y→(S y∨Y.size≤y)∧y<B.size:=fun y d=>tJ g zb' (fun y d=>⟨(f y d).1,by have:=(f y d).2.2;omega⟩) (fun U G y d=>⟨.inl (hUS U G y d),by have:=N U G y d;omega⟩) d
      refine hk B q (some v) F (SR o q A1 Us) E true (u02.mono fun y d=>by have d:y=q:=d;rw[d];exact g) (qp b2 rfl (hA1.upd D fun y d=>(f y d).2.1) (fun y d=>⟨(f y d).2.1,by have:=(f y d).2.2;omega⟩) P hPD (hL.move u02 N (fun y d=>?_) fun y d=>d.elim .inl fun h=>(hSR y h).1.imp (C y) id) (hno' (fun y d=>(f y d).1) g)) hSR hc (uB hc v) (fun h=>by cases h) fun J=>?_
      ·have d:y=q:=d
       subst d;exact g.imp (fun h=>⟨C y h,fun U G hu=>(P U G y hu).2 rfl⟩) id
      ·rcases J with⟨_,h⟩|h
       ·exact absurd h e
       ·exact absurd rfl (qx hc h)
     have ow0:=own2 (Upd.refl No Y) (fun _ h=>h.elim) Us (hUh (av _))
     refine⟨_,rfl,?_,w.isSome,fa (i:=1) hb,?_⟩
     ·refine ja (S:=S) (Us:=Us) t hWo hb (by rw[hL.1];exact hn) ow0 fun h1 q s1 A1 b1 hA1 f g P p=>⟨?_,w.isSome,fa (i:=1) (p.get0 hb),?_⟩
      ·refine kV b1 fun B b2 D=>?_
       have hb2:∃val2,aP B (adr ⟨b,0,none⟩ 1)=some (.bool val2):=by
        by_cases e2:b=q
        ·rw[e2];exact⟨_,fa (i:=1) b2⟩
        ·exact⟨_,fa (i:=1) ((p.wide.tr D).get hb e2)⟩
       obtain⟨v2,hv2⟩:=hb2;exact⟨v2,hv2,fin hA1 f g P p b2 D _⟩
      ·exact kV b1 fun B b2 D=>fin hA1 f g P p b2 D _
     ·exact ja (S:=S) (Us:=Us) t hWo hb (by rw[hL.1];exact hn) ow0 fun h1 q s1 A1 b1 hA1 f g P p=>kV b1 fun B b2 D=>fin hA1 f g P p b2 D _
  ·have L:k.data.toList≠[]:=fun e=>hk0 (by cases k;exact congrArg ByteArray.mk (gF.1 e))
   obtain⟨c0,hc0,hc0e⟩:=Bg L;refine⟨c0,Int.le_refl _,hc0,?_⟩;have hlk:k.data.toList.length=k.size:=by simp
   refine zL (hr.read t) hc (c:=c0.toNat) (UInt8.toNat_lt _) fun i ok hil hlo hhi hok=>?_
   rw[hc0e]at hlo hhi hok;cases ok with
   |false=>
    have hno2:∀hi:i<F.toL.length,hd F.toL[i].1≠hd k.data.toList:=fun hi e=>by have:=hok.2 ⟨hi,e⟩;cases this
    have hhi':∀j (hj:j<F.toL.length),i≤j→hd k.data.toList<hd F.toL[j].1:=fun j hj hij=>by
     have h1:=hhi j hj hij;rcases bV i j with hl|hl
     ·have B:=cH.1 hcan.1 i j (by omega) hj hl
      have h3:=hhi i (by omega) (av _);omega
     ·have:i=j:=by omega
      subst this;have:=hno2 hj;omega
    obtain⟨hc',hp'⟩:=zU (v:=v) hc L hlo hhi';refine ao.2 ?_;refine ja (S:=S) (Us:=Us) t hWo hb (by rw[hL.1];exact hn) (own2 (Upd.refl No h) (fun _ h=>h.elim) Us (hUh (av _))) fun h1 q s1 A1 b1 hA1 f g P p=>?_
    refine⟨_,rfl,s1,fa (i:=3) b1,?_⟩;refine wd (t.upd0 p) fun B fb fs Af fb2 hAf hAfs hfb D=>⟨fa (i:=3) (D.get0 b1),bK ?_⟩
    have k3:=Upd.hnew No B [.pointer (some ⟨fb,0,none⟩)] ax;have b3:=cf B [.pointer (some ⟨fb,0,none⟩)] ax;have z3:(hnew B [.pointer (some ⟨fb,0,none⟩)] ax).size=B.size+1:=je ..;simp only[dK B];generalize hnew B [.pointer (some ⟨fb,0,none⟩)] ax=h3 at k3 b3 z3;have hu13:=D.tr k3;refine⟨fa (i:=3) (hu13.get0 b1),?_⟩;have z01:=p.size
    have z1:=aW b1;have z2:=D.size;have zf:=aW fb2;have ho3:=(hA1.upd hu13 fun _ _ h=>h).more (M':=fun x=>A1 x∨h3.size≤x) fun x hx=>.inl hx
    refine yf ho3 (k:=i) (by rw[hL.1];exact hil) (by rw[hL.1];omega) b3 (fun h=>h.elim (fun h=>by have:=(f _ h).2.2;omega) fun h=>by omega) (fun x hx=>.inr hx) fun s4 h4 ho4 hu4=>?_
    have b4:=hu4.get (hu13.get0 b1) (fun h=>h.elim (fun h=>(f _ h).2.1 rfl) fun h=>by omega)
    have f4:=hu4.get (k3.get0 fb2) (fun h=>h.elim (fun h=>by have:=(f _ h).2.2;omega) fun h=>by omega)
    refine⟨_,rfl,CU (i:=3) b4 (show 3<5 by decide),wg (i:=3) (c':=qg sl w.isSome val s4 o) b4 rfl fun h5 b5 hu5=>?_⟩
    have z4:=hu4.size;have z5:=hu5.size;have u05:Upd (fun y=>y=q∨A1 y) h h5:=((p.tr hu13).wide.trans hu4 fun x hx=>hx.imp .inr fun h=>by omega).trans hu5 fun x hx=>.inl (.inl hx)
    have ho5:=ho4.within.upd hu5 fun x hx e=>by
     have e:x=q:=e;subst e;rcases hx.1 with h|h
     ·exact(f _ h).2.1 rfl
     ·omega
    have nfb:¬fb=q:=by omega
    have f5:=hu5.get f4 nfb;have hAf5:=((hAf.upd k3 fun _ _ h=>h).upd hu4 (fun y d h=>by
     have:=hAfs y d
     rcases h with h|h
     ·have:=(f y h).2.2;omega
     ·omega)).upd hu5 fun y d e=>by
      have e:y=q:=e;have:=hAfs y d;omega
    have hSf:∀y,SR o fb Af [] y→h1.size≤y∧y<B.size:=fun y d=>by
     rcases d.2 with rfl|h|⟨U,G,_⟩
     ·exact⟨hfb,zf⟩
     ·have:=hAfs y h;omega
     ·cases G
    have hmem:∀U∈Us.take i++SR o fb Af []::Us.drop i,U∈Us∨U=SR o fb Af []:=fun U G=>by
     rcases cn.1 G with h|h
     ·exact .inl (List.mem_of_mem_take h)
     ·rcases ai.1 h with h|h
      ·exact .inr h
      ·exact .inl (List.mem_of_mem_drop h)
    have hA5:∀y,((A1 y∨h3.size≤y)∧y<h4.size)→(S y∨h.size≤y)∧y≠q∧y<h5.size:=fun y d=>by
     rcases d.1 with h|h
     ·exact⟨(f y h).1,(f y h).2.1,by omega⟩
     ·exact⟨.inr (by omega),by omega,by omega⟩
    have hS2:∀y,SR o q (fun y=>(A1 y∨h3.size≤y)∧y<h4.size) (Us.take i++SR o fb Af []::Us.drop i) y→(S y∨h.size≤y)∧y<h5.size:=fun y d=>tJ g (aW b5) (fun y d=>⟨(hA5 y d).1,(hA5 y d).2.2⟩) (fun U G y d=>by
     rcases hmem U G with h|rfl
     ·exact⟨.inl (hUS U h y d),by have:=N U h y d;omega⟩
     ·have:=hSf y d;exact⟨.inr (by omega),by omega⟩) d
    refine hk h5 q w _ (SR o q (fun y=>(A1 y∨h3.size≤y)∧y<h4.size) (Us.take i++SR o fb Af []::Us.drop i)) true true (u05.mono fun y d=>?_) (qp b5 hv ho5 (fun y d=>(hA5 y d).2) (fun U G y d=>?_) (Dn hPD (by rw[hL.2.1];exact hil) fun U G y d hu=>?_) (by
     rw[Fo.to_of]
     refine(hL.move u05 N (fun y d=>?_) fun y d=>d.elim .inl fun h=>(hS2 y h).1.imp (C y) id).ins hil ⟨fb,k,rfl,rfl,Eg f5 hAf5 (fun y d=>?_) (hno' (fun y d=>.inr ?_) (.inr (by omega)))⟩
     ·rcases d with rfl|h
      ·exact g.imp (fun h=>⟨C _ h,fun U G hu=>(P U G _ hu).2 rfl⟩) id
      ·exact(f y h).1.imp (fun hs=>⟨C y hs,fun U G hu=>(P U G y hu).1 h⟩) id
     ·have:=hAfs y d;exact⟨this.2.1,by omega⟩
     ·have:=hAfs y d;omega) (hno' (fun y d=>(hA5 y d).1) g)) hS2 hc' (qt L hp') (fun h=>by cases h) fun J=>?_
    ·rcases d with rfl|h
     ·exact g
     ·exact(f y h).1
    ·rcases hmem U G with h|rfl
     ·have:=P U h y d
      have B:=N U h y d;exact⟨fun h=>h.1.elim this.1 fun h=>by omega,this.2⟩
     ·have:=hSf y d
      exact⟨fun h=>h.1.elim (fun h=>by have:=(f y h).2.2;omega) fun h=>by omega,by omega⟩
    ·have:=hSf y d;have:=N U G y hu;omega
    ·rcases J with⟨h,_⟩|J
     ·exact absurd h L
     ·obtain⟨n',hn',e,_⟩:=qy hc J
      obtain⟨j,hj,rfl⟩:=dd hn';rcases bV j i with hl|hl
      ·have:=hlo j hj hl;omega
      ·have:=hhi' j hj hl;omega
   |true=>
    obtain⟨hi,hie⟩:=hok.1 rfl;refine al.2 ⟨_,rfl,s,fa (i:=3) hb,?_⟩;have hki0:i<ks.length:=by rw[hL.1];exact hi
    have hUi0:i<Us.length:=by rw[hL.2.1];exact hi
    obtain⟨kb,ksl,hke,Q,hkn⟩:=hL.2.2 i _ _ _ (aq hki0) (aq hi) (aq hUi0);have hki:ks[i]? =some (some ⟨kb,0,none⟩):=by rw[aq hki0,hke]
    have hUie:Us[i]? =some Us[i]:=aq hUi0;have hUim:Us[i]∈Us:=bO hUi0;have hmem:F.toL[i]∈F.toL:=bO hi;have O:=hcan.2 _ hmem;obtain⟨a,ha,_,hvv⟩:=hs.at0 hki;have hslen:=hs.len;rw[hL.1]at hslen;have hlt1:(i:Int)<((s.len:Nat):Int):=by omega
    refine⟨⟨by simp only;omega,hlt1⟩,a,ha,some ⟨kb,0,none⟩,hvv,_,rfl,?_⟩;obtain⟨kval,kss,kow,kks,kUs,hkb,_⟩:=hkn.view;refine⟨ksl,fa (i:=0) hkb,Ak hk6 ?_⟩;rw[Q];have hc1:=DK L O.1 hie.symm;have hcle:=C0 k.data.toList F.toL[i].1;have hct:=zq k.data.toList F.toL[i].1;have hcd:=zr k.data.toList F.toL[i].1;have hll:ksl.size=F.toL[i].1.length:=by rw[←Q];simp
    have hin_m:rv F k.data.toList v→tV F.toL[i] k.data.toList v:=fun J=>by
     obtain⟨n',hn',e,hN⟩:=qy hc J;rw[←zu hc hn' hmem (by omega)];exact hN
    have hin_f:tV F.toL[i] k.data.toList v→rv F k.data.toList v:=fun J=>g4.2 ⟨_,hmem,J⟩
    have hset:∀{w2:Option ByteArray} {F2:Fo} {nl:List UInt8},nl≠[]→hd nl=hd F.toL[i].1→fK F2→Br (rt w2 F2)→fK (.ofL (F.toL.set i (nl,w2,F2))):=fun h1 B h3 h4=>CG hc hi ⟨h1,(BP h3).2 h4,h3⟩ B
    have hputs:∀{m:Bn},lQ (tV F.toL[i]) (tV m) k.data.toList v→lQ (rv F) (rv (.ofL (F.toL.set i m))) k.data.toList v:=fun hp=>wq hc hi hie hp
    have hsame:lQ (tV F.toL[i]) (tV F.toL[i]) k.data.toList v→lQ (rv F) (rv F) k.data.toList v:=zS hc hi hie;have H:∀y,Us[i] y→S y:=hUS _ hUim;have hUib:∀y,Us[i] y→y<h.size:=N _ hUim;have hUid:∀j U,j≠i→Us[j]? =some U→Dj Us[i] U:=fun j U hj eU=>hPD i j _ _ (Ne.symm hj) hUie eU
    have nUb:¬Us[i] b:=fun hu=>by
     rcases hown with⟨_,_,_,hS0⟩|⟨_,_,A,_,_,_,hUA⟩
     ·exact hS0 _ (H _ hu)
     ·exact(hUA _ hUim b hu).2 rfl
    generalize F.toL[i]=m at Q hkn O hc1 hcle hct hcd hll hin_m hin_f hset hputs hsame hie;generalize Us[i]=Ui at hkn hUie hUim H hUib hUid nUb;generalize hcc:cm k.data.toList m.1=c at hc1 hcle hct hcd;obtain⟨lab,wk,Fk⟩:=m;simp only at Q hkn O hcle hct hcd hll hie hset;refine Join.intro (fun t Y=>∃ub Z wu Fu SU,t=some ⟨ub,0,none⟩∧Upd Ui h Y∧RxO o (fun y=>W y∨SU y) Y ub Z wu Fu SU∧(∀y,SU y→(Ui y∨h.size≤y)∧y<Y.size)∧fK Fu∧Z.data.toList=k.data.toList.take c∧(∀k' v',tV (Z.data.toList,wu,Fu) k' v'↔tV (lab,wk,Fk) k' v')∧(∀w' F',fK F'→lQ (rt wu Fu) (rt w' F') (k.data.toList.drop c) v→Br (rt w' F'))∧(Upd No h Y∨¬rt wu Fu (k.data.toList.drop c) v)) (fun R hR=>⟨_,rfl,ksl,fa (i:=0) hkb,?_⟩) ?_
    ·refine bi (fun hlt=>?_) fun hge=>?_
     ·have hlt:c<lab.length:=by omega
      have hdne:lab.drop c≠[]:=fun e=>by
       have:=congrArg iq e;rw[aB,dQ]at this;omega
      have hhd:k.data.toList.drop c≠[]→hd (k.data.toList.drop c)≠hd (lab.drop c):=fun hne=>by
       refine hcd ?_ hlt;rcases bV c k.data.toList.length with hl|hl
       ·exact hl
       ·exact absurd (List.drop_eq_nil_of_le hl) hne
      have hcs:fK (.cons (ksl.data.toList.drop c) wk Fk .nil):=by
       rw[Q];exact⟨hdne,O.2.1,O.2.2,fun _ h=>by simp[Fo.toL]at h,trivial⟩
      refine wb hkn t hW (fun y d=>C y (H y d)) hWo (pO O.2.2) (c:=c) (by omega) fun h1 ub SU rn hSU p=>hR _ _ ⟨ub,_,none,_,SU,rfl,p,rn,hSU,hcs,?_,?_,?_,.inr ?_⟩
      ·rw[wP,Q,hct]
      ·intro k' v'
       rw[wP,Q];exact zZ c k' v'
      ·intro w' F' hcF hp
       rw[Q]at hp;exact BO hdne O.2.1 O.2.2 hhd hp
      ·rintro(⟨_,h⟩|J)
       ·cases h
       ·obtain⟨n',hn',e,r',er,_⟩:=qy hcs J
        rw[Q]at hn';simp only[Fo.toL,ag]at hn';subst hn';refine hhd (fun e2=>hdne ?_) e.symm
        rw[e2]at er;exact(List.append_eq_nil_iff.1 er.symm).1
     ·have hce:c=lab.length:=by omega
      refine hR _ _ ⟨kb,ksl,wk,Fk,Ui,rfl,Upd.refl _ _,hkn.less fun y d=>.inl (d.elim id fun h=>C y (H y h)),fun y d=>⟨.inl d,hUib y d⟩,O.2.2,?_,?_,?_,.inl (Upd.refl _ _)⟩
      ·rw[Q,hct,hce,List.take_length]
      ·intro k' v';rw[Q]
      ·intro w' F' hcF hp
       exact CI ((BP O.2.2).1 O.2.1) hp
    ·rintro t' h1 ⟨ub,Z,wu,Fu,SU,rfl,p,rn,hSU,hcu,hsl,hinn,hbr,hsp⟩
     refine⟨⟨by omega,by omega⟩,?_⟩
     rw[aK];have hkd:(k.extract c k.size).data.toList=k.data.toList.drop c:=wQ ..;have hks:(k.extract c k.size).size=k.size-c:=by simp
     have hktd:k.data.toList=Z.data.toList++k.data.toList.drop c:=by rw[hsl,List.take_append_drop]
     have hslne:Z.data.toList≠[]:=by
      rw[hsl];intro e;have:=congrArg iq e;rw[aE,dQ]at this;omega
     have hslhd:hd Z.data.toList=hd lab:=by
      rw[hie];conv=>rhs;rw[hktd]
      rw[nn hslne]
     have z01:=p.size;have tU:∀{M:Nat→Prop} {Y:ac},Upd M h Y→(∀y,M y→Ui y)→By Y w' o:=fun ku hM=>t.upd ku fun b e d=>absurd (H _ (hM _ d)) (hwS _ e)
     refine ih (W:=fun y=>W y∨SU y) (S:=SU) (k.extract c k.size) v (by rw[hks];omega) (by rw[hks];omega) rn (tU p fun _ h=>h) (fun y d=>d.elim (fun h=>Nat.lt_of_lt_of_le (hW y h) z01) fun h=>(hSU y h).2) (fun y d=>.inr d) (fun a e=>.inl (hWo a e)) (fun a e d=>?_) hcu fun B b2 w2 F2 SV E ch D rn2 hSV hc2 hp2 hsm hch=>?_
     ·rcases(hSU _ d).1 with h|h
      ·exact hwS a e (H _ h)
      ·have:=t.lt e;omega
     rw[hkd]at hp2 hch hsm;have z12:=D.size;have hpn:lQ (tV (lab,wk,Fk)) (tV (Z.data.toList,w2,F2)) k.data.toList v:=by
      have:=AW (zT (lab:=Z.data.toList) hp2) hinn;rw[←hktd]at this;exact this
     have hchg:rt w F k.data.toList v→ch=false:=fun J=>by
      rcases J with⟨h,_⟩|J
      ·exact absurd h L
      ·obtain⟨r,e,hr'⟩:=(hinn _ _).2 (hin_m J)
       simp only at e;rw[hktd]at e;have e2:=List.append_cancel_left e;rw[←hktd]at e;exact hch (by rw[e2];exact hr')
     cases ch with
     |false=>
      obtain⟨_,e2,e3,hu20,hin2⟩:=hsm rfl;subst e2 e3;rcases hsp with u01|hn2
      ·have hu02:=u01.tr hu20
       have hsz:=hu02.size;refine ao.2 (hk B b w F S false false hu02.wide ((hr.upd0 hu02).less fun y d=>.inl (d.elim id (C y))) (fun y d=>⟨.inl d,by have:=hSb y d;omega⟩) hc (qt L (hsame ?_)) (fun _=>⟨rfl,rfl,rfl,hu02,.inr (hin_f ((hinn _ _).1 ⟨_,hktd,hin2⟩))⟩) fun _=>rfl)
       intro k' v';exact(hinn k' v').symm.trans (hpn k' v')
      ·exact absurd hin2 hn2
     |true=>
      refine al.2 ?_;have ku:Upd Ui h B:=p.trans D fun y d=>(hSU y d).1
      have hSV':∀y,SV y→(Ui y∨h.size≤y)∧y<B.size:=fun y d=>⟨(hSV y d).1.elim (fun h=>(hSU y h).1) fun h=>.inr (by omega),(hSV y d).2⟩
      have hmem2:∀U∈Us.set i SV,U∈Us∨U=SV:=fun U G=>List.mem_or_eq_of_mem_set G
      have hSVm:SV∈Us.set i SV:=aR (i:=i) (by rw[f8,if_pos rfl,if_pos hUi0]);refine ja (W:=W) (S:=S) (Us:=Us.set i SV) (tU ku fun _ h=>h) hWo (ku.get hb nUb) (by rw[hL.1];exact hn) (own2 ku (fun y d=>⟨H y d,_,hUim,d⟩) _ fun U G y d=>?_) fun h3 q s3 A3 b3 ho3 I g hU3 hu3=>?_
      ·rcases hmem2 U G with h|rfl
       ·exact⟨.inl ⟨U,h,d⟩,by have:=N U h y d;omega⟩
       ·exact⟨(hSV' y d).1.imp (fun h=>⟨_,hUim,h⟩) id,(hSV' y d).2⟩
      refine⟨_,rfl,s3,fa (i:=3) b3,?_⟩;obtain⟨a3,ha3,hab,hw3,ho4,hu4⟩:=OwnS.setAt ho3 hki0 (some ⟨b2,0,none⟩);have hlen3:=ho3.len;refine⟨⟨by simp only;omega,by simp only;omega⟩,a3,ha3,?_⟩
      have hw1:Wr h3 (adr a3 (i*1)):=by
       rcases hw3 with hw|⟨q,g,hw⟩
       ·cases hw
       ·cases g;exact hw 0 (by simp)
      refine⟨hw1,bK ?_⟩;have b4:=hu4.get b3 fun e=>by have e:q=a3.block:=e;exact(I _ hab).2.1 e.symm
      have hu24:Upd A3 B _:=hu3.wide.trans hu4 fun x hx=>.inl (by have hx:x=a3.block:=hx;rw[hx];exact hab)
      have u04:Upd (fun y=>Ui y∨A3 y) h _:=(ku.mono fun y d=>.inl (.inl d)).trans hu24 fun x hx=>.inl (.inr hx)
      have eset:ks.set i (some ⟨b2,0,none⟩)=ks.take i++some ⟨b2,0,none⟩::ks.drop (i+1):=by rw[cX,if_pos hki0]
      rw[←eset]at ho4;have z3:=hu3.size;have z4:=hu4.size;change K (some ⟨q,0,none⟩,E,true) (fX h3 (adr a3 (i*1)) 0 (kR (some ⟨b2,0,none⟩)));generalize fX h3 (adr a3 (i*1)) 0 (kR (some ⟨b2,0,none⟩))=h4 at*;have hS2:∀y,SR o q A3 (Us.set i SV) y→(S y∨h.size≤y)∧y<h4.size:=fun y d=>tJ (g.imp id fun h=>by omega) (aW b4) (fun y d=>⟨(I y d).1.imp id fun h=>by omega,by have:=(I y d).2.2;omega⟩) (fun U G y hz=>by
       rcases hmem2 U G with h|rfl
       ·exact⟨.inl (hUS U h y hz),by have:=N U h y hz;omega⟩
       ·exact⟨(hSV' y hz).1.imp (H y) id,by have:=(hSV' y hz).2;omega⟩) d
      refine hk h4 q w _ (SR o q A3 (Us.set i SV)) E true (u04.mono fun y d=>?_) (qp b4 hv ho4 (fun y d=>⟨(I y d).2.1,by have:=(I y d).2.2;omega⟩) hU3 (Dm hPD fun j U hj eU y d hu=>?_) (by
       rw[Fo.to_of]
       refine LsO.set hL.1 hL.2.1 (fun j k' n' U hj ek en eU=>KidO.move u04 (hL.2.2 j k' n' U ek en eU) (N U (aR eU)) (fun y d=>?_) fun y d=>d.elim .inl fun h=>(hS2 y h).1.imp (C y) id) (KidO.move hu24 ⟨b2,Z,rfl,rfl,rn2⟩ (fun y d=>(hSV y d).2) (fun y d=>?_) fun y d=>?_)
       ·rcases d with h|h
        ·exact .inl ⟨C y (H y h),hUid j U hj eU y h⟩
        ·refine(I y h).1.imp (fun hs=>⟨C y hs,fun hu=>(hU3 U (aR (i:=j) (by rw[f8,if_neg (Ne.symm hj)];exact eU)) y hu).1 h⟩) fun h=>by omega
       ·exact(I y d).1.imp (fun hs=>⟨.inl (.inl (C y hs)),fun hu=>(hU3 SV hSVm y hu).1 d⟩) id
       ·rcases d with h|⟨_,rfl|h|⟨U,G,h⟩⟩
        ·exact .inl (.inl (.inl h))
        ·exact g.imp (fun h=>.inl (.inl (C _ h))) id
        ·exact(I y h).1.imp (fun h=>.inl (.inl (C _ h))) id
        ·rcases hmem2 U G with B|rfl
         ·exact .inl (.inl (.inl (C _ (hUS U B y h))))
         ·exact .inl (.inr h)) (hno' (fun y d=>(I y d).1.imp id fun h=>by omega) (g.imp id fun h=>by omega))) hS2 (hset hslne hslhd hc2 (hbr _ _ hc2 hp2)) (qt L (hputs hpn)) (fun h=>by cases h) hchg
      ·rcases d with h|h
       ·exact .inl (H y h)
       ·exact(I y h).1.imp id fun h=>by omega
      ·rcases(hSV' y d).1 with h|h
       ·exact hUid j U hj eU y h hu
       ·have:=N U (aR eU) y hu;omega
end Go.Proofs
