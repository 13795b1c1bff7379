/- A part of the proof that the named laws of this program answer true, whatever the input. -/
import Derived.Test.YtcpiahjlddmfiaaGreatPart3
import Derived.Test.YtcpiahjlddmfiaaGreatPart1
open Array renaming toList_inj→o9
open ByteArray renaming data_extract→oe,mk→od
open Iff renaming rfl→w7
open Int renaming toNat_natCast→aF
open List renaming extract_eq_take_drop→fJ,length_drop→aI,getElem_mem→aU,length→eH,length_nil→cc,take_length→ba,take_append_drop→aM,mem_append→bc,mem_map→bE,pairwise_append→cz,mem_cons_self→au,pairwise_cons→bd,mem_cons→aq,lt_irrefl→rM,mem_cons_of_mem→aG,length_append→ae,length_map→cZ,length_cons→aN,length_singleton→aD,append_nil→bI,flatMap_cons→aK,append_assoc→ao,cons_append→cM,cons→fj,flatMap_append→bA
open List.Pairwise renaming nil→cQ
open Nat renaming le_of_eq→dP,zero_le→aP,le_refl→aj,zero_add→aA,lt_or_ge→bV,lt_irrefl→jV,lt_of_lt_of_le→aO,add_mul→iT,mul_le_mul_right→bP
open Option renaming some→bC,map_eq_some_iff→nV
open Prod renaming mk→nU
namespace Go.Proofs
open Go Go.Lift
theorem HO{b:Nat}{h:ac}{K:Bool→ac→Prop}(a:K false h):HC PG mM [.pointer (some ⟨b,0,none⟩),.pointer none] [.c .bool] K h:=by
 refine yC _ none ?_;unfold rF bw;exact ay.2 (vN (ah.2 a))
abbrev R8:List Value:= [.string (⟨#[]⟩:ByteArray),.bool false,.string (⟨#[]⟩:ByteArray),.slice none 0 0,.pointer none]
theorem tJ{W:Nat→Prop}{h:ac}{b:Nat}{sl val:ByteArray}{has:Bool}{s:SliceV}{ow:Option Addr}{ks:List (Option Addr)}(hb:h[b]? =some (.cells (EE sl has val s ow) bM (0,0))) (v:Sl xB 1 W h s ks) (D:ks.length≤256) {K:Option Addr→ac→Prop}
  (w:∀h' s',h'[h.size]? =some (.cells (EE sl has val s' none) bM (0,0))→OwnS xB 1 bJ (fun x=>h.size<x∧x<h'.size) h' s' ks→Upd No h h'→K (some ⟨h.size,0,none⟩) h'):
  HC PG fe [.pointer (some ⟨b,0,none⟩),.pointer none] [.c .ptr] K h:=by
 refine Be _ none ?_;unfold tZ bw bj nv Bo c9 bK eY Hr Tm;refine HO (ah.2 ?_);refine⟨_,rfl,sl,fL (i:=0) hb,has,fL (i:=1) hb,val,fL (i:=2) hb,s,fL (i:=3) hb,ow,fL (i:=4) hb,bq ?_⟩;have k1:=Upd.hnew No h R8 bM;have b1:=bG h R8 bM;simp only[bZ h];generalize hnew h [.string (⟨#[]⟩:ByteArray),.bool false,.string (⟨#[]⟩:ByteArray),.slice none 0 0,.pointer none] bM=h1 at k1 b1
 refine cy (c:=R8) (vs:= [.string sl,.bool has,.string val,.slice s.a s.len s.cap,.pointer ow]) b1 rfl fun t b2 g=>?_
 have o:Upd No h t:=k1.trans g fun x hx=>.inr (dP hx.symm)
 have z:h.size<t.size:=bF b2;have m:=o.get0 hb;refine⟨_,rfl,s,fL (i:=3) m,?_⟩;refine FP (v.upd o fun _ h=>h.elim) (by omega) fun k A n f=>?_
 have b3:A[h.size]? =some (.cells (EE sl has val s ow) bM (0,0)):=f.get0 b2;refine⟨Sz (i:=3) b3 (show 3<5 by decide),JP (i:=3) (c':=EE sl has val k ow) b3 rfl fun B u j=>?_⟩
 refine⟨Sz (i:=4) u (show 4<5 by decide),JP (i:=4) (c':=EE sl has val k none) u rfl fun q y p=>?_⟩
 refine vN (ah.2 ?_);have a:=j.tr p;have C:=a.size;have d:=(n.within.upd a fun x hx e=>by have e:x=h.size:=e;have:=hx.1;omega).more (M':=fun x=>h.size<x∧x<q.size) fun x hx=>⟨by have:=hx.1;omega,by have:=hx.2;omega⟩
 exact w q k y d ((o.tr f).trans a fun x hx=>.inr (dP hx.symm))
theorem x6{h:ac}{b:Nat}{sl nl:ByteArray}{has:Bool}{val:ByteArray}{s:SliceV}{ow:Option Addr}(hb:h[b]? =some (.cells (EE sl has val s ow) bM (0,0))) {K:Option Addr→ac→Prop}
  (a:∀h',h'[b]? =some (.cells (EE nl has val s ow) bM (0,0))→Upd (· =b) h h'→K (some ⟨b,0,none⟩) h'):HC PG g9 [.pointer (some ⟨b,0,none⟩),.string nl] [.c .ptr] K h:=by
 refine yA _ nl ?_;unfold rD c9;exact⟨_,rfl,Sz (i:=0) hb (show 0<5 by decide),JP (i:=0) (c':=EE nl has val s ow) hb rfl a⟩
theorem Bw{h:ac}{b:Nat}{sl v:ByteArray}{has:Bool}{val:ByteArray}{s:SliceV}{ow:Option Addr}(hb:h[b]? =some (.cells (EE sl has val s ow) bM (0,0))) {K:Option Addr→ac→Prop}
  (d:∀h',h'[b]? =some (.cells (EE sl true v s ow) bM (0,0))→Upd (· =b) h h'→K (some ⟨b,0,none⟩) h'):HC PG iX [.pointer (some ⟨b,0,none⟩),.string v] [.c .ptr] K h:=by
 refine xe _ v ?_;unfold qz c9;exact⟨_,rfl,Sz (i:=1) hb (show 1<5 by decide),JP (i:=1) (c':=EE sl true val s ow) hb rfl fun f b1 a=>⟨_,rfl,Sz (i:=2) b1 (show 2<5 by decide),JP (i:=2) (c':=EE sl true v s ow) b1 rfl fun e b2 c=>d e b2 (a.tr c)⟩⟩
theorem JN{h:ac}{k v:ByteArray}{K:Option Addr→ac→Prop}(g:∀h' b s,h'[b]? =some (.cells (EE k true v s none) bM (0,0))→s.len=0→s.len≤s.cap→h.size≤b→Upd No h h'→K (some ⟨b,0,none⟩) h'):HC PG s9 [.pointer none,.string k,.string v] [.c .ptr] K h:=by
 refine ER none k v ?_;unfold xK vA Bo Hr;have k1:=Upd.hnew No h R8 bM;have b1:=bG h R8 bM;refine bq ?_;simp only[bZ h];generalize hnew h [.string (⟨#[]⟩:ByteArray),.bool false,.string (⟨#[]⟩:ByteArray),.slice none 0 0,.pointer none] bM=h1 at k1 b1;refine tJ (W:=No) (ks:= []) (sl:=⟨#[]⟩) (val:=⟨#[]⟩) (has:=false) (s:=⟨none,0,0⟩) (ow:=none) b1 (Sl.nil p9) (aP _) fun n s b2 c d=>?_
 refine x6 (nl:=k) b2 fun o b3 f=>Bw (v:=v) b3 fun m j e=>?_
 have a:=f.tr e;have z:=d.size;have i:=k1.size;refine g m h1.size s j c.len c.cap i ((k1.tr d).trans a fun x hx=>.inr (by have hx:x=h1.size:=hx;omega))
theorem TL{W:Nat→Prop}{h:ac}{b:Nat}{k v:ByteArray}{s:SliceV}{ow:Option Addr}(hb:h[b]? =some (.cells (EE k true v s ow) bM (0,0))) (a:s.len=0) (hc:s.len≤s.cap) (nw:¬W b):RxN W h b k (some v) .nil:=
 ⟨v,s,ow,[],hb,rfl,⟨a,p9,fun h=>absurd rfl h⟩,⟨hc,nw⟩,rfl⟩
theorem DD(s:ByteArray)(c:Nat):(s.extract 0 c).data.toList=s.data.toList.take c:=by
 rw[oe,Array.toList_extract,fJ];simp
theorem DE(s:ByteArray)(c:Nat):(s.extract c s.size).data.toList=s.data.toList.drop c:=by
 rw[oe,Array.toList_extract,fJ,List.take_of_length_le];rw[aI];simp
theorem JM{W:Nat→Prop}{h:ac}{b:Nat}{sl:ByteArray}{w:Option ByteArray}{F:Fo}(r:RxN W h b sl w F)(A:∀y,W y→y<h.size)(X:F.toL.length≤256){c:Nat}(hc:c≤sl.size){K:Option Addr→ac→Prop}
  (V:∀h' b',RxN W h' b' (sl.extract 0 c) none (.cons (sl.data.toList.drop c) w F .nil)→Upd No h h'→K (some ⟨b',0,none⟩) h'):HC PG mK [.pointer (some ⟨b,0,none⟩),.pointer none,.int .i64 c] [.c .ptr] K h:=by
 refine yz _ none c ?_;unfold rC vA Bo c9 bK Hr;obtain⟨val,s,ow,ks,hb,hv,S,L,N⟩:=r;have lab:∀{h'},Upd No h h'→aX h' (adr ⟨b,0,none⟩ 0)=some (.string sl):=fun k=>fL (i:=0) (k.get0 hb)
 have U:=Upd.refl No h;refine⟨_,rfl,sl,lab U,⟨by omega,by omega⟩,bq ?_⟩
 have k1:=Upd.hnew No h R8 bM;have b1:=bG h R8 bM;simp only[bZ h];generalize hnew h [.string (⟨#[]⟩:ByteArray),.bool false,.string (⟨#[]⟩:ByteArray),.slice none 0 0,.pointer none] bM=h1 at k1 b1;refine⟨lab k1,?_⟩;refine tJ (W:=No) (ks:= []) (sl:=⟨#[]⟩) (val:=⟨#[]⟩) (has:=false) (s:=⟨none,0,0⟩) (ow:=none) b1 (Sl.nil p9) (aP _) fun h2 s2 b2 _ q=>⟨lab (k1.tr q),?_⟩
 rw[aF];refine x6 b2 fun d b3 G=>?_
 have z1:=k1.size;have a:Upd No h d:=(k1.tr q).trans G fun x hx=>.inr (by have hx:x=h1.size:=hx;omega)
 refine tJ (a.get0 hb) (S.upd a fun _ h=>h.elim) (by rw[(qI.1 N).1];exact X) fun h4 P O D u=>?_
 refine⟨_,rfl,sl,fL (i:=0) O,⟨by omega,by omega⟩,?_⟩
 refine x6 (nl:=sl.extract c sl.size) O fun f Z n=>?_
 have j:Upd No h f:=(a.tr u).trans n fun x hx=>.inr (by have hx:x=d.size:=hx;have:=a.size;omega)
 have C:=D.upd n fun x hx e=>by have e:x=d.size:=e;have:=hx.1;omega
 have hb3:=bF b3;have t:f[h1.size]? =some (.cells (EE (sl.extract 0 c) false ⟨#[]⟩ s2 none) bM (0,0)):=n.get (u.get0 b3) (by show ¬h1.size=d.size;omega);have p:=Upd.hnew No f [.pointer (some ⟨d.size,0,none⟩)] bJ;have J:=bG f [.pointer (some ⟨d.size,0,none⟩)] bJ;have T:=j.size;have Y:=a.size;refine bq ?_;simp only[bZ f]
 generalize hnew f [.pointer (some ⟨d.size,0,none⟩)] bJ=h6 at p J;have o:=p.get0 t;have I:=bF t;refine⟨_,rfl,Sz (i:=3) o (show 3<5 by decide),JP (i:=3) (c':=EE (sl.extract 0 c) false ⟨#[]⟩ ⟨some ⟨f.size,0,none⟩,1,1⟩ none) o rfl fun E R g=>?_⟩
 have m:Upd No h E:=(j.tr p).trans g fun x hx=>.inr (by have hx:x=h1.size:=hx;omega)
 have H:E[f.size]? =some (.cells #[.pointer (some ⟨d.size,0,none⟩)] bJ (0,0)):=g.get J (by show ¬f.size=h1.size;omega);have B:=g.get (p.get0 Z) (by show ¬d.size=h1.size;omega);have z:=(C.upd p fun _ _ h=>h).upd g fun x hx e=>by have e:x=h1.size:=e;have:=hx.1;omega
 refine V E h1.size ⟨⟨#[]⟩,_,none,[some ⟨d.size,0,none⟩],R,rfl,⟨rfl,p9,fun _=>⟨_,rfl,(fun hx=>by have hx:W f.size:=hx;have:=A _ hx;omega),np H fun i v hi=>?_⟩⟩,⟨aj _,fun hx=>by have:=A _ hx;omega⟩,?_⟩ m
 ·rw[aA]
  rw[←List.getElem?_toArray]at hi;exact hi
 ·refine⟨d.size,sl.extract c sl.size,val,P,none,ks,[],rfl,DE ..,B,hv,z.sl (fun x hx _ Q=>by have:=A _ Q;have:=hx.1;omega),⟨z.cap,fun hx=>by have:=A _ hx;omega⟩,RxF.upd0 m N,rfl⟩
end Go.Proofs
namespace Go.Proofs
open Go Go.Lift
theorem FM:∀{x y:List UInt8} {i:Nat},i≤x.length→i≤y.length→(∀j,j<i→x[j]? =y[j]?)→(i=x.length∨i=y.length∨x[i]?≠y[i]?)→cm x y=i
 | [],_,i,h1,_,_,_=>by simp at h1;simp[cm,h1]
 |_::_,[],i,_,h2,_,_=>by simp at h2;simp[cm,h2]
 |a::x,b::y,0,_,_,_,h=>by
  unfold cm;rw[if_neg];rintro rfl;rcases h with h|h|h<;>simp at h
 |a::x,b::y,i+1,h1,h2,h3,h4=>by
  have:=h3 0 (by omega);simp only[List.getElem?_cons_zero,bC.injEq]at this;unfold cm;rw[if_pos this,FM (i:=i) (by simpa using h1) (by simpa using h2) (fun j c=>by simpa using h3 (j+1) (by omega)) (by simpa using h4)]
theorem ND{a b:ByteArray}(y:a.size≤1000000){h:ac}{K:Int→ac→Prop}(n:K (cm a.data.toList b.data.toList:Nat) h):HC PG sZ [.string a,.string b] [.c (.int .i64)] K h:=by
 refine EO a b ?_;unfold xI;simp only[Bd];have f:(if(b.size:Int)<(a.size:Int)then(b.size:Int)else(a.size:Int))=((min a.size b.size:Nat):Int):=by split<;>omega
 rw[f];have z:a.data.toList.length=a.size:=by simp
 have A:b.data.toList.length=b.size:=by simp
 refine LoopP.ghost (fun(i:Nat) (t:Int) h'=>t=(i:Int)∧i≤min a.size b.size∧h'=h∧∀j,j<i→a.data.toList[j]? =b.data.toList[j]?) (fun i=>min a.size b.size-i) 0 ⟨rfl,aP _,rfl,fun j v=>absurd v (Nat.not_lt_zero _)⟩ ?_
 rintro I i t h' ⟨rfl,hi,rfl,o⟩ x;refine aw (fun c=>?_) fun w=>?_
 ·have c:i<min a.size b.size:=by omega
  have g:i<a.size:=by omega
  have m:i<b.size:=by omega
  refine⟨a[i],by omega,by rw[aF,getElem?_pos a i g],b[i],by omega,by rw[aF,getElem?_pos b i m],?_⟩
  have u:a.data.toList[i]? =some a[i]:=by rw[←Ir,getElem?_pos a i g]
  have s:b.data.toList[i]? =some b[i]:=by rw[←Ir,getElem?_pos b i m]
  refine CondP.intro (fun k=>?_) fun d=>?_
  ·rw[FM (i:=i) (by omega) (by omega) o (.inr (.inr fun e=>?_))]at n
   ·exact n
   ·rw[u,s]at e
    rw[bC.inj e]at k;simp at k
  ·have d:a[i]=b[i]:=by
    have:((a[i].toNat:Int))=(b[i].toNat:Int):=by simpa using d
    exact UInt8.toNat_inj.1 (by omega)
   rw[bN c (by omega)];refine x (i+1) _ _ ⟨rfl,c,rfl,fun j v=>?_⟩ (by omega)
   rcases bV j i with q|q
   ·exact o j q
   ·have:j=i:=by omega
    subst this;rw[u,s,d]
 ·have p:i=min a.size b.size:=by omega
  rw[FM (i:=i) (by omega) (by omega) o (by omega)]at n;rw[←p];exact n
theorem Nb{F:Fo}{i:Nat}{k:List UInt8}{v:ByteArray}(h:gf F)(hi:i<F.toL.length)(ek:hd F.toL[i].1=hd k)(a:tl (yL F.toL[i]) (yL F.toL[i]) k v):tl (vd F) (vd F) k v:=by
 have:=H2 h hi ek a;rw[List.set_getElem_self,Fo.of_to]at this;exact this
theorem O8{P Q a:List UInt8→ByteArray→Prop}{k:List UInt8}{v:ByteArray}(h:tl P a k v)(e:∀k v,P k v↔Q k v):tl Q a k v:=fun k' b=>by rw[h k' b,e]
set_option maxHeartbeats 1000000 in
theorem OV{W:Nat→Prop}:∀(n:Nat) {b:Nat} {sl:ByteArray} {w:Option ByteArray} {F:Fo} {h:ac} (k v:ByteArray),k.size<n→k.size≤1000000→RxN W h b sl w F→(∀y,W y→y<h.size)→gf F→∀{K:(Option Addr)×Bool×Bool→ac→Prop},
  (∀h' b' w' F' C ch,Upd No h h'→RxN W h' b' sl w' F'→gf F'→tl (wz w F) (wz w' F') k.data.toList v→(ch=false→b'=b∧w'=w∧F'=F)→(wz w F k.data.toList v→ch=false)→K (some ⟨b',0,none⟩,C,ch) h')→
  HC PG lw [.pointer (some ⟨b,0,none⟩),.pointer none,.string k,.string v] [.c .ptr,.c .bool,.c .bool] K h:=by
 intro n;induction n with
 |zero=>intro b sl w F h k v hk;omega
 |succ n ih=>
  intro b sl w F h k v H hk6 r Y hc K hk;refine Bc (some ⟨b,0,none⟩) none k v ?_;unfold tY aR cx bj vA Bo c9 pq bK Ot eY JA Si Oq;have hr:=r;obtain⟨val,s,ow,ks,hb,hv,hs,hcap,hF⟩:=r;have V:=qI.1 hF;have hn:=pj hc;have hcan:=gJ.1 hc;rw[mc];refine aw (fun hk0=>?_) fun hk0=>?_
  ·have hke:k.data.toList= []:=by rw[hk0]
   rw[hke]at hk;refine Join.intro (fun t h'=>t=decide (w=some v)∧h'=h) (fun R hR=>⟨_,rfl,w.isSome,fL (i:=1) hb,?_⟩) ?_
   ·cases I:w with
    |none=>exact ah.2 (hR _ _ ⟨by rw[I];rfl,rfl⟩)
    |some u=>
     refine ay.2 ⟨_,rfl,val,fL (i:=2) hb,hR _ _ ⟨?_,rfl⟩⟩;rw[mc,vw hv u I,I];exact decide_eq_decide.2 ⟨fun e=>by rw[e],fun e=>bC.inj e⟩
   ·rintro t h' ⟨rfl,rfl⟩
    refine aw (fun e=>?_) fun e=>?_
    ·refine hk h' b w F false false (Upd.refl _ _) hr hc ?_ (fun _=>⟨rfl,rfl,rfl⟩) fun _=>rfl
     rw[e];exact Fc hc v
    ·refine⟨_,rfl,w.isSome,fL (i:=1) hb,?_⟩
     refine tJ hb hs (by rw[V.1];exact hn) fun h1 s1 b1 ho1 q=>?_
     refine⟨fL (i:=1) (q.get0 hb),?_⟩;refine Bw b1 fun B b2 A=>?_
     have d:Upd No h' B:=q.trans A fun x hx=>.inr (dP (Eq.symm hx))
     refine⟨fL (i:=1) (d.get0 hb),?_⟩;have ho2:=ho1.upd A fun x hx e=>by have e:x=h'.size:=e;have:=hx.1;omega
     refine hk B h'.size (some v) F _ true d ⟨v,s1,none,ks,b2,rfl,ho2.sl (fun x hx _ I=>by have:=Y _ I;have:=hx.1;omega),⟨ho2.cap,fun hx=>jV _ (Y _ hx)⟩,RxF.upd0 d hF⟩ hc (Fc hc v) (fun h=>by cases h) fun g=>?_
     rcases g with⟨_,h⟩|h
     ·exact absurd h e
     ·exact absurd rfl (qa hc h)
  ·have f:k.data.toList≠[]:=fun e=>hk0 (by cases k;exact congrArg od (o9.1 e))
   obtain⟨c0,hc0,hc0e⟩:=Pu f;refine⟨c0,Int.le_refl _,hc0,?_⟩;have hlk:k.data.toList.length=k.size:=by simp
   refine M2 hr hc (c:=c0.toNat) (UInt8.toNat_lt _) fun i ok hil hlo hhi hok=>?_
   rw[hc0e]at hlo hhi hok;cases ok with
   |false=>
    have hno:∀hi:i<F.toL.length,hd F.toL[i].1≠hd k.data.toList:=fun hi e=>by have:=hok.2 ⟨hi,e⟩;cases this
    have hhi':∀j (hj:j<F.toL.length),i≤j→hd k.data.toList<hd F.toL[j].1:=fun j hj hij=>by
     have h1:=hhi j hj hij;rcases bV i j with X|X
     ·have B:=List.pairwise_iff_getElem.1 hcan.1 i j (by omega) hj X
      have h3:=hhi i (by omega) (aj _);omega
     ·have:i=j:=by omega
      subst this;have:=hno hj;omega
    obtain⟨hc',hp'⟩:=Nd (v:=v) hc f hlo hhi';refine ay.2 ?_;refine tJ hb hs (by rw[V.1];exact hn) fun h1 s1 b1 ho1 q=>?_
    refine⟨_,rfl,s1,fL (i:=3) b1,?_⟩;refine JN fun B fb fs fb2 hf0 hfc hfb A=>⟨fL (i:=3) (A.get0 b1),bq ?_⟩
    have k3:=Upd.hnew No B [.pointer (some ⟨fb,0,none⟩)] bJ;have b3:=bG B [.pointer (some ⟨fb,0,none⟩)] bJ;have z3:(hnew B [.pointer (some ⟨fb,0,none⟩)] bJ).size=B.size+1:=eI ..;simp only[bZ B];generalize hnew B [.pointer (some ⟨fb,0,none⟩)] bJ=h3 at k3 b3 z3;have D:=A.tr k3;refine⟨fL (i:=3) (D.get0 b1),?_⟩;have z1:=bF b1
    have z2:=A.size;have zf:=bF fb2;have Z:=(ho1.upd D fun _ _ h=>h).more (M':=fun x=>(h.size<x∧x<h1.size)∨h3.size≤x) fun x hx=>.inl hx
    refine KH Z (k:=i) (by rw[V.1];exact hil) (by rw[V.1];omega) b3 (by rintro(h|h)<;>omega) (fun x hx=>.inr hx) fun s4 h4 P G=>?_
    have b4:=G.get (D.get0 b1) (by rintro(h|h)<;>omega)
    have f4:=G.get (k3.get0 fb2) (by rintro(h|h)<;>omega)
    refine⟨_,rfl,Sz (i:=3) b4 (show 3<5 by decide),JP (i:=3) (c':=EE sl w.isSome val s4 none) b4 rfl fun h5 b5 hu5=>?_⟩
    have hu05:Upd No h h5:=((q.tr D).trans G fun x hx=>.inr (by have:=q.size;rcases hx with hx|hx<;>omega)).trans hu5 fun x hx=>.inr (dP (Eq.symm hx))
    have ho5:=P.upd hu5 fun x hx e=>by have e:x=h.size:=e;rcases hx with hx|hx<;>omega
    have f5:=hu5.get f4 (by show ¬fb=h.size;omega);refine hk h5 h.size w _ true true hu05 ⟨val,s4,none,_,b5,hv,ho5.sl (fun x hx _ I=>by have:=Y _ I;rcases hx with hx|hx<;>omega),⟨ho5.cap,fun hx=>jV _ (Y _ hx)⟩,qI.2 (by rw[Fo.to_of];exact(V.upd0 hu05).ins i ⟨fb,k,rfl,rfl,TL f5 hf0 hfc fun hx=>by have:=Y _ hx;omega⟩)⟩ hc' (AG f hp') (fun h=>by cases h) fun g=>?_
    rcases g with⟨h,_⟩|g
    ·exact absurd h f
    ·obtain⟨n',hn',e,_⟩:=ux hc g
     obtain⟨j,hj,rfl⟩:=List.getElem_of_mem hn';rcases bV j i with X|X
     ·have:=hlo j hj X;omega
     ·have:=hhi' j hj X;omega
   |true=>
    obtain⟨hi,J⟩:=hok.1 rfl;refine ah.2 ⟨_,rfl,s,fL (i:=3) hb,?_⟩;obtain⟨kb,ksl,hki,p,H⟩:=V.at hi;have hmem:F.toL[i]∈F.toL:=aU hi;have o:=hcan.2 _ hmem;obtain⟨a,ha,_,hvv⟩:=hs.at0 hki;have hslen:=hs.len;rw[V.1]at hslen;have hlt1:(i:Int)<((s.len:Nat):Int):=by omega
    refine⟨⟨by simp only;omega,hlt1⟩,a,ha,some ⟨kb,0,none⟩,hvv,_,rfl,?_⟩;obtain⟨kval,kss,kow,kks,hkb,_⟩:=id H;refine⟨ksl,fL (i:=0) hkb,ND hk6 ?_⟩;rw[p];have hc1:=PP f o.1 J.symm;have S:=My k.data.toList F.toL[i].1;have U:=Mw k.data.toList F.toL[i].1;have hcd:=GU k.data.toList F.toL[i].1;have hll:ksl.size=F.toL[i].1.length:=by rw[←p];simp
    have N:vd F k.data.toList v→yL F.toL[i] k.data.toList v:=fun g=>by
     obtain⟨n',hn',e,hN⟩:=ux hc g;rw[←GV hc hn' hmem (by omega)];exact hN
    have hset:∀{w2:Option ByteArray} {F2:Fo} {nl:List UInt8},nl≠[]→hd nl=hd F.toL[i].1→gf F2→Br (wz w2 F2)→gf (.ofL (F.toL.set i (nl,w2,F2))):=fun h1 B h3 h4=>RH hc hi ⟨h1,(DX h3).2 h4,h3⟩ B
    have L:∀{m:Bn},tl (yL F.toL[i]) (yL m) k.data.toList v→tl (vd F) (vd (.ofL (F.toL.set i m))) k.data.toList v:=fun hp=>H2 hc hi J hp
    have Q:tl (yL F.toL[i]) (yL F.toL[i]) k.data.toList v→tl (vd F) (vd F) k.data.toList v:=Nb hc hi J;have hrset:∀{h':ac} {k':Option Addr} {m:Bn},Upd No h h'→Kid W h' k' m→RxL W h' (ks.set i k') (F.toL.set i m):=fun hu hkd=>(V.upd0 hu).set hi hkd
    generalize F.toL[i]=m at p H o hc1 S U hcd hll N hset L Q J;generalize hcc:cm k.data.toList m.1=c at hc1 S U hcd;obtain⟨lab,wk,Fk⟩:=m;simp only at p H o S U hcd hll J hset;refine Join.intro (fun t h'=>∃ub z wu Fu,t=some ⟨ub,0,none⟩∧Upd No h h'∧RxN W h' ub z wu Fu∧gf Fu∧z.data.toList=k.data.toList.take c∧(∀k' v',yL (z.data.toList,wu,Fu) k' v'↔yL (lab,wk,Fk) k' v')∧(∀w' F',gf F'→tl (wz wu Fu) (wz w' F') (k.data.toList.drop c) v→Br (wz w' F'))) (fun R hR=>⟨_,rfl,ksl,fL (i:=0) hkb,?_⟩) ?_
    ·refine aw (fun hlt=>?_) fun hge=>?_
     ·have hlt:c<lab.length:=by omega
      refine JM H Y (pj o.2.2) (c:=c) (by omega) fun h1 ub rn q=>hR _ _ ⟨ub,_,none,_,rfl,q,rn,?_,?_,?_,?_⟩
      ·rw[p]
       refine⟨fun e=>?_,o.2.1,o.2.2,fun _ h=>by simp[Fo.toL]at h,trivial⟩
       have:=congrArg eH e;rw[aI,cc]at this;omega
      ·rw[DD,p,U]
      ·intro k' v'
       rw[DD,p];exact Nu c k' v'
      ·intro w' F' hcF hp
       rw[p]at hp;refine PV (fun e=>?_) o.2.1 o.2.2 (fun hne=>?_) hp
       ·have:=congrArg eH e
        rw[aI,cc]at this;omega
       ·refine hcd ?_ hlt
        rcases bV c k.data.toList.length with X|X
        ·exact X
        ·exact absurd (List.drop_eq_nil_of_le X) hne
     ·have hce:c=lab.length:=by omega
      refine hR _ _ ⟨kb,ksl,wk,Fk,rfl,Upd.refl _ _,H,o.2.2,?_,?_,?_⟩
      ·rw[p,U,hce,ba]
      ·intro k' v';rw[p]
      ·intro w' F' hcF hp
       exact RJ ((DX o.2.2).1 o.2.1) hp
    ·rintro t h1 ⟨ub,z,wu,Fu,rfl,q,rn,hcu,hsl,T,hbr⟩
     refine⟨⟨by omega,by omega⟩,?_⟩
     rw[aF];have hkd:(k.extract c k.size).data.toList=k.data.toList.drop c:=DE ..;have hks:(k.extract c k.size).size=k.size-c:=by simp
     have E:k.data.toList=z.data.toList++k.data.toList.drop c:=by rw[hsl,aM]
     have O:z.data.toList≠[]:=by
      rw[hsl];intro e;have:=congrArg eH e;rw[List.length_take,cc]at this;omega
     have hslhd:hd z.data.toList=hd lab:=by
      rw[J];conv=>rhs;rw[E]
      rw[rh O]
     refine ih (k.extract c k.size) v (by rw[hks];omega) (by rw[hks];omega) rn (fun y hy=>aO (Y y hy) q.size) hcu fun B b2 w2 F2 C ch A rn2 hc2 hp2 hsm hch=>?_
     rw[hkd]at hp2 hch;have d:=q.tr A;have hpn:tl (yL (lab,wk,Fk)) (yL (z.data.toList,w2,F2)) k.data.toList v:=by
      have:=O8 (Nc (lab:=z.data.toList) hp2) T;rw[←E]at this;exact this
     have hchg:wz w F k.data.toList v→ch=false:=fun g=>by
      rcases g with⟨h,_⟩|g
      ·exact absurd h f
      ·obtain⟨r,e,hr'⟩:=(T _ _).2 (N g)
       simp only at e;rw[E]at e;have e2:=List.append_cancel_left e;rw[←E]at e;exact hch (by rw[e2];exact hr')
     cases ch with
     |false=>
      obtain⟨_,rfl,rfl⟩:=hsm rfl;refine ay.2 (hk B b w F false false d (hr.upd0 d) hc (AG f (Q ?_)) (fun _=>⟨rfl,rfl,rfl⟩) fun _=>rfl)
      intro k' v';exact(T k' v').symm.trans (hpn k' v')
     |true=>
      refine ah.2 ?_;refine tJ (d.get0 hb) (hs.upd d fun _ h=>h.elim) (by rw[V.1];exact hn) fun h3 s3 b3 Z hu3=>?_
      refine⟨_,rfl,s3,fL (i:=3) b3,?_⟩;have hil:i<ks.length:=by rw[V.1];exact hi
      obtain⟨a3,ha3,hab,hw3,P,G⟩:=OwnS.setAt Z hil (some ⟨b2,0,none⟩);have hlen3:=Z.len;refine⟨⟨by simp only;omega,by simp only;omega⟩,a3,ha3,?_⟩
      have hw1:Wr h3 (adr a3 (i*1)):=by
       rcases hw3 with I|⟨b',hb',I⟩
       ·cases I
       ·cases hb';exact I 0 (by simp)
      refine⟨hw1,bq ?_⟩;have b4:=G.get b3 fun e=>by have e:B.size=a3.block:=e;have:=hab.1;omega
      have hu24:Upd No B _:=hu3.trans G fun x hx=>.inr (by have hx:x=a3.block:=hx;have:=hab.1;omega)
      have hu04:=d.tr hu24;have eset:ks.set i (some ⟨b2,0,none⟩)=ks.take i++some ⟨b2,0,none⟩::ks.drop (i+1):=by rw[List.set_eq_take_append_cons_drop,if_pos hil]
      rw[←eset]at P;exact hk _ B.size w _ C true hu04 ⟨val,s3,none,_,b4,hv,P.sl (fun x hx _ I=>by have:=Y _ I;have:=d.size;have:=hx.1;omega),⟨P.cap,fun hx=>by have:=Y _ hx;have:=d.size;omega⟩,qI.2 (by rw[Fo.to_of];exact hrset hu04 ⟨b2,z,rfl,rfl,rn2.upd0 hu24⟩)⟩ (hset O hslhd hc2 (hbr _ _ hc2 hp2)) (AG f (L hpn)) (fun h=>by cases h) hchg
end Go.Proofs
namespace Go.Proofs
open Go Go.Lift
def x9:Fo→List (List UInt8×ByteArray)
 | .nil=> []
 | .cons lab w kids rest=>((w.map fun v=>(([]:List UInt8),v)).toList++x9 kids).map (fun p=>(lab++p.1,p.2))++x9 rest
def oq(w:Option ByteArray)(F:Fo):List (List UInt8×ByteArray):=(w.map fun v=>(([]:List UInt8),v)).toList++x9 F
theorem rV:∀{F:Fo} {k:List UInt8} {v:ByteArray},(k,v)∈x9 F↔vd F k v
 | .nil,_,_=>by simp[x9,vd]
 | .cons lab w kids rest,k,v=>by
  unfold x9 vd;rw[bc,rV (F:=rest)];refine or_congr ?_ w7;rw[bE];constructor
  ·rintro⟨⟨r,u⟩,hm,b⟩
   simp only[nU.injEq]at b;obtain⟨rfl,rfl⟩:=b;refine⟨r,rfl,?_⟩;rcases bc.1 hm with h|h
   ·left
    rw[Option.mem_toList,nV]at h;obtain⟨a,c,b⟩:=h;simp only[nU.injEq]at b;exact⟨b.1.symm,by rw[c,b.2]⟩
   ·exact .inr (rV.1 h)
  ·rintro⟨r,rfl,h⟩
   refine⟨(r,v),bc.2 ?_,rfl⟩;rcases h with⟨rfl,h⟩|h
   ·left;rw[h];simp
   ·exact .inr (rV.2 h)
theorem ra{w:Option ByteArray}{F:Fo}{k:List UInt8}{v:ByteArray}:(k,v)∈oq w F↔wz w F k v:=by
 unfold oq wz;rw[bc,rV];refine or_congr ?_ w7;cases w with
 |none=>simp
 |some u=>simp[Prod.ext_iff,eq_comm]
abbrev Up(l:List (List UInt8×ByteArray)):Prop:=l.Pairwise fun p q=>p.1<q.1
theorem S7{a x y:List UInt8}(h:x<y):a++x<a++y:=by
 induction a with
 |nil=>exact h
 |cons c a ih=>exact List.Lex.cons ih
theorem Pt{x y:List UInt8}(c:y≠[])(h:hd x<hd y):x<y:=by
 match x,y,c with
 | [],b::y,_=>exact List.Lex.nil
 |a::x,b::y,_=>exact List.Lex.rel (UInt8.lt_iff_toNat_lt.2 h)
theorem Kc:∀{F:Fo},gf F→Up (x9 F)
 | .nil,_=>cQ
 | .cons lab w kids rest,h=>by
  unfold x9;refine cz.2 ⟨?_,Kc h.2.2.2.2,?_⟩
  ·rw[List.pairwise_map]
   refine List.Pairwise.imp (R:=fun p q:List UInt8×ByteArray=>p.1<q.1) (fun i=>S7 i) ?_
   refine cz.2 ⟨?_,Kc h.2.2.1,?_⟩
   ·cases w<;>simp
   ·intro a f b hb
    have d:b.1≠[]:=qa h.2.2.1 (rV (F:=kids).1 (show(b.1,b.2)∈_ from hb))
    have g:a.1= []:=by
     rw[Option.mem_toList,nV]at f;obtain⟨v,_,e⟩:=f;rw[←e]
    rw[g];match b.1,d with
    |c::l,_=>exact List.Lex.nil
  ·intro a f b hb
   obtain⟨p,_,rfl⟩:=bE.1 f;obtain⟨n,j,e,_⟩:=ux h.2.2.2.2 (rV (F:=rest).1 (show(b.1,b.2)∈_ from hb))
   have d:b.1≠[]:=qa h.2.2.2.2 (rV (F:=rest).1 (show(b.1,b.2)∈_ from hb))
   have:=h.2.2.2.1 n j;exact Pt d (by rw[rh h.1];omega)
theorem Q8{w:Option ByteArray}{F:Fo}(h:gf F):Up (oq w F):=by
 refine cz.2 ⟨by cases w<;>simp,Kc h,?_⟩
 intro a g b hb;have f:b.1≠[]:=qa h (rV (F:=F).1 (show(b.1,b.2)∈_ from hb))
 have d:a.1= []:=by
  rw[Option.mem_toList,nV]at g;obtain⟨v,_,e⟩:=g;rw[←e]
 rw[d];match b.1,f with
 |c::l,_=>exact List.Lex.nil
theorem Oy:∀{l l':List (List UInt8×ByteArray)},Up l→Up l'→(∀p,p∈l↔p∈l')→l=l'
 | [],[],_,_,_=>rfl
 | [],q::l',_,_,h=>absurd ((h q).2 (au ..)) (by simp)
 |p::l,[],_,_,h=>absurd ((h p).1 (au ..)) (by simp)
 |p::l,q::l',d,a,h=>by
  have d:=bd.1 d;have a:=bd.1 a;have e:p=q:=by
   rcases aq.1 ((h p).1 (au ..))with e|g
   ·exact e
   ·rcases aq.1 ((h q).2 (au ..))with e|f
    ·exact e.symm
    ·exact absurd (List.lt_trans (d.1 q f) (a.1 p g)) (rM _)
  subst e;rw[Oy d.2 a.2 fun z=>?_]
  constructor
  ·intro c
   rcases aq.1 ((h z).1 (aG _ c))with e|b
   ·exact absurd (d.1 z c) (by rw[e];exact rM _)
   ·exact b
  ·intro c
   rcases aq.1 ((h z).2 (aG _ c))with e|b
   ·exact absurd (a.1 z c) (by rw[e];exact rM _)
   ·exact b
def IE:Fo→Nat
 | .nil=>0
 | .cons _ _ kids rest=>1+IE kids+IE rest
theorem GS:∀{F:Fo},gf F→IE F+F.toL.length≤2*(x9 F).length
 | .nil,_=>by simp[IE,Fo.toL]
 | .cons lab w kids rest,h=>by
  have c:=GS h.2.2.1;have b:=GS h.2.2.2.2;have a:=h.2.1;rw[Fo.toL_cons];unfold IE x9;rw[ae,cZ,ae,aN];cases w with
  |none=>
   simp only[Option.map_none,Option.toList_none,cc];have:2≤kids.toL.length:=a.resolve_left (by simp);omega
  |some v=>simp only[Option.map_some,Option.toList_some,aD];omega
def Hh:Fo→Prop
 | .nil=>True
 | .cons lab w kids rest=>lab.length≤10000∧(∀v,w=some v→v.size≤10000)∧kids.toL.length≤256∧Hh kids∧Hh rest
theorem KV:∀{F:Fo},gf F→(∀k v,vd F k v→k.length≤10000∧v.size≤10000)→Hh F
 | .nil,_,_=>trivial
 | .cons lab w kids rest,h,hl=>by
  obtain⟨r,v,c⟩:=pB h _ (au ..);have b:=(hl _ v (iI.2 ⟨_,au ..,r,rfl,c⟩)).1;rw[ae]at b;simp only at b;refine⟨by omega,fun v hv=>(hl lab v (.inl ⟨[],(bI _).symm,.inl ⟨rfl,hv⟩⟩)).2,pj h.2.2.1,KV h.2.2.1 fun k v a=>?_,KV h.2.2.2.2 fun k v a=>hl k v (.inr a)⟩
  have:=hl (lab++k) v (.inl ⟨k,rfl,.inr a⟩);rw[ae]at this;exact⟨by omega,this.2⟩
def sX:Option ByteArray→List UInt8
 |some v=>1::l5 v
 |none=> [0]
def qp(lab:List UInt8)(w:Option ByteArray)(n:Nat):List UInt8:=l5 ⟨lab.toArray⟩++(sX w++kQ n 2)
def mI:Fo→List UInt8
 | .nil=> []
 | .cons lab w kids rest=>qp lab w kids.toL.length++(mI kids++mI rest)
def gy(n:Bn):List UInt8:=qp n.1 n.2.1 n.2.2.toL.length++mI n.2.2
theorem vF:∀F:Fo,mI F=F.toL.flatMap gy
 | .nil=>rfl
 | .cons lab w kids rest=>by
  rw[Fo.toL_cons,aK,←vF rest];show qp lab w kids.toL.length++(mI kids++mI rest)=(qp lab w kids.toL.length++mI kids)++mI rest
  rw[ao]
theorem Fj{lab:List UInt8}{w:Option ByteArray}{n:Nat}(b:lab.length≤10000)(a:∀v,w=some v→v.size≤10000):(qp lab w n).length≤20010:=by
 unfold qp;rw[ae,ae,gV,cI];have e:(od lab.toArray).size=lab.length:=by simp[ByteArray.size]
 rw[e];cases w with
 |none=>simp only[sX,aD];omega
 |some v=>have:=a v rfl;simp only[sX,aN,gV];omega
theorem xX:∀{F:Fo},Hh F→(mI F).length≤IE F*20010
 | .nil,_=>by simp[mI]
 | .cons lab w kids rest,h=>by
  have b:=Fj (n:=kids.toL.length) h.1 h.2.1;have a:=xX h.2.2.2.1;have c:=xX h.2.2.2.2;unfold mI IE;rw[ae,ae,iT,iT];omega
theorem Fl{lab a:List UInt8}{w c:Option ByteArray}{n e:Nat}{r j:List UInt8}(p:lab.length≤10000)(g:a.length≤10000)(o:∀v,w=some v→v.size≤10000)(i:∀v,c=some v→v.size≤10000)(s:n≤256)(m:e≤256)(h:qp lab w n++r=qp a c e++j):lab=a∧w=c∧n=e∧r=j:=by
 unfold qp at h;simp only[ao]at h;have z:∀l:List UInt8,(od l.toArray).size=l.length:=fun l=>by simp[ByteArray.size]
 obtain⟨d,h⟩:=wN (by rw[z];exact p) (by rw[z];exact g) h;have d:lab=a:=by
  have:=congrArg (fun b:ByteArray=>b.data.toList) d
  simpa using this
 cases w with
 |none=>
  cases c with
  |none=>
   simp only[sX,cM,List.nil_append,fj.injEq,true_and]at h;obtain⟨f,h⟩:=tN (k:=2) (by omega) (by omega) h;exact⟨d,rfl,f,h⟩
  |some v=>simp[sX]at h
 |some v=>
  cases c with
  |none=>simp[sX]at h
  |some v'=>
   simp only[sX,cM,fj.injEq,true_and]at h;obtain⟨q,h⟩:=wN (o v rfl) (i v' rfl) h;obtain⟨f,h⟩:=tN (k:=2) (by omega) (by omega) h;exact⟨d,by rw[q],f,h⟩
theorem xY:∀{F F':Fo} {r r':List UInt8},Hh F→Hh F'→F.toL.length=F'.toL.length→mI F++r=mI F'++r'→F=F'∧r=r'
 | .nil,.nil,_,_,_,_,_,h=>⟨rfl,h⟩
 | .nil,.cons ..,_,_,_,_,e,_=>by simp[Fo.toL]at e
 | .cons ..,.nil,_,_,_,_,e,_=>by simp[Fo.toL]at e
 | .cons lab w kids rest,.cons lab' w' kids' rest',r,r',h1,h2,e,h=>by
  unfold mI at h;simp only[ao]at h;obtain⟨d,b,f,h⟩:=Fl h1.1 h2.1 h1.2.1 h2.2.1 h1.2.2.1 h2.2.2.1 h;obtain⟨a,h⟩:=xY h1.2.2.2.1 h2.2.2.2.1 f h;obtain⟨c,h⟩:=xY h1.2.2.2.2 h2.2.2.2.2 (by rw[Fo.toL_cons,Fo.toL_cons]at e;simpa using e) h;exact⟨by rw[d,b,a,c],h⟩
end Go.Proofs
namespace Go.Proofs
open Go Go.Lift
theorem RO{M:Nat→Prop}{h:ac}{so:SliceV}{out ys:List UInt8}{vs:List Value}(hv:vs=ys.flatMap m8){n:Nat}(c:n=ys.length){K:SliceV→ac→Prop}(f:OwnS m8 1 bX M h so out)(hM:∀b,h.size≤b→M b)(i:out.length+ys.length≤140737488355328)
  (d:∀s' h',OwnS m8 1 bX M h' s' (out++ys)→Upd M h h'→K s' h'):
  ∃xs,SRow (hnew h vs bX) (some (aH h)) (n*1) xs∧AppP (some [.int .u8 0]) 1 1 bX so.a so.len so.cap n xs (hnew h vs bX) K:=by
 subst hv c;have k:=Upd.hnew No h (ys.flatMap m8) bX;have e:OwnS m8 1 bX (fun _=>True) (hnew h (ys.flatMap m8) bX) ⟨some (aH h),ys.length,ys.length⟩ ys:=⟨rfl,rt,aj _,.inr ⟨h.size,[],rfl,trivial,by rw[bI];exact bG ..,by simp⟩⟩
 refine⟨_,(e.sl (W:=No) fun _ _ _ h=>h).srow,?_⟩
 refine AppP.own (ys:=ys) (f.upd k fun _ _ h=>h) rfl rfl (y7 _) rfl (by omega) (by omega) (hM _ (by rw[eI];omega)) fun s' h' a g=>?_
 exact d s' h' a ((Upd.hnew M h _ _).tr g)
def US(W:Nat→Prop)(n:Bn):Prop:=∀{b:Nat} {sl:ByteArray} {h0 h:ac} {M:Nat→Prop} {s:SliceV} {xs:List UInt8},RxN W h0 b sl n.2.1 n.2.2→sl.data.toList=n.1→Upd No h0 h→(∀y,M y→h0.size≤y)→OwnS m8 1 bX M h s xs→(∀y,h.size≤y→M y)→
 xs.length+(gy n).length≤140737488355328→∀{K:SliceV→ac→Prop},(∀s' h',OwnS m8 1 bX M h' s' (xs++gy n)→Upd M h h'→K s' h')→HC PG iY [.pointer (some ⟨b,0,none⟩),.slice s.a s.len s.cap] [.c .slice] K h
theorem OQ{W:Nat→Prop}{lab:List UInt8}{w:Option ByteArray}{c:Fo}(hl:lab.length≤10000)(hw:∀v,w=some v→v.size≤10000)(hk256:c.toL.length≤256)(ih:∀m∈c.toL,US W m):US W (lab,w,c):=by
 intro b sl h0 h M s xs r E hu0 H ho hM hx K J;simp only at r E;have D:(⟨lab.toArray⟩:ByteArray)=sl:=by rw[←E]
 refine xf (some ⟨b,0,none⟩) s ?_;unfold qA aR cx bj bK tG xQ eY QB;obtain⟨val,C,ow,ks,X,hv,hs,hcap,hF⟩:=r;have hL:=qI.1 hF;have st:∀{h'},Upd M h h'→Upd No h0 h':=fun k=>hu0.trans k fun y Z=>.inr (H y Z)
 have blk:∀{h'},Upd M h h'→h'[b]? =some (.cells (EE sl w.isSome val C ow) bM (0,0)):=fun k=>(st k).get0 X
 have o:∀{h'},Upd M h h'→∀y,h'.size≤y→M y:=fun k y Z=>hM y (Nat.le_trans k.size Z)
 have U:sl.size=lab.length:=by rw[←E];simp
 have p:=hs.len;rw[hL.1]at p;unfold gy at hx J;rw[vF]at hx J;simp only at hx J;rw[ae]at hx;have G:(qp lab w c.toL.length).length=2+lab.length+((sX w).length+2):=by
  unfold qp;rw[ae,ae,gV,cI,D,U]
 refine⟨_,rfl,sl,fL (i:=0) (blk (Upd.refl M h)),?_⟩;refine Cs (W:=No) (ho.sl fun _ _ _ h=>h) ho.cap sl (by omega) (by omega) fun s2 h2 z S=>?_
 have z:=z.more hM;have d:Upd M h h2:=S.wide;refine Join.intro (fun t h'=>OwnS m8 1 bX M h' t (xs++l5 sl++(sX w))∧Upd M h h') (fun R N=>⟨_,rfl,w.isSome,fL (i:=1) (blk d),?_⟩) ?_
 ·cases w with
  |none=>
   refine ah.2 (bq ?_);refine tS (b:=0) rfl z (o d) ?_ fun s3 O n f=>N _ _ ⟨n,d.tr f⟩
   rw[ae,gV];simp only[sX,aD]at G;omega
  |some v=>
   have P:=vw hv v rfl;subst P;have hvs:=hw val rfl;simp only[sX,aN,gV]at G;have k3:Upd M h (hnew h2 [.int .u8 1] bX):=d.tr (Upd.hnew M h2 _ _);refine ay.2 ⟨_,rfl,val,fL (i:=2) (blk d),bq ⟨fL (i:=2) (blk k3),?_⟩⟩;refine tS (b:=1) rfl z (o d) (by rw[ae,gV];omega) fun s3 O n f=>⟨fL (i:=2) (blk (d.tr f)),?_⟩
   refine Cs (W:=No) (n.sl fun _ _ _ h=>h) n.cap val (by omega) (by rw[ae,ae,gV,aD];omega) fun s4 h4 j A=>N _ _ ⟨?_,(d.tr f).tr A.wide⟩
   have j:=j.more (o (d.tr f));simp only[sX,ao,List.singleton_append]at j⊢;exact j
 ·rintro s3 O ⟨n,f⟩
  have e8:Int.fdiv (C.len:Int) (2^(min (8:Int).toNat (IntKind.bits .i64)))=((c.toL.length>>>8:Nat):Int):=by
   have:(2^(min (8:Int).toNat (IntKind.bits .i64)):Int)=2^8:=rfl;rw[this,p,kT]
  refine Join.intro (fun t h'=>OwnS m8 1 bX M h' t (xs++qp lab w c.toL.length)∧Upd M h h') (fun R N=>⟨_,rfl,C,fL (i:=3) (blk f),_,rfl,C,fL (i:=3) (blk f),by omega,?_⟩) ?_
  ·simp only[Bd]
   rw[e8];have k4:Upd M h (hnew O [.int .u8 (IntKind.wrap .u8 (C.len:Int)),.int .u8 (IntKind.wrap .u8 ((c.toL.length>>>8:Nat):Int))] bX):=f.tr (Upd.hnew M O _ _);refine bq ⟨fL (i:=3) (blk k4),fL (i:=3) (blk k4),?_⟩;refine RO (ys:=kQ c.toL.length 2) ?_ rfl n (o f) ?_ fun s5 h5 F u=>⟨fL (i:=3) (blk (f.tr u)),fL (i:=3) (blk (f.tr u)),N _ _ ⟨?_,f.tr u⟩⟩
   ·rw[p,IntKind.wrap_u8,IntKind.wrap_u8]
    simp[kQ,List.range_succ]
   ·rw[ae,ae,gV,cI];omega
   ·unfold qp
    rw[D,←ao,←ao];exact F
  ·rintro s4 h4 ⟨j,A⟩
   refine⟨_,rfl,C,fL (i:=3) (blk A),?_⟩;have Y:∀{h'},Upd M h h'→Sl xB 1 W h' C ks:=fun k=>hs.upd (st k) fun _ h=>h.elim
   refine LoopP.ghost (fun(i:Nat) (t:SliceV×Int) h'=>t.2=(i:Int)∧i≤c.toL.length∧OwnS m8 1 bX M h' t.1 (xs++qp lab w c.toL.length++(c.toL.take i).flatMap gy)∧Upd M h h') (fun i=>c.toL.length-i) 0 ⟨rfl,aP _,by simpa using j,A⟩ ?_
   rintro I i ⟨so,ti⟩ h' ⟨e1,hi,x,q⟩ hI;simp only at e1 x;subst e1;have B:∀g:i<c.toL.length,((c.toL.take i).flatMap gy).length+(gy c.toL[i]).length≤(c.toL.flatMap gy).length:=fun g=>by
    have e:c.toL=c.toL.take i++c.toL[i]::c.toL.drop (i+1):=by rw[List.getElem_cons_drop,aM]
    have:=congrArg (fun L=>(List.flatMap gy L).length) e
    simp only[bA,aK,ae]at this;omega
   refine aw (fun g=>?_) fun V=>?_
   ·have g:i<c.toL.length:=by have:(i:Int)<(C.len:Int):=g;omega
    obtain⟨kb,ksl,hki,Q,T⟩:=hL.at g;obtain⟨a,ha,_,hvv⟩:=(Y q).at0 hki;have hsp:=B g;refine⟨⟨by simp only;omega,by simp only;omega⟩,a,ha,some ⟨kb,0,none⟩,hvv,?_⟩
    refine ih _ (aU g) T Q (st q) H x (o q) (by rw[ae,ae];omega) fun s5 h5 F u=>?_
    rw[bN g (by omega)];refine hI (i+1) _ _ ⟨rfl,g,?_,q.tr u⟩ (by omega);rw[List.take_succ_eq_append_getElem g,bA,aK,List.flatMap_nil,bI,←ao];exact F
   ·have hil:i=c.toL.length:=by have:¬(i:Int)<(C.len:Int):=V;omega
    subst hil;rw[ba]at x;refine J _ _ ?_ q;rw[←ao];exact x
theorem Gf{W:Nat→Prop}:∀{F:Fo},Hh F→∀n∈F.toL,US W n
 | .nil,_,n,a=>by simp[Fo.toL]at a
 | .cons lab w kids rest,h,n,a=>by
  rcases aq.1 a with rfl|a
  ·exact OQ h.1 h.2.1 h.2.2.1 (Gf h.2.2.2.1)
  ·exact Gf h.2.2.2.2 n a
structure RadAt(W:Nat→Prop)(h:ac)(b:Nat)(l:List Pr):Prop where
 ex:∃w F,RxN W h b ⟨#[]⟩ w F∧gf F∧∀k v,(k,v)∈oq w F↔∃p∈l,p.1.data.toList=k∧p.2=v
theorem RadAt.upd0{W:Nat→Prop}{h h':ac}{b:Nat}{l:List Pr}(k:Upd No h h')(r:RadAt W h b l):RadAt W h' b l:=by
 obtain⟨w,F,c,d,a⟩:=r.ex;exact⟨w,F,c.upd0 k,d,a⟩
theorem RadAt.less{W W':Nat→Prop}{h:ac}(hm:∀b,W' b→W b∨h.size≤b){b:Nat}{l:List Pr}(r:RadAt W h b l):RadAt W' h b l:=by
 obtain⟨w,F,c,d,a⟩:=r.ex;exact⟨w,F,c.less hm,d,a⟩
theorem RadAt.updM{W M:Nat→Prop}{h h':ac}(k:Upd M h h')(hm:∀b,M b→W b∨h.size≤b){b:Nat}{l:List Pr}(r:RadAt W h b l):RadAt W h' b l:=by
 obtain⟨w,F,c,d,a⟩:=r.ex;exact⟨w,F,c.updM k hm,d,a⟩
def LV(l:List Pr):List (List UInt8×ByteArray):=l.map fun p=>(p.1.data.toList,p.2)
theorem Sq{l:List Pr}(c:dL l):Up (LV l):=by
 unfold LV Up;rw[List.pairwise_map];refine List.Pairwise.imp (R:=fun p q:Pr=>kl p.1 q.1) (fun{a b} h=>?_) c
 rw[Kv,ByteArray.toList_eq,ByteArray.toList_eq]at h;exact h
theorem LU:∀{l l':List Pr},LV l=LV l'→l=l'
 | [],[],_=>rfl
 | [],_::_,h=>by simp[LV]at h
 |_::_,[],h=>by simp[LV]at h
 |p::l,q::l',h=>by
  unfold LV at h;simp only[List.map_cons,fj.injEq,nU.injEq]at h;obtain⟨⟨c,d⟩,f⟩:=h;have e:p.1=q.1:=by
   generalize p.1=a at c;generalize q.1=b at c;cases a;cases b;exact congrArg od (o9.1 c)
  rw[LU f,Prod.ext e d]
theorem Gj{w:Option ByteArray}{F:Fo}{l:List Pr}(hc:gf F)(d:dL l)(b:∀k v,(k,v)∈oq w F↔∃p∈l,p.1.data.toList=k∧p.2=v):oq w F=LV l:=by
 refine Oy (Q8 hc) (Sq d) fun p=>?_
 have:=b p.1 p.2;rw[show(p.1,p.2)=p from rfl]at this
 rw[this];unfold LV;rw[bE];constructor
 ·rintro⟨q,a,f,c⟩;exact⟨q,a,Prod.ext f c⟩
 ·rintro⟨q,a,e⟩;rw[←e];exact⟨q,a,rfl,rfl⟩
theorem OY{w b:Option ByteArray}{F F':Fo}(hc:gf F)(a:gf F')(h:oq w F=oq b F'):w=b∧F=F':=by
 have hm:∀k v,wz w F k v↔wz b F' k v:=fun k v=>by rw[←ra,←ra,h]
 refine⟨Option.ext fun v=>?_,K3 hc a fun k v=>?_⟩
 ·have:=hm [] v
  constructor
  ·intro e
   rcases this.1 (.inl ⟨rfl,e⟩)with⟨_,h⟩|h
   ·exact h
   ·exact absurd rfl (qa a h)
  ·intro e
   rcases this.2 (.inl ⟨rfl,e⟩)with⟨_,h⟩|h
   ·exact h
   ·exact absurd rfl (qa hc h)
 ·constructor
  ·intro hi
   rcases(hm k v).1 (.inr hi)with⟨e,_⟩|h
   ·exact absurd e (qa hc hi)
   ·exact h
  ·intro hi
   rcases(hm k v).2 (.inr hi)with⟨e,_⟩|h
   ·exact absurd e (qa a hi)
   ·exact h
end Go.Proofs
namespace Go.Proofs
open Go Go.Lift
theorem rW{p q:Pr}:∀{l:List Pr},dL l→(q∈ij p l↔q=p∨(q∈l∧q.1≠p.1))
 | [],_=>by simp[ij]
 |r::l,b=>by
  have b:=bd.1 b;rw[gi];by_cases c:kl r.1 p.1
  ·have d:r.1≠p.1:=fun e=>by rw[e]at c;exact dj _ c
   rw[if_pos c,aq,aq,rW b.2];constructor
   ·rintro(rfl|h|⟨h,h'⟩)
    ·exact .inr ⟨.inl rfl,d⟩
    ·exact .inl h
    ·exact .inr ⟨.inr h,h'⟩
   ·rintro(h|⟨h|h,h'⟩)
    ·exact .inr (.inl h)
    ·exact .inl h
    ·exact .inr (.inr ⟨h,h'⟩)
  ·rw[if_neg c]
   by_cases a:r.1=p.1
   ·rw[if_pos a,aq,aq]
    constructor
    ·rintro(h|h)
     ·exact .inl h
     ·refine .inr ⟨.inr h,fun e=>?_⟩
      have:=b.1 q h;rw[e,a]at this;exact dj _ this
    ·rintro(h|⟨rfl|h,h'⟩)
     ·exact .inl h
     ·exact absurd a h'
     ·exact .inr h
   ·rw[if_neg a,aq,aq]
    have f:=AL c a;constructor
    ·rintro(h|rfl|h)
     ·exact .inl h
     ·exact .inr ⟨.inl rfl,a⟩
     ·refine .inr ⟨.inr h,fun e=>?_⟩
      have:=kR f (b.1 q h);rw[e]at this;exact dj _ this
    ·rintro(h|⟨rfl|h,h'⟩)
     ·exact .inl h
     ·exact .inr (.inl rfl)
     ·exact .inr (.inr h)
def RadRoot(W:Nat→Prop)(h:ac)(r:Option Addr)(l:List Pr):Prop:=(r=none∧l= [])∨∃b,r=some ⟨b,0,none⟩∧RadAt W h b l
theorem RadRoot.upd0{W:Nat→Prop}{h h':ac}{r:Option Addr}{l:List Pr}(k:Upd No h h')(t:RadRoot W h r l):RadRoot W h' r l:=t.imp id fun⟨b,e,t⟩=>⟨b,e,t.upd0 k⟩
theorem DT{a b:ByteArray}:a.data.toList=b.data.toList↔a=b:=by
 constructor
 ·intro h;cases a;cases b;exact congrArg od (o9.1 h)
 ·rintro rfl;rfl
theorem C6{W:Nat→Prop}{h:ac}(c:∀y,W y→y<h.size){K:Option Addr→ac→Prop}(a:∀h' b,RadAt W h' b []→Upd No h h'→K (some ⟨b,0,none⟩) h'):HC PG pi [] [.c .ptr] K h:=by
 refine ET ?_;unfold xM Hr;refine bq (a _ h.size ⟨none,.nil,⟨⟨#[]⟩,⟨none,0,0⟩,none,[],bG h R8 bM,rfl,Sl.nil p9,⟨aj _,fun hx=>jV _ (c _ hx)⟩,rfl⟩,trivial,fun k v=>?_⟩ (Upd.hnew No h _ _))
 simp[oq,x9]
theorem M0{W:Nat→Prop}{h:ac}{r:Option Addr}{l:List Pr}(t:RadRoot W h r l)(d:∀y,W y→y<h.size){K:Option Addr→ac→Prop}(a:∀h' b,RadAt W h' b l→Upd No h h'→(r=some ⟨b,0,none⟩∨r=none)→K (some ⟨b,0,none⟩) h'):HC PG uC [.pointer r] [.c .ptr] K h:=by
 refine G7 r ?_;unfold Aa;rcases t with⟨rfl,rfl⟩|⟨b,rfl,t⟩
 ·exact ay.2 (C6 d fun h' b t c=>a h' b t c (.inr rfl))
 ·exact ah.2 (a h b t (Upd.refl _ _) (.inl rfl))
theorem HT{W:Nat→Prop}{h:ac}{r:Option Addr}{l:List Pr}(t:RadRoot W h r l)(A:∀y,W y→y<h.size)(x:dL l)(p:Pr)(G:p.1.size≤1000000){K:Option Addr×Bool→ac→Prop}
  (I:∀h' b' a,Upd No h h'→RadAt W h' b' (ij p l)→(p∈l→r=some ⟨b',0,none⟩∨r=none)→K (some ⟨b',0,none⟩,a) h'):
  HC PG vZ [.pointer none,.pointer r,.agg #[.string p.1,.string p.2]] [.c .ptr,.c .bool] K h:=by
 refine IS none r p ?_;unfold BS aC BB Ot;have k1:=Upd.hnew No h [.string p.1,.string p.2] ar;have b1:=bG h [.string p.1,.string p.2] ar;refine bq ?_;simp only[bZ h];generalize hnew h [.string p.1,.string p.2] ar=h1 at k1 b1;have g:∀{h':ac},Upd No h1 h'→∀i,aX h' (adr ⟨h.size,0,none⟩ i)=(#[.string p.1,.string p.2]:Array Value)[i]?:=fun k i=>by rw[bB,aL (k.get0 b1),aA]
 have B:=Upd.refl No h1;refine⟨p.1,g B 0,p.2,g B 1,M0 (t.upd0 k1) (fun y s=>aO (A y s) k1.size) fun O b H c hb=>⟨g c 1,g c 0,?_⟩⟩
 obtain⟨w,F,E,J,C⟩:=H.ex;refine OV (p.1.size+1) p.1 p.2 (by omega) G E (fun y s=>aO (A y s) (k1.tr c).size) J fun L b3 D F' a N n j u m o z=>?_
 refine I L b3 a ((k1.tr c).tr n) ⟨D,F',j,u,fun k v=>?_⟩ fun hm=>?_
 ·rw[ra,m k v,←ra,C k v]
  constructor
  ·rintro(⟨rfl,rfl⟩|⟨d,q,f,rfl,rfl⟩)
   ·exact⟨p,(rW x).2 (.inl rfl),rfl,rfl⟩
   ·exact⟨q,(rW x).2 (.inr ⟨f,fun e=>d (by rw[e])⟩),rfl,rfl⟩
  ·rintro⟨q,f,rfl,rfl⟩
   rcases(rW x).1 f with rfl|⟨f,d⟩
   ·exact .inl ⟨rfl,rfl⟩
   ·exact .inr ⟨fun e=>d (DT.1 e),q,f,rfl,rfl⟩
 ·have:=z (ra.1 ((C _ _).2 ⟨p,hm,rfl,rfl⟩))
  rw[(o this).1];exact hb
def Lc(l:List Pr)(xs:List UInt8):Prop:=∃w F,gf F∧oq w F=LV l∧xs=gy ([],w,F)
theorem vT{w:Option ByteArray}{F:Fo}{l:List Pr}(hc:gf F)(b:oq w F=LV l)(c:Fit l):Hh F∧∀v,w=some v→v.size≤10000:=by
 have hm:∀k v,wz w F k v→k.length≤10000∧v.size≤10000:=fun k v hi=>by
  have:=ra.2 hi;rw[b]at this;obtain⟨q,a,e⟩:=bE.1 this;cases e;have:=c q a;exact⟨by simpa using this.1,this.2⟩
 exact⟨KV hc fun k v hi=>hm k v (.inr hi),fun v hv=>(hm [] v (.inl ⟨rfl,hv⟩)).2⟩
theorem QZ{l l':List Pr}{xs a:List UInt8}(h:Lc l xs)(h':Lc l' a)(m:Fit l)(g:Fit l'):xs=a↔l=l':=by
 obtain⟨w,F,c,e,rfl⟩:=h;obtain⟨k,F',c',f,rfl⟩:=h';have j:=vT c e m;have i:=vT c' f g;constructor
 ·intro hx
  have hx:gy ([],w,F)++ []=gy ([],k,F')++ []:=by rw[hx]
  unfold gy at hx;simp only[ao]at hx;obtain⟨_,d,n,hx⟩:=Fl (aP _) (aP _) j.2 i.2 (pj c) (pj c') hx;obtain⟨b,_⟩:=xY j.1 i.1 n hx;exact LU (by rw[←e,←f,d,b])
 ·rintro rfl
  obtain⟨d,b⟩:=OY c c' (e.trans f.symm);rw[d,b]
theorem y5{l:List Pr}{xs:List UInt8}(h:Lc l xs)(d:Fit l):xs.length≤20010+2*l.length*20010:=by
 obtain⟨w,F,c,e,rfl⟩:=h;have a:=vT c e d;have i:=Fj (lab:= []) (n:=F.toL.length) (aP _) a.2;have g:=xX a.1;have j:=GS c;have b:=congrArg eH e;unfold oq LV at b;rw[ae,cZ]at b;have f:IE F*20010≤2*l.length*20010:=bP _ (by omega);unfold gy;rw[ae];simp only;omega
theorem HU{W:Nat→Prop}{h:ac}{b:Nat}{l:List Pr}(t:RadAt W h b l)(j:dL l)(d:Fit l)(o:l.length≤60000){K:SliceV→ac→Prop}
  (g:∀s' h' xs,Lc l xs→OwnS m8 1 bX (fun y=>h.size≤y) h' s' xs→Upd No h h'→K s' h'):HC PG tc [.pointer (some ⟨b,0,none⟩)] [.c .slice] K h:=by
 refine ES _ ?_;unfold xL;refine ah.2 ?_;obtain⟨w,F,i,a,f⟩:=t.ex;have e:=Gj a j f;have c:=vT a e d;have hv:Lc l (gy ([],w,F)):=⟨w,F,a,e,rfl⟩;have p:=y5 hv d;exact OQ (lab:= []) (aP _) c.2 (pj a) (Gf c.1) (s:=⟨none,0,0⟩) (xs:= []) (M:=fun y=>h.size≤y) i rfl (Upd.refl _ _) (fun _ h=>h) (OwnS.nil rt) (fun _ h=>h) (by rw[cc];omega) fun s' h' k m=>g s' h' _ hv k (m.mono fun y n=>.inr n)
end Go.Proofs
namespace Go.Proofs
open Go Go.Lift
theorem aV{h:ac}{cs:List Value}{t:TypeId}{k:ac→Prop}(a:∀h',h'[h.size]? =some (.cells cs.toArray t (0,0))→Upd No h h'→k h'):At (hnew h cs t) k:=
 bq (a _ (bG h cs t) (Upd.hnew No h cs t))
theorem vc{h:ac}{b:Nat}{c:Array Value}{t:TypeId}(hb:h[b]? =some (.cells c t (0,0))) (i:Nat):aX h (adr ⟨b,0,none⟩ i)=c[i]?:=by rw[bB,aA];exact aL hb
theorem iW{h:ac}{b:Nat}{c:Array Value}{t:TypeId}(hb:h[b]? =some (.cells c t (0,0))) (i j:Nat):aX h (adr (adr ⟨b,0,none⟩ i) j)=c[i+j]?:=by rw[bB,bB,aA];exact aL hb
theorem yP{h:ac}{b i:Nat}{c c':Array Value}{t:TypeId}{v:Value}{k:ac→Prop}(hb:h[b]? =some (.cells c t (0,0))) (hi:i<c.size) (e:c.setIfInBounds i v=c') (f:∀h',h'[b]? =some (.cells c' t (0,0))→Upd (· =b) h h'→k h'):Wr h (adr ⟨b,0,none⟩ i)∧At (hset h (adr ⟨b,0,none⟩ i) v) k:=by
 rw[bB,aA];exact⟨f6 hb hi,yv hb fun h' a d=>f h' (e▸a) d⟩
theorem _root_.Go.Lift.Upd.own{h c a:ac}{b:Nat}(k:Upd No h c)(d:Upd (· =b) c a)(hb:h.size≤b):Upd No h a:=k.trans d fun x hx=>.inr (by have hx:x=b:=hx;omega)
theorem _root_.Go.Lift.Upd.oth{h h':ac}{b c:Nat}{o:Obj}(d:Upd (· =b) h h')(hc:h[c]? =some o) (a:c≠b):h'[c]? =some o:=d.get hc a
abbrev Tr:=Int×Int×Int×Int×(Option Addr)×(Option Addr)
abbrev kG(t:Tr):List Value:= [.int .i64 t.1,.int .u64 t.2.1,.int .u64 t.2.2.1,.int .u64 t.2.2.2.1,.pointer t.2.2.2.2.1,.pointer t.2.2.2.2.2]
abbrev Hm(t:Tr):Value:=.agg #[.int .i64 t.1,.int .u64 t.2.1,.int .u64 t.2.2.1,.int .u64 t.2.2.2.1,.pointer t.2.2.2.2.1,.pointer t.2.2.2.2.2]
def Pro(W:Nat→Prop)(h a:ac)(y:Nat):Prop:=W y∨(h.size≤y∧y<a.size)
theorem Pro.lt{W:Nat→Prop}{h a:ac}(b:∀y,W y→y<h.size)(k:Upd No h a):∀y,Pro W h a y→y<a.size:=fun y c=>c.elim (fun h=>aO (b y h) k.size) fun h=>h.2
theorem Pro.hm{W:Nat→Prop}{h a:ac}:∀y,Pro W h a y→W y∨h.size≤y:=fun _ b=>b.imp id fun h=>h.1
theorem Pro.sub{W:Nat→Prop}{h a b:ac}:∀y,W y→Pro W h a y∨b.size≤y:=fun _ c=>.inl (.inl c)
theorem RootAt.less{W W':Nat→Prop}{x:Hs}{h:ac}(hm:∀b,W' b→W b∨h.size≤b){r:Option Addr}{l:List Pr}(t:RootAt W x h r l):RootAt W' x h r l:=t.imp id fun⟨b,e,t⟩=>⟨b,e,TrieAt.less hm t⟩
theorem RadRoot.less{W W':Nat→Prop}{h:ac}(hm:∀b,W' b→W b∨h.size≤b){r:Option Addr}{l:List Pr}(t:RadRoot W h r l):RadRoot W' h r l:=t.imp id fun⟨b,e,t⟩=>⟨b,e,t.less hm⟩
def TreeIs(W:Nat→Prop)(h:ac)(kind:Int)(x:Hs)(t:Tr)(l:List Pr):Prop:=(kind=0∧∃b,t=(0,x.k0,x.k1,x.mask,some ⟨b,0,none⟩,none)∧TrieAt W x h 13 b l)∨(kind=1∧∃b,t=(1,0,0,0,none,some ⟨b,0,none⟩)∧RadAt W h b l)
theorem TreeIs.upd0{W:Nat→Prop}{h h':ac}{kind:Int}{x:Hs}{t:Tr}{l:List Pr}(k:Upd No h h')(i:TreeIs W h kind x t l):TreeIs W h' kind x t l:=
 i.imp (fun⟨e,b,a,t⟩=>⟨e,b,a,TrieAt.upd0 k t⟩) fun⟨e,b,a,t⟩=>⟨e,b,a,t.upd0 k⟩
theorem TreeIs.less{W W':Nat→Prop}{h:ac}(hm:∀b,W' b→W b∨h.size≤b){kind:Int}{x:Hs}{t:Tr}{l:List Pr}(i:TreeIs W h kind x t l):TreeIs W' h kind x t l:=
 i.imp (fun⟨e,b,a,t⟩=>⟨e,b,a,TrieAt.less hm t⟩) fun⟨e,b,a,t⟩=>⟨e,b,a,t.less hm⟩
theorem TreeIs.updM{W M:Nat→Prop}{h h':ac}(k:Upd M h h')(hm:∀b,M b→W b∨h.size≤b){kind:Int}{x:Hs}{t:Tr}{l:List Pr}(i:TreeIs W h kind x t l):TreeIs W h' kind x t l:=
 i.imp (fun⟨e,b,a,t⟩=>⟨e,b,a,TrieAt.updM k hm t⟩) fun⟨e,b,a,t⟩=>⟨e,b,a,t.updM k hm⟩
theorem TreeIs.pro{W:Nat→Prop}{h a:ac}(k:Upd No h a){kind:Int}{x:Hs}{t:Tr}{l:List Pr}(i:TreeIs W h kind x t l):TreeIs (Pro W h a) a kind x t l:=(i.less Pro.hm).upd0 k
theorem EM{W:Nat→Prop}{x:Hs}{h:ac}(d:∀y,W y→y<h.size){K:Option Addr→ac→Prop}(c:∀h' b,TrieAt W x h' 13 b []→Upd No h h'→K (some ⟨b,0,none⟩) h'):HC PG l9 [] [.c .ptr] K h:=by
 refine xG ?_;unfold tA;exact qK d fun h' b nd a=>c h' b (HB nd) a
abbrev qW:Tr:=(0,0,0,0,none,none)
theorem HH{W:Nat→Prop}{x:Hs}{h:ac}{r:Option Addr}{l:List Pr}(t:RootAt W x h r l)(u:∀y,W y→y<h.size){K:Tr→ac→Prop}(p:∀h' t,TreeIs W h' 0 x t l→Upd No h h'→K t h'):HC PG rm [.agg #[.int .u64 x.k0,.int .u64 x.k1,.int .u64 x.mask],.pointer r] [.agg [.int .i64,.int .u64,.int .u64,.int .u64,.ptr,.ptr]] K h:=by
 refine D8 (x.k0,x.k1,x.mask) r ?_;unfold wI az ad ag eB Cv rO JB;refine aV fun m b1 k1=>aV fun k b2 j=>?_
 have v:=bF b1;have w:=bF b2;have d:=k1.tr j;refine Join.intro (fun t h'=>Upd No k h'∧∃b,t=some ⟨b,0,none⟩∧TrieAt (Pro W h k) x h' 13 b l) (fun R n=>?_) ?_
 ·rcases t with⟨rfl,rfl⟩|⟨b,rfl,t⟩
  ·exact ay.2 (EM (Pro.lt u d) fun s b t a=>n _ _ ⟨a,b,rfl,t⟩)
  ·exact ah.2 (n _ _ ⟨Upd.refl _ _,b,rfl,TrieAt.upd0 d (TrieAt.less Pro.hm t)⟩)
 ·rintro i s ⟨a,b,rfl,i⟩
  have c1:=a.get0 (j.get0 b1);refine⟨_,vc c1 0,_,vc c1 1,_,vc c1 2,?_⟩;refine cy (c:=kG qW) (vs:=kG (0,x.k0,x.k1,x.mask,some ⟨b,0,none⟩,none)) (a.get0 b2) rfl fun q e f=>?_
  refine⟨_,vc e 0,_,vc e 1,_,vc e 2,_,vc e 3,_,vc e 4,_,vc e 5,?_⟩;have g:h.size≤m.size:=k1.size;exact p q _ (.inl ⟨rfl,b,rfl,TrieAt.less Pro.sub (TrieAt.updM f (fun y o=>.inl (.inr (by have o:y=m.size:=o;omega))) i)⟩) ((d.tr a).own f g)
theorem HG{W:Nat→Prop}{x:Hs}{h:ac}{r:Option Addr}{l:List Pr}(t:RadRoot W h r l)(p:∀y,W y→y<h.size){K:Tr→ac→Prop}(m:∀h' t,TreeIs W h' 1 x t l→Upd No h h'→K t h'):HC PG rl [.pointer r] [.agg [.int .i64,.int .u64,.int .u64,.int .u64,.ptr,.ptr]] K h:=by
 refine D7 r ?_;unfold wH az ad ag eB rO JB;refine aV fun j b2 d=>?_
 have q:=bF b2;refine Join.intro (fun t h'=>Upd No j h'∧∃b,t=some ⟨b,0,none⟩∧RadAt (Pro W h j) h' b l) (fun R k=>?_) ?_
 ·rcases t with⟨rfl,rfl⟩|⟨b,rfl,t⟩
  ·exact ay.2 (C6 (Pro.lt p d) fun o b t a=>k _ _ ⟨a,b,rfl,t⟩)
  ·exact ah.2 (k _ _ ⟨Upd.refl _ _,b,rfl,(t.less Pro.hm).upd0 d⟩)
 ·rintro g o ⟨a,b,rfl,g⟩
  refine cy (c:=kG qW) (vs:=kG (1,0,0,0,none,some ⟨b,0,none⟩)) (a.get0 b2) rfl fun n e f=>?_
  refine⟨_,vc e 0,_,vc e 1,_,vc e 2,_,vc e 3,_,vc e 4,_,vc e 5,?_⟩;exact m n _ (.inr ⟨rfl,b,rfl,(g.updM f (fun y i=>.inl (.inr (by have i:y=h.size:=i;omega)))).less Pro.sub⟩) ((d.tr a).own f (aj _))
theorem L0{W:Nat→Prop}{x:Hs}{h:ac}(q:∀y,W y→y<h.size){kind:Int}(i:kind=0∨kind=1){K:Tr×Int→ac→Prop}(n:∀h' t,TreeIs W h' kind x t []→Upd No h h'→K (t,0) h'):HC PG uA [.int .i64 kind,.agg #[.int .u64 x.k0,.int .u64 x.k1,.int .u64 x.mask]] [.agg [.int .i64,.int .u64,.int .u64,.int .u64,.ptr,.ptr],.c (.int .i64)] K h:=by
 refine Ld kind (x.k0,x.k1,x.mask) ?_;unfold D9 az ad ag eB Cv Cr rO ol;refine aV fun m b1 k1=>aV fun p b2 o=>?_
 have u:=bF b1;have v:=bF b2;have e:=k1.tr o;have f:h.size≤m.size:=k1.size;have c1:=o.get0 b1;rcases i with rfl|rfl
 ·refine ay.2 ⟨_,vc c1 0,_,vc c1 1,_,vc c1 2,?_⟩
  refine HH (W:=Pro W h p) (x:=x) (l:= []) (.inl ⟨rfl,rfl⟩) (Pro.lt q e) fun s t j d=>?_
  refine cy (c:=kG qW) (vs:=kG t) (d.get0 b2) rfl fun k a b=>?_
  refine⟨_,vc a 0,_,vc a 1,_,vc a 2,_,vc a 3,_,vc a 4,_,vc a 5,?_⟩;exact n k t ((j.updM b (fun y g=>.inl (.inr (by have g:y=m.size:=g;omega)))).less Pro.sub) ((e.tr d).own b f)
 ·refine ah.2 (ay.2 ?_)
  refine HG (W:=Pro W h p) (x:=x) (l:= []) (.inl ⟨rfl,rfl⟩) (Pro.lt q e) fun s t j d=>?_
  refine cy (c:=kG qW) (vs:=kG t) (d.get0 b2) rfl fun k a b=>?_
  refine⟨_,vc a 0,_,vc a 1,_,vc a 2,_,vc a 3,_,vc a 4,_,vc a 5,?_⟩;exact n k t ((j.updM b (fun y g=>.inl (.inr (by have g:y=m.size:=g;omega)))).less Pro.sub) ((e.tr d).own b f)
theorem Nk{k v:ByteArray}(c:k.size≤256)(b:v.size≤4096){h:ac}{K:Int→ac→Prop}(a:K 0 h):HC PG uH [.string k,.string v] [.c (.int .i64)] K h:=by
 refine Hd k v ?_;unfold Ag;refine aw (fun h=>absurd h (by omega)) fun _=>aw (fun h=>absurd h (by omega)) fun _=>a
theorem CY{W:Nat→Prop}{x:Hs}{h:ac}{kind:Int}{t:Tr}{l:List Pr}(i:TreeIs W h kind x t l)(L:∀y,W y→y<h.size)(H:dL l)(O:l.length≤1000000)(p:Pr)(B:p.1.size≤256)(A:p.2.size≤4096){K:Tr×Int→ac→Prop}
  (G:∀h' t',TreeIs W h' kind x t' (ij p l)→(p∈l→t'=t)→Upd No h h'→K (t',0) h'):HC PG cL [Hm t,.pointer none,.agg #[.string p.1,.string p.2]] [.agg [.int .i64,.int .u64,.int .u64,.int .u64,.ptr,.ptr],.c (.int .i64)] K h:=by
 refine Ba t none p ?_;unfold tW az ad bO ag eB Cr rO ol rQ JB aC c9 BB pq;refine aV fun I b1 k1=>aV fun D b2 F=>aV fun V b3 v=>?_
 have R:=bF b1;have S:=bF b2;have Q:=bF b3;have U:h.size≤I.size:=k1.size;have X:I.size≤D.size:=F.size;have T:=v.size;have n:=(k1.tr F).tr v;have o:=v.get0 (F.get0 b1);have s:=v.get0 b2;have P:=i.pro n;have u:=Pro.lt L n;refine⟨_,vc s 0,_,vc s 1,Nk B A (ah.2 ?_)⟩;rcases P with⟨rfl,b,rfl,z⟩|⟨rfl,b,rfl,z⟩
 ·refine⟨_,vc o 0,ah.2 ⟨_,iW o 1 0,_,iW o 1 1,_,iW o 1 2,_,vc o 4,p.1,vc s 0,p.2,vc s 1,?_⟩⟩
  refine IJ (.inr ⟨b,rfl,z⟩) u H O p fun J q a E d=>?_
  refine yP (i:=4) (c':=(kG (0,x.k0,x.k1,x.mask,some ⟨q,0,none⟩,none)).toArray) (a.get0 o) (show 4<6 by decide) rfl fun N j f=>?_
  refine⟨_,vc j 0,_,vc j 1,_,vc j 2,_,vc j 3,_,vc j 4,_,vc j 5,?_⟩;refine cy (c:=kG qW) (vs:=kG (0,x.k0,x.k1,x.mask,some ⟨q,0,none⟩,none)) (f.oth (a.get0 b3) (by omega)) rfl fun C g m=>?_
  refine⟨_,vc g 0,_,vc g 1,_,vc g 2,_,vc g 3,_,vc g 4,_,vc g 5,?_⟩;refine G C _ (.inl ⟨rfl,q,rfl,TrieAt.less Pro.sub (TrieAt.updM m (fun y k=>.inl (.inr (by have k:y=D.size:=k;omega))) (TrieAt.updM f (fun y k=>.inl (.inr (by have k:y=h.size:=k;omega))) E))⟩) (fun hm=>?_) (((n.tr a).own f (aj _)).own m (by omega))
  rcases d hm with e|e
  ·rw[e]
  ·cases e
 ·refine⟨_,vc o 0,ay.2 ⟨_,vc o 5,p.1,vc s 0,p.2,vc s 1,?_⟩⟩
  refine HT (.inr ⟨b,rfl,z⟩) u H p (by omega) fun J q w a E d=>?_
  refine yP (i:=5) (c':=(kG (1,0,0,0,none,some ⟨q,0,none⟩)).toArray) (a.get0 o) (show 5<6 by decide) rfl fun N j f=>?_
  refine⟨_,vc j 0,_,vc j 1,_,vc j 2,_,vc j 3,_,vc j 4,_,vc j 5,?_⟩;refine cy (c:=kG qW) (vs:=kG (1,0,0,0,none,some ⟨q,0,none⟩)) (f.oth (a.get0 b3) (by omega)) rfl fun C g m=>?_
  refine⟨_,vc g 0,_,vc g 1,_,vc g 2,_,vc g 3,_,vc g 4,_,vc g 5,?_⟩;refine G C _ (.inr ⟨rfl,q,rfl,((E.updM f (fun y k=>.inl (.inr (by have k:y=h.size:=k;omega)))).updM m (fun y k=>.inl (.inr (by have k:y=D.size:=k;omega)))).less Pro.sub⟩) (fun hm=>?_) (((n.tr a).own f (aj _)).own m (by omega))
  rcases d hm with e|e
  ·rw[e]
  ·cases e
end Go.Proofs
namespace Go.Proofs
open Go Go.Lift
def qq(t u:Tr):Bool:=(t.1==u.1)&&((((t.2.1==u.2.1)&&((t.2.2.1==u.2.2.1)&&true)))&&((t.2.2.2.1==u.2.2.2.1)&&true))
theorem yW{t u:Tr}{h:ac}{K:Bool→ac→Prop}(c:∀h',Upd No h h'→K (qq t u) h'):HC PG pG [Hm t,Hm u] [.c .bool] K h:=by
 refine IR t u ?_;unfold BR az bO ol;refine aV fun d b1 k1=>aV fun b b2 a=>?_
 have c1:=a.get0 b1;refine⟨_,vc c1 0,_,vc b2 0,?_⟩;have:=c b (k1.tr a);unfold qq at this;rcases hb:(t.1==u.1)with _|_
 ·rw[hb]at this
  exact ah.2 this
 ·rw[hb]at this
  exact ay.2 ⟨_,iW c1 1 0,_,iW c1 1 1,_,iW c1 1 2,_,iW b2 1 0,_,iW b2 1 1,_,iW b2 1 2,this⟩
theorem MV{W:Nat→Prop}{x:Hs}{h:ac}{b:Nat}{l:List Pr}(t:TrieAt W x h 13 b l){K:Option Addr→ac→Prop}(a:∀h',Upd No h h'→K (some ⟨b,0,none⟩) h'):HC PG ny [Hm (0,x.k0,x.k1,x.mask,some ⟨b,0,none⟩,none)] [.c .ptr] K h:=by
 refine zI (0,x.k0,x.k1,x.mask,some ⟨b,0,none⟩,none) ?_;unfold sB az ag ol;refine aV fun c b1 k1=>?_
 refine Join.intro (fun t h'=>t=false∧h'=c) (fun R d=>⟨_,vc b1 0,ay.2 ⟨_,vc b1 4,d _ _ ⟨rfl,rfl⟩⟩⟩) ?_
 rintro t h' ⟨rfl,rfl⟩;exact ah.2 ⟨_,vc b1 4,a h' k1⟩
def FU(kind:Int)(x:Hs)(l:List Pr)(xs:List UInt8):Prop:=(kind=0∧xs=0::d8 x 13 l)∨(kind=1∧∃ys,Lc l ys∧xs=1::ys)
theorem wX{h a:ac}{b:UInt8}(hb:a[h.size]? =some (.cells #[.int .u8 (b.toNat:Int)] bX (0,0))):OwnS m8 1 bX (fun y=>h.size≤y) a ⟨some ⟨h.size,0,none⟩,1,1⟩ [b]:=⟨rfl,rt,aj _,.inr ⟨h.size,[],rfl,aj _,hb,rfl⟩⟩
theorem Aw{W:Nat→Prop}{x:Hs}{h:ac}{kind:Int}{t:Tr}{l:List Pr}(i:TreeIs W h kind x t l)(C:dL l)(k:Fit l)(p:l.length≤60000){K:SliceV→ac→Prop}
  (B:∀s' h' xs,FU kind x l xs→OwnS m8 1 bX (fun y=>h.size≤y) h' s' xs→Upd No h h'→K s' h'):HC PG iM [Hm t] [.c .slice] K h:=by
 refine zH t ?_;unfold sA az ad ag ol vr;refine aV fun m b1 k1=>?_
 have G:=k1.size;have app:∀{b:UInt8} {d e:ac} {s:SliceV} {xs:List UInt8},d[m.size]? =some (.cells #[.int .u8 (b.toNat:Int)] bX (0,0))→Upd No m d→OwnS m8 1 bX (fun y=>d.size≤y) e s xs→Upd No d e→xs.length≤70000000000000→FU kind x l (b::xs)→
   ∃xs7,SRow e s.a (s.len*1) xs7∧AppP (some [.int .u8 0]) 1 1 bX (some (aH m)) 1 1 s.len xs7 e (fun D A=>K D A):=fun{b d e s xs} hb a v f I hv=>by
  refine⟨_,(v.sl (W:=No) fun _ _ _ h=>h).srow,?_⟩
  have j:=a.tr f;have H:=bF hb;have E:OwnS m8 1 bX (fun y=>h.size≤y) e ⟨some ⟨m.size,0,none⟩,1,1⟩ [b]:=((wX hb).upd f fun _ _ h=>h).more fun y o=>by omega
  refine AppP.own (ys:=xs) E v.len rfl (y7 _) rfl (by omega) (by simp only[aD];omega) (by have:=j.size;omega) fun s' h' n u=>?_
  exact B s' h' _ hv n ((k1.tr j).trans u fun y o=>.inr o)
 rcases i with⟨rfl,b,rfl,t⟩|⟨rfl,b,rfl,t⟩
 ·refine⟨_,vc b1 0,ah.2 (aV fun d b2 a=>?_)⟩
  have c1:=a.get0 b1;refine⟨_,vc c1 0,_,vc c1 1,_,vc c1 2,_,vc c1 3,_,vc c1 4,_,vc c1 5,?_⟩;refine MV (TrieAt.upd0 (k1.tr a) t) fun e f=>?_
  refine QT (TrieAt.upd0 ((k1.tr a).tr f) t) k p fun w z c q=>?_
  have F:=f.size;have g:=mH (x:=x) 13 k;have hb:l.length*(20004+9*(13+1))≤60000*(20004+9*(13+1)):=bP _ p;exact app (b:=0) b2 a (c.more fun y o=>by omega) (f.tr q) (by omega) (.inl ⟨rfl,rfl⟩)
 ·refine⟨_,vc b1 0,ay.2 (aV fun d b2 a=>?_)⟩
  have c1:=a.get0 b1;refine⟨_,vc c1 5,?_⟩;refine HU (t.upd0 (k1.tr a)) C k p fun w z xs hv c q=>?_
  have g:=y5 hv k;have hb:2*l.length*20010≤2*60000*20010:=bP _ (by omega);exact app (b:=1) b2 a c q (by omega) (.inr ⟨rfl,xs,hv,rfl⟩)
theorem Nr{W W':Nat→Prop}{h h':ac}{kind a:Int}{x d:Hs}{t u:Tr}{l l':List Pr}(i:TreeIs W h kind x t l)(e:TreeIs W' h' a d u l')(c:qq t u=true):kind=a∧(kind=0→x=d):=by
 rcases i with⟨rfl,b,rfl,_⟩|⟨rfl,b,rfl,_⟩<;>rcases e with⟨rfl,b',rfl,_⟩|⟨rfl,b',rfl,_⟩
 ·refine⟨rfl,fun _=>?_⟩
  unfold qq at c;simp only[Bool.and_eq_true,beq_iff_eq,Bool.and_true,true_and]at c;cases x;cases d;simp only at c;simp only[Hs.mk.injEq];exact⟨c.1.1,c.1.2,c.2⟩
 ·simp[qq]at c
 ·simp[qq]at c
 ·exact⟨rfl,fun h=>by cases h⟩
theorem HF{kind:Int}{x d:Hs}(hx:kind=0→x=d){l l':List Pr}{xs b:List UInt8}(hv:FU kind x l xs)(a:FU kind d l' b)(i:Fit l)(c:Fit l')(k:l.length≤60000)(f:l'.length≤60000)(m:dL l)(g:dL l'):xs=b↔l=l':=by
 rcases hv with⟨rfl,rfl⟩|⟨rfl,ys,hv,rfl⟩<;>rcases a with⟨e,rfl⟩|⟨e,j,a,rfl⟩
 ·rw[hx rfl]
  constructor
  ·intro h
   have h:d8 d 13 l++ []=d8 d 13 l'++ []:=by rw[(fj.inj h).2]
   exact(C2 13 i c k f m g h).1
  ·rintro rfl;rfl
 ·cases e
 ·cases e
 ·rw[fj.injEq,←QZ hv a i c]
  exact⟨fun h=>h.2,fun h=>⟨rfl,h⟩⟩
theorem OI{W W':Nat→Prop}{x C:Hs}{h:ac}{kind b:Int}{t u:Tr}{l l':List Pr}(i:TreeIs W h kind x t l)(v:TreeIs W' h b C u l')(y:dL l)(w:Fit l)(s:l.length≤60000)(g:dL l')(j:Fit l')(f:l'.length≤60000){K:Bool→ac→Prop}
  (k:∀h',Upd No h h'→K (qq t u&&decide (l=l')) h'):HC PG vY [Hm t,Hm u] [.c .bool] K h:=by
 refine IQ t u ?_;unfold BQ az ad ag ol vr w8;refine aV fun H b1 k1=>aV fun G b2 A=>?_
 have c1:=A.get0 b1;refine⟨_,vc c1 0,_,vc c1 1,_,vc c1 2,_,vc c1 3,_,vc c1 4,_,vc c1 5,_,vc b2 0,_,vc b2 1,_,vc b2 2,_,vc b2 3,_,vc b2 4,_,vc b2 5,?_⟩;refine yW fun D n=>?_
 have a:=(k1.tr A).tr n;have c:=n.get0 c1;have b3:=n.get0 b2;rcases hl:qq t u with _|_
 ·rw[hl]at k
  exact ah.2 (k D a)
 ·rw[hl]at k
  refine ay.2 ⟨_,vc c 0,_,vc c 1,_,vc c 2,_,vc c 3,_,vc c 4,_,vc c 5,_,vc b3 0,_,vc b3 1,_,vc b3 2,_,vc b3 3,_,vc b3 4,_,vc b3 5,?_⟩;refine Aw (i.upd0 a) y w s fun E F xs hv p q=>?_
  have d:=q.get0 b3;refine⟨⟨vc d 0,vc d 1,vc d 2,vc d 3,vc d 4,vc d 5⟩,?_⟩;refine Aw (v.upd0 (a.tr q)) g j f fun I B ys m o z=>?_
  have e:=p.upd z fun _ _ h=>h
  refine K4 (W:=No) (W':=No) (e.sl fun _ _ _ h=>h) (o.sl fun _ _ _ h=>h) ?_
  obtain⟨rfl,hx⟩:=Nr i v hl;have:=k B ((a.tr q).tr z);rw[decide_eq_decide.2 (HF hx hv m w j s f y g)];exact this
theorem TreeIs.plain{W:Nat→Prop}{h:ac}{kind:Int}{x:Hs}{t:Tr}{l:List Pr}(i:TreeIs W h kind x t l):(∀a,t.2.2.2.2.1=some a→f8 h a)∧(∀a,t.2.2.2.2.2=some a→f8 h a):=by
 rcases i with⟨rfl,b,rfl,t⟩|⟨rfl,b,rfl,t⟩
 ·obtain⟨s,nd,_⟩:=t
  obtain⟨d,n,sp,sk,ow,hb,_⟩:=nd.ex;refine⟨fun a c=>?_,fun a c=>(by cases c)⟩
  cases c;exact⟨_,_,hb,show 0<6 by decide⟩
 ·obtain⟨w,F,⟨val,s,ow,ks,hb,_⟩,_⟩:=t.ex
  refine⟨fun a c=>(by cases c),fun a c=>?_⟩
  cases c;exact⟨_,_,hb,show 0<5 by decide⟩
end Go.Proofs
namespace Go.Proofs
open Go Go.Lift
abbrev kStr:KeyE ByteArray:=⟨fun s=>.string s,.str,fun x=>⟨x,rfl⟩,fun x y=>⟨fun e=>u0 e,fun e=>by subst e;exact ww x⟩⟩
abbrev TD:=Tr×List Pr
abbrev Te(d:TD):Value:=Hm d.1
abbrev Pq(n:Int):Value:=.int .u32 n
structure VS where
 gp:Nat
 gm:Nat
 tm:Nat
 bm:Nat
 nm:Nat
 kind:Int
 x:Hs
 e:Tr
 L:de
 nx:Int
 D:List (Int×TD)
 B:List (ByteArray×Int)
 G:List (ByteArray×Int)
def VS.M(s:VS):Nat→Prop:=fun y=>y=s.gp∨y=s.gm∨y=s.tm∨y=s.bm∨y=s.nm
structure VaultAt(W:Nat→Prop)(h:ac)(vp:Nat)(s:VS):Prop where
 blk:h[vp]? =some (.cells (kG s.e++ [Value.pointer (some ⟨s.gp,0,none⟩),Value.map (some s.tm),Value.map (some s.bm),Value.map (some s.nm)]).toArray bR (0,0))
 g:GraphAt W h s.gp s.gm s.L s.nx
 t:MapAt KE Te h s.tm s.D
 b:MapAt kStr Pq h s.bm s.B
 n:MapAt kStr Pq h s.nm s.G
 w:∀y,s.M y→W y
 wv:¬W vp
 ne: [s.gp,s.gm,s.tm,s.bm,s.nm].Nodup
 em:TreeIs W h s.kind s.x s.e []
 ts:∀d∈s.D,TreeIs W h s.kind s.x d.2.1 d.2.2∧dL d.2.2∧Fit d.2.2
 sub:∀id,id∈s.D.map (·.1)↔id∈kC s.L
 inv:Inv s.L s.nx
 kd:s.kind=0∨s.kind=1
theorem VaultAt.upd{W M:Nat→Prop}{h h':ac}{a:Nat}{s:VS}(v:VaultAt W h a s)(k:Upd M h h')(hm:∀b,M b→(W b∧¬s.M b)∨h.size≤b):VaultAt W h' a s:=by
 have f:∀y,s.M y→¬M y:=fun y i hb=>(hm y hb).elim (fun e=>e.2 i) fun e=>absurd (v.g.lt y (v.w y i)) (by omega)
 have g:∀b,M b→W b∨h.size≤b:=fun b hb=>(hm b hb).imp (·.1) id
 have hv:¬M a:=fun hb=>(hm a hb).elim (fun e=>v.wv e.1) fun e=>absurd (bF v.blk) (by omega)
 exact⟨k.get v.blk hv,v.g.upd k fun b hb=>(hm b hb).imp (fun e=>⟨e.1,fun c=>e.2 (.inl c),fun c=>e.2 (.inr (.inl c))⟩) id,v.t.upd k (f _ (.inr (.inr (.inl rfl)))),v.b.upd k (f _ (.inr (.inr (.inr (.inl rfl))))),v.n.upd k (f _ (.inr (.inr (.inr (.inr rfl))))),v.w,v.wv,v.ne,v.em.updM k g,fun d hd=>⟨(v.ts d hd).1.updM k g,(v.ts d hd).2⟩,v.sub,v.inv,v.kd⟩
theorem VaultAt.upd0{W:Nat→Prop}{h h':ac}{a:Nat}{s:VS}(v:VaultAt W h a s)(k:Upd No h h'):VaultAt W h' a s:=v.upd k fun _ h=>h.elim
end Go.Proofs
namespace Go.Proofs
open Go Go.Lift
theorem GE{h:ac}{r:Nat}{es:Array MapEntry}{a:Nat}(t:TypeId)(f:h[r]? =some (.map es a)) {K:Value→ac→Prop} (b:K (.iface t (.map (some h.size))) (h.push (.map es a))):
  HC PG uJ [.iface t (.map (some r))] [.c .raw] K h:=by
 refine⟨fun w d=>.inr ?_⟩
 subst d;have c:(getObj r).run PG w=.ok (.map es a) w:=by simp[getObj,Sem.run,f]
 refine⟨.iface t (.map (some w.heap.size)),w.alloc (.map es a),?_,⟨rfl,rfl,rfl⟩,_,rfl,b⟩;rw[G4];have e:Extern.MapsClone.clone #[.iface t (.map (some r))]=(getObj r>>=fun o=>match o with
   | .map entries a=>(newObj (.map entries a)>>=fun n=>pure (.iface t (.map (some n))))
   |_=>stuck "maps.clone: a map expected"):=rfl
 rw[show([Value.iface t (.map (some r))]:List Value).toArray= #[.iface t (.map (some r))]from rfl,e]
 simp only[Sem.run_bind,c,Result.andThen_ok];rfl
theorem Py{W:Nat→Prop}{h:ac}{gp gm:Nat}{L:de}{nx:Int}(g:GraphAt W h gp gm L nx)
  {K:Option Addr→ac→Prop}(o:∀h',Upd No h h'→GraphAt (fun b=>W b∨b=h.size+1∨b=h.size) h' gp gm L nx→GraphAt (fun b=>W b∨b=h.size+1∨b=h.size) h' (h.size+1) h.size L nx→K (some ⟨h.size+1,0,none⟩) h'):
  HC PG mO [.pointer (some ⟨gp,0,none⟩)] [.c .ptr] K h:=by
 refine yG (some ⟨gp,0,none⟩) ?_;unfold rJ aR ci;refine CondP.intro (fun e=>by cases e) fun _=>⟨_,rfl,_,g.c0,_,rfl,_,g.c1,?_⟩
 refine mU (some gm) ?_;unfold ia;refine CondP.intro (fun e=>by cases e) fun _=>?_
 obtain⟨m,⟨ms,a,hm,x⟩,w⟩:=g.map;refine GE _ hm.here ⟨_,rfl,?_⟩;have k1:=Upd.push No h (.map (ms.map (AJ KE sv)).toArray a);have c:MapAt KE sv (h.push (.map (ms.map (AJ KE sv)).toArray a)) h.size m:=⟨ms,a,⟨tL h _,hm.keys,hm.nums,hm.old⟩,x⟩;refine⟨(g.upd0 k1).c1,?_⟩;have d:(h.push (.map (ms.map (AJ KE sv)).toArray a)).size=h.size+1:=by simp
 generalize (h.push (.map (ms.map (AJ KE sv)).toArray a))=h1 at k1 c d;have f:=Upd.hnew No h1 [.map (some h.size),.int .u32 nx] fY;have b2:=bG h1 [.map (some h.size),.int .u32 nx] fY;have p:=eI h1 [.map (some h.size),.int .u32 nx] fY;simp only[At,bZ];rw[d]at b2⊢;generalize hnew h1 [.map (some h.size),.int .u32 nx] fY=h2 at f b2 p
 have k:=k1.tr f;have n:∀b,(b=h.size+1∨b=h.size)→h.size≤b∧b<h2.size:=fun b hb=>by omega
 have i:=g.more (Q:=fun b=>b=h.size+1∨b=h.size) k n
 refine⟨((g.upd0 k1).upd0 f).c1,o h2 k i ⟨b2,⟨m,c.upd f id,?_⟩,.inr (.inl rfl),.inr (.inr rfl),i.lt,g.nd⟩⟩;intro j;rcases w j with⟨s,ps,v,u,t⟩|q
 ·exact .inl ⟨s,ps,v,u,(t.less fun b hb=>hb.imp id fun hb=>(n b hb).1).upd k fun _ h=>h.elim⟩
 ·exact .inr q
end Go.Proofs
