/- A part of the proof that the named laws of this program answer true, whatever the input. -/
import Derived.Test.YtcpiahjlddmfiaaGreatPart3
import Derived.Test.YtcpiahjlddmfiaaGreatPart1
open Array renaming toList_inj→lm
open ByteArray renaming data_extract→kF,mk→kE
open Int renaming toNat_natCast→aM
open List renaming extract_eq_take_drop→ec,length_drop→aH,getElem_mem→bK,length→fj,length_nil→cQ,take_length→bJ,take_append_drop→bC,mem_append→aS,mem_map→cn,pairwise_append→cd,mem_cons_self→aq,pairwise_cons→bf,mem_cons→ao,lt_irrefl→nq,mem_cons_of_mem→aC,length_append→ae,length_map→fP,length_cons→aI,length_singleton→aN,append_nil→bW,flatMap_cons→aD,append_assoc→aj,cons_append→cR,cons→gu,flatMap_append→bo
open List.Pairwise renaming nil→dV
open Nat renaming le_of_eq→db,zero_le→bB,le_refl→ar,zero_add→aw,lt_or_ge→cj,lt_irrefl→lx,lt_of_lt_of_le→aK,add_mul→jW,mul_le_mul_right→cN
open Option renaming some→bv,map_eq_some_iff→kz
open Prod renaming mk→mE
namespace Go.Proofs
open Go Go.Lift
theorem A2{b:Nat}{h:ac}{K:Bool→ac→Prop}(a:K false h):HC PG jM [.pointer (some ⟨b,0,none⟩),.pointer none] [.c .bool] K h:=by
 refine sK _ none ?_;unfold na dw;exact aA.2 (qr (ak.2 a))
abbrev HT:List Value:= [.string (⟨#[]⟩:ByteArray),.bool false,.string (⟨#[]⟩:ByteArray),.slice none 0 0,.pointer none]
theorem oO{W:Nat→Prop}{h:ac}{b:Nat}{sl val:ByteArray}{has:Bool}{s:SliceV}{ow:Option Addr}{ks:List (Option Addr)}(d:h[b]? =some (.cells (yq sl has val s ow) bd (0,0))) (w:Sl vB 1 W h s ks) (E:ks.length≤256) {K:Option Addr→ac→Prop}
  (z:∀h' s',h'[h.size]? =some (.cells (yq sl has val s' none) bd (0,0))→OwnS vB 1 ba (fun x=>h.size<x∧x<h'.size) h' s' ks→Upd No h h'→K (some ⟨h.size,0,none⟩) h'):
  HC PG dG [.pointer (some ⟨b,0,none⟩),.pointer none] [.c .ptr] K h:=by
 refine vh _ none ?_;unfold pc dw eH nv vt dL kI co AK IZ;refine A2 (ak.2 ?_);refine⟨_,rfl,sl,eN (i:=0) d,has,eN (i:=1) d,val,eN (i:=2) d,s,eN (i:=3) d,ow,eN (i:=4) d,aR ?_⟩;have k1:=Upd.hnew No h HT bd;have b1:=bh h HT bd;simp only[bS h];generalize hnew h [.string (⟨#[]⟩:ByteArray),.bool false,.string (⟨#[]⟩:ByteArray),.slice none 0 0,.pointer none] bd=h1 at k1 b1
 refine ei (c:=HT) (vs:= [.string sl,.bool has,.string val,.slice s.a s.len s.cap,.pointer ow]) b1 rfl fun u b2 m=>?_
 have o:Upd No h u:=k1.trans m fun x hx=>.inr (db hx.symm)
 have y:h.size<u.size:=bG b2;have j:=o.get0 d;refine⟨_,rfl,s,eN (i:=3) j,?_⟩;refine EI (w.upd o fun _ h=>h.elim) (by omega) fun k B n f=>?_
 have b3:B[h.size]? =some (.cells (yq sl has val s ow) bd (0,0)):=f.get0 b2;refine⟨Ii (i:=3) b3 (show 3<5 by decide),Ci (i:=3) (c':=yq sl has val k ow) b3 rfl fun D v p=>?_⟩
 refine⟨Ii (i:=4) v (show 4<5 by decide),Ci (i:=4) (c':=yq sl has val k none) v rfl fun t A q=>?_⟩
 refine qr (ak.2 ?_);have a:=p.tr q;have C:=a.size;have g:=(n.within.upd a fun x hx e=>by have e:x=h.size:=e;have:=hx.1;omega).more (M':=fun x=>h.size<x∧x<t.size) fun x hx=>⟨by have:=hx.1;omega,by have:=hx.2;omega⟩
 exact z t k A g ((o.tr f).trans a fun x hx=>.inr (db hx.symm))
theorem r8{h:ac}{b:Nat}{sl nl:ByteArray}{has:Bool}{val:ByteArray}{s:SliceV}{ow:Option Addr}(a:h[b]? =some (.cells (yq sl has val s ow) bd (0,0))) {K:Option Addr→ac→Prop}
  (c:∀h',h'[b]? =some (.cells (yq nl has val s ow) bd (0,0))→Upd (· =b) h h'→K (some ⟨b,0,none⟩) h'):HC PG ft [.pointer (some ⟨b,0,none⟩),.string nl] [.c .ptr] K h:=by
 refine sJ _ nl ?_;unfold m9 dL;exact⟨_,rfl,Ii (i:=0) a (show 0<5 by decide),Ci (i:=0) (c':=yq nl has val s ow) a rfl c⟩
theorem vA{h:ac}{b:Nat}{sl v:ByteArray}{has:Bool}{val:ByteArray}{s:SliceV}{ow:Option Addr}(d:h[b]? =some (.cells (yq sl has val s ow) bd (0,0))) {K:Option Addr→ac→Prop}
  (e:∀h',h'[b]? =some (.cells (yq sl true v s ow) bd (0,0))→Upd (· =b) h h'→K (some ⟨b,0,none⟩) h'):HC PG f7 [.pointer (some ⟨b,0,none⟩),.string v] [.c .ptr] K h:=by
 refine rq _ v ?_;unfold mn dL;exact⟨_,rfl,Ii (i:=1) d (show 1<5 by decide),Ci (i:=1) (c':=yq sl true val s ow) d rfl fun g b1 a=>⟨_,rfl,Ii (i:=2) b1 (show 2<5 by decide),Ci (i:=2) (c':=yq sl true v s ow) b1 rfl fun f b2 c=>e f b2 (a.tr c)⟩⟩
theorem Cg{h:ac}{k v:ByteArray}{K:Option Addr→ac→Prop}(i:∀h' b s,h'[b]? =some (.cells (yq k true v s none) bd (0,0))→s.len=0→s.len≤s.cap→h.size≤b→Upd No h h'→K (some ⟨b,0,none⟩) h'):HC PG oA [.pointer none,.string k,.string v] [.c .ptr] K h:=by
 refine yD none k v ?_;unfold rP wC vt AK;have k1:=Upd.hnew No h HT bd;have b1:=bh h HT bd;refine aR ?_;simp only[bS h];generalize hnew h [.string (⟨#[]⟩:ByteArray),.bool false,.string (⟨#[]⟩:ByteArray),.slice none 0 0,.pointer none] bd=h1 at k1 b1;refine oO (W:=No) (ks:= []) (sl:=⟨#[]⟩) (val:=⟨#[]⟩) (has:=false) (s:=⟨none,0,0⟩) (ow:=none) b1 (Sl.nil mJ) (bB _) fun o s b2 a c=>?_
 refine r8 (nl:=k) b2 fun n b3 e=>vA (v:=v) b3 fun j m f=>?_
 have d:=e.tr f;have z:=c.size;have g:=k1.size;refine i j h1.size s m a.len a.cap g ((k1.tr c).trans d fun x hx=>.inr (by have hx:x=h1.size:=hx;omega))
theorem Jh{W:Nat→Prop}{h:ac}{b:Nat}{k v:ByteArray}{s:SliceV}{ow:Option Addr}(a:h[b]? =some (.cells (yq k true v s ow) bd (0,0))) (c:s.len=0) (hc:s.len≤s.cap) (nw:¬W b):RxN W h b k (some v) .nil:=
 ⟨v,s,ow,[],a,rfl,⟨c,mJ,fun h=>absurd rfl h⟩,⟨hc,nw⟩,rfl⟩
theorem BD(s:ByteArray)(c:Nat):(s.extract 0 c).data.toList=s.data.toList.take c:=by
 rw[kF,Array.toList_extract,ec];simp
theorem BE(s:ByteArray)(c:Nat):(s.extract c s.size).data.toList=s.data.toList.drop c:=by
 rw[kF,Array.toList_extract,ec,List.take_of_length_le];rw[aH];simp
theorem Cf{W:Nat→Prop}{h:ac}{b:Nat}{sl:ByteArray}{w:Option ByteArray}{F:Fo}(r:RxN W h b sl w F)(A:∀y,W y→y<h.size)(Z:F.toL.length≤256){c:Nat}(hc:c≤sl.size){K:Option Addr→ac→Prop}
  (X:∀h' b',RxN W h' b' (sl.extract 0 c) none (.cons (sl.data.toList.drop c) w F .nil)→Upd No h h'→K (some ⟨b',0,none⟩) h'):HC PG jL [.pointer (some ⟨b,0,none⟩),.pointer none,.int .i64 c] [.c .ptr] K h:=by
 refine sI _ none c ?_;unfold m8 eH wC vt dL AK;obtain⟨val,s,ow,ks,L,U,S,N,O⟩:=r;have lab:∀{h'},Upd No h h'→bc h' (adr ⟨b,0,none⟩ 0)=some (.string sl):=fun k=>eN (i:=0) (k.get0 L)
 have V:=Upd.refl No h;refine⟨_,rfl,sl,lab V,⟨by omega,by omega⟩,aR ?_⟩
 have k1:=Upd.hnew No h HT bd;have b1:=bh h HT bd;simp only[bS h];generalize hnew h [.string (⟨#[]⟩:ByteArray),.bool false,.string (⟨#[]⟩:ByteArray),.slice none 0 0,.pointer none] bd=h1 at k1 b1;refine⟨lab k1,?_⟩;refine oO (W:=No) (ks:= []) (sl:=⟨#[]⟩) (val:=⟨#[]⟩) (has:=false) (s:=⟨none,0,0⟩) (ow:=none) b1 (Sl.nil mJ) (bB _) fun h2 Q b2 _ q=>⟨lab (k1.tr q),?_⟩
 rw[aM];refine r8 b2 fun d b3 B=>?_
 have z1:=k1.size;have a:Upd No h d:=(k1.tr q).trans B fun x hx=>.inr (by have hx:x=h1.size:=hx;omega)
 refine oO (a.get0 L) (S.upd a fun _ h=>h.elim) (by rw[(ns.1 O).1];exact Z) fun h4 Y P D z=>?_
 refine⟨_,rfl,sl,eN (i:=0) P,⟨by omega,by omega⟩,?_⟩
 refine r8 (nl:=sl.extract c sl.size) P fun f b5 n=>?_
 have m:Upd No h f:=(a.tr z).trans n fun x hx=>.inr (by have hx:x=d.size:=hx;have:=a.size;omega)
 have G:=D.upd n fun x hx e=>by have e:x=d.size:=e;have:=hx.1;omega
 have hb3:=bG b3;have o:f[h1.size]? =some (.cells (yq (sl.extract 0 c) false ⟨#[]⟩ Q none) bd (0,0)):=n.get (z.get0 b3) (by show ¬h1.size=d.size;omega);have t:=Upd.hnew No f [.pointer (some ⟨d.size,0,none⟩)] ba;have J:=bh f [.pointer (some ⟨d.size,0,none⟩)] ba;have R:=m.size;have T:=a.size;refine aR ?_;simp only[bS f]
 generalize hnew f [.pointer (some ⟨d.size,0,none⟩)] ba=h6 at t J;have p:=t.get0 o;have I:=bG o;refine⟨_,rfl,Ii (i:=3) p (show 3<5 by decide),Ci (i:=3) (c':=yq (sl.extract 0 c) false ⟨#[]⟩ ⟨some ⟨f.size,0,none⟩,1,1⟩ none) p rfl fun E b7 g=>?_⟩
 have j:Upd No h E:=(m.tr t).trans g fun x hx=>.inr (by have hx:x=h1.size:=hx;omega)
 have H:E[f.size]? =some (.cells #[.pointer (some ⟨d.size,0,none⟩)] ba (0,0)):=g.get J (by show ¬f.size=h1.size;omega);have C:=g.get (t.get0 b5) (by show ¬d.size=h1.size;omega);have u:=(G.upd t fun _ _ h=>h).upd g fun x hx e=>by have e:x=h1.size:=e;have:=hx.1;omega
 refine X E h1.size ⟨⟨#[]⟩,_,none,[some ⟨d.size,0,none⟩],b7,rfl,⟨rfl,mJ,fun _=>⟨_,rfl,(fun hx=>by have hx:W f.size:=hx;have:=A _ hx;omega),nu H fun i v hi=>?_⟩⟩,⟨ar _,fun hx=>by have:=A _ hx;omega⟩,?_⟩ j
 ·rw[aw]
  rw[←List.getElem?_toArray]at hi;exact hi
 ·refine⟨d.size,sl.extract c sl.size,val,Y,none,ks,[],rfl,BE ..,C,U,u.sl (fun x hx _ hw=>by have:=A _ hw;have:=hx.1;omega),⟨u.cap,fun hx=>by have:=A _ hx;omega⟩,RxF.upd0 j O,rfl⟩
end Go.Proofs
namespace Go.Proofs
open Go Go.Lift
theorem Gi:∀{x y:List UInt8} {i:Nat},i≤x.length→i≤y.length→(∀j,j<i→x[j]? =y[j]?)→(i=x.length∨i=y.length∨x[i]?≠y[i]?)→cm x y=i
 | [],_,i,h1,_,_,_=>by simp at h1;simp[cm,h1]
 |_::_,[],i,_,h2,_,_=>by simp at h2;simp[cm,h2]
 |a::x,b::y,0,_,_,_,h=>by
  unfold cm;rw[if_neg];rintro rfl;rcases h with h|h|h<;>simp at h
 |a::x,b::y,i+1,h1,h2,h3,h4=>by
  have:=h3 0 (by omega);simp only[List.getElem?_cons_zero,bv.injEq]at this;unfold cm;rw[if_pos this,Gi (i:=i) (by simpa using h1) (by simpa using h2) (fun j c=>by simpa using h3 (j+1) (by omega)) (by simpa using h4)]
theorem EG{a b:ByteArray}(A:a.size≤1000000){h:ac}{K:Int→ac→Prop}(n:K (cm a.data.toList b.data.toList:Nat) h):HC PG oz [.string a,.string b] [.c (.int .i64)] K h:=by
 refine yB a b ?_;unfold rN;simp only[Bd];have g:(if(b.size:Int)<(a.size:Int)then(b.size:Int)else(a.size:Int))=((min a.size b.size:Nat):Int):=by split<;>omega
 rw[g];have y:a.data.toList.length=a.size:=by simp
 have z:b.data.toList.length=b.size:=by simp
 refine LoopP.ghost (fun(i:Nat) (t:Int) h'=>t=(i:Int)∧i≤min a.size b.size∧h'=h∧∀j,j<i→a.data.toList[j]? =b.data.toList[j]?) (fun i=>min a.size b.size-i) 0 ⟨rfl,bB _,rfl,fun j u=>absurd u (Nat.not_lt_zero _)⟩ ?_
 rintro I i t h' ⟨rfl,hi,rfl,o⟩ x;refine aU (fun c=>?_) fun w=>?_
 ·have c:i<min a.size b.size:=by omega
  have f:i<a.size:=by omega
  have m:i<b.size:=by omega
  refine⟨a[i],by omega,by rw[aM,getElem?_pos a i f],b[i],by omega,by rw[aM,getElem?_pos b i m],?_⟩
  have v:a.data.toList[i]? =some a[i]:=by rw[←Iy,getElem?_pos a i f]
  have q:b.data.toList[i]? =some b[i]:=by rw[←Iy,getElem?_pos b i m]
  refine CondP.intro (fun k=>?_) fun d=>?_
  ·rw[Gi (i:=i) (by omega) (by omega) o (.inr (.inr fun e=>?_))]at n
   ·exact n
   ·rw[v,q]at e
    rw[bv.inj e]at k;simp at k
  ·have d:a[i]=b[i]:=by
    have:((a[i].toNat:Int))=(b[i].toNat:Int):=by simpa using d
    exact UInt8.toNat_inj.1 (by omega)
   rw[dg c (by omega)];refine x (i+1) _ _ ⟨rfl,c,rfl,fun j u=>?_⟩ (by omega)
   rcases cj j i with s|s
   ·exact o j s
   ·have:j=i:=by omega
    subst this;rw[v,q,d]
 ·have p:i=min a.size b.size:=by omega
  rw[Gi (i:=i) (by omega) (by omega) o (by omega)]at n;rw[←p];exact n
theorem Ek{F:Fo}{i:Nat}{k:List UInt8}{v:ByteArray}(h:ff F)(hi:i<F.toL.length)(ek:hd F.toL[i].1=hd k)(a:oF (vd F.toL[i]) (vd F.toL[i]) k v):oF (qc F) (qc F) k v:=by
 have:=Be h hi ek a;rw[List.set_getElem_self,Fo.of_to]at this;exact this
theorem FJ{P Q a:List UInt8→ByteArray→Prop}{k:List UInt8}{v:ByteArray}(h:oF P a k v)(e:∀k v,P k v↔Q k v):oF Q a k v:=fun k' c=>by rw[h k' c,e]
set_option maxHeartbeats 1000000 in
theorem FC{W:Nat→Prop}:∀(n:Nat) {b:Nat} {sl:ByteArray} {w:Option ByteArray} {F:Fo} {h:ac} (k v:ByteArray),k.size<n→k.size≤1000000→RxN W h b sl w F→(∀y,W y→y<h.size)→ff F→∀{K:(Option Addr)×Bool×Bool→ac→Prop},
  (∀h' b' w' F' C ch,Upd No h h'→RxN W h' b' sl w' F'→ff F'→oF (rc w F) (rc w' F') k.data.toList v→(ch=false→b'=b∧w'=w∧F'=F)→(rc w F k.data.toList v→ch=false)→K (some ⟨b',0,none⟩,C,ch) h')→
  HC PG iS [.pointer (some ⟨b,0,none⟩),.pointer none,.string k,.string v] [.c .ptr,.c .bool,.c .bool] K h:=by
 intro n;induction n with
 |zero=>intro b sl w F h k v hk;omega
 |succ n ih=>
  intro b sl w F h k v G hk6 r hW hc K hk;refine vg (some ⟨b,0,none⟩) none k v ?_;unfold pa bA fc eH wC wY vt dL Fh kI co B6 H7 Fg;have hr:=r;obtain⟨val,s,ow,ks,Z,hv,hs,hcap,hF⟩:=r;have V:=ns.1 hF;have hn:=pE hc;have hcan:=eX.1 hc;rw[lM];refine aU (fun hk0=>?_) fun hk0=>?_
  ·have hke:k.data.toList= []:=by rw[hk0]
   rw[hke]at hk;refine Join.intro (fun t h'=>t=decide (w=some v)∧h'=h) (fun R hR=>⟨_,rfl,w.isSome,eN (i:=1) Z,?_⟩) ?_
   ·cases H:w with
    |none=>exact ak.2 (hR _ _ ⟨by rw[H];rfl,rfl⟩)
    |some u=>
     refine aA.2 ⟨_,rfl,val,eN (i:=2) Z,hR _ _ ⟨?_,rfl⟩⟩;rw[lM,vw hv u H,H];exact decide_eq_decide.2 ⟨fun e=>by rw[e],fun e=>bv.inj e⟩
   ·rintro t h' ⟨rfl,rfl⟩
    refine aU (fun e=>?_) fun e=>?_
    ·refine hk h' b w F false false (Upd.refl _ _) hr hc ?_ (fun _=>⟨rfl,rfl,rfl⟩) fun _=>rfl
     rw[e];exact yZ hc v
    ·refine⟨_,rfl,w.isSome,eN (i:=1) Z,?_⟩
     refine oO Z hs (by rw[V.1];exact hn) fun h1 s1 b1 ho1 z=>?_
     refine⟨eN (i:=1) (z.get0 Z),?_⟩;refine vA b1 fun B b2 A=>?_
     have d:Upd No h' B:=z.trans A fun x hx=>.inr (db (Eq.symm hx))
     refine⟨eN (i:=1) (d.get0 Z),?_⟩;have ho2:=ho1.upd A fun x hx e=>by have e:x=h'.size:=e;have:=hx.1;omega
     refine hk B h'.size (some v) F _ true d ⟨v,s1,none,ks,b2,rfl,ho2.sl (fun x hx _ H=>by have:=hW _ H;have:=hx.1;omega),⟨ho2.cap,fun hx=>lx _ (hW _ hx)⟩,RxF.upd0 d hF⟩ hc (yZ hc v) (fun h=>by cases h) fun o=>?_
     rcases o with⟨_,h⟩|h
     ·exact absurd h e
     ·exact absurd rfl (l0 hc h)
  ·have f:k.data.toList≠[]:=fun e=>hk0 (by cases k;exact congrArg kE (lm.1 e))
   obtain⟨c0,hc0,hc0e⟩:=F1 f;refine⟨c0,Int.le_refl _,hc0,?_⟩;have hlk:k.data.toList.length=k.size:=by simp
   refine Ee hr hc (c:=c0.toNat) (UInt8.toNat_lt _) fun i ok Y hlo hhi hok=>?_
   rw[hc0e]at hlo hhi hok;cases ok with
   |false=>
    have hno:∀hi:i<F.toL.length,hd F.toL[i].1≠hd k.data.toList:=fun hi e=>by have:=hok.2 ⟨hi,e⟩;cases this
    have hhi':∀j (hj:j<F.toL.length),i≤j→hd k.data.toList<hd F.toL[j].1:=fun j hj hij=>by
     have h1:=hhi j hj hij;rcases cj i j with X|X
     ·have B:=List.pairwise_iff_getElem.1 hcan.1 i j (by omega) hj X
      have h3:=hhi i (by omega) (ar _);omega
     ·have:i=j:=by omega
      subst this;have:=hno hj;omega
    obtain⟨hc',hp'⟩:=Em (v:=v) hc f hlo hhi';refine aA.2 ?_;refine oO Z hs (by rw[V.1];exact hn) fun h1 s1 b1 ho1 z=>?_
    refine⟨_,rfl,s1,eN (i:=3) b1,?_⟩;refine Cg fun B fb fs fb2 hf0 hfc hfb A=>⟨eN (i:=3) (A.get0 b1),aR ?_⟩
    have k3:=Upd.hnew No B [.pointer (some ⟨fb,0,none⟩)] ba;have b3:=bh B [.pointer (some ⟨fb,0,none⟩)] ba;have z3:(hnew B [.pointer (some ⟨fb,0,none⟩)] ba).size=B.size+1:=eO ..;simp only[bS B];generalize hnew B [.pointer (some ⟨fb,0,none⟩)] ba=h3 at k3 b3 z3;have E:=A.tr k3;refine⟨eN (i:=3) (E.get0 b1),?_⟩;have z1:=bG b1
    have z2:=A.size;have zf:=bG fb2;have ho3:=(ho1.upd E fun _ _ h=>h).more (M':=fun x=>(h.size<x∧x<h1.size)∨h3.size≤x) fun x hx=>.inl hx
    refine CM ho3 (k:=i) (by rw[V.1];exact Y) (by rw[V.1];omega) b3 (by rintro(h|h)<;>omega) (fun x hx=>.inr hx) fun s4 h4 T J=>?_
    have b4:=J.get (E.get0 b1) (by rintro(h|h)<;>omega)
    have f4:=J.get (k3.get0 fb2) (by rintro(h|h)<;>omega)
    refine⟨_,rfl,Ii (i:=3) b4 (show 3<5 by decide),Ci (i:=3) (c':=yq sl w.isSome val s4 none) b4 rfl fun h5 b5 hu5=>?_⟩
    have hu05:Upd No h h5:=((z.tr E).trans J fun x hx=>.inr (by have:=z.size;rcases hx with hx|hx<;>omega)).trans hu5 fun x hx=>.inr (db (Eq.symm hx))
    have ho5:=T.upd hu5 fun x hx e=>by have e:x=h.size:=e;rcases hx with hx|hx<;>omega
    have f5:=hu5.get f4 (by show ¬fb=h.size;omega);refine hk h5 h.size w _ true true hu05 ⟨val,s4,none,_,b5,hv,ho5.sl (fun x hx _ H=>by have:=hW _ H;rcases hx with hx|hx<;>omega),⟨ho5.cap,fun hx=>lx _ (hW _ hx)⟩,ns.2 (by rw[Fo.to_of];exact(V.upd0 hu05).ins i ⟨fb,k,rfl,rfl,Jh f5 hf0 hfc fun hx=>by have:=hW _ hx;omega⟩)⟩ hc' (uK f hp') (fun h=>by cases h) fun o=>?_
    rcases o with⟨h,_⟩|o
    ·exact absurd h f
    ·obtain⟨n',hn',e,_⟩:=pv hc o
     obtain⟨j,hj,rfl⟩:=List.getElem_of_mem hn';rcases cj j i with X|X
     ·have:=hlo j hj X;omega
     ·have:=hhi' j hj X;omega
   |true=>
    obtain⟨hi,I⟩:=hok.1 rfl;refine ak.2 ⟨_,rfl,s,eN (i:=3) Z,?_⟩;obtain⟨kb,ksl,hki,p,G⟩:=V.at hi;have hmem:F.toL[i]∈F.toL:=bK hi;have g:=hcan.2 _ hmem;obtain⟨a,ha,_,hvv⟩:=hs.at0 hki;have hslen:=hs.len;rw[V.1]at hslen;have hlt1:(i:Int)<((s.len:Nat):Int):=by omega
    refine⟨⟨by simp only;omega,hlt1⟩,a,ha,some ⟨kb,0,none⟩,hvv,_,rfl,?_⟩;obtain⟨kval,kss,kow,kks,hkb,_⟩:=id G;refine⟨ksl,eN (i:=0) hkb,EG hk6 ?_⟩;rw[p];have hc1:=IE f g.1 I.symm;have S:=HZ k.data.toList F.toL[i].1;have Q:=DS k.data.toList F.toL[i].1;have hcd:=DT k.data.toList F.toL[i].1;have hll:ksl.size=F.toL[i].1.length:=by rw[←p];simp
    have P:qc F k.data.toList v→vd F.toL[i] k.data.toList v:=fun o=>by
     obtain⟨n',hn',e,hN⟩:=pv hc o;rw[←Ao hc hn' hmem (by omega)];exact hN
    have hset:∀{w2:Option ByteArray} {F2:Fo} {nl:List UInt8},nl≠[]→hd nl=hd F.toL[i].1→ff F2→Br (rc w2 F2)→ff (.ofL (F.toL.set i (nl,w2,F2))):=fun h1 B h3 h4=>Hy hc hi ⟨h1,(Aq h3).2 h4,h3⟩ B
    have L:∀{m:Bn},oF (vd F.toL[i]) (vd m) k.data.toList v→oF (qc F) (qc (.ofL (F.toL.set i m))) k.data.toList v:=fun hp=>Be hc hi I hp
    have O:oF (vd F.toL[i]) (vd F.toL[i]) k.data.toList v→oF (qc F) (qc F) k.data.toList v:=Ek hc hi I;have hrset:∀{h':ac} {k':Option Addr} {m:Bn},Upd No h h'→Kid W h' k' m→RxL W h' (ks.set i k') (F.toL.set i m):=fun hu hkd=>(V.upd0 hu).set hi hkd
    generalize F.toL[i]=m at p G g hc1 S Q hcd hll P hset L O I;generalize hcc:cm k.data.toList m.1=c at hc1 S Q hcd;obtain⟨lab,wk,Fk⟩:=m;simp only at p G g S Q hcd hll I hset;refine Join.intro (fun t h'=>∃ub q wu Fu,t=some ⟨ub,0,none⟩∧Upd No h h'∧RxN W h' ub q wu Fu∧ff Fu∧q.data.toList=k.data.toList.take c∧(∀k' v',vd (q.data.toList,wu,Fu) k' v'↔vd (lab,wk,Fk) k' v')∧(∀w' F',ff F'→oF (rc wu Fu) (rc w' F') (k.data.toList.drop c) v→Br (rc w' F'))) (fun R hR=>⟨_,rfl,ksl,eN (i:=0) hkb,?_⟩) ?_
    ·refine aU (fun hlt=>?_) fun hge=>?_
     ·have hlt:c<lab.length:=by omega
      refine Cf G hW (pE g.2.2) (c:=c) (by omega) fun h1 ub rn z=>hR _ _ ⟨ub,_,none,_,rfl,z,rn,?_,?_,?_,?_⟩
      ·rw[p]
       refine⟨fun e=>?_,g.2.1,g.2.2,fun _ h=>by simp[Fo.toL]at h,trivial⟩
       have:=congrArg fj e;rw[aH,cQ]at this;omega
      ·rw[BD,p,Q]
      ·intro k' v'
       rw[BD,p];exact Ew c k' v'
      ·intro w' F' hcF hp
       rw[p]at hp;refine Gm (fun e=>?_) g.2.1 g.2.2 (fun hne=>?_) hp
       ·have:=congrArg fj e
        rw[aH,cQ]at this;omega
       ·refine hcd ?_ hlt
        rcases cj c k.data.toList.length with X|X
        ·exact X
        ·exact absurd (List.drop_eq_nil_of_le X) hne
     ·have hce:c=lab.length:=by omega
      refine hR _ _ ⟨kb,ksl,wk,Fk,rfl,Upd.refl _ _,G,g.2.2,?_,?_,?_⟩
      ·rw[p,Q,hce,bJ]
      ·intro k' v';rw[p]
      ·intro w' F' hcF hp
       exact HF ((Aq g.2.2).1 g.2.1) hp
    ·rintro t h1 ⟨ub,q,wu,Fu,rfl,z,rn,hcu,hsl,U,hbr⟩
     refine⟨⟨by omega,by omega⟩,?_⟩
     rw[aM];have hkd:(k.extract c k.size).data.toList=k.data.toList.drop c:=BE ..;have hks:(k.extract c k.size).size=k.size-c:=by simp
     have D:k.data.toList=q.data.toList++k.data.toList.drop c:=by rw[hsl,bC]
     have N:q.data.toList≠[]:=by
      rw[hsl];intro e;have:=congrArg fj e;rw[List.length_take,cQ]at this;omega
     have hslhd:hd q.data.toList=hd lab:=by
      rw[I];conv=>rhs;rw[D]
      rw[ox N]
     refine ih (k.extract c k.size) v (by rw[hks];omega) (by rw[hks];omega) rn (fun y hy=>aK (hW y hy) z.size) hcu fun B b2 w2 F2 C ch A rn2 hc2 hp2 hsm hch=>?_
     rw[hkd]at hp2 hch;have d:=z.tr A;have hpn:oF (vd (lab,wk,Fk)) (vd (q.data.toList,w2,F2)) k.data.toList v:=by
      have:=FJ (El (lab:=q.data.toList) hp2) U;rw[←D]at this;exact this
     have hchg:rc w F k.data.toList v→ch=false:=fun o=>by
      rcases o with⟨h,_⟩|o
      ·exact absurd h f
      ·obtain⟨r,e,hr'⟩:=(U _ _).2 (P o)
       simp only at e;rw[D]at e;have e2:=List.append_cancel_left e;rw[←D]at e;exact hch (by rw[e2];exact hr')
     cases ch with
     |false=>
      obtain⟨_,rfl,rfl⟩:=hsm rfl;refine aA.2 (hk B b w F false false d (hr.upd0 d) hc (uK f (O ?_)) (fun _=>⟨rfl,rfl,rfl⟩) fun _=>rfl)
      intro k' v';exact(U k' v').symm.trans (hpn k' v')
     |true=>
      refine ak.2 ?_;refine oO (d.get0 Z) (hs.upd d fun _ h=>h.elim) (by rw[V.1];exact hn) fun h3 s3 b3 ho3 hu3=>?_
      refine⟨_,rfl,s3,eN (i:=3) b3,?_⟩;have Y:i<ks.length:=by rw[V.1];exact hi
      obtain⟨a3,ha3,hab,hw3,T,J⟩:=OwnS.setAt ho3 Y (some ⟨b2,0,none⟩);have hlen3:=ho3.len;refine⟨⟨by simp only;omega,by simp only;omega⟩,a3,ha3,?_⟩
      have hw1:Wr h3 (adr a3 (i*1)):=by
       rcases hw3 with H|⟨b',hb',H⟩
       ·cases H
       ·cases hb';exact H 0 (by simp)
      refine⟨hw1,aR ?_⟩;have b4:=J.get b3 fun e=>by have e:B.size=a3.block:=e;have:=hab.1;omega
      have hu24:Upd No B _:=hu3.trans J fun x hx=>.inr (by have hx:x=a3.block:=hx;have:=hab.1;omega)
      have hu04:=d.tr hu24;have eset:ks.set i (some ⟨b2,0,none⟩)=ks.take i++some ⟨b2,0,none⟩::ks.drop (i+1):=by rw[List.set_eq_take_append_cons_drop,if_pos Y]
      rw[←eset]at T;exact hk _ B.size w _ C true hu04 ⟨val,s3,none,_,b4,hv,T.sl (fun x hx _ H=>by have:=hW _ H;have:=d.size;have:=hx.1;omega),⟨T.cap,fun hx=>by have:=hW _ hx;have:=d.size;omega⟩,ns.2 (by rw[Fo.to_of];exact hrset hu04 ⟨b2,q,rfl,rfl,rn2.upd0 hu24⟩)⟩ (hset N hslhd hc2 (hbr _ _ hc2 hp2)) (uK f (L hpn)) (fun h=>by cases h) hchg
end Go.Proofs
namespace Go.Proofs
open Go Go.Lift
def xt:Fo→List (List UInt8×ByteArray)
 | .nil=> []
 | .cons lab w kids rest=>((w.map fun v=>(([]:List UInt8),v)).toList++xt kids).map (fun p=>(lab++p.1,p.2))++xt rest
def wd(w:Option ByteArray)(F:Fo):List (List UInt8×ByteArray):=(w.map fun v=>(([]:List UInt8),v)).toList++xt F
theorem nB:∀{F:Fo} {k:List UInt8} {v:ByteArray},(k,v)∈xt F↔qc F k v
 | .nil,_,_=>by simp[xt,qc]
 | .cons lab w kids rest,k,v=>by
  unfold xt qc;rw[aS,nB (F:=rest)];refine or_congr ?_ Iff.rfl;rw[cn];constructor
  ·rintro⟨⟨r,u⟩,hm,c⟩
   simp only[mE.injEq]at c;obtain⟨rfl,rfl⟩:=c;refine⟨r,rfl,?_⟩;rcases aS.1 hm with h|h
   ·left
    rw[Option.mem_toList,kz]at h;obtain⟨a,d,c⟩:=h;simp only[mE.injEq]at c;exact⟨c.1.symm,by rw[d,c.2]⟩
   ·exact .inr (nB.1 h)
  ·rintro⟨r,rfl,h⟩
   refine⟨(r,v),aS.2 ?_,rfl⟩;rcases h with⟨rfl,h⟩|h
   ·left;rw[h];simp
   ·exact .inr (nB.2 h)
theorem oQ{w:Option ByteArray}{F:Fo}{k:List UInt8}{v:ByteArray}:(k,v)∈wd w F↔rc w F k v:=by
 unfold wd rc;rw[aS,nB];refine or_congr ?_ Iff.rfl;cases w with
 |none=>simp
 |some u=>simp[Prod.ext_iff,eq_comm]
abbrev Up(l:List (List UInt8×ByteArray)):Prop:=l.Pairwise fun p q=>p.1<q.1
theorem IL{a x y:List UInt8}(h:x<y):a++x<a++y:=by
 induction a with
 |nil=>exact h
 |cons c a ih=>exact List.Lex.cons ih
theorem F0{x y:List UInt8}(c:y≠[])(h:hd x<hd y):x<y:=by
 match x,y,c with
 | [],b::y,_=>exact List.Lex.nil
 |a::x,b::y,_=>exact List.Lex.rel (UInt8.lt_iff_toNat_lt.2 h)
theorem Ct:∀{F:Fo},ff F→Up (xt F)
 | .nil,_=>dV
 | .cons lab w kids rest,h=>by
  unfold xt;refine cd.2 ⟨?_,Ct h.2.2.2.2,?_⟩
  ·rw[List.pairwise_map]
   refine List.Pairwise.imp (R:=fun p q:List UInt8×ByteArray=>p.1<q.1) (fun i=>IL i) ?_
   refine cd.2 ⟨?_,Ct h.2.2.1,?_⟩
   ·cases w<;>simp
   ·intro a f b g
    have d:b.1≠[]:=l0 h.2.2.1 (nB (F:=kids).1 (show(b.1,b.2)∈_ from g))
    have j:a.1= []:=by
     rw[Option.mem_toList,kz]at f;obtain⟨v,_,e⟩:=f;rw[←e]
    rw[j];match b.1,d with
    |c::l,_=>exact List.Lex.nil
  ·intro a f b g
   obtain⟨p,_,rfl⟩:=cn.1 f;obtain⟨n,k,e,_⟩:=pv h.2.2.2.2 (nB (F:=rest).1 (show(b.1,b.2)∈_ from g))
   have d:b.1≠[]:=l0 h.2.2.2.2 (nB (F:=rest).1 (show(b.1,b.2)∈_ from g))
   have:=h.2.2.2.1 n k;exact F0 d (by rw[ox h.1];omega)
theorem G9{w:Option ByteArray}{F:Fo}(h:ff F):Up (wd w F):=by
 refine cd.2 ⟨by cases w<;>simp,Ct h,?_⟩
 intro a g b i;have f:b.1≠[]:=l0 h (nB (F:=F).1 (show(b.1,b.2)∈_ from i))
 have d:a.1= []:=by
  rw[Option.mem_toList,kz]at g;obtain⟨v,_,e⟩:=g;rw[←e]
 rw[d];match b.1,f with
 |c::l,_=>exact List.Lex.nil
theorem Fl:∀{l l':List (List UInt8×ByteArray)},Up l→Up l'→(∀p,p∈l↔p∈l')→l=l'
 | [],[],_,_,_=>rfl
 | [],q::l',_,_,h=>absurd ((h q).2 (aq ..)) (by simp)
 |p::l,[],_,_,h=>absurd ((h p).1 (aq ..)) (by simp)
 |p::l,q::l',f,a,h=>by
  have f:=bf.1 f;have a:=bf.1 a;have e:p=q:=by
   rcases ao.1 ((h p).1 (aq ..))with e|i
   ·exact e
   ·rcases ao.1 ((h q).2 (aq ..))with e|g
    ·exact e.symm
    ·exact absurd (List.lt_trans (f.1 q g) (a.1 p i)) (nq _)
  subst e;rw[Fl f.2 a.2 fun z=>?_]
  constructor
  ·intro d
   rcases ao.1 ((h z).1 (aC _ d))with e|c
   ·exact absurd (f.1 z d) (by rw[e];exact nq _)
   ·exact c
  ·intro d
   rcases ao.1 ((h z).2 (aC _ d))with e|c
   ·exact absurd (a.1 z d) (by rw[e];exact nq _)
   ·exact c
def BH:Fo→Nat
 | .nil=>0
 | .cons _ _ kids rest=>1+BH kids+BH rest
theorem An:∀{F:Fo},ff F→BH F+F.toL.length≤2*(xt F).length
 | .nil,_=>by simp[BH,Fo.toL]
 | .cons lab w kids rest,h=>by
  have d:=An h.2.2.1;have c:=An h.2.2.2.2;have a:=h.2.1;rw[Fo.toL_cons];unfold BH xt;rw[ae,fP,ae,aI];cases w with
  |none=>
   simp only[Option.map_none,Option.toList_none,cQ];have:2≤kids.toL.length:=a.resolve_left (by simp);omega
  |some v=>simp only[Option.map_some,Option.toList_some,aN];omega
def BW:Fo→Prop
 | .nil=>True
 | .cons lab w kids rest=>lab.length≤10000∧(∀v,w=some v→v.size≤10000)∧kids.toL.length≤256∧BW kids∧BW rest
theorem CX:∀{F:Fo},ff F→(∀k v,qc F k v→k.length≤10000∧v.size≤10000)→BW F
 | .nil,_,_=>trivial
 | .cons lab w kids rest,h,hl=>by
  obtain⟨r,v,e⟩:=lG h _ (aq ..);have c:=(hl _ v (fS.2 ⟨_,aq ..,r,rfl,e⟩)).1;rw[ae]at c;simp only at c;refine⟨by omega,fun v d=>(hl lab v (.inl ⟨[],(bW _).symm,.inl ⟨rfl,d⟩⟩)).2,pE h.2.2.1,CX h.2.2.1 fun k v a=>?_,CX h.2.2.2.2 fun k v a=>hl k v (.inr a)⟩
  have:=hl (lab++k) v (.inl ⟨k,rfl,.inr a⟩);rw[ae]at this;exact⟨by omega,this.2⟩
def wa:Option ByteArray→List UInt8
 |some v=>1::pM v
 |none=> [0]
def ny(lab:List UInt8)(w:Option ByteArray)(n:Nat):List UInt8:=pM ⟨lab.toArray⟩++(wa w++kV n 2)
def j3:Fo→List UInt8
 | .nil=> []
 | .cons lab w kids rest=>ny lab w kids.toL.length++(j3 kids++j3 rest)
def jJ(n:Bn):List UInt8:=ny n.1 n.2.1 n.2.2.toL.length++j3 n.2.2
theorem vy:∀F:Fo,j3 F=F.toL.flatMap jJ
 | .nil=>rfl
 | .cons lab w kids rest=>by
  rw[Fo.toL_cons,aD,←vy rest];show ny lab w kids.toL.length++(j3 kids++j3 rest)=(ny lab w kids.toL.length++j3 kids)++j3 rest
  rw[aj]
theorem y8{lab:List UInt8}{w:Option ByteArray}{n:Nat}(c:lab.length≤10000)(a:∀v,w=some v→v.size≤10000):(ny lab w n).length≤20010:=by
 unfold ny;rw[ae,ae,gf,dC];have e:(kE lab.toArray).size=lab.length:=by simp[ByteArray.size]
 rw[e];cases w with
 |none=>simp only[wa,aN];omega
 |some v=>have:=a v rfl;simp only[wa,aI,gf];omega
theorem rZ:∀{F:Fo},BW F→(j3 F).length≤BH F*20010
 | .nil,_=>by simp[j3]
 | .cons lab w kids rest,h=>by
  have d:=y8 (n:=kids.toL.length) h.1 h.2.1;have a:=rZ h.2.2.2.1;have c:=rZ h.2.2.2.2;unfold j3 BH;rw[ae,ae,jW,jW];omega
theorem y9{lab a:List UInt8}{w c:Option ByteArray}{n i:Nat}{r j:List UInt8}(q:lab.length≤10000)(g:a.length≤10000)(p:∀v,w=some v→v.size≤10000)(f:∀v,c=some v→v.size≤10000)(s:n≤256)(o:i≤256)(h:ny lab w n++r=ny a c i++j):lab=a∧w=c∧n=i∧r=j:=by
 unfold ny at h;simp only[aj]at h;have z:∀l:List UInt8,(kE l.toArray).size=l.length:=fun l=>by simp[ByteArray.size]
 obtain⟨d,h⟩:=qU (by rw[z];exact q) (by rw[z];exact g) h;have d:lab=a:=by
  have:=congrArg (fun b:ByteArray=>b.data.toList) d
  simpa using this
 cases w with
 |none=>
  cases c with
  |none=>
   simp only[wa,cR,List.nil_append,gu.injEq,true_and]at h;obtain⟨e,h⟩:=oV (k:=2) (by omega) (by omega) h;exact⟨d,rfl,e,h⟩
  |some v=>simp[wa]at h
 |some v=>
  cases c with
  |none=>simp[wa]at h
  |some v'=>
   simp only[wa,cR,gu.injEq,true_and]at h;obtain⟨m,h⟩:=qU (p v rfl) (f v' rfl) h;obtain⟨e,h⟩:=oV (k:=2) (by omega) (by omega) h;exact⟨d,by rw[m],e,h⟩
theorem r6:∀{F F':Fo} {r r':List UInt8},BW F→BW F'→F.toL.length=F'.toL.length→j3 F++r=j3 F'++r'→F=F'∧r=r'
 | .nil,.nil,_,_,_,_,_,h=>⟨rfl,h⟩
 | .nil,.cons ..,_,_,_,_,e,_=>by simp[Fo.toL]at e
 | .cons ..,.nil,_,_,_,_,e,_=>by simp[Fo.toL]at e
 | .cons lab w kids rest,.cons lab' w' kids' rest',r,r',h1,h2,e,h=>by
  unfold j3 at h;simp only[aj]at h;obtain⟨g,a,c,h⟩:=y9 h1.1 h2.1 h1.2.1 h2.2.1 h1.2.2.1 h2.2.2.1 h;obtain⟨d,h⟩:=r6 h1.2.2.2.1 h2.2.2.2.1 c h;obtain⟨f,h⟩:=r6 h1.2.2.2.2 h2.2.2.2.2 (by rw[Fo.toL_cons,Fo.toL_cons]at e;simpa using e) h;exact⟨by rw[g,a,d,f],h⟩
end Go.Proofs
namespace Go.Proofs
open Go Go.Lift
theorem HI{M:Nat→Prop}{h:ac}{so:SliceV}{out ys:List UInt8}{vs:List Value}(d:vs=ys.flatMap oL){n:Nat}(a:n=ys.length){K:SliceV→ac→Prop}(e:OwnS oL 1 cT M h so out)(hM:∀b,h.size≤b→M b)(j:out.length+ys.length≤140737488355328)
  (f:∀s' h',OwnS oL 1 cT M h' s' (out++ys)→Upd M h h'→K s' h'):
  ∃xs,SRow (hnew h vs cT) (some (aZ h)) (n*1) xs∧AppP (some [.int .u8 0]) 1 1 cT so.a so.len so.cap n xs (hnew h vs cT) K:=by
 subst d a;have k:=Upd.hnew No h (ys.flatMap oL) cT;have i:OwnS oL 1 cT (fun _=>True) (hnew h (ys.flatMap oL) cT) ⟨some (aZ h),ys.length,ys.length⟩ ys:=⟨rfl,uY,ar _,.inr ⟨h.size,[],rfl,trivial,by rw[bW];exact bh ..,by simp⟩⟩
 refine⟨_,(i.sl (W:=No) fun _ _ _ h=>h).srow,?_⟩
 refine AppP.own (ys:=ys) (e.upd k fun _ _ h=>h) rfl rfl (wG _) rfl (by omega) (by omega) (hM _ (by rw[eO];omega)) fun s' h' c g=>?_
 exact f s' h' c ((Upd.hnew M h _ _).tr g)
def Ku(W:Nat→Prop)(n:Bn):Prop:=∀{b:Nat} {sl:ByteArray} {h0 h:ac} {M:Nat→Prop} {s:SliceV} {xs:List UInt8},RxN W h0 b sl n.2.1 n.2.2→sl.data.toList=n.1→Upd No h0 h→(∀y,M y→h0.size≤y)→OwnS oL 1 cT M h s xs→(∀y,h.size≤y→M y)→
 xs.length+(jJ n).length≤140737488355328→∀{K:SliceV→ac→Prop},(∀s' h',OwnS oL 1 cT M h' s' (xs++jJ n)→Upd M h h'→K s' h')→HC PG f8 [.pointer (some ⟨b,0,none⟩),.slice s.a s.len s.cap] [.c .slice] K h
theorem Fz{W:Nat→Prop}{lab:List UInt8}{w:Option ByteArray}{c:Fo}(hl:lab.length≤10000)(hw:∀v,w=some v→v.size≤10000)(U:c.toL.length≤256)(ih:∀m∈c.toL,Ku W m):Ku W (lab,w,c):=by
 intro b sl h0 h M s xs r F hu0 G ho hM hx K N;simp only at r F;have D:(⟨lab.toArray⟩:ByteArray)=sl:=by rw[←F]
 refine rr (some ⟨b,0,none⟩) s ?_;unfold mo bA fc eH vY kI co vX IX;obtain⟨val,x,ow,ks,X,hv,hs,hcap,hF⟩:=r;have hL:=ns.1 hF;have st:∀{h'},Upd M h h'→Upd No h0 h':=fun k=>hu0.trans k fun y S=>.inr (G y S)
 have blk:∀{h'},Upd M h h'→h'[b]? =some (.cells (yq sl w.isSome val x ow) bd (0,0)):=fun k=>(st k).get0 X
 have q:∀{h'},Upd M h h'→∀y,h'.size≤y→M y:=fun k y S=>hM y (Nat.le_trans k.size S)
 have V:sl.size=lab.length:=by rw[←F];simp
 have o:=hs.len;rw[hL.1]at o;unfold jJ at hx N;rw[vy]at hx N;simp only at hx N;rw[ae]at hx;have H:(ny lab w c.toL.length).length=2+lab.length+((wa w).length+2):=by
  unfold ny;rw[ae,ae,gf,dC,D,V]
 refine⟨_,rfl,sl,eN (i:=0) (blk (Upd.refl M h)),?_⟩;refine wD (W:=No) (ho.sl fun _ _ _ h=>h) ho.cap sl (by omega) (by omega) fun s2 h2 C T=>?_
 have C:=C.more hM;have d:Upd M h h2:=T.wide;refine Join.intro (fun t h'=>OwnS oL 1 cT M h' t (xs++pM sl++(wa w))∧Upd M h h') (fun R J=>⟨_,rfl,w.isSome,eN (i:=1) (blk d),?_⟩) ?_
 ·cases w with
  |none=>
   refine ak.2 (aR ?_);refine oX (b:=0) rfl C (q d) ?_ fun s3 O n f=>J _ _ ⟨n,d.tr f⟩
   rw[ae,gf];simp only[wa,aN]at H;omega
  |some v=>
   have P:=vw hv v rfl;subst P;have hvs:=hw val rfl;simp only[wa,aI,gf]at H;have k3:Upd M h (hnew h2 [.int .u8 1] cT):=d.tr (Upd.hnew M h2 _ _);refine aA.2 ⟨_,rfl,val,eN (i:=2) (blk d),aR ⟨eN (i:=2) (blk k3),?_⟩⟩;refine oX (b:=1) rfl C (q d) (by rw[ae,gf];omega) fun s3 O n f=>⟨eN (i:=2) (blk (d.tr f)),?_⟩
   refine wD (W:=No) (n.sl fun _ _ _ h=>h) n.cap val (by omega) (by rw[ae,ae,gf,aN];omega) fun s4 h4 j A=>J _ _ ⟨?_,(d.tr f).tr A.wide⟩
   have j:=j.more (q (d.tr f));simp only[wa,aj,List.singleton_append]at j⊢;exact j
 ·rintro s3 O ⟨n,f⟩
  have e8:Int.fdiv (x.len:Int) (2^(min (8:Int).toNat (IntKind.bits .i64)))=((c.toL.length>>>8:Nat):Int):=by
   have:(2^(min (8:Int).toNat (IntKind.bits .i64)):Int)=2^8:=rfl;rw[this,o,is]
  refine Join.intro (fun t h'=>OwnS oL 1 cT M h' t (xs++ny lab w c.toL.length)∧Upd M h h') (fun R J=>⟨_,rfl,x,eN (i:=3) (blk f),_,rfl,x,eN (i:=3) (blk f),by omega,?_⟩) ?_
  ·simp only[Bd]
   rw[e8];have k4:Upd M h (hnew O [.int .u8 (IntKind.wrap .u8 (x.len:Int)),.int .u8 (IntKind.wrap .u8 ((c.toL.length>>>8:Nat):Int))] cT):=f.tr (Upd.hnew M O _ _);refine aR ⟨eN (i:=3) (blk k4),eN (i:=3) (blk k4),?_⟩;refine HI (ys:=kV c.toL.length 2) ?_ rfl n (q f) ?_ fun s5 h5 E u=>⟨eN (i:=3) (blk (f.tr u)),eN (i:=3) (blk (f.tr u)),J _ _ ⟨?_,f.tr u⟩⟩
   ·rw[o,IntKind.wrap_u8,IntKind.wrap_u8]
    simp[kV,List.range_succ]
   ·rw[ae,ae,gf,dC];omega
   ·unfold ny
    rw[D,←aj,←aj];exact E
  ·rintro s4 h4 ⟨j,A⟩
   refine⟨_,rfl,x,eN (i:=3) (blk A),?_⟩;have hs4:∀{h'},Upd M h h'→Sl vB 1 W h' x ks:=fun k=>hs.upd (st k) fun _ h=>h.elim
   refine LoopP.ghost (fun(i:Nat) (t:SliceV×Int) h'=>t.2=(i:Int)∧i≤c.toL.length∧OwnS oL 1 cT M h' t.1 (xs++ny lab w c.toL.length++(c.toL.take i).flatMap jJ)∧Upd M h h') (fun i=>c.toL.length-i) 0 ⟨rfl,bB _,by simpa using j,A⟩ ?_
   rintro I i ⟨so,ti⟩ h' ⟨e1,hi,z,p⟩ hI;simp only at e1 z;subst e1;have B:∀g:i<c.toL.length,((c.toL.take i).flatMap jJ).length+(jJ c.toL[i]).length≤(c.toL.flatMap jJ).length:=fun g=>by
    have e:c.toL=c.toL.take i++c.toL[i]::c.toL.drop (i+1):=by rw[List.getElem_cons_drop,bC]
    have:=congrArg (fun L=>(List.flatMap jJ L).length) e
    simp only[bo,aD,ae]at this;omega
   refine aU (fun g=>?_) fun Q=>?_
   ·have g:i<c.toL.length:=by have:(i:Int)<(x.len:Int):=g;omega
    obtain⟨kb,ksl,hki,hkl,Y⟩:=hL.at g;obtain⟨a,ha,_,Z⟩:=(hs4 p).at0 hki;have hsp:=B g;refine⟨⟨by simp only;omega,by simp only;omega⟩,a,ha,some ⟨kb,0,none⟩,Z,?_⟩
    refine ih _ (bK g) Y hkl (st p) G z (q p) (by rw[ae,ae];omega) fun s5 h5 E u=>?_
    rw[dg g (by omega)];refine hI (i+1) _ _ ⟨rfl,g,?_,p.tr u⟩ (by omega);rw[List.take_succ_eq_append_getElem g,bo,aD,List.flatMap_nil,bW,←aj];exact E
   ·have hil:i=c.toL.length:=by have:¬(i:Int)<(x.len:Int):=Q;omega
    subst hil;rw[bJ]at z;refine N _ _ ?_ p;rw[←aj];exact z
theorem zI{W:Nat→Prop}:∀{F:Fo},BW F→∀n∈F.toL,Ku W n
 | .nil,_,n,a=>by simp[Fo.toL]at a
 | .cons lab w kids rest,h,n,a=>by
  rcases ao.1 a with rfl|a
  ·exact Fz h.1 h.2.1 h.2.2.1 (zI h.2.2.2.1)
  ·exact zI h.2.2.2.2 n a
structure RadAt(W:Nat→Prop)(h:ac)(b:Nat)(l:List Pr):Prop where
 ex:∃w F,RxN W h b ⟨#[]⟩ w F∧ff F∧∀k v,(k,v)∈wd w F↔∃p∈l,p.1.data.toList=k∧p.2=v
theorem RadAt.upd0{W:Nat→Prop}{h h':ac}{b:Nat}{l:List Pr}(k:Upd No h h')(r:RadAt W h b l):RadAt W h' b l:=by
 obtain⟨w,F,c,d,a⟩:=r.ex;exact⟨w,F,c.upd0 k,d,a⟩
theorem RadAt.less{W W':Nat→Prop}{h:ac}(hm:∀b,W' b→W b∨h.size≤b){b:Nat}{l:List Pr}(r:RadAt W h b l):RadAt W' h b l:=by
 obtain⟨w,F,c,d,a⟩:=r.ex;exact⟨w,F,c.less hm,d,a⟩
theorem RadAt.updM{W M:Nat→Prop}{h h':ac}(k:Upd M h h')(hm:∀b,M b→W b∨h.size≤b){b:Nat}{l:List Pr}(r:RadAt W h b l):RadAt W h' b l:=by
 obtain⟨w,F,c,d,a⟩:=r.ex;exact⟨w,F,c.updM k hm,d,a⟩
def E0(l:List Pr):List (List UInt8×ByteArray):=l.map fun p=>(p.1.data.toList,p.2)
theorem Ib{l:List Pr}(c:dJ l):Up (E0 l):=by
 unfold E0 Up;rw[List.pairwise_map];refine List.Pairwise.imp (R:=fun p q:Pr=>kl p.1 q.1) (fun{a b} h=>?_) c
 rw[CF,ByteArray.toList_eq,ByteArray.toList_eq]at h;exact h
theorem Dw:∀{l l':List Pr},E0 l=E0 l'→l=l'
 | [],[],_=>rfl
 | [],_::_,h=>by simp[E0]at h
 |_::_,[],h=>by simp[E0]at h
 |p::l,q::l',h=>by
  unfold E0 at h;simp only[List.map_cons,gu.injEq,mE.injEq]at h;obtain⟨⟨c,d⟩,f⟩:=h;have e:p.1=q.1:=by
   generalize p.1=a at c;generalize q.1=b at c;cases a;cases b;exact congrArg kE (lm.1 c)
  rw[Dw f,Prod.ext e d]
theorem G5{w:Option ByteArray}{F:Fo}{l:List Pr}(hc:ff F)(f:dJ l)(d:∀k v,(k,v)∈wd w F↔∃p∈l,p.1.data.toList=k∧p.2=v):wd w F=E0 l:=by
 refine Fl (G9 hc) (Ib f) fun p=>?_
 have:=d p.1 p.2;rw[show(p.1,p.2)=p from rfl]at this
 rw[this];unfold E0;rw[cn];constructor
 ·rintro⟨q,a,g,c⟩;exact⟨q,a,Prod.ext g c⟩
 ·rintro⟨q,a,e⟩;rw[←e];exact⟨q,a,rfl,rfl⟩
theorem FF{w c:Option ByteArray}{F F':Fo}(hc:ff F)(a:ff F')(h:wd w F=wd c F'):w=c∧F=F':=by
 have hm:∀k v,rc w F k v↔rc c F' k v:=fun k v=>by rw[←oQ,←oQ,h]
 refine⟨Option.ext fun v=>?_,C2 hc a fun k v=>?_⟩
 ·have:=hm [] v
  constructor
  ·intro e
   rcases this.1 (.inl ⟨rfl,e⟩)with⟨_,h⟩|h
   ·exact h
   ·exact absurd rfl (l0 a h)
  ·intro e
   rcases this.2 (.inl ⟨rfl,e⟩)with⟨_,h⟩|h
   ·exact h
   ·exact absurd rfl (l0 hc h)
 ·constructor
  ·intro hi
   rcases(hm k v).1 (.inr hi)with⟨e,_⟩|h
   ·exact absurd e (l0 hc hi)
   ·exact h
  ·intro hi
   rcases(hm k v).2 (.inr hi)with⟨e,_⟩|h
   ·exact absurd e (l0 a hi)
   ·exact h
end Go.Proofs
namespace Go.Proofs
open Go Go.Lift
theorem nC{p q:Pr}:∀{l:List Pr},dJ l→(q∈g9 p l↔q=p∨(q∈l∧q.1≠p.1))
 | [],_=>by simp[g9]
 |r::l,d=>by
  have d:=bf.1 d;rw[iP];by_cases c:kl r.1 p.1
  ·have f:r.1≠p.1:=fun e=>by rw[e]at c;exact dD _ c
   rw[if_pos c,ao,ao,nC d.2];constructor
   ·rintro(rfl|h|⟨h,h'⟩)
    ·exact .inr ⟨.inl rfl,f⟩
    ·exact .inl h
    ·exact .inr ⟨.inr h,h'⟩
   ·rintro(h|⟨h|h,h'⟩)
    ·exact .inr (.inl h)
    ·exact .inl h
    ·exact .inr (.inr ⟨h,h'⟩)
  ·rw[if_neg c]
   by_cases a:r.1=p.1
   ·rw[if_pos a,ao,ao]
    constructor
    ·rintro(h|h)
     ·exact .inl h
     ·refine .inr ⟨.inr h,fun e=>?_⟩
      have:=d.1 q h;rw[e,a]at this;exact dD _ this
    ·rintro(h|⟨rfl|h,h'⟩)
     ·exact .inl h
     ·exact absurd a h'
     ·exact .inr h
   ·rw[if_neg a,ao,ao]
    have g:=Aa c a;constructor
    ·rintro(h|rfl|h)
     ·exact .inl h
     ·exact .inr ⟨.inl rfl,a⟩
     ·refine .inr ⟨.inr h,fun e=>?_⟩
      have:=lD g (d.1 q h);rw[e]at this;exact dD _ this
    ·rintro(h|⟨rfl|h,h'⟩)
     ·exact .inl h
     ·exact .inr (.inl rfl)
     ·exact .inr (.inr h)
def RadRoot(W:Nat→Prop)(h:ac)(r:Option Addr)(l:List Pr):Prop:=(r=none∧l= [])∨∃b,r=some ⟨b,0,none⟩∧RadAt W h b l
theorem RadRoot.upd0{W:Nat→Prop}{h h':ac}{r:Option Addr}{l:List Pr}(k:Upd No h h')(t:RadRoot W h r l):RadRoot W h' r l:=t.imp id fun⟨b,e,t⟩=>⟨b,e,t.upd0 k⟩
theorem C3{a b:ByteArray}:a.data.toList=b.data.toList↔a=b:=by
 constructor
 ·intro h;cases a;cases b;exact congrArg kE (lm.1 h)
 ·rintro rfl;rfl
theorem xn{W:Nat→Prop}{h:ac}(a:∀y,W y→y<h.size){K:Option Addr→ac→Prop}(c:∀h' b,RadAt W h' b []→Upd No h h'→K (some ⟨b,0,none⟩) h'):HC PG lv [] [.c .ptr] K h:=by
 refine yF ?_;unfold rR AK;refine aR (c _ h.size ⟨none,.nil,⟨⟨#[]⟩,⟨none,0,0⟩,none,[],bh h HT bd,rfl,Sl.nil mJ,⟨ar _,fun hx=>lx _ (a _ hx)⟩,rfl⟩,trivial,fun k v=>?_⟩ (Upd.hnew No h _ _))
 simp[wd,xt]
theorem Ed{W:Nat→Prop}{h:ac}{r:Option Addr}{l:List Pr}(t:RadRoot W h r l)(c:∀y,W y→y<h.size){K:Option Addr→ac→Prop}(a:∀h' b,RadAt W h' b l→Upd No h h'→(r=some ⟨b,0,none⟩∨r=none)→K (some ⟨b,0,none⟩) h'):HC PG pz [.pointer r] [.c .ptr] K h:=by
 refine AC r ?_;unfold ui;rcases t with⟨rfl,rfl⟩|⟨b,rfl,t⟩
 ·exact aA.2 (xn c fun h' b t d=>a h' b t d (.inr rfl))
 ·exact ak.2 (a h b t (Upd.refl _ _) (.inl rfl))
theorem A8{W:Nat→Prop}{h:ac}{r:Option Addr}{l:List Pr}(t:RadRoot W h r l)(B:∀y,W y→y<h.size)(s:dJ l)(p:Pr)(J:p.1.size≤1000000){K:Option Addr×Bool→ac→Prop}
  (H:∀h' b' a,Upd No h h'→RadAt W h' b' (g9 p l)→(p∈l→r=some ⟨b',0,none⟩∨r=none)→K (some ⟨b',0,none⟩,a) h'):
  HC PG qB [.pointer none,.pointer r,.agg #[.string p.1,.string p.2]] [.c .ptr,.c .bool] K h:=by
 refine BR none r p ?_;unfold vS aB wE Fh;have k1:=Upd.hnew No h [.string p.1,.string p.2] ah;have b1:=bh h [.string p.1,.string p.2] ah;refine aR ?_;simp only[bS h];generalize hnew h [.string p.1,.string p.2] ah=h1 at k1 b1;have g:∀{h':ac},Upd No h1 h'→∀i,bc h' (adr ⟨h.size,0,none⟩ i)=(#[.string p.1,.string p.2]:Array Value)[i]?:=fun k i=>by rw[bp,aE (k.get0 b1),aw]
 have A:=Upd.refl No h1;refine⟨p.1,g A 0,p.2,g A 1,Ed (t.upd0 k1) (fun y o=>aK (B y o) k1.size) fun P b I c E=>⟨g c 1,g c 0,?_⟩⟩
 obtain⟨w,F,L,D,C⟩:=I.ex;refine FC (p.1.size+1) p.1 p.2 (by omega) J L (fun y o=>aK (B y o) (k1.tr c).size) D fun N b3 G F' a O j m n u z x=>?_
 refine H N b3 a ((k1.tr c).tr j) ⟨G,F',m,n,fun k v=>?_⟩ fun hm=>?_
 ·rw[oQ,u k v,←oQ,C k v]
  constructor
  ·rintro(⟨rfl,rfl⟩|⟨d,q,f,rfl,rfl⟩)
   ·exact⟨p,(nC s).2 (.inl rfl),rfl,rfl⟩
   ·exact⟨q,(nC s).2 (.inr ⟨f,fun e=>d (by rw[e])⟩),rfl,rfl⟩
  ·rintro⟨q,f,rfl,rfl⟩
   rcases(nC s).1 f with rfl|⟨f,d⟩
   ·exact .inl ⟨rfl,rfl⟩
   ·exact .inr ⟨fun e=>d (C3.1 e),q,f,rfl,rfl⟩
 ·have:=x (oQ.1 ((C _ _).2 ⟨p,hm,rfl,rfl⟩))
  rw[(z this).1];exact E
def ES(l:List Pr)(xs:List UInt8):Prop:=∃w F,ff F∧wd w F=E0 l∧xs=jJ ([],w,F)
theorem tx{w:Option ByteArray}{F:Fo}{l:List Pr}(hc:ff F)(f:wd w F=E0 l)(c:Fit l):BW F∧∀v,w=some v→v.size≤10000:=by
 have hm:∀k v,rc w F k v→k.length≤10000∧v.size≤10000:=fun k v hi=>by
  have:=oQ.2 hi;rw[f]at this;obtain⟨q,d,e⟩:=cn.1 this;cases e;have:=c q d;exact⟨by simpa using this.1,this.2⟩
 exact⟨CX hc fun k v hi=>hm k v (.inr hi),fun v a=>(hm [] v (.inl ⟨rfl,a⟩)).2⟩
theorem G6{l l':List Pr}{xs a:List UInt8}(h:ES l xs)(h':ES l' a)(o:Fit l)(i:Fit l'):xs=a↔l=l':=by
 obtain⟨w,F,c,e,rfl⟩:=h;obtain⟨n,F',c',g,rfl⟩:=h';have j:=tx c e o;have k:=tx c' g i;constructor
 ·intro hx
  have hx:jJ ([],w,F)++ []=jJ ([],n,F')++ []:=by rw[hx]
  unfold jJ at hx;simp only[aj]at hx;obtain⟨_,d,m,hx⟩:=y9 (bB _) (bB _) j.2 k.2 (pE c) (pE c') hx;obtain⟨f,_⟩:=r6 j.1 k.1 m hx;exact Dw (by rw[←e,←g,d,f])
 ·rintro rfl
  obtain⟨d,f⟩:=FF c c' (e.trans g.symm);rw[d,f]
theorem A9{l:List Pr}{xs:List UInt8}(h:ES l xs)(f:Fit l):xs.length≤20010+2*l.length*20010:=by
 obtain⟨w,F,c,e,rfl⟩:=h;have a:=tx c e f;have k:=y8 (lab:= []) (n:=F.toL.length) (bB _) a.2;have j:=rZ a.1;have i:=An c;have d:=congrArg fj e;unfold wd E0 at d;rw[ae,fP]at d;have g:BH F*20010≤2*l.length*20010:=cN _ (by omega);unfold jJ;rw[ae];simp only;omega
theorem Ba{W:Nat→Prop}{h:ac}{b:Nat}{l:List Pr}(t:RadAt W h b l)(n:dJ l)(e:Fit l)(q:l.length≤60000){K:SliceV→ac→Prop}
  (i:∀s' h' xs,ES l xs→OwnS oL 1 cT (fun y=>h.size≤y) h' s' xs→Upd No h h'→K s' h'):HC PG oB [.pointer (some ⟨b,0,none⟩)] [.c .slice] K h:=by
 refine yE _ ?_;unfold rQ;refine ak.2 ?_;obtain⟨w,F,g,a,k⟩:=t.ex;have f:=G5 a n k;have d:=tx a f e;have c:ES l (jJ ([],w,F)):=⟨w,F,a,f,rfl⟩;have p:=A9 c e;exact Fz (lab:= []) (bB _) d.2 (pE a) (zI d.1) (s:=⟨none,0,0⟩) (xs:= []) (M:=fun y=>h.size≤y) g rfl (Upd.refl _ _) (fun _ h=>h) (OwnS.nil uY) (fun _ h=>h) (by rw[cQ];omega) fun s' h' j m=>i s' h' _ c j (m.mono fun y o=>.inr o)
end Go.Proofs
namespace Go.Proofs
open Go Go.Lift
theorem bO{h:ac}{cs:List Value}{t:TypeId}{k:ac→Prop}(a:∀h',h'[h.size]? =some (.cells cs.toArray t (0,0))→Upd No h h'→k h'):At (hnew h cs t) k:=
 aR (a _ (bh h cs t) (Upd.hnew No h cs t))
theorem vc{h:ac}{b:Nat}{c:Array Value}{t:TypeId}(a:h[b]? =some (.cells c t (0,0))) (i:Nat):bc h (adr ⟨b,0,none⟩ i)=c[i]?:=by rw[bp,aw];exact aE a
theorem sU{h:ac}{b:Nat}{c:Array Value}{t:TypeId}(a:h[b]? =some (.cells c t (0,0))) (i j:Nat):bc h (adr (adr ⟨b,0,none⟩ i) j)=c[i+j]?:=by rw[bp,bp,aw];exact aE a
theorem H4{h:ac}{b i:Nat}{c c':Array Value}{t:TypeId}{v:Value}{k:ac→Prop}(d:h[b]? =some (.cells c t (0,0))) (hi:i<c.size) (e:c.setIfInBounds i v=c') (g:∀h',h'[b]? =some (.cells c' t (0,0))→Upd (· =b) h h'→k h'):Wr h (adr ⟨b,0,none⟩ i)∧At (hset h (adr ⟨b,0,none⟩ i) v) k:=by
 rw[bp,aw];exact⟨ge d hi,u4 d fun h' a f=>g h' (e▸a) f⟩
theorem _root_.Go.Lift.Upd.own{h c a:ac}{b:Nat}(k:Upd No h c)(d:Upd (· =b) c a)(e:h.size≤b):Upd No h a:=k.trans d fun x hx=>.inr (by have hx:x=b:=hx;omega)
theorem _root_.Go.Lift.Upd.oth{h h':ac}{b c:Nat}{o:Obj}(d:Upd (· =b) h h')(hc:h[c]? =some o) (a:c≠b):h'[c]? =some o:=d.get hc a
abbrev Tr:=Int×Int×Int×Int×(Option Addr)×(Option Addr)
abbrev j2(t:Tr):List Value:= [.int .i64 t.1,.int .u64 t.2.1,.int .u64 t.2.2.1,.int .u64 t.2.2.2.1,.pointer t.2.2.2.2.1,.pointer t.2.2.2.2.2]
abbrev GC(t:Tr):Value:=.agg #[.int .i64 t.1,.int .u64 t.2.1,.int .u64 t.2.2.1,.int .u64 t.2.2.2.1,.pointer t.2.2.2.2.1,.pointer t.2.2.2.2.2]
def Pro(W:Nat→Prop)(h a:ac)(y:Nat):Prop:=W y∨(h.size≤y∧y<a.size)
theorem Pro.lt{W:Nat→Prop}{h a:ac}(c:∀y,W y→y<h.size)(k:Upd No h a):∀y,Pro W h a y→y<a.size:=fun y d=>d.elim (fun h=>aK (c y h) k.size) fun h=>h.2
theorem Pro.hm{W:Nat→Prop}{h a:ac}:∀y,Pro W h a y→W y∨h.size≤y:=fun _ c=>c.imp id fun h=>h.1
theorem Pro.sub{W:Nat→Prop}{h a c:ac}:∀y,W y→Pro W h a y∨c.size≤y:=fun _ d=>.inl (.inl d)
theorem RootAt.less{W W':Nat→Prop}{x:Hs}{h:ac}(hm:∀b,W' b→W b∨h.size≤b){r:Option Addr}{l:List Pr}(t:RootAt W x h r l):RootAt W' x h r l:=t.imp id fun⟨b,e,t⟩=>⟨b,e,TrieAt.less hm t⟩
theorem RadRoot.less{W W':Nat→Prop}{h:ac}(hm:∀b,W' b→W b∨h.size≤b){r:Option Addr}{l:List Pr}(t:RadRoot W h r l):RadRoot W' h r l:=t.imp id fun⟨b,e,t⟩=>⟨b,e,t.less hm⟩
def TreeIs(W:Nat→Prop)(h:ac)(kind:Int)(x:Hs)(t:Tr)(l:List Pr):Prop:=(kind=0∧∃b,t=(0,x.k0,x.k1,x.mask,some ⟨b,0,none⟩,none)∧TrieAt W x h 13 b l)∨(kind=1∧∃b,t=(1,0,0,0,none,some ⟨b,0,none⟩)∧RadAt W h b l)
theorem TreeIs.upd0{W:Nat→Prop}{h h':ac}{kind:Int}{x:Hs}{t:Tr}{l:List Pr}(k:Upd No h h')(i:TreeIs W h kind x t l):TreeIs W h' kind x t l:=
 i.imp (fun⟨e,b,a,t⟩=>⟨e,b,a,TrieAt.upd0 k t⟩) fun⟨e,b,a,t⟩=>⟨e,b,a,t.upd0 k⟩
theorem TreeIs.less{W W':Nat→Prop}{h:ac}(hm:∀b,W' b→W b∨h.size≤b){kind:Int}{x:Hs}{t:Tr}{l:List Pr}(i:TreeIs W h kind x t l):TreeIs W' h kind x t l:=
 i.imp (fun⟨e,b,a,t⟩=>⟨e,b,a,TrieAt.less hm t⟩) fun⟨e,b,a,t⟩=>⟨e,b,a,t.less hm⟩
theorem TreeIs.updM{W M:Nat→Prop}{h h':ac}(k:Upd M h h')(hm:∀b,M b→W b∨h.size≤b){kind:Int}{x:Hs}{t:Tr}{l:List Pr}(i:TreeIs W h kind x t l):TreeIs W h' kind x t l:=
 i.imp (fun⟨e,b,a,t⟩=>⟨e,b,a,TrieAt.updM k hm t⟩) fun⟨e,b,a,t⟩=>⟨e,b,a,t.updM k hm⟩
theorem TreeIs.pro{W:Nat→Prop}{h a:ac}(k:Upd No h a){kind:Int}{x:Hs}{t:Tr}{l:List Pr}(i:TreeIs W h kind x t l):TreeIs (Pro W h a) a kind x t l:=(i.less Pro.hm).upd0 k
theorem yz{W:Nat→Prop}{x:Hs}{h:ac}(a:∀y,W y→y<h.size){K:Option Addr→ac→Prop}(c:∀h' b,TrieAt W x h' 13 b []→Upd No h h'→K (some ⟨b,0,none⟩) h'):HC PG ju [] [.c .ptr] K h:=by
 refine rL ?_;unfold oJ;exact my a fun h' b nd d=>c h' b (AS nd) d
abbrev w7:Tr:=(0,0,0,0,none,none)
theorem AX{W:Nat→Prop}{x:Hs}{h:ac}{r:Option Addr}{l:List Pr}(t:RootAt W x h r l)(u:∀y,W y→y<h.size){K:Tr→ac→Prop}(q:∀h' t,TreeIs W h' 0 x t l→Upd No h h'→K t h'):HC PG mX [.agg #[.int .u64 x.k0,.int .u64 x.k1,.int .u64 x.mask],.pointer r] [.agg [.int .i64,.int .u64,.int .u64,.int .u64,.ptr,.ptr]] K h:=by
 refine yc (x.k0,x.k1,x.mask) r ?_;unfold qP av ad af gw y2 rh AP;refine bO fun m b1 k1=>bO fun k b2 n=>?_
 have v:=bG b1;have w:=bG b2;have d:=k1.tr n;refine Join.intro (fun t h'=>Upd No k h'∧∃b,t=some ⟨b,0,none⟩∧TrieAt (Pro W h k) x h' 13 b l) (fun R i=>?_) ?_
 ·rcases t with⟨rfl,rfl⟩|⟨b,rfl,t⟩
  ·exact aA.2 (yz (Pro.lt u d) fun p b t a=>i _ _ ⟨a,b,rfl,t⟩)
  ·exact ak.2 (i _ _ ⟨Upd.refl _ _,b,rfl,TrieAt.upd0 d (TrieAt.less Pro.hm t)⟩)
 ·rintro j p ⟨a,b,rfl,j⟩
  have c1:=a.get0 (n.get0 b1);refine⟨_,vc c1 0,_,vc c1 1,_,vc c1 2,?_⟩;refine ei (c:=j2 w7) (vs:=j2 (0,x.k0,x.k1,x.mask,some ⟨b,0,none⟩,none)) (a.get0 b2) rfl fun s e f=>?_
  refine⟨_,vc e 0,_,vc e 1,_,vc e 2,_,vc e 3,_,vc e 4,_,vc e 5,?_⟩;have g:h.size≤m.size:=k1.size;exact q s _ (.inl ⟨rfl,b,rfl,TrieAt.less Pro.sub (TrieAt.updM f (fun y o=>.inl (.inr (by have o:y=m.size:=o;omega))) j)⟩) ((d.tr a).own f g)
theorem AW{W:Nat→Prop}{x:Hs}{h:ac}{r:Option Addr}{l:List Pr}(t:RadRoot W h r l)(p:∀y,W y→y<h.size){K:Tr→ac→Prop}(n:∀h' t,TreeIs W h' 1 x t l→Upd No h h'→K t h'):HC PG mW [.pointer r] [.agg [.int .i64,.int .u64,.int .u64,.int .u64,.ptr,.ptr]] K h:=by
 refine yb r ?_;unfold qO av ad af gw rh AP;refine bO fun k b2 d=>?_
 have q:=bG b2;refine Join.intro (fun t h'=>Upd No k h'∧∃b,t=some ⟨b,0,none⟩∧RadAt (Pro W h k) h' b l) (fun R g=>?_) ?_
 ·rcases t with⟨rfl,rfl⟩|⟨b,rfl,t⟩
  ·exact aA.2 (xn (Pro.lt p d) fun m b t a=>g _ _ ⟨a,b,rfl,t⟩)
  ·exact ak.2 (g _ _ ⟨Upd.refl _ _,b,rfl,(t.less Pro.hm).upd0 d⟩)
 ·rintro j m ⟨a,b,rfl,j⟩
  refine ei (c:=j2 w7) (vs:=j2 (1,0,0,0,none,some ⟨b,0,none⟩)) (a.get0 b2) rfl fun o e f=>?_
  refine⟨_,vc e 0,_,vc e 1,_,vc e 2,_,vc e 3,_,vc e 4,_,vc e 5,?_⟩;exact n o _ (.inr ⟨rfl,b,rfl,(j.updM f (fun y i=>.inl (.inr (by have i:y=h.size:=i;omega)))).less Pro.sub⟩) ((d.tr a).own f (ar _))
theorem GZ{W:Nat→Prop}{x:Hs}{h:ac}(q:∀y,W y→y<h.size){kind:Int}(j:kind=0∨kind=1){K:Tr×Int→ac→Prop}(o:∀h' t,TreeIs W h' kind x t []→Upd No h h'→K (t,0) h'):HC PG sm [.int .i64 kind,.agg #[.int .u64 x.k0,.int .u64 x.k1,.int .u64 x.mask]] [.agg [.int .i64,.int .u64,.int .u64,.int .u64,.ptr,.ptr],.c (.int .i64)] K h:=by
 refine Da kind (x.k0,x.k1,x.mask) ?_;unfold yd av ad af gw y2 zC rh qn;refine bO fun n b1 k1=>bO fun p b2 s=>?_
 have v:=bG b1;have w:=bG b2;have f:=k1.tr s;have g:h.size≤n.size:=k1.size;have c1:=s.get0 b1;rcases j with rfl|rfl
 ·refine aA.2 ⟨_,vc c1 0,_,vc c1 1,_,vc c1 2,?_⟩
  refine AX (W:=Pro W h p) (x:=x) (l:= []) (.inl ⟨rfl,rfl⟩) (Pro.lt q f) fun u t k d=>?_
  refine ei (c:=j2 w7) (vs:=j2 t) (d.get0 b2) rfl fun m a e=>?_
  refine⟨_,vc a 0,_,vc a 1,_,vc a 2,_,vc a 3,_,vc a 4,_,vc a 5,?_⟩;exact o m t ((k.updM e (fun y i=>.inl (.inr (by have i:y=n.size:=i;omega)))).less Pro.sub) ((f.tr d).own e g)
 ·refine ak.2 (aA.2 ?_)
  refine AW (W:=Pro W h p) (x:=x) (l:= []) (.inl ⟨rfl,rfl⟩) (Pro.lt q f) fun u t k d=>?_
  refine ei (c:=j2 w7) (vs:=j2 t) (d.get0 b2) rfl fun m a e=>?_
  refine⟨_,vc a 0,_,vc a 1,_,vc a 2,_,vc a 3,_,vc a 4,_,vc a 5,?_⟩;exact o m t ((k.updM e (fun y i=>.inl (.inr (by have i:y=n.size:=i;omega)))).less Pro.sub) ((f.tr d).own e g)
theorem Er{k v:ByteArray}(d:k.size≤256)(c:v.size≤4096){h:ac}{K:Int→ac→Prop}(a:K 0 h):HC PG pA [.string k,.string v] [.c (.int .i64)] K h:=by
 refine AE k v ?_;unfold uk;refine aU (fun h=>absurd h (by omega)) fun _=>aU (fun h=>absurd h (by omega)) fun _=>a
theorem xe{W:Nat→Prop}{x:Hs}{h:ac}{kind:Int}{t:Tr}{l:List Pr}(i:TreeIs W h kind x t l)(J:∀y,W y→y<h.size)(H:dJ l)(O:l.length≤1000000)(p:Pr)(D:p.1.size≤256)(E:p.2.size≤4096){K:Tr×Int→ac→Prop}
  (I:∀h' t',TreeIs W h' kind x t' (g9 p l)→(p∈l→t'=t)→Upd No h h'→K (t',0) h'):HC PG gk [GC t,.pointer none,.agg #[.string p.1,.string p.2]] [.agg [.int .i64,.int .u64,.int .u64,.int .u64,.ptr,.ptr],.c (.int .i64)] K h:=by
 refine ve t none p ?_;unfold o8 av ad af aB gw zC rh qn wY rF AP eM dL wE;refine bO fun G b1 k1=>bO fun F b2 B=>bO fun X b3 v=>?_
 have R:=bG b1;have V:=bG b2;have S:=bG b3;have U:h.size≤G.size:=k1.size;have T:G.size≤F.size:=B.size;have Q:=v.size;have n:=(k1.tr B).tr v;have o:=v.get0 (B.get0 b1);have s:=v.get0 b2;have P:=i.pro n;have u:=Pro.lt J n;refine⟨_,vc s 0,_,vc s 1,Er D E (ak.2 ?_)⟩;rcases P with⟨rfl,b,rfl,A⟩|⟨rfl,b,rfl,A⟩
 ·refine⟨_,vc o 0,ak.2 ⟨_,sU o 1 0,_,sU o 1 1,_,sU o 1 2,_,vc o 4,p.1,vc s 0,p.2,vc s 1,?_⟩⟩
  refine BL (.inr ⟨b,rfl,A⟩) u H O p fun N q a w f=>?_
  refine H4 (i:=4) (c':=(j2 (0,x.k0,x.k1,x.mask,some ⟨q,0,none⟩,none)).toArray) (a.get0 o) (show 4<6 by decide) rfl fun L g d=>?_
  refine⟨_,vc g 0,_,vc g 1,_,vc g 2,_,vc g 3,_,vc g 4,_,vc g 5,?_⟩;refine ei (c:=j2 w7) (vs:=j2 (0,x.k0,x.k1,x.mask,some ⟨q,0,none⟩,none)) (d.oth (a.get0 b3) (by omega)) rfl fun z j m=>?_
  refine⟨_,vc j 0,_,vc j 1,_,vc j 2,_,vc j 3,_,vc j 4,_,vc j 5,?_⟩;refine I z _ (.inl ⟨rfl,q,rfl,TrieAt.less Pro.sub (TrieAt.updM m (fun y k=>.inl (.inr (by have k:y=F.size:=k;omega))) (TrieAt.updM d (fun y k=>.inl (.inr (by have k:y=h.size:=k;omega))) w))⟩) (fun hm=>?_) (((n.tr a).own d (ar _)).own m (by omega))
  rcases f hm with e|e
  ·rw[e]
  ·cases e
 ·refine⟨_,vc o 0,aA.2 ⟨_,vc o 5,p.1,vc s 0,p.2,vc s 1,?_⟩⟩
  refine A8 (.inr ⟨b,rfl,A⟩) u H p (by omega) fun N q C a w f=>?_
  refine H4 (i:=5) (c':=(j2 (1,0,0,0,none,some ⟨q,0,none⟩)).toArray) (a.get0 o) (show 5<6 by decide) rfl fun L g d=>?_
  refine⟨_,vc g 0,_,vc g 1,_,vc g 2,_,vc g 3,_,vc g 4,_,vc g 5,?_⟩;refine ei (c:=j2 w7) (vs:=j2 (1,0,0,0,none,some ⟨q,0,none⟩)) (d.oth (a.get0 b3) (by omega)) rfl fun z j m=>?_
  refine⟨_,vc j 0,_,vc j 1,_,vc j 2,_,vc j 3,_,vc j 4,_,vc j 5,?_⟩;refine I z _ (.inr ⟨rfl,q,rfl,((w.updM d (fun y k=>.inl (.inr (by have k:y=h.size:=k;omega)))).updM m (fun y k=>.inl (.inr (by have k:y=F.size:=k;omega)))).less Pro.sub⟩) (fun hm=>?_) (((n.tr a).own d (ar _)).own m (by omega))
  rcases f hm with e|e
  ·rw[e]
  ·cases e
end Go.Proofs
namespace Go.Proofs
open Go Go.Lift
def oU(t u:Tr):Bool:=(t.1==u.1)&&((((t.2.1==u.2.1)&&((t.2.2.1==u.2.2.1)&&true)))&&((t.2.2.2.1==u.2.2.2.1)&&true))
theorem AY{t u:Tr}{h:ac}{K:Bool→ac→Prop}(d:∀h',Upd No h h'→K (oU t u) h'):HC PG nJ [GC t,GC u] [.c .bool] K h:=by
 refine BQ t u ?_;unfold vR av qn eM;refine bO fun e b1 k1=>bO fun c b2 a=>?_
 have c1:=a.get0 b1;refine⟨_,vc c1 0,_,vc b2 0,?_⟩;have:=d c (k1.tr a);unfold oU at this;rcases hb:(t.1==u.1)with _|_
 ·rw[hb]at this
  exact ak.2 this
 ·rw[hb]at this
  exact aA.2 ⟨_,sU c1 1 0,_,sU c1 1 1,_,sU c1 1 2,_,sU b2 1 0,_,sU b2 1 1,_,sU b2 1 2,this⟩
theorem D8{W:Nat→Prop}{x:Hs}{h:ac}{b:Nat}{l:List Pr}(t:TrieAt W x h 13 b l){K:Option Addr→ac→Prop}(c:∀h',Upd No h h'→K (some ⟨b,0,none⟩) h'):HC PG ka [GC (0,x.k0,x.k1,x.mask,some ⟨b,0,none⟩,none)] [.c .ptr] K h:=by
 refine tP (0,x.k0,x.k1,x.mask,some ⟨b,0,none⟩,none) ?_;unfold nW av af qn;refine bO fun d b1 k1=>?_
 refine Join.intro (fun t h'=>t=false∧h'=d) (fun R a=>⟨_,vc b1 0,aA.2 ⟨_,vc b1 4,a _ _ ⟨rfl,rfl⟩⟩⟩) ?_
 rintro t h' ⟨rfl,rfl⟩;exact ak.2 ⟨_,vc b1 4,c h' k1⟩
def D0(kind:Int)(x:Hs)(l:List Pr)(xs:List UInt8):Prop:=(kind=0∧xs=0::gG x 13 l)∨(kind=1∧∃ys,ES l ys∧xs=1::ys)
theorem HA{h a:ac}{b:UInt8}(c:a[h.size]? =some (.cells #[.int .u8 (b.toNat:Int)] cT (0,0))):OwnS oL 1 cT (fun y=>h.size≤y) a ⟨some ⟨h.size,0,none⟩,1,1⟩ [b]:=⟨rfl,uY,ar _,.inr ⟨h.size,[],rfl,ar _,c,rfl⟩⟩
theorem yQ{W:Nat→Prop}{x:Hs}{h:ac}{kind:Int}{t:Tr}{l:List Pr}(i:TreeIs W h kind x t l)(B:dJ l)(o:Fit l)(w:l.length≤60000){K:SliceV→ac→Prop}
  (C:∀s' h' xs,D0 kind x l xs→OwnS oL 1 cT (fun y=>h.size≤y) h' s' xs→Upd No h h'→K s' h'):HC PG hH [GC t] [.c .slice] K h:=by
 refine tO t ?_;unfold nV av ad af qn uu;refine bO fun k b1 k1=>?_
 have G:=k1.size;have app:∀{b:UInt8} {e d:ac} {s:SliceV} {xs:List UInt8},e[k.size]? =some (.cells #[.int .u8 (b.toNat:Int)] cT (0,0))→Upd No k e→OwnS oL 1 cT (fun y=>e.size≤y) d s xs→Upd No e d→xs.length≤70000000000000→D0 kind x l (b::xs)→
   ∃xs7,SRow d s.a (s.len*1) xs7∧AppP (some [.int .u8 0]) 1 1 cT (some (aZ k)) 1 1 s.len xs7 d (fun A F=>K A F):=fun{b e d s xs} n a z f H m=>by
  refine⟨_,(z.sl (W:=No) fun _ _ _ h=>h).srow,?_⟩
  have j:=a.tr f;have J:=bG n;have o1:OwnS oL 1 cT (fun y=>h.size≤y) d ⟨some ⟨k.size,0,none⟩,1,1⟩ [b]:=((HA n).upd f fun _ _ h=>h).more fun y p=>by omega
  refine AppP.own (ys:=xs) o1 z.len rfl (wG _) rfl (by omega) (by simp only[aN];omega) (by have:=j.size;omega) fun s' h' u q=>?_
  exact C s' h' _ m u ((k1.tr j).trans q fun y p=>.inr p)
 rcases i with⟨rfl,b,rfl,t⟩|⟨rfl,b,rfl,t⟩
 ·refine⟨_,vc b1 0,ak.2 (bO fun e b2 a=>?_)⟩
  have c1:=a.get0 b1;refine⟨_,vc c1 0,_,vc c1 1,_,vc c1 2,_,vc c1 3,_,vc c1 4,_,vc c1 5,?_⟩;refine D8 (TrieAt.upd0 (k1.tr a) t) fun d f=>?_
  refine G3 (TrieAt.upd0 ((k1.tr a).tr f) t) o w fun E D c v=>?_
  have I:=f.size;have g:=pq (x:=x) 13 o;have n:l.length*(20004+9*(13+1))≤60000*(20004+9*(13+1)):=cN _ w;exact app (b:=0) b2 a (c.more fun y p=>by omega) (f.tr v) (by omega) (.inl ⟨rfl,rfl⟩)
 ·refine⟨_,vc b1 0,aA.2 (bO fun e b2 a=>?_)⟩
  have c1:=a.get0 b1;refine⟨_,vc c1 5,?_⟩;refine Ba (t.upd0 (k1.tr a)) B o w fun E D xs m c v=>?_
  have g:=A9 m o;have n:2*l.length*20010≤2*60000*20010:=cN _ (by omega);exact app (b:=1) b2 a c v (by omega) (.inr ⟨rfl,xs,m,rfl⟩)
theorem Eu{W W':Nat→Prop}{h h':ac}{kind a:Int}{x d:Hs}{t u:Tr}{l l':List Pr}(i:TreeIs W h kind x t l)(e:TreeIs W' h' a d u l')(c:oU t u=true):kind=a∧(kind=0→x=d):=by
 rcases i with⟨rfl,b,rfl,_⟩|⟨rfl,b,rfl,_⟩<;>rcases e with⟨rfl,b',rfl,_⟩|⟨rfl,b',rfl,_⟩
 ·refine⟨rfl,fun _=>?_⟩
  unfold oU at c;simp only[Bool.and_eq_true,beq_iff_eq,Bool.and_true,true_and]at c;cases x;cases d;simp only at c;simp only[Hs.mk.injEq];exact⟨c.1.1,c.1.2,c.2⟩
 ·simp[oU]at c
 ·simp[oU]at c
 ·exact⟨rfl,fun h=>by cases h⟩
theorem Fq{kind:Int}{x f:Hs}(hx:kind=0→x=f){l l':List Pr}{xs c:List UInt8}(i:D0 kind x l xs)(a:D0 kind f l' c)(k:Fit l)(d:Fit l')(m:l.length≤60000)(j:l'.length≤60000)(o:dJ l)(g:dJ l'):xs=c↔l=l':=by
 rcases i with⟨rfl,rfl⟩|⟨rfl,ys,i,rfl⟩<;>rcases a with⟨e,rfl⟩|⟨e,n,a,rfl⟩
 ·rw[hx rfl]
  constructor
  ·intro h
   have h:gG f 13 l++ []=gG f 13 l'++ []:=by rw[(gu.inj h).2]
   exact(xi 13 k d m j o g h).1
  ·rintro rfl;rfl
 ·cases e
 ·cases e
 ·rw[gu.injEq,←G6 i a k d]
  exact⟨fun h=>h.2,fun h=>⟨rfl,h⟩⟩
theorem Fw{W W':Nat→Prop}{x D:Hs}{h:ac}{kind c:Int}{t u:Tr}{l l':List Pr}(i:TreeIs W h kind x t l)(B:TreeIs W' h c D u l')(v:dJ l)(A:Fit l)(z:l.length≤60000)(f:dJ l')(k:Fit l')(j:l'.length≤60000){K:Bool→ac→Prop}
  (m:∀h',Upd No h h'→K (oU t u&&decide (l=l')) h'):HC PG qA [GC t,GC u] [.c .bool] K h:=by
 refine BP t u ?_;unfold vQ av ad af qn uu zB;refine bO fun G b1 k1=>bO fun J b2 y=>?_
 have c1:=y.get0 b1;refine⟨_,vc c1 0,_,vc c1 1,_,vc c1 2,_,vc c1 3,_,vc c1 4,_,vc c1 5,_,vc b2 0,_,vc b2 1,_,vc b2 2,_,vc b2 3,_,vc b2 4,_,vc b2 5,?_⟩;refine AY fun F s=>?_
 have a:=(k1.tr y).tr s;have d:=s.get0 c1;have b3:=s.get0 b2;rcases hl:oU t u with _|_
 ·rw[hl]at m
  exact ak.2 (m F a)
 ·rw[hl]at m
  refine aA.2 ⟨_,vc d 0,_,vc d 1,_,vc d 2,_,vc d 3,_,vc d 4,_,vc d 5,_,vc b3 0,_,vc b3 1,_,vc b3 2,_,vc b3 3,_,vc b3 4,_,vc b3 5,?_⟩;refine yQ (i.upd0 a) v A z fun I H xs C n o=>?_
  have e:=o.get0 b3;refine⟨⟨vc e 0,vc e 1,vc e 2,vc e 3,vc e 4,vc e 5⟩,?_⟩;refine yQ (B.upd0 (a.tr o)) f k j fun L E ys q p w=>?_
  have g:=n.upd w fun _ _ h=>h
  refine C4 (W:=No) (W':=No) (g.sl fun _ _ _ h=>h) (p.sl fun _ _ _ h=>h) ?_
  obtain⟨rfl,hx⟩:=Eu i B hl;have:=m E ((a.tr o).tr w);rw[decide_eq_decide.2 (Fq hx C q A k z j v f)];exact this
theorem TreeIs.plain{W:Nat→Prop}{h:ac}{kind:Int}{x:Hs}{t:Tr}{l:List Pr}(i:TreeIs W h kind x t l):(∀a,t.2.2.2.2.1=some a→eI h a)∧(∀a,t.2.2.2.2.2=some a→eI h a):=by
 rcases i with⟨rfl,b,rfl,t⟩|⟨rfl,b,rfl,t⟩
 ·obtain⟨s,nd,_⟩:=t
  obtain⟨d,n,sp,sk,ow,e,_⟩:=nd.ex;refine⟨fun a c=>?_,fun a c=>(by cases c)⟩
  cases c;exact⟨_,_,e,show 0<6 by decide⟩
 ·obtain⟨w,F,⟨val,s,ow,ks,e,_⟩,_⟩:=t.ex
  refine⟨fun a c=>(by cases c),fun a c=>?_⟩
  cases c;exact⟨_,_,e,show 0<5 by decide⟩
end Go.Proofs
namespace Go.Proofs
open Go Go.Lift
abbrev kStr:KeyE ByteArray:=⟨fun s=>.string s,.str,fun x=>⟨x,rfl⟩,fun x y=>⟨fun e=>pQ e,fun e=>by subst e;exact qG x⟩⟩
abbrev TD:=Tr×List Pr
abbrev JH(d:TD):Value:=GC d.1
abbrev FY(n:Int):Value:=.int .u32 n
structure VS where
 gp:Nat
 gm:Nat
 tm:Nat
 bm:Nat
 nm:Nat
 kind:Int
 x:Hs
 e:Tr
 L:dI
 nx:Int
 D:List (Int×TD)
 B:List (ByteArray×Int)
 G:List (ByteArray×Int)
def VS.M(s:VS):Nat→Prop:=fun y=>y=s.gp∨y=s.gm∨y=s.tm∨y=s.bm∨y=s.nm
structure VaultAt(W:Nat→Prop)(h:ac)(vp:Nat)(s:VS):Prop where
 blk:h[vp]? =some (.cells (j2 s.e++ [Value.pointer (some ⟨s.gp,0,none⟩),Value.map (some s.tm),Value.map (some s.bm),Value.map (some s.nm)]).toArray bl (0,0))
 g:GraphAt W h s.gp s.gm s.L s.nx
 t:MapAt KE JH h s.tm s.D
 b:MapAt kStr FY h s.bm s.B
 n:MapAt kStr FY h s.nm s.G
 w:∀y,s.M y→W y
 wv:¬W vp
 ne: [s.gp,s.gm,s.tm,s.bm,s.nm].Nodup
 em:TreeIs W h s.kind s.x s.e []
 ts:∀d∈s.D,TreeIs W h s.kind s.x d.2.1 d.2.2∧dJ d.2.2∧Fit d.2.2
 sub:∀id,id∈s.D.map (·.1)↔id∈jZ s.L
 inv:Inv s.L s.nx
 kd:s.kind=0∨s.kind=1
theorem VaultAt.upd{W M:Nat→Prop}{h h':ac}{c:Nat}{s:VS}(v:VaultAt W h c s)(k:Upd M h h')(hm:∀b,M b→(W b∧¬s.M b)∨h.size≤b):VaultAt W h' c s:=by
 have g:∀y,s.M y→¬M y:=fun y i a=>(hm y a).elim (fun e=>e.2 i) fun e=>absurd (v.g.lt y (v.w y i)) (by omega)
 have j:∀b,M b→W b∨h.size≤b:=fun b a=>(hm b a).imp (·.1) id
 have m:¬M c:=fun a=>(hm c a).elim (fun e=>v.wv e.1) fun e=>absurd (bG v.blk) (by omega)
 exact⟨k.get v.blk m,v.g.upd k fun b a=>(hm b a).imp (fun e=>⟨e.1,fun f=>e.2 (.inl f),fun f=>e.2 (.inr (.inl f))⟩) id,v.t.upd k (g _ (.inr (.inr (.inl rfl)))),v.b.upd k (g _ (.inr (.inr (.inr (.inl rfl))))),v.n.upd k (g _ (.inr (.inr (.inr (.inr rfl))))),v.w,v.wv,v.ne,v.em.updM k j,fun d hd=>⟨(v.ts d hd).1.updM k j,(v.ts d hd).2⟩,v.sub,v.inv,v.kd⟩
theorem VaultAt.upd0{W:Nat→Prop}{h h':ac}{a:Nat}{s:VS}(v:VaultAt W h a s)(k:Upd No h h'):VaultAt W h' a s:=v.upd k fun _ h=>h.elim
end Go.Proofs
namespace Go.Proofs
open Go Go.Lift
theorem z9{h:ac}{r:Nat}{es:Array MapEntry}{a:Nat}(t:TypeId)(g:h[r]? =some (.map es a)) {K:Value→ac→Prop} (d:K (.iface t (.map (some h.size))) (h.push (.map es a))):
  HC PG pC [.iface t (.map (some r))] [.c .raw] K h:=by
 refine⟨fun w f=>.inr ?_⟩
 subst f;have c:(getObj r).run PG w=.ok (.map es a) w:=by simp[getObj,Sem.run,g]
 refine⟨.iface t (.map (some w.heap.size)),w.alloc (.map es a),?_,⟨rfl,rfl,rfl⟩,_,rfl,d⟩;rw[Az];have e:Extern.MapsClone.clone #[.iface t (.map (some r))]=(getObj r>>=fun o=>match o with
   | .map entries a=>(newObj (.map entries a)>>=fun n=>pure (.iface t (.map (some n))))
   |_=>stuck "maps.clone: a map expected"):=rfl
 rw[show([Value.iface t (.map (some r))]:List Value).toArray= #[.iface t (.map (some r))]from rfl,e]
 simp only[Sem.run_bind,c,Result.andThen_ok];rfl
theorem F5{W:Nat→Prop}{h:ac}{gp gm:Nat}{L:dI}{nx:Int}(g:GraphAt W h gp gm L nx)
  {K:Option Addr→ac→Prop}(v:∀h',Upd No h h'→GraphAt (fun b=>W b∨b=h.size+1∨b=h.size) h' gp gm L nx→GraphAt (fun b=>W b∨b=h.size+1∨b=h.size) h' (h.size+1) h.size L nx→K (some ⟨h.size+1,0,none⟩) h'):
  HC PG jO [.pointer (some ⟨gp,0,none⟩)] [.c .ptr] K h:=by
 refine sN (some ⟨gp,0,none⟩) ?_;unfold ng bA dx;refine CondP.intro (fun e=>by cases e) fun _=>⟨_,rfl,_,g.c0,_,rfl,_,g.c1,?_⟩
 refine jR (some gm) ?_;unfold fy;refine CondP.intro (fun e=>by cases e) fun _=>?_
 obtain⟨m,⟨ms,a,hm,y⟩,x⟩:=g.map;refine z9 _ hm.here ⟨_,rfl,?_⟩;have k1:=Upd.push No h (.map (ms.map (Bp KE sv)).toArray a);have d:MapAt KE sv (h.push (.map (ms.map (Bp KE sv)).toArray a)) h.size m:=⟨ms,a,⟨qm h _,hm.keys,hm.nums,hm.old⟩,y⟩;refine⟨(g.upd0 k1).c1,?_⟩;have c:(h.push (.map (ms.map (Bp KE sv)).toArray a)).size=h.size+1:=by simp
 generalize (h.push (.map (ms.map (Bp KE sv)).toArray a))=h1 at k1 d c;have f:=Upd.hnew No h1 [.map (some h.size),.int .u32 nx] eC;have b2:=bh h1 [.map (some h.size),.int .u32 nx] eC;have t:=eO h1 [.map (some h.size),.int .u32 nx] eC;simp only[At,bS];rw[c]at b2⊢;generalize hnew h1 [.map (some h.size),.int .u32 nx] eC=h2 at f b2 t
 have k:=k1.tr f;have n:∀b,(b=h.size+1∨b=h.size)→h.size≤b∧b<h2.size:=fun b i=>by omega
 have o:=g.more (Q:=fun b=>b=h.size+1∨b=h.size) k n
 refine⟨((g.upd0 k1).upd0 f).c1,v h2 k o ⟨b2,⟨m,d.upd f id,?_⟩,.inr (.inl rfl),.inr (.inr rfl),o.lt,g.nd⟩⟩;intro j;rcases x j with⟨s,ps,w,u,p⟩|q
 ·exact .inl ⟨s,ps,w,u,(p.less fun b i=>i.imp id fun i=>(n b i).1).upd k fun _ h=>h.elim⟩
 ·exact .inr q
end Go.Proofs
