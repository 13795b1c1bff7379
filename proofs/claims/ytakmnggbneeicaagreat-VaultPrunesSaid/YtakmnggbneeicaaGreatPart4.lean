/- A part of the proof that the named laws of this program answer true, whatever the input. -/
import Derived.Test.YtakmnggbneeicaaGreatPart3
import Derived.Test.YtakmnggbneeicaaGreatPart2
open Array renaming toList_inj→mr
open ByteArray renaming data_extract→oV,mk→vX
open Iff renaming rfl→rv
open Int renaming toNat_natCast→bf
open List renaming extract_eq_take_drop→fK,length_drop→aX,getElem?_toArray→dP,getElem_mem→aH,length→jc,length_nil→bA,take_length→bP,length_take→aQ,mem_append→aF,mem_map→aP,pairwise_append→ct,pairwise_map→fi,mem_cons_self→ar,pairwise_cons→ay,mem_cons→aq,lt_irrefl→sJ,mem_cons_of_mem→ax,replicate→fh,take_succ_eq_append_getElem→av,length_append→ae,length_map→bS,length_set→gK,append_assoc→aE,drop_drop→cL,drop_left'→cA,filter_append→ci,getElem?_eq_getElem→af
open List.Lex renaming nil→vV
open List.Pairwise renaming nil→cf
open Nat renaming le_of_eq→cC,zero_le→aN,le_refl→ai,zero_add→aO,lt_or_ge→cr,lt_irrefl→km,lt_of_lt_of_le→az
open Option renaming some→bK,mem_toList→oF,map_eq_some_iff→jQ
open Prod renaming mk→pK
namespace Go.Proofs
open Go Go.Lift
theorem Ld{b:Nat}{h:ad}{K:Bool→ad→Prop}(a:K false h):fI 228 [gS b,.pointer none] K h:=by
 refine zL _ none ?_;dsimp only[sq,dg,cH];exact aw.2 (w9 (ag.2 a))
abbrev VG:List Value:= [.string (⟨#[]⟩:ByteArray),.bool false,.string (⟨#[]⟩:ByteArray),.slice none 0 0,.pointer none]
theorem oa{W:Nat→Prop}{h:ad}{b:Nat}{sl val:ByteArray}{has:Bool}{s:SliceV}{ow:Option Addr}{ks:List (Option Addr)}(hb:h[b]? =some (.cells (CH sl has val s ow) 264 (0,0))) (w:Sl ql 1 W h s ks) (D:ks.length≤256) {K:Option Addr→ad→Prop}
  (z:∀h' s',h'[h.size]? =some (.cells (CH sl has val s' none) 264 (0,0))→OwnS ql 1 51 (fun x=>h.size<x∧x<h'.size) h' s' ks→Upd No h h'→K (some ⟨h.size,0,none⟩) h'):
  eT 161 [gS b,.pointer none] K h:=by
 refine Cn _ none ?_;dsimp only[vg,dg,cZ,nv,kq,cV,cg,KA,W2,cH,gU,xy,gl,pn];refine Ld (ag.2 ?_);refine⟨_,rfl,sl,eK (i:=0) hb,has,eK (i:=1) hb,val,eK (i:=2) hb,s,eK (i:=3) hb,ow,eK (i:=4) hb,bL ?_⟩;have k1:=Upd.hnew No h VG 264;have b1:=bU h VG 264;simp only[cz h];generalize hnew h [.string (⟨#[]⟩:ByteArray),.bool false,.string (⟨#[]⟩:ByteArray),.slice none 0 0,.pointer none] 264=h1 at k1 b1
 refine cn (c:=VG) (vs:= [.string sl,.bool has,.string val,.slice s.a s.len s.cap,.pointer ow]) b1 rfl fun q b2 o=>?_
 have n:Upd No h q:=k1.trans o fun x hx=>.inr (cC hx.symm)
 have A:h.size<q.size:=bw b2;have j:=n.get0 hb;refine⟨_,rfl,s,eK (i:=3) j,?_⟩;refine Ir (w.upd n fun _ h=>h.elim) (by omega) fun p v k f=>?_
 have b3:v[h.size]? =some (.cells (CH sl has val s ow) 264 (0,0)):=f.get0 b2;refine⟨T8 (i:=3) b3 (show 3<5 by decide),GW (i:=3) (c':=CH sl has val p ow) b3 rfl fun B t m=>?_⟩
 refine⟨T8 (i:=4) t (show 4<5 by decide),GW (i:=4) (c':=CH sl has val p none) t rfl fun u y g=>?_⟩
 refine w9 (ag.2 ?_);have a:=m.tr g;have C:=a.size;have d:=(k.within.upd a fun x hx e=>by have e:x=h.size:=e;have:=hx.1;omega).more (M':=fun x=>h.size<x∧x<u.size) fun x hx=>⟨by have:=hx.1;omega,by have:=hx.2;omega⟩
 exact z u p y d ((n.tr f).trans a fun x hx=>.inr (cC hx.symm))
theorem vy{h:ad}{b:Nat}{sl nl:ByteArray}{has:Bool}{val:ByteArray}{s:SliceV}{ow:Option Addr}(hb:h[b]? =some (.cells (CH sl has val s ow) 264 (0,0))) {K:Option Addr→ad→Prop}
  (a:∀h',h'[b]? =some (.cells (CH nl has val s ow) 264 (0,0))→Upd (· =b) h h'→K (some ⟨b,0,none⟩) h'):eT 234 [gS b,.string nl] K h:=by
 refine zK _ nl ?_;dsimp only[sn,cV,cH];exact⟨_,rfl,T8 (i:=0) hb (show 0<5 by decide),GW (i:=0) (c':=CH nl has val s ow) hb rfl a⟩
theorem CG{h:ad}{b:Nat}{sl v:ByteArray}{has:Bool}{val:ByteArray}{s:SliceV}{ow:Option Addr}(hb:h[b]? =some (.cells (CH sl has val s ow) 264 (0,0))) {K:Option Addr→ad→Prop}
  (d:∀h',h'[b]? =some (.cells (CH sl true v s ow) 264 (0,0))→Upd (· =b) h h'→K (some ⟨b,0,none⟩) h'):eT 162 [gS b,.string v] K h:=by
 refine yj _ v ?_;dsimp only[qM,cV,cH];exact⟨_,rfl,T8 (i:=1) hb (show 1<5 by decide),GW (i:=1) (c':=CH sl true val s ow) hb rfl fun f b1 c=>⟨_,rfl,T8 (i:=2) b1 (show 2<5 by decide),GW (i:=2) (c':=CH sl true v s ow) b1 rfl fun e b2 a=>d e b2 (c.tr a)⟩⟩
theorem Nh{h:ad}{k v:ByteArray}{K:Option Addr→ad→Prop}(g:∀h' b s,h'[b]? =some (.cells (CH k true v s none) 264 (0,0))→s.len=0→s.len≤s.cap→h.size≤b→Upd No h h'→K (some ⟨b,0,none⟩) h'):eT 165 [.pointer none,.string k,.string v] K h:=by
 refine cW (yI none k v) .nil Tryz.func165 Tryz.call165 ?_;unfold yI kq fP KA;have k1:=Upd.hnew No h VG 264;have b1:=bU h VG 264;refine bL ?_;simp only[cz h];generalize hnew h [.string (⟨#[]⟩:ByteArray),.bool false,.string (⟨#[]⟩:ByteArray),.slice none 0 0,.pointer none] 264=h1 at k1 b1;refine oa (W:=No) (ks:= []) (sl:=⟨#[]⟩) (val:=⟨#[]⟩) (has:=false) (s:=⟨none,0,0⟩) (ow:=none) b1 (Sl.nil oc) (aN _) fun o s b2 a c=>?_
 refine vy (nl:=k) b2 fun n b3 f=>CG (v:=v) b3 fun j m e=>?_
 have d:=f.tr e;have z:=c.size;have i:=k1.size;refine g j h1.size s m a.len a.cap i ((k1.tr c).trans d fun x hx=>.inr (by have hx:x=h1.size:=hx;omega))
theorem Xs{W:Nat→Prop}{h:ad}{b:Nat}{k v:ByteArray}{s:SliceV}{ow:Option Addr}(hb:h[b]? =some (.cells (CH k true v s ow) 264 (0,0))) (a:s.len=0) (hc:s.len≤s.cap) (nw:¬W b):RxN W h b k (some v) .nil:=
 ⟨v,s,ow,[],hb,rfl,⟨a,oc,fun h=>absurd rfl h⟩,⟨hc,nw⟩,rfl⟩
theorem FJ(s:ByteArray)(c:Nat):(s.extract 0 c).data.toList=s.data.toList.take c:=by
 rw[oV,Array.toList_extract,fK];simp
theorem FK(s:ByteArray)(c:Nat):(s.extract c s.size).data.toList=s.data.toList.drop c:=by
 rw[oV,Array.toList_extract,fK,List.take_of_length_le];rw[aX];simp
theorem Ng{W:Nat→Prop}{h:ad}{b:Nat}{sl:ByteArray}{w:Option ByteArray}{F:Fo}(r:RxN W h b sl w F)(A:∀y,W y→y<h.size)(T:F.toL.length≤256){c:Nat}(hc:c≤sl.size){K:Option Addr→ad→Prop}
  (hk:∀h' b',RxN W h' b' (sl.extract 0 c) none (.cons (sl.data.toList.drop c) w F .nil)→Upd No h h'→K (some ⟨b',0,none⟩) h'):eT 167 [gS b,.pointer none,.int .i64 c] K h:=by
 refine zJ _ none c ?_;dsimp only[si,cZ,kq,fP,cV,KA,cH,xw];obtain⟨val,s,ow,ks,hb,hv,V,L,J⟩:=r;have lab:∀{h'},Upd No h h'→aK h' (adr ⟨b,0,none⟩ 0)=some (.string sl):=fun k=>eK (i:=0) (k.get0 hb)
 have R:=Upd.refl No h;refine⟨_,rfl,sl,lab R,⟨by omega,by omega⟩,bL ?_⟩
 have k1:=Upd.hnew No h VG 264;have b1:=bU h VG 264;simp only[cz h];generalize hnew h [.string (⟨#[]⟩:ByteArray),.bool false,.string (⟨#[]⟩:ByteArray),.slice none 0 0,.pointer none] 264=h1 at k1 b1;refine⟨lab k1,?_⟩;refine oa (W:=No) (ks:= []) (sl:=⟨#[]⟩) (val:=⟨#[]⟩) (has:=false) (s:=⟨none,0,0⟩) (ow:=none) b1 (Sl.nil oc) (aN _) fun h2 S b2 _ z=>⟨lab (k1.tr z),?_⟩
 rw[bf];refine vy b2 fun d b3 H=>?_
 have z1:=k1.size;have a:Upd No h d:=(k1.tr z).trans H fun x hx=>.inr (by have hx:x=h1.size:=hx;omega)
 refine oa (a.get0 hb) (V.upd a fun _ h=>h.elim) (by rw[(kK.1 J).1];exact T) fun h4 X O G u=>?_
 refine⟨_,rfl,sl,eK (i:=0) O,⟨by omega,by omega⟩,?_⟩
 refine vy (nl:=sl.extract c sl.size) O fun f Y n=>?_
 have m:Upd No h f:=(a.tr u).trans n fun x hx=>.inr (by have hx:x=d.size:=hx;have:=a.size;omega)
 have C:=G.upd n fun x hx e=>by have e:x=d.size:=e;have:=hx.1;omega
 have U:=bw b3;have p:f[h1.size]? =some (.cells (CH (sl.extract 0 c) false ⟨#[]⟩ S none) 264 (0,0)):=n.get (u.get0 b3) (by show ¬h1.size=d.size;omega);have o:=Upd.hnew No f [.pointer (some ⟨d.size,0,none⟩)] 51;have I:=bU f [.pointer (some ⟨d.size,0,none⟩)] 51;have hz5:=m.size;have Z:=a.size;refine bL ?_;simp only[cz f];generalize hnew f [.pointer (some ⟨d.size,0,none⟩)] 51=h6 at o I
 have q:=o.get0 p;have N:=bw p;refine⟨_,rfl,T8 (i:=3) q (show 3<5 by decide),GW (i:=3) (c':=CH (sl.extract 0 c) false ⟨#[]⟩ ⟨some ⟨f.size,0,none⟩,1,1⟩ none) q rfl fun D P g=>?_⟩
 have j:Upd No h D:=(m.tr o).trans g fun x hx=>.inr (by have hx:x=h1.size:=hx;omega)
 have E:D[f.size]? =some (.cells #[.pointer (some ⟨d.size,0,none⟩)] 51 (0,0)):=g.get I (by show ¬f.size=h1.size;omega);have B:=g.get (o.get0 Y) (by show ¬d.size=h1.size;omega);have t:=(C.upd o fun _ _ h=>h).upd g fun x hx e=>by have e:x=h1.size:=e;have:=hx.1;omega
 refine hk D h1.size ⟨⟨#[]⟩,_,none,[some ⟨d.size,0,none⟩],P,rfl,⟨rfl,oc,fun _=>⟨_,rfl,(fun hx=>by have hx:W f.size:=hx;have:=A _ hx;omega),qU E fun i v hi=>?_⟩⟩,⟨ai _,fun hx=>by have:=A _ hx;omega⟩,?_⟩ j
 ·rw[aO]
  rw[←dP]at hi;exact hi
 ·refine⟨d.size,sl.extract c sl.size,val,X,none,ks,[],rfl,FK ..,B,hv,t.sl (fun x hx _ Q=>by have:=A _ Q;have:=hx.1;omega),⟨t.cap,fun hx=>by have:=A _ hx;omega⟩,RxF.upd0 j J,rfl⟩
end Go.Proofs
namespace Go.Proofs
open Go Go.Lift
theorem Ts:∀{x y:List UInt8} {i:Nat},i≤x.length→i≤y.length→(∀j,j<i→x[j]? =y[j]?)→(i=x.length∨i=y.length∨x[i]?≠y[i]?)→cm x y=i
 | [],_,i,h1,_,_,_=>by simp at h1;simp[cm,h1]
 |_::_,[],i,_,h2,_,_=>by simp at h2;simp[cm,h2]
 |a::x,b::y,0,_,_,_,h=>by
  unfold cm;rw[if_neg];rintro rfl;rcases h with h|h|h<;>simp at h
 |a::x,b::y,i+1,h1,h2,h3,h4=>by
  have:=h3 0 (by omega);simp only[List.getElem?_cons_zero,bK.injEq]at this;unfold cm;rw[if_pos this,Ts (i:=i) (by simpa using h1) (by simpa using h2) (fun j c=>by simpa using h3 (j+1) (by omega)) (by simpa using h4)]
theorem QR{a b:ByteArray}(z:a.size≤1000000){h:ad}{K:Int→ad→Prop}(n:K (cm a.data.toList b.data.toList:Nat) h):fH 166 [.string a,.string b] K h:=by
 refine cW (yG a b) Hl Tryz.func166 Tryz.call166 ?_;dsimp only[yG,Ga];simp only[Bd];have k:(if(b.size:Int)<(a.size:Int)then(b.size:Int)else(a.size:Int))=((min a.size b.size:Nat):Int):=by split<;>omega
 rw[k];have y:a.data.toList.length=a.size:=by simp
 have A:b.data.toList.length=b.size:=by simp
 refine LoopP.ghost (fun(i:Nat) (t:Int) h'=>t=(i:Int)∧i≤min a.size b.size∧h'=h∧∀j,j<i→a.data.toList[j]? =b.data.toList[j]?) (fun i=>min a.size b.size-i) 0 ⟨rfl,aN _,rfl,fun j u=>absurd u (Nat.not_lt_zero _)⟩ ?_
 rintro I i t h' ⟨rfl,hi,rfl,p⟩ x;refine ao (fun d=>?_) fun w=>?_
 ·have d:i<min a.size b.size:=by omega
  have m:i<a.size:=by omega
  have g:i<b.size:=by omega
  refine⟨a[i],by omega,by rw[bf,getElem?_pos a i m],b[i],by omega,by rw[bf,getElem?_pos b i g],?_⟩
  have q:a.data.toList[i]? =some a[i]:=by rw[←SX,getElem?_pos a i m]
  have v:b.data.toList[i]? =some b[i]:=by rw[←SX,getElem?_pos b i g]
  refine CondP.intro (fun f=>?_) fun c=>?_
  ·rw[Ts (i:=i) (by omega) (by omega) p (.inr (.inr fun e=>?_))]at n
   ·exact n
   ·rw[q,v]at e
    rw[bK.inj e]at f;simp at f
  ·have c:a[i]=b[i]:=by
    have:((a[i].toNat:Int))=(b[i].toNat:Int):=by simpa using c
    exact UInt8.toNat_inj.1 (by omega)
   rw[cp d (by omega)];refine x (i+1) _ _ ⟨rfl,d,rfl,fun j u=>?_⟩ (by omega)
   rcases cr j i with s|s
   ·exact p j s
   ·have:j=i:=by omega
    subst this;rw[q,v,c]
 ·have o:i=min a.size b.size:=by omega
  rw[Ts (i:=i) (by omega) (by omega) p (by omega)]at n;rw[←o];exact n
theorem Qi{F:Fo}{i:Nat}{k:List UInt8}{v:ByteArray}(h:gA F)(hi:i<F.toL.length)(ek:hd F.toL[i].1=hd k)(a:uo (wK F.toL[i]) (wK F.toL[i]) k v):uo (sX F) (sX F) k v:=by
 have:=Lr h hi ek a;rw[List.set_getElem_self,Fo.of_to]at this;exact this
theorem Si{P Q a:List UInt8→ByteArray→Prop}{k:List UInt8}{v:ByteArray}(h:uo P a k v)(e:∀k v,P k v↔Q k v):uo Q a k v:=fun k' b=>by rw[h k' b,e]
set_option maxHeartbeats 1000000 in
theorem RZ{W:Nat→Prop}:∀(n:Nat) {b:Nat} {sl:ByteArray} {w:Option ByteArray} {F:Fo} {h:ad} (k v:ByteArray),k.size<n→k.size≤1000000→RxN W h b sl w F→(∀y,W y→y<h.size)→gA F→∀{K:(Option Addr)×Bool×Bool→ad→Prop},
  (∀h' b' w' F' C ch,Upd No h h'→RxN W h' b' sl w' F'→gA F'→uo (uT w F) (uT w' F') k.data.toList v→(ch=false→b'=b∧w'=w∧F'=F)→(uT w F k.data.toList v→ch=false)→K (some ⟨b',0,none⟩,C,ch) h')→
  JQ 112 [gS b,.pointer none,.string k,.string v] K h:=by
 intro n;induction n with
 |zero=>intro b sl w F h k v hk;omega
 |succ n ih=>
  intro b sl w F h k v J hk6 r hW hc K hk;refine cW (ve (some ⟨b,0,none⟩) none k v) Cs Tryz.func112 Tryz.call112 ?_;dsimp only[ve,cZ,gl,kq,fP,cV,kJ,cg,Un,GR,W4,Ja,jA,fQ,cH,gU,AW,zD,cB,pn,xw];have hr:=r;obtain⟨val,s,ow,ks,hb,hv,hs,hcap,hF⟩:=r;have X:=kK.1 hF;have hn:=pI hc;have hcan:=dA.1 hc;rw[dI]
  refine ao (fun hk0=>?_) fun hk0=>?_
  ·have hke:k.data.toList= []:=by rw[hk0]
   rw[hke]at hk;refine Join.intro (fun t h'=>t=decide (w=some v)∧h'=h) (fun R hR=>⟨_,rfl,w.isSome,eK (i:=1) hb,?_⟩) ?_
   ·cases H:w with
    |none=>exact ag.2 (hR _ _ ⟨by rw[H];rfl,rfl⟩)
    |some u=>
     refine aw.2 ⟨_,rfl,val,eK (i:=2) hb,hR _ _ ⟨?_,rfl⟩⟩;rw[dI,vw hv u H,H];exact decide_eq_decide.2 ⟨fun e=>by rw[e],fun e=>bK.inj e⟩
   ·rintro t h' ⟨rfl,rfl⟩
    refine ao (fun e=>?_) fun e=>?_
    ·refine hk h' b w F false false (Upd.refl _ _) hr hc ?_ (fun _=>⟨rfl,rfl,rfl⟩) fun _=>rfl
     rw[e];exact HI hc v
    ·refine⟨_,rfl,w.isSome,eK (i:=1) hb,?_⟩
     refine oa hb hs (by rw[X.1];exact hn) fun h1 s1 b1 ho1 p=>?_
     refine⟨eK (i:=1) (p.get0 hb),?_⟩;refine CG b1 fun B b2 A=>?_
     have d:Upd No h' B:=p.trans A fun x hx=>.inr (cC (Eq.symm hx))
     refine⟨eK (i:=1) (d.get0 hb),?_⟩;have ho2:=ho1.upd A fun x hx e=>by have e:x=h'.size:=e;have:=hx.1;omega
     refine hk B h'.size (some v) F _ true d ⟨v,s1,none,ks,b2,rfl,ho2.sl (fun x hx _ H=>by have:=hW _ H;have:=hx.1;omega),⟨ho2.cap,fun hx=>km _ (hW _ hx)⟩,RxF.upd0 d hF⟩ hc (HI hc v) (fun h=>by cases h) fun o=>?_
     rcases o with⟨_,h⟩|h
     ·exact absurd h e
     ·exact absurd rfl (vG hc h)
  ·have f:k.data.toList≠[]:=fun e=>hk0 (by cases k;exact congrArg vX (mr.1 e))
   obtain⟨c0,hc0,hc0e⟩:=JP f;refine⟨c0,Int.le_refl _,hc0,?_⟩;have hlk:k.data.toList.length=k.size:=by simp
   refine BP hr hc (c:=c0.toNat) (UInt8.toNat_lt _) fun i ok Z hlo hhi hok=>?_
   rw[hc0e]at hlo hhi hok;cases ok with
   |false=>
    have hno:∀hi:i<F.toL.length,hd F.toL[i].1≠hd k.data.toList:=fun hi e=>by have:=hok.2 ⟨hi,e⟩;cases this
    have hhi':∀j (hj:j<F.toL.length),i≤j→hd k.data.toList<hd F.toL[j].1:=fun j hj hij=>by
     have h1:=hhi j hj hij;rcases cr i j with V|V
     ·have B:=List.pairwise_iff_getElem.1 hcan.1 i j (by omega) hj V
      have h3:=hhi i (by omega) (ai _);omega
     ·have:i=j:=by omega
      subst this;have:=hno hj;omega
    obtain⟨hc',hp'⟩:=Qk (v:=v) hc f hlo hhi';refine aw.2 ?_;refine oa hb hs (by rw[X.1];exact hn) fun h1 s1 b1 ho1 p=>?_
    refine⟨_,rfl,s1,eK (i:=3) b1,?_⟩;refine Nh fun B fb fs fb2 hf0 hfc hfb A=>⟨eK (i:=3) (A.get0 b1),bL ?_⟩
    have k3:=Upd.hnew No B [.pointer (some ⟨fb,0,none⟩)] 51;have b3:=bU B [.pointer (some ⟨fb,0,none⟩)] 51;have z3:(hnew B [.pointer (some ⟨fb,0,none⟩)] 51).size=B.size+1:=dC ..;simp only[cz B];generalize hnew B [.pointer (some ⟨fb,0,none⟩)] 51=h3 at k3 b3 z3;have E:=A.tr k3;refine⟨eK (i:=3) (E.get0 b1),?_⟩;have z1:=bw b1;have z2:=A.size;have zf:=bw fb2;have ho3:=(ho1.upd E fun _ _ h=>h).more (M':=fun x=>(h.size<x∧x<h1.size)∨h3.size≤x) fun x hx=>.inl hx
    refine NU ho3 (k:=i) (by rw[X.1];exact Z) (by rw[X.1];omega) b3 (by rintro(h|h)<;>omega) (fun x hx=>.inr hx) fun s4 h4 S I=>?_
    have b4:=I.get (E.get0 b1) (by rintro(h|h)<;>omega)
    have f4:=I.get (k3.get0 fb2) (by rintro(h|h)<;>omega)
    refine⟨_,rfl,T8 (i:=3) b4 (show 3<5 by decide),GW (i:=3) (c':=CH sl w.isSome val s4 none) b4 rfl fun h5 b5 hu5=>?_⟩
    have hu05:Upd No h h5:=((p.tr E).trans I fun x hx=>.inr (by have:=p.size;rcases hx with hx|hx<;>omega)).trans hu5 fun x hx=>.inr (cC (Eq.symm hx))
    have ho5:=S.upd hu5 fun x hx e=>by have e:x=h.size:=e;rcases hx with hx|hx<;>omega
    have f5:=hu5.get f4 (by show ¬fb=h.size;omega);refine hk h5 h.size w _ true true hu05 ⟨val,s4,none,_,b5,hv,ho5.sl (fun x hx _ H=>by have:=hW _ H;rcases hx with hx|hx<;>omega),⟨ho5.cap,fun hx=>km _ (hW _ hx)⟩,kK.2 (by rw[Fo.to_of];exact(X.upd0 hu05).ins i ⟨fb,k,rfl,rfl,Xs f5 hf0 hfc fun hx=>by have:=hW _ hx;omega⟩)⟩ hc' (BW f hp') (fun h=>by cases h) fun o=>?_
    rcases o with⟨h,_⟩|o
    ·exact absurd h f
    ·obtain⟨n',hn',e,_⟩:=vH hc o
     obtain⟨j,hj,rfl⟩:=List.getElem_of_mem hn';rcases cr j i with V|V
     ·have:=hlo j hj V;omega
     ·have:=hhi' j hj V;omega
   |true=>
    obtain⟨hi,G⟩:=hok.1 rfl;refine ag.2 ⟨_,rfl,s,eK (i:=3) hb,?_⟩;obtain⟨kb,Y,hki,z,J⟩:=X.at hi;have hmem:F.toL[i]∈F.toL:=aH hi;have g:=hcan.2 _ hmem;obtain⟨a,ha,_,hvv⟩:=hs.at0 hki;have hslen:=hs.len;rw[X.1]at hslen;have hlt1:(i:Int)<((s.len:Nat):Int):=by omega
    refine⟨⟨by(try simp only);omega,hlt1⟩,a,ha,some ⟨kb,0,none⟩,hvv,_,rfl,?_⟩;obtain⟨kval,kss,kow,kks,hkb,_⟩:=id J;refine⟨Y,eK (i:=0) hkb,QR hk6 ?_⟩;rw[z];have hc1:=WB f g.1 G.symm;have P:=VQ k.data.toList F.toL[i].1;have O:=PL k.data.toList F.toL[i].1;have hcd:=PM k.data.toList F.toL[i].1;have hll:Y.size=F.toL[i].1.length:=by rw[←z];simp
    have Q:sX F k.data.toList v→wK F.toL[i] k.data.toList v:=fun o=>by
     obtain⟨n',hn',e,hN⟩:=vH hc o;rw[←yb hc hn' hmem (by omega)];exact hN
    have hset:∀{w2:Option ByteArray} {F2:Fo} {nl:List UInt8},nl≠[]→hd nl=hd F.toL[i].1→gA F2→Br (uT w2 F2)→gA (.ofL (F.toL.set i (nl,w2,F2))):=fun h1 B h3 h4=>PN hc hi ⟨h1,(TB h3).2 h4,h3⟩ B
    have N:∀{m:Bn},uo (wK F.toL[i]) (wK m) k.data.toList v→uo (sX F) (sX (.ofL (F.toL.set i m))) k.data.toList v:=fun hp=>Lr hc hi G hp
    have U:uo (wK F.toL[i]) (wK F.toL[i]) k.data.toList v→uo (sX F) (sX F) k.data.toList v:=Qi hc hi G;have hrset:∀{h':ad} {k':Option Addr} {m:Bn},Upd No h h'→Kid W h' k' m→RxL W h' (ks.set i k') (F.toL.set i m):=fun hu hkd=>(X.upd0 hu).set hi hkd
    generalize F.toL[i]=m at z J g hc1 P O hcd hll Q hset N U G;generalize hcc:cm k.data.toList m.1=c at hc1 P O hcd;obtain⟨lab,wk,Fk⟩:=m;(try simp only at z J g P O hcd hll G hset)
    refine Join.intro (fun t h'=>∃ub q wu Fu,t=some ⟨ub,0,none⟩∧Upd No h h'∧RxN W h' ub q wu Fu∧gA Fu∧q.data.toList=k.data.toList.take c∧(∀k' v',wK (q.data.toList,wu,Fu) k' v'↔wK (lab,wk,Fk) k' v')∧(∀w' F',gA F'→uo (uT wu Fu) (uT w' F') (k.data.toList.drop c) v→Br (uT w' F'))) (fun R hR=>⟨_,rfl,Y,eK (i:=0) hkb,?_⟩) ?_
    ·refine ao (fun hlt=>?_) fun hge=>?_
     ·have hlt:c<lab.length:=by omega
      refine Ng J hW (pI g.2.2) (c:=c) (by omega) fun h1 ub rn p=>hR _ _ ⟨ub,_,none,_,rfl,p,rn,?_,?_,?_,?_⟩
      ·rw[z]
       refine⟨fun e=>?_,g.2.1,g.2.2,fun _ h=>by simp[Fo.toL]at h,trivial⟩
       have:=congrArg jc e;rw[aX,bA]at this;omega
      ·rw[FJ,z,O]
      ·intro k' v'
       rw[FJ,z];exact H6 c k' v'
      ·intro w' F' hcF hp
       rw[z]at hp;refine TA (fun e=>?_) g.2.1 g.2.2 (fun hne=>?_) hp
       ·have:=congrArg jc e
        rw[aX,bA]at this;omega
       ·refine hcd ?_ hlt
        rcases cr c k.data.toList.length with V|V
        ·exact V
        ·exact absurd (List.drop_eq_nil_of_le V) hne
     ·have hce:c=lab.length:=by omega
      refine hR _ _ ⟨kb,Y,wk,Fk,rfl,Upd.refl _ _,J,g.2.2,?_,?_,?_⟩
      ·rw[z,O,hce,bP]
      ·intro k' v';rw[z]
      ·intro w' F' hcF hp
       exact Vn ((TB g.2.2).1 g.2.1) hp
    ·rintro t h1 ⟨ub,q,wu,Fu,rfl,p,rn,hcu,hsl,L,hbr⟩
     refine⟨⟨by omega,by omega⟩,?_⟩
     rw[bf];have hkd:(k.extract c k.size).data.toList=k.data.toList.drop c:=FK ..;have hks:(k.extract c k.size).size=k.size-c:=by simp
     have D:k.data.toList=q.data.toList++k.data.toList.drop c:=by rw[hsl,List.take_append_drop]
     have T:q.data.toList≠[]:=by
      rw[hsl];intro e;have:=congrArg jc e;rw[aQ,bA]at this;omega
     have hslhd:hd q.data.toList=hd lab:=by
      rw[G];conv=>rhs;rw[D]
      rw[pi T]
     refine ih (k.extract c k.size) v (by rw[hks];omega) (by rw[hks];omega) rn (fun y hy=>az (hW y hy) p.size) hcu fun B b2 w2 F2 C ch A rn2 hc2 hp2 hsm hch=>?_
     rw[hkd]at hp2 hch;have d:=p.tr A;have hpn:uo (wK (lab,wk,Fk)) (wK (q.data.toList,w2,F2)) k.data.toList v:=by
      have:=Si (Qj (lab:=q.data.toList) hp2) L;rw[←D]at this;exact this
     have hchg:uT w F k.data.toList v→ch=false:=fun o=>by
      rcases o with⟨h,_⟩|o
      ·exact absurd h f
      ·obtain⟨r,e,hr'⟩:=(L _ _).2 (Q o)
       (try simp only at e)
       rw[D]at e;have e2:=List.append_cancel_left e;rw[←D]at e;exact hch (by rw[e2];exact hr')
     cases ch with
     |false=>
      obtain⟨_,rfl,rfl⟩:=hsm rfl;refine aw.2 (hk B b w F false false d (hr.upd0 d) hc (BW f (U ?_)) (fun _=>⟨rfl,rfl,rfl⟩) fun _=>rfl)
      intro k' v';exact(L k' v').symm.trans (hpn k' v')
     |true=>
      refine ag.2 ?_;refine oa (d.get0 hb) (hs.upd d fun _ h=>h.elim) (by rw[X.1];exact hn) fun h3 s3 b3 ho3 hu3=>?_
      refine⟨_,rfl,s3,eK (i:=3) b3,?_⟩;have Z:i<ks.length:=by rw[X.1];exact hi
      obtain⟨a3,ha3,hab,hw3,S,I⟩:=OwnS.setAt ho3 Z (some ⟨b2,0,none⟩);have hlen3:=ho3.len;refine⟨⟨by(try simp only);omega,by(try simp only);omega⟩,a3,ha3,?_⟩
      have hw1:Wr h3 (adr a3 (i*1)):=by
       rcases hw3 with H|⟨b',hb',H⟩
       ·cases H
       ·cases hb';exact H 0 (by simp)
      refine⟨hw1,bL ?_⟩;have b4:=I.get b3 fun e=>by have e:B.size=a3.block:=e;have:=hab.1;omega
      have hu24:Upd No B _:=hu3.trans I fun x hx=>.inr (by have hx:x=a3.block:=hx;have:=hab.1;omega)
      have hu04:=d.tr hu24;have eset:ks.set i (some ⟨b2,0,none⟩)=ks.take i++some ⟨b2,0,none⟩::ks.drop (i+1):=by rw[List.set_eq_take_append_cons_drop,if_pos Z]
      rw[←eset]at S;exact hk _ B.size w _ C true hu04 ⟨val,s3,none,_,b4,hv,S.sl (fun x hx _ H=>by have:=hW _ H;have:=d.size;have:=hx.1;omega),⟨S.cap,fun hx=>by have:=hW _ hx;have:=d.size;omega⟩,kK.2 (by rw[Fo.to_of];exact hrset hu04 ⟨b2,q,rfl,rfl,rn2.upd0 hu24⟩)⟩ (hset T hslhd hc2 (hbr _ _ hc2 hp2)) (BW f (N hpn)) (fun h=>by cases h) hchg
end Go.Proofs
namespace Go.Proofs
open Go Go.Lift
def An:Fo→List (List UInt8×ByteArray)
 | .nil=> []
 | .cons lab w kids rest=>((w.map fun v=>(([]:List UInt8),v)).toList++An kids).map (fun p=>(lab++p.1,p.2))++An rest
def ze(w:Option ByteArray)(F:Fo):List (List UInt8×ByteArray):=(w.map fun v=>(([]:List UInt8),v)).toList++An F
theorem tg:∀{F:Fo} {k:List UInt8} {v:ByteArray},(k,v)∈An F↔sX F k v
 | .nil,_,_=>by simp[An,sX]
 | .cons lab w kids rest,k,v=>by
  unfold An sX;rw[aF,tg (F:=rest)];refine or_congr ?_ rv;rw[aP];constructor
  ·rintro⟨⟨r,u⟩,hm,b⟩
   simp only[pK.injEq]at b;obtain⟨rfl,rfl⟩:=b;refine⟨r,rfl,?_⟩;rcases aF.1 hm with h|h
   ·left
    rw[oF,jQ]at h;obtain⟨a,c,b⟩:=h;simp only[pK.injEq]at b;exact⟨b.1.symm,by rw[c,b.2]⟩
   ·exact .inr (tg.1 h)
  ·rintro⟨r,rfl,h⟩
   refine⟨(r,v),aF.2 ?_,rfl⟩;rcases h with⟨rfl,h⟩|h
   ·left;rw[h];simp
   ·exact .inr (tg.2 h)
theorem lu{w:Option ByteArray}{F:Fo}{k:List UInt8}{v:ByteArray}:(k,v)∈ze w F↔uT w F k v:=by
 unfold ze uT;rw[aF,tg];refine or_congr ?_ rv;cases w with
 |none=>simp
 |some u=>simp[Prod.ext_iff,eq_comm]
abbrev Up(l:List (List UInt8×ByteArray)):Prop:=l.Pairwise fun p q=>p.1<q.1
theorem Kg{a x y:List UInt8}(h:x<y):a++x<a++y:=by
 induction a with
 |nil=>exact h
 |cons c a ih=>exact List.Lex.cons ih
theorem LZ{x y:List UInt8}(c:y≠[])(h:hd x<hd y):x<y:=by
 match x,y,c with
 | [],b::y,_=>exact vV
 |a::x,b::y,_=>exact List.Lex.rel (UInt8.lt_iff_toNat_lt.2 h)
theorem Nx:∀{F:Fo},gA F→Up (An F)
 | .nil,_=>cf
 | .cons lab w kids rest,h=>by
  unfold An;refine ct.2 ⟨?_,Nx h.2.2.2.2,?_⟩
  ·rw[fi]
   refine List.Pairwise.imp (R:=fun p q:List UInt8×ByteArray=>p.1<q.1) (fun i=>Kg i) ?_
   refine ct.2 ⟨?_,Nx h.2.2.1,?_⟩
   ·cases w<;>simp
   ·intro a f b hb
    have d:b.1≠[]:=vG h.2.2.1 (tg (F:=kids).1 (show(b.1,b.2)∈_ from hb))
    have g:a.1= []:=by
     rw[oF,jQ]at f;obtain⟨v,_,e⟩:=f;rw[←e]
    rw[g];match b.1,d with
    |c::l,_=>exact vV
  ·intro a f b hb
   obtain⟨p,_,rfl⟩:=aP.1 f;obtain⟨n,j,e,_⟩:=vH h.2.2.2.2 (tg (F:=rest).1 (show(b.1,b.2)∈_ from hb))
   have d:b.1≠[]:=vG h.2.2.2.2 (tg (F:=rest).1 (show(b.1,b.2)∈_ from hb))
   have:=h.2.2.2.1 n j;exact LZ d (by rw[pi h.1];omega)
theorem Ph{w:Option ByteArray}{F:Fo}(h:gA F):Up (ze w F):=by
 refine ct.2 ⟨by cases w<;>simp,Nx h,?_⟩
 intro a g b hb;have d:b.1≠[]:=vG h (tg (F:=F).1 (show(b.1,b.2)∈_ from hb))
 have f:a.1= []:=by
  rw[oF,jQ]at g;obtain⟨v,_,e⟩:=g;rw[←e]
 rw[f];match b.1,d with
 |c::l,_=>exact vV
theorem RI:∀{l l':List (List UInt8×ByteArray)},Up l→Up l'→(∀p,p∈l↔p∈l')→l=l'
 | [],[],_,_,_=>rfl
 | [],q::l',_,_,h=>absurd ((h q).2 (ar ..)) (by simp)
 |p::l,[],_,_,h=>absurd ((h p).1 (ar ..)) (by simp)
 |p::l,q::l',c,a,h=>by
  have c:=ay.1 c;have a:=ay.1 a;have e:p=q:=by
   rcases aq.1 ((h p).1 (ar ..))with e|g
   ·exact e
   ·rcases aq.1 ((h q).2 (ar ..))with e|f
    ·exact e.symm
    ·exact absurd (List.lt_trans (c.1 q f) (a.1 p g)) (sJ _)
  subst e;rw[RI c.2 a.2 fun z=>?_]
  constructor
  ·intro d
   rcases aq.1 ((h z).1 (ax _ d))with e|b
   ·exact absurd (c.1 z d) (by rw[e];exact sJ _)
   ·exact b
  ·intro d
   rcases aq.1 ((h z).2 (ax _ d))with e|b
   ·exact absurd (a.1 z d) (by rw[e];exact sJ _)
   ·exact b
def Wz:Fo→Nat
 | .nil=>0
 | .cons _ _ kids rest=>1+Wz kids+Wz rest
end Go.Proofs
namespace Go.Proofs
open Go Go.Lift
structure RadAt(W:Nat→Prop)(h:ad)(b:Nat)(l:List Pr):Prop where
 ex:∃w F,RxN W h b ⟨#[]⟩ w F∧gA F∧∀k v,(k,v)∈ze w F↔∃p∈l,p.1.data.toList=k∧p.2=v
theorem RadAt.upd0{W:Nat→Prop}{h h':ad}{b:Nat}{l:List Pr}(k:Upd No h h')(r:RadAt W h b l):RadAt W h' b l:=by
 obtain⟨w,F,a,c,d⟩:=r.ex;exact⟨w,F,a.upd0 k,c,d⟩
theorem RadAt.less{W W':Nat→Prop}{h:ad}(hm:∀b,W' b→W b∨h.size≤b){b:Nat}{l:List Pr}(r:RadAt W h b l):RadAt W' h b l:=by
 obtain⟨w,F,a,c,d⟩:=r.ex;exact⟨w,F,a.less hm,c,d⟩
theorem RadAt.updM{W M:Nat→Prop}{h h':ad}(k:Upd M h h')(hm:∀b,M b→W b∨h.size≤b){b:Nat}{l:List Pr}(r:RadAt W h b l):RadAt W h' b l:=by
 obtain⟨w,F,a,c,d⟩:=r.ex;exact⟨w,F,a.updM k hm,c,d⟩
def Xa(l:List Pr):List (List UInt8×ByteArray):=l.map fun p=>(p.1.data.toList,p.2)
theorem V4{l:List Pr}(c:bM l):Up (Xa l):=by
 unfold Xa Up;rw[fi];refine List.Pairwise.imp (R:=fun p q:Pr=>kl p.1 q.1) (fun{a b} h=>?_) c
 rw[JH,ByteArray.toList_eq,ByteArray.toList_eq]at h;exact h
theorem UF{w:Option ByteArray}{F:Fo}{l:List Pr}(hc:gA F)(b:bM l)(f:∀k v,(k,v)∈ze w F↔∃p∈l,p.1.data.toList=k∧p.2=v):ze w F=Xa l:=by
 refine RI (Ph hc) (V4 b) fun p=>?_
 have:=f p.1 p.2;rw[show(p.1,p.2)=p from rfl]at this
 rw[this];unfold Xa;rw[aP];constructor
 ·rintro⟨q,a,c,d⟩;exact⟨q,a,Prod.ext c d⟩
 ·rintro⟨q,a,e⟩;rw[←e];exact⟨q,a,rfl,rfl⟩
end Go.Proofs
namespace Go.Proofs
open Go Go.Lift
theorem pU{p q:Pr}:∀{l:List Pr},bM l→(q∈fG p l↔q=p∨(q∈l∧q.1≠p.1))
 | [],_=>by simp[fG]
 |r::l,b=>by
  have b:=ay.1 b;rw[ft];by_cases c:kl r.1 p.1
  ·have d:r.1≠p.1:=fun e=>by rw[e]at c;exact bN _ c
   rw[if_pos c,aq,aq,pU b.2];constructor
   ·rintro(rfl|h|⟨h,h'⟩)
    ·exact .inr ⟨.inl rfl,d⟩
    ·exact .inl h
    ·exact .inr ⟨.inr h,h'⟩
   ·rintro(h|⟨h|h,h'⟩)
    ·exact .inr (.inl h)
    ·exact .inl h
    ·exact .inr (.inr ⟨h,h'⟩)
  ·rw[if_neg c]
   by_cases a:r.1=p.1
   ·rw[if_pos a,aq,aq]
    constructor
    ·rintro(h|h)
     ·exact .inl h
     ·refine .inr ⟨.inr h,fun e=>?_⟩
      have:=b.1 q h;rw[e,a]at this;exact bN _ this
    ·rintro(h|⟨rfl|h,h'⟩)
     ·exact .inl h
     ·exact absurd a h'
     ·exact .inr h
   ·rw[if_neg a,aq,aq]
    have f:=kz c a;constructor
    ·rintro(h|rfl|h)
     ·exact .inl h
     ·exact .inr ⟨.inl rfl,a⟩
     ·refine .inr ⟨.inr h,fun e=>?_⟩
      have:=dw f (b.1 q h);rw[e]at this;exact bN _ this
    ·rintro(h|⟨rfl|h,h'⟩)
     ·exact .inl h
     ·exact .inr (.inl rfl)
     ·exact .inr (.inr h)
def RadRoot(W:Nat→Prop)(h:ad)(r:Option Addr)(l:List Pr):Prop:=(r=none∧l= [])∨∃b,r=some ⟨b,0,none⟩∧RadAt W h b l
theorem RadRoot.upd0{W:Nat→Prop}{h h':ad}{r:Option Addr}{l:List Pr}(k:Upd No h h')(t:RadRoot W h r l):RadRoot W h' r l:=t.imp id fun⟨b,e,t⟩=>⟨b,e,t.upd0 k⟩
theorem rW{a b:ByteArray}:a.data.toList=b.data.toList↔a=b:=by
 constructor
 ·intro h;cases a;cases b;exact congrArg vX (mr.1 h)
 ·rintro rfl;rfl
theorem E2{W:Nat→Prop}{h:ad}(c:∀y,W y→y<h.size){K:Option Addr→ad→Prop}(a:∀h' b,RadAt W h' b []→Upd No h h'→K (some ⟨b,0,none⟩) h'):eT 158 [] K h:=by
 refine cW yJ .nil Tryz.func158 Tryz.call158 ?_;unfold yJ KA;refine bL (a _ h.size ⟨none,.nil,⟨⟨#[]⟩,⟨none,0,0⟩,none,[],bU h VG 264,rfl,Sl.nil oc,⟨ai _,fun hx=>km _ (c _ hx)⟩,rfl⟩,trivial,fun k v=>?_⟩ (Upd.hnew No h _ _))
 simp[ze,An]
theorem BN{W:Nat→Prop}{h:ad}{r:Option Addr}{l:List Pr}(t:RadRoot W h r l)(c:∀y,W y→y<h.size){K:Option Addr→ad→Prop}(a:∀h' b,RadAt W h' b l→Upd No h h'→(r=some ⟨b,0,none⟩∨r=none)→K (some ⟨b,0,none⟩) h'):eT 111 [.pointer r] K h:=by
 refine cW (Bb r) .nil Tryz.func111 Tryz.call111 ?_;unfold Bb;rcases t with⟨rfl,rfl⟩|⟨b,rfl,t⟩
 ·exact aw.2 (E2 c fun h' b t d=>a h' b t d (.inr rfl))
 ·exact ag.2 (a h b t (Upd.refl _ _) (.inl rfl))
theorem Lk{W:Nat→Prop}{h:ad}{r:Option Addr}{l:List Pr}(t:RadRoot W h r l)(A:∀y,W y→y<h.size)(s:bM l)(p:Pr)(H:p.1.size≤1000000){K:Option Addr×Bool→ad→Prop}
  (J:∀h' b' a,Upd No h h'→RadAt W h' b' (fG p l)→(p∈l→r=some ⟨b',0,none⟩∨r=none)→K (some ⟨b',0,none⟩,a) h'):
  rP 63 [.pointer none,.pointer r,.agg #[.string p.1,.string p.2]] K h:=by
 refine cW (Df none r p) .nil Tryz.func63 Tryz.call63 ?_;dsimp only[Df,bi,Un,mF,p8,yg];have k1:=Upd.hnew No h [.string p.1,.string p.2] 33;have b1:=bU h [.string p.1,.string p.2] 33;refine bL ?_;simp only[cz h];generalize hnew h [.string p.1,.string p.2] 33=h1 at k1 b1;have g:∀{h':ad},Upd No h1 h'→∀i,aK h' (adr ⟨h.size,0,none⟩ i)=(#[.string p.1,.string p.2]:Array Value)[i]?:=fun k i=>by rw[ce,bd (k.get0 b1),aO]
 have C:=Upd.refl No h1;refine⟨p.1,g C 0,p.2,g C 1,BN (t.upd0 k1) (fun y x=>az (A y x) k1.size) fun O b G c hb=>⟨g c 1,g c 0,?_⟩⟩
 obtain⟨w,F,I,L,B⟩:=G.ex;refine RZ (p.1.size+1) p.1 p.2 (by omega) H I (fun y x=>az (A y x) (k1.tr c).size) L fun E b3 D F' a N z u n j m o=>?_
 refine J E b3 a ((k1.tr c).tr z) ⟨D,F',u,n,fun k v=>?_⟩ fun hm=>?_
 ·rw[lu,j k v,←lu,B k v]
  constructor
  ·rintro(⟨rfl,rfl⟩|⟨d,q,f,rfl,rfl⟩)
   ·exact⟨p,(pU s).2 (.inl rfl),rfl,rfl⟩
   ·exact⟨q,(pU s).2 (.inr ⟨f,fun e=>d (by rw[e])⟩),rfl,rfl⟩
  ·rintro⟨q,f,rfl,rfl⟩
   rcases(pU s).1 f with rfl|⟨f,d⟩
   ·exact .inl ⟨rfl,rfl⟩
   ·exact .inr ⟨fun e=>d (rW.1 e),q,f,rfl,rfl⟩
 ·have:=o (lu.1 ((B _ _).2 ⟨p,hm,rfl,rfl⟩))
  rw[(m this).1];exact hb
end Go.Proofs
namespace Go.Proofs
open Go Go.Lift
theorem ba{h:ad}{cs:List Value}{t:TypeId}{k:ad→Prop}(a:∀h',h'[h.size]? =some (.cells cs.toArray t (0,0))→Upd No h h'→k h'):At (hnew h cs t) k:=
 bL (a _ (bU h cs t) (Upd.hnew No h cs t))
theorem vc{h:ad}{b:Nat}{c:Array Value}{t:TypeId}(hb:h[b]? =some (.cells c t (0,0))) (i:Nat):aK h (adr ⟨b,0,none⟩ i)=c[i]?:=by rw[ce,aO];exact bd hb
theorem gw{h:ad}{b:Nat}{c:Array Value}{t:TypeId}(hb:h[b]? =some (.cells c t (0,0))) (i j:Nat):aK h (adr (adr ⟨b,0,none⟩ i) j)=c[i+j]?:=by rw[ce,ce,aO];exact bd hb
theorem rA{h:ad}{b i:Nat}{c c':Array Value}{t:TypeId}{v:Value}{k:ad→Prop}(hb:h[b]? =some (.cells c t (0,0))) (hi:i<c.size) (e:c.setIfInBounds i v=c') (d:∀h',h'[b]? =some (.cells c' t (0,0))→Upd (· =b) h h'→k h'):Wr h (adr ⟨b,0,none⟩ i)∧At (hset h (adr ⟨b,0,none⟩ i) v) k:=by
 rw[ce,aO];exact⟨eC hb hi,zA hb fun h' a f=>d h' (e▸a) f⟩
theorem _root_.Go.Lift.Upd.own{h c a:ad}{b:Nat}(k:Upd No h c)(d:Upd (· =b) c a)(hb:h.size≤b):Upd No h a:=k.trans d fun x hx=>.inr (by have hx:x=b:=hx;omega)
theorem _root_.Go.Lift.Upd.oth{h h':ad}{b c:Nat}{o:Obj}(d:Upd (· =b) h h')(hc:h[c]? =some o) (a:c≠b):h'[c]? =some o:=d.get hc a
abbrev Tr:=Int×Int×Int×Int×(Option Addr)×(Option Addr)
abbrev iH(t:Tr):List Value:= [.int .i64 t.1,.int .u64 t.2.1,.int .u64 t.2.2.1,.int .u64 t.2.2.2.1,.pointer t.2.2.2.2.1,.pointer t.2.2.2.2.2]
abbrev Ab(t:Tr):Value:=.agg #[.int .i64 t.1,.int .u64 t.2.1,.int .u64 t.2.2.1,.int .u64 t.2.2.2.1,.pointer t.2.2.2.2.1,.pointer t.2.2.2.2.2]
def Pro(W:Nat→Prop)(h a:ad)(y:Nat):Prop:=W y∨(h.size≤y∧y<a.size)
theorem Pro.lt{W:Nat→Prop}{h a:ad}(b:∀y,W y→y<h.size)(k:Upd No h a):∀y,Pro W h a y→y<a.size:=fun y c=>c.elim (fun h=>az (b y h) k.size) fun h=>h.2
theorem Pro.hm{W:Nat→Prop}{h a:ad}:∀y,Pro W h a y→W y∨h.size≤y:=fun _ b=>b.imp id fun h=>h.1
theorem Pro.sub{W:Nat→Prop}{h b a:ad}:∀y,W y→Pro W h b y∨a.size≤y:=fun _ c=>.inl (.inl c)
theorem RootAt.less{W W':Nat→Prop}{x:Hs}{h:ad}(hm:∀b,W' b→W b∨h.size≤b){r:Option Addr}{l:List Pr}(t:RootAt W x h r l):RootAt W' x h r l:=t.imp id fun⟨b,e,t⟩=>⟨b,e,TrieAt.less hm t⟩
theorem RadRoot.less{W W':Nat→Prop}{h:ad}(hm:∀b,W' b→W b∨h.size≤b){r:Option Addr}{l:List Pr}(t:RadRoot W h r l):RadRoot W' h r l:=t.imp id fun⟨b,e,t⟩=>⟨b,e,t.less hm⟩
def TreeIs(W:Nat→Prop)(h:ad)(kind:Int)(x:Hs)(t:Tr)(l:List Pr):Prop:=(kind=0∧∃b,t=(0,x.k0,x.k1,x.mask,some ⟨b,0,none⟩,none)∧TrieAt W x h 13 b l)∨(kind=1∧∃b,t=(1,0,0,0,none,some ⟨b,0,none⟩)∧RadAt W h b l)
theorem TreeIs.upd0{W:Nat→Prop}{h h':ad}{kind:Int}{x:Hs}{t:Tr}{l:List Pr}(k:Upd No h h')(i:TreeIs W h kind x t l):TreeIs W h' kind x t l:=
 i.imp (fun⟨e,b,a,t⟩=>⟨e,b,a,TrieAt.upd0 k t⟩) fun⟨e,b,a,t⟩=>⟨e,b,a,t.upd0 k⟩
theorem TreeIs.less{W W':Nat→Prop}{h:ad}(hm:∀b,W' b→W b∨h.size≤b){kind:Int}{x:Hs}{t:Tr}{l:List Pr}(i:TreeIs W h kind x t l):TreeIs W' h kind x t l:=
 i.imp (fun⟨e,b,a,t⟩=>⟨e,b,a,TrieAt.less hm t⟩) fun⟨e,b,a,t⟩=>⟨e,b,a,t.less hm⟩
theorem TreeIs.updM{W M:Nat→Prop}{h h':ad}(k:Upd M h h')(hm:∀b,M b→W b∨h.size≤b){kind:Int}{x:Hs}{t:Tr}{l:List Pr}(i:TreeIs W h kind x t l):TreeIs W h' kind x t l:=
 i.imp (fun⟨e,b,a,t⟩=>⟨e,b,a,TrieAt.updM k hm t⟩) fun⟨e,b,a,t⟩=>⟨e,b,a,t.updM k hm⟩
theorem TreeIs.pro{W:Nat→Prop}{h a:ad}(k:Upd No h a){kind:Int}{x:Hs}{t:Tr}{l:List Pr}(i:TreeIs W h kind x t l):TreeIs (Pro W h a) a kind x t l:=(i.less Pro.hm).upd0 k
theorem Ha{W:Nat→Prop}{x:Hs}{h:ad}(c:∀y,W y→y<h.size){K:Option Addr→ad→Prop}(a:∀h' b,TrieAt W x h' 13 b []→Upd No h h'→K (some ⟨b,0,none⟩) h'):eT 146 [] K h:=by
 refine yD ?_;unfold uq;exact qX c fun h' b nd d=>a h' b (KU nd) d
abbrev sY:Tr:=(0,0,0,0,none,none)
theorem KY{W:Nat→Prop}{x:Hs}{h:ad}{r:Option Addr}{l:List Pr}(t:RootAt W x h r l)(q:∀y,W y→y<h.size){K:Tr→ad→Prop}(p:∀h' t,TreeIs W h' 0 x t l→Upd No h h'→K t h'):U4 108 [.agg #[.int .u64 x.k0,.int .u64 x.k1,.int .u64 x.mask],.pointer r] K h:=by
 refine cW (xG (x.k0,x.k1,x.mask) r) GK Tryz.func108 Tryz.call108 ?_;dsimp only[xG,dt,Ei,ux,MV,nh,aD,wL,aY,aj,mc];refine ba fun j b1 k1=>ba fun o b2 m=>?_
 have v:=bw b1;have w:=bw b2;have d:=k1.tr m;refine Join.intro (fun t h'=>Upd No o h'∧∃b,t=some ⟨b,0,none⟩∧TrieAt (Pro W h o) x h' 13 b l) (fun R k=>?_) ?_
 ·rcases t with⟨rfl,rfl⟩|⟨b,rfl,t⟩
  ·exact aw.2 (Ha (Pro.lt q d) fun s b t a=>k _ _ ⟨a,b,rfl,t⟩)
  ·exact ag.2 (k _ _ ⟨Upd.refl _ _,b,rfl,TrieAt.upd0 d (TrieAt.less Pro.hm t)⟩)
 ·rintro n s ⟨a,b,rfl,n⟩
  have c1:=a.get0 (m.get0 b1);refine⟨_,vc c1 0,_,vc c1 1,_,vc c1 2,?_⟩;refine cn (c:=iH sY) (vs:=iH (0,x.k0,x.k1,x.mask,some ⟨b,0,none⟩,none)) (a.get0 b2) rfl fun u e f=>?_
  refine⟨_,vc e 0,_,vc e 1,_,vc e 2,_,vc e 3,_,vc e 4,_,vc e 5,?_⟩;have g:h.size≤j.size:=k1.size;exact p u _ (.inl ⟨rfl,b,rfl,TrieAt.less Pro.sub (TrieAt.updM f (fun y i=>.inl (.inr (by have i:y=j.size:=i;omega))) n)⟩) ((d.tr a).own f g)
theorem KW{W:Nat→Prop}{x:Hs}{h:ad}{r:Option Addr}{l:List Pr}(t:RadRoot W h r l)(n:∀y,W y→y<h.size){K:Tr→ad→Prop}(m:∀h' t,TreeIs W h' 1 x t l→Upd No h h'→K t h'):U4 109 [.pointer r] K h:=by
 refine cW (xF r) GJ Tryz.func109 Tryz.call109 ?_;dsimp only[xF,dt,ux,MV,nh,aD,wL,aY,aj];refine ba fun k b2 d=>?_
 have q:=bw b2;refine Join.intro (fun t h'=>Upd No k h'∧∃b,t=some ⟨b,0,none⟩∧RadAt (Pro W h k) h' b l) (fun R i=>?_) ?_
 ·rcases t with⟨rfl,rfl⟩|⟨b,rfl,t⟩
  ·exact aw.2 (E2 (Pro.lt n d) fun o b t a=>i _ _ ⟨a,b,rfl,t⟩)
  ·exact ag.2 (i _ _ ⟨Upd.refl _ _,b,rfl,(t.less Pro.hm).upd0 d⟩)
 ·rintro j o ⟨a,b,rfl,j⟩
  refine cn (c:=iH sY) (vs:=iH (1,0,0,0,none,some ⟨b,0,none⟩)) (a.get0 b2) rfl fun p e f=>?_
  refine⟨_,vc e 0,_,vc e 1,_,vc e 2,_,vc e 3,_,vc e 4,_,vc e 5,?_⟩;exact m p _ (.inr ⟨rfl,b,rfl,(j.updM f (fun y g=>.inl (.inr (by have g:y=h.size:=g;omega)))).less Pro.sub⟩) ((d.tr a).own f (ai _))
theorem O1{W:Nat→Prop}{x:Hs}{h:ad}(o:∀y,W y→y<h.size){kind:Int}(k:kind=0∨kind=1){K:Tr×Int→ad→Prop}(n:∀h' t,TreeIs W h' kind x t []→Upd No h h'→K (t,0) h'):MJ 59 [.int .i64 kind,.agg #[.int .u64 x.k0,.int .u64 x.k1,.int .u64 x.mask]] K h:=by
 refine cW (Gq kind (x.k0,x.k1,x.mask)) .nil Tryz.func59 Tryz.call59 ?_;dsimp only[Gq,dt,Ei,BG,ux,tf,nh,aD,wL,aY,aj,mc];refine ba fun i b1 k1=>ba fun q b2 p=>?_
 have u:=bw b1;have v:=bw b2;have e:=k1.tr p;have g:h.size≤i.size:=k1.size;have c1:=p.get0 b1;rcases k with rfl|rfl
 ·refine aw.2 ⟨_,vc c1 0,_,vc c1 1,_,vc c1 2,?_⟩
  refine KY (W:=Pro W h q) (x:=x) (l:= []) (.inl ⟨rfl,rfl⟩) (Pro.lt o e) fun s t j d=>?_
  refine cn (c:=iH sY) (vs:=iH t) (d.get0 b2) rfl fun m a b=>?_
  refine⟨_,vc a 0,_,vc a 1,_,vc a 2,_,vc a 3,_,vc a 4,_,vc a 5,?_⟩;exact n m t ((j.updM b (fun y f=>.inl (.inr (by have f:y=i.size:=f;omega)))).less Pro.sub) ((e.tr d).own b g)
 ·refine ag.2 (aw.2 ?_)
  refine KW (W:=Pro W h q) (x:=x) (l:= []) (.inl ⟨rfl,rfl⟩) (Pro.lt o e) fun s t j d=>?_
  refine cn (c:=iH sY) (vs:=iH t) (d.get0 b2) rfl fun m a b=>?_
  refine⟨_,vc a 0,_,vc a 1,_,vc a 2,_,vc a 3,_,vc a 4,_,vc a 5,?_⟩;exact n m t ((j.updM b (fun y f=>.inl (.inr (by have f:y=i.size:=f;omega)))).less Pro.sub) ((e.tr d).own b g)
theorem HL{k v:ByteArray}(c:k.size≤256)(b:v.size≤4096){h:ad}{K:Int→ad→Prop}(a:K 0 h):fH 62 [.string k,.string v] K h:=by
 refine cW (Bj k v) .nil Tryz.func62 Tryz.call62 ?_;unfold Bj;refine ao (fun h=>absurd h (by omega)) fun _=>ao (fun h=>absurd h (by omega)) fun _=>a
theorem Af{W:Nat→Prop}{x:Hs}{h:ad}{kind:Int}{t:Tr}{l:List Pr}(i:TreeIs W h kind x t l)(L:∀y,W y→y<h.size)(G:bM l)(N:l.length≤1000000)(p:Pr)(E:p.1.size≤256)(C:p.2.size≤4096){K:Tr×Int→ad→Prop}
  (I:∀h' t',TreeIs W h' kind x t' (fG p l)→(p∈l→t'=t)→Upd No h h'→K (t',0) h'):MJ 22 [Ab t,.pointer none,.agg #[.string p.1,.string p.2]] K h:=by
 refine cW (uY t none p) .nil Tryz.func22 Tryz.call22 ?_;dsimp only[uY,aY,BG,ux,aD,oW,cV,kJ,mF,bi,xA,dt,MV,nh,wL,aj,AY,ge,l7,tf,p8,yg];refine ba fun H b1 k1=>ba fun A b2 B=>ba fun S b3 v=>?_
 have U:=bw b1;have R:=bw b2;have Q:=bw b3;have X:h.size≤H.size:=k1.size;have T:H.size≤A.size:=B.size;have V:=v.size;have o:=(k1.tr B).tr v;have n:=v.get0 (B.get0 b1);have s:=v.get0 b2;have O:=i.pro o;have u:=Pro.lt L o;refine⟨_,vc s 0,_,vc s 1,HL E C (ag.2 ?_)⟩;rcases O with⟨rfl,b,rfl,D⟩|⟨rfl,b,rfl,D⟩
 ·refine⟨_,vc n 0,ag.2 ⟨_,gw n 1 0,_,gw n 1 1,_,gw n 1 2,_,vc n 4,p.1,vc s 0,p.2,vc s 1,?_⟩⟩
  refine Mh (.inr ⟨b,rfl,D⟩) u G N p fun J q d w f=>?_
  refine rA (i:=4) (c':=(iH (0,x.k0,x.k1,x.mask,some ⟨q,0,none⟩,none)).toArray) (d.get0 n) (show 4<6 by decide) rfl fun P j a=>?_
  refine⟨_,vc j 0,_,vc j 1,_,vc j 2,_,vc j 3,_,vc j 4,_,vc j 5,?_⟩;refine cn (c:=iH sY) (vs:=iH (0,x.k0,x.k1,x.mask,some ⟨q,0,none⟩,none)) (a.oth (d.get0 b3) (by omega)) rfl fun F g k=>?_
  refine⟨_,vc g 0,_,vc g 1,_,vc g 2,_,vc g 3,_,vc g 4,_,vc g 5,?_⟩;refine I F _ (.inl ⟨rfl,q,rfl,TrieAt.less Pro.sub (TrieAt.updM k (fun y m=>.inl (.inr (by have m:y=A.size:=m;omega))) (TrieAt.updM a (fun y m=>.inl (.inr (by have m:y=h.size:=m;omega))) w))⟩) (fun hm=>?_) (((o.tr d).own a (ai _)).own k (by omega))
  rcases f hm with e|e
  ·rw[e]
  ·cases e
 ·refine⟨_,vc n 0,aw.2 ⟨_,vc n 5,p.1,vc s 0,p.2,vc s 1,?_⟩⟩
  refine Lk (.inr ⟨b,rfl,D⟩) u G p (by omega) fun J q z d w f=>?_
  refine rA (i:=5) (c':=(iH (1,0,0,0,none,some ⟨q,0,none⟩)).toArray) (d.get0 n) (show 5<6 by decide) rfl fun P j a=>?_
  refine⟨_,vc j 0,_,vc j 1,_,vc j 2,_,vc j 3,_,vc j 4,_,vc j 5,?_⟩;refine cn (c:=iH sY) (vs:=iH (1,0,0,0,none,some ⟨q,0,none⟩)) (a.oth (d.get0 b3) (by omega)) rfl fun F g k=>?_
  refine⟨_,vc g 0,_,vc g 1,_,vc g 2,_,vc g 3,_,vc g 4,_,vc g 5,?_⟩;refine I F _ (.inr ⟨rfl,q,rfl,((w.updM a (fun y m=>.inl (.inr (by have m:y=h.size:=m;omega)))).updM k (fun y m=>.inl (.inr (by have m:y=A.size:=m;omega)))).less Pro.sub⟩) (fun hm=>?_) (((o.tr d).own a (ai _)).own k (by omega))
  rcases f hm with e|e
  ·rw[e]
  ·cases e
end Go.Proofs
namespace Go.Proofs
open Go Go.Lift
def lz(t u:Tr):Bool:=(t.1==u.1)&&((((t.2.1==u.2.1)&&((t.2.2.1==u.2.2.1)&&true)))&&((t.2.2.2.1==u.2.2.2.1)&&true))
theorem wQ{t u:Tr}{h:ad}{K:Bool→ad→Prop}(c:∀h',Upd No h h'→K (lz t u) h'):fI 65 [Ab t,Ab u] K h:=by
 refine cW (De t u) .nil Tryz.func65 Tryz.call65 ?_;dsimp only[De,aY,AY,ge,l7,tf];refine ba fun d b1 k1=>ba fun b b2 a=>?_
 have c1:=a.get0 b1;refine⟨_,vc c1 0,_,vc b2 0,?_⟩;have:=c b (k1.tr a);unfold lz at this;rcases hb:(t.1==u.1)with _|_
 ·rw[hb]at this
  exact ag.2 this
 ·rw[hb]at this
  exact aw.2 ⟨_,gw c1 1 0,_,gw c1 1 1,_,gw c1 1 2,_,gw b2 1 0,_,gw b2 1 1,_,gw b2 1 2,this⟩
theorem Hx{W:Nat→Prop}{x:Hs}{h:ad}{b:Nat}{l:List Pr}(_:TrieAt W x h 13 b l){K:Option Addr→ad→Prop}(c:∀h',Upd No h h'→K (some ⟨b,0,none⟩) h'):eT 100 [Ab (0,x.k0,x.k1,x.mask,some ⟨b,0,none⟩,none)] K h:=by
 refine cW (tJ (0,x.k0,x.k1,x.mask,some ⟨b,0,none⟩,none)) Bt Tryz.func100 Tryz.call100 ?_;dsimp only[tJ,aY,aD,l7,tf];refine ba fun d b1 k1=>?_
 refine Join.intro (fun t h'=>t=false∧h'=d) (fun R a=>⟨_,vc b1 0,aw.2 ⟨_,vc b1 4,a _ _ ⟨rfl,rfl⟩⟩⟩) ?_
 rintro t h' ⟨rfl,rfl⟩;exact ag.2 ⟨_,vc b1 4,c h' k1⟩
theorem Qx{W W':Nat→Prop}{h h':ad}{kind a:Int}{x d:Hs}{t u:Tr}{l l':List Pr}(i:TreeIs W h kind x t l)(e:TreeIs W' h' a d u l')(c:lz t u=true):kind=a∧(kind=0→x=d):=by
 rcases i with⟨rfl,b,rfl,_⟩|⟨rfl,b,rfl,_⟩<;>rcases e with⟨rfl,b',rfl,_⟩|⟨rfl,b',rfl,_⟩
 ·refine⟨rfl,fun _=>?_⟩
  unfold lz at c;simp only[Bool.and_eq_true,beq_iff_eq,Bool.and_true,true_and]at c;cases x;cases d;simp only at c;simp only[Hs.mk.injEq];exact⟨c.1.1,c.1.2,c.2⟩
 ·simp[lz]at c
 ·simp[lz]at c
 ·exact⟨rfl,fun h=>by cases h⟩
theorem TreeIs.plain{W:Nat→Prop}{h:ad}{kind:Int}{x:Hs}{t:Tr}{l:List Pr}(i:TreeIs W h kind x t l):(∀a,t.2.2.2.2.1=some a→eE h a)∧(∀a,t.2.2.2.2.2=some a→eE h a):=by
 rcases i with⟨rfl,b,rfl,t⟩|⟨rfl,b,rfl,t⟩
 ·obtain⟨s,nd,_⟩:=t
  obtain⟨d,n,sp,sk,ow,hb,_⟩:=nd.ex;refine⟨fun a c=>?_,fun a c=>(by cases c)⟩
  cases c;exact⟨_,_,hb,show 0<6 by decide⟩
 ·obtain⟨w,F,⟨val,s,ow,ks,hb,_⟩,_⟩:=t.ex
  refine⟨fun a c=>(by cases c),fun a c=>?_⟩
  cases c;exact⟨_,_,hb,show 0<5 by decide⟩
end Go.Proofs
namespace Go.Proofs
open Go Go.Lift
abbrev kStr:KeyE ByteArray:=⟨fun s=>.string s,.str,fun x=>⟨x,rfl⟩,fun x y=>⟨fun e=>wn e,fun e=>by subst e;exact xu x⟩⟩
abbrev TD:=Tr×List Pr
abbrev Xb(d:TD):Value:=Ab d.1
abbrev LY(n:Int):Value:=.int .u32 n
structure VS where
 gp:Nat
 gm:Nat
 tm:Nat
 bm:Nat
 nm:Nat
 kind:Int
 x:Hs
 e:Tr
 L:cT
 nx:Int
 D:List (Int×TD)
 B:List (ByteArray×Int)
 G:List (ByteArray×Int)
def VS.M(s:VS):Nat→Prop:=fun y=>y=s.gp∨y=s.gm∨y=s.tm∨y=s.bm∨y=s.nm
structure VaultAt(W:Nat→Prop)(h:ad)(vp:Nat)(s:VS):Prop where
 blk:h[vp]? =some (.cells (iH s.e++ [Value.pointer (some ⟨s.gp,0,none⟩),Value.map (some s.tm),Value.map (some s.bm),Value.map (some s.nm)]).toArray 96 (0,0))
 g:GraphAt W h s.gp s.gm s.L s.nx
 t:MapAt KE Xb h s.tm s.D
 b:MapAt kStr LY h s.bm s.B
 n:MapAt kStr LY h s.nm s.G
 w:∀y,s.M y→W y
 wv:¬W vp
 ne: [s.gp,s.gm,s.tm,s.bm,s.nm].Nodup
 em:TreeIs W h s.kind s.x s.e []
 ts:∀d∈s.D,TreeIs W h s.kind s.x d.2.1 d.2.2∧bM d.2.2∧Fit d.2.2
 sub:∀id,id∈s.D.map (·.1)↔id∈dF s.L
 inv:Inv s.L s.nx
 kd:s.kind=0∨s.kind=1
theorem VaultAt.upd{W M:Nat→Prop}{h h':ad}{a:Nat}{s:VS}(v:VaultAt W h a s)(k:Upd M h h')(hm:∀b,M b→(W b∧¬s.M b)∨h.size≤b):VaultAt W h' a s:=by
 have c:∀y,s.M y→¬M y:=fun y g hb=>(hm y hb).elim (fun e=>e.2 g) fun e=>absurd (v.g.lt y (v.w y g)) (by omega)
 have i:∀b,M b→W b∨h.size≤b:=fun b hb=>(hm b hb).imp (·.1) id
 have hv:¬M a:=fun hb=>(hm a hb).elim (fun e=>v.wv e.1) fun e=>absurd (bw v.blk) (by omega)
 exact⟨k.get v.blk hv,v.g.upd k fun b hb=>(hm b hb).imp (fun e=>⟨e.1,fun f=>e.2 (.inl f),fun f=>e.2 (.inr (.inl f))⟩) id,v.t.upd k (c _ (.inr (.inr (.inl rfl)))),v.b.upd k (c _ (.inr (.inr (.inr (.inl rfl))))),v.n.upd k (c _ (.inr (.inr (.inr (.inr rfl))))),v.w,v.wv,v.ne,v.em.updM k i,fun d hd=>⟨(v.ts d hd).1.updM k i,(v.ts d hd).2⟩,v.sub,v.inv,v.kd⟩
theorem VaultAt.upd0{W:Nat→Prop}{h h':ad}{a:Nat}{s:VS}(v:VaultAt W h a s)(k:Upd No h h'):VaultAt W h' a s:=v.upd k fun _ h=>h.elim
end Go.Proofs
namespace Go.Proofs
open Go Go.Lift
theorem JG{h:ad}{r:Nat}{es:Array MapEntry}{a:Nat}(t:TypeId)(b:h[r]? =some (.map es a)) {K:Value→ad→Prop} (c:K (.iface t (.map (some h.size))) (h.push (.map es a))):
  QG 138 [.iface t (.map (some r))] K h:=by
 refine⟨fun w d=>.inr ?_⟩
 subst d;have f:(getObj r).run PG w=.ok (.map es a) w:=by simp[getObj,Sem.run,b]
 refine⟨.iface t (.map (some w.heap.size)),w.alloc (.map es a),?_,⟨rfl,rfl,rfl⟩,_,rfl,c⟩;rw[Kk];have e:Extern.MapsClone.clone #[.iface t (.map (some r))]=(getObj r>>=fun o=>match o with
   | .map entries a=>(newObj (.map entries a)>>=fun n=>pure (.iface t (.map (some n))))
   |_=>stuck "maps.clone: a map expected"):=rfl
 rw[show([Value.iface t (.map (some r))]:List Value).toArray= #[.iface t (.map (some r))]from rfl,e]
 simp only[Sem.run_bind,f,Result.andThen_ok];rfl
theorem S3{W:Nat→Prop}{h:ad}{gp gm:Nat}{L:cT}{nx:Int}(g:GraphAt W h gp gm L nx)
  {K:Option Addr→ad→Prop}(v:∀h',Upd No h h'→GraphAt (fun b=>W b∨b=h.size+1∨b=h.size) h' gp gm L nx→GraphAt (fun b=>W b∨b=h.size+1∨b=h.size) h' (h.size+1) h.size L nx→K (some ⟨h.size+1,0,none⟩) h'):
  eT 39 [gS gp] K h:=by
 refine cW (sD (some ⟨gp,0,none⟩)) .nil Tryz.func39 Tryz.call39 ?_;dsimp only[sD,dR,zC,cH,AV,cB];refine CondP.intro (fun e=>by cases e) fun _=>⟨_,rfl,_,g.c0,_,rfl,_,g.c1,?_⟩
 refine cW (iA (some gm)) .nil Tryz.func89 Tryz.call89 ?_;unfold iA;refine CondP.intro (fun e=>by cases e) fun _=>?_
 obtain⟨m,⟨ms,a,hm,x⟩,o⟩:=g.map;refine JG _ hm.here ⟨_,rfl,?_⟩;have k1:=Upd.push No h (.map (ms.map (BZ KE sv)).toArray a);have d:MapAt KE sv (h.push (.map (ms.map (BZ KE sv)).toArray a)) h.size m:=⟨ms,a,⟨oh h _,hm.keys,hm.nums,hm.old⟩,x⟩;refine⟨(g.upd0 k1).c1,?_⟩;have c:(h.push (.map (ms.map (BZ KE sv)).toArray a)).size=h.size+1:=by simp
 generalize (h.push (.map (ms.map (BZ KE sv)).toArray a))=h1 at k1 d c;have f:=Upd.hnew No h1 [.map (some h.size),.int .u32 nx] 104;have b2:=bU h1 [.map (some h.size),.int .u32 nx] 104;have t:=dC h1 [.map (some h.size),.int .u32 nx] 104;simp only[At,cz];rw[c]at b2⊢;generalize hnew h1 [.map (some h.size),.int .u32 nx] 104=h2 at f b2 t;have k:=k1.tr f;have n:∀b,(b=h.size+1∨b=h.size)→h.size≤b∧b<h2.size:=fun b hb=>by omega
 have i:=g.more (Q:=fun b=>b=h.size+1∨b=h.size) k n
 refine⟨((g.upd0 k1).upd0 f).c1,v h2 k i ⟨b2,⟨m,d.upd f id,?_⟩,.inr (.inl rfl),.inr (.inr rfl),i.lt,g.nd⟩⟩;intro j;rcases o j with⟨s,ps,u,p,w⟩|q
 ·exact .inl ⟨s,ps,u,p,(w.less fun b hb=>hb.imp id fun hb=>(n b hb).1).upd k fun _ h=>h.elim⟩
 ·exact .inr q
end Go.Proofs
namespace Go.Proofs
open Go Go.Lift
section
variable {W:Nat→Prop} {h:ad} {vp:Nat} {s:VS}
abbrev pV(a:Nat):Value:=.pointer (some ⟨a,0,none⟩)
theorem Eg(v:VaultAt W h vp s)(id:Int){K:Bool→ad→Prop}(a:K (decide (id=0∨id∈dF s.L)) h):fI 74 [pV vp,.int .u32 id] K h:=by
 refine cW (tG (some ⟨vp,0,none⟩) id) .nil Tryz.func74 Tryz.call74 ?_;dsimp only[tG,dg,sL,cH];refine CondP.intro (fun e=>?_) fun e=>⟨_,rfl,_,vc v.blk 6,JR v.g id ?_⟩
 ·rw[decide_eq_true (.inl (by simpa using e))]at a;exact a
 ·have e:id≠0:=by simpa using e
  rw[show decide (id=0∨id∈dF s.L)=decide (id∈dF s.L)from by simp[e]]at a;exact a
theorem rx(v:VaultAt W h vp s)(id fr:Int){K:Bool→ad→Prop}(a:∀b h',(b=true↔id=0∨UpG s.L fr id)→Upd No h h'→K b h'):fI 68 [pV vp,.int .u32 id,.int .u32 fr] K h:=by
 refine cW (qF (some ⟨vp,0,none⟩) id fr) .nil Tryz.func68 Tryz.call68 ?_;dsimp only[qF,dg,Ef,cH];refine CondP.intro (fun e=>a _ _ ⟨fun _=>.inl (by simpa using e),fun _=>rfl⟩ (Upd.refl _ _)) fun e=>⟨_,rfl,_,vc v.blk 6,Ia v.g v.inv.good.toSmall fr id fun b h' hb c=>a b h' ?_ c⟩
 have e:id≠0:=by simpa using e
 simp[hb,e]
theorem gN(v:VaultAt W h vp s)(n:ByteArray){K:Int×Bool→ad→Prop}(a:K ((bC s.B n).getD 0,(bC s.B n).isSome) h):G8 50 [pV vp,.string n] K h:=by
 refine cW (se (some ⟨vp,0,none⟩) n) .nil Tryz.func50 Tryz.call50 ?_;dsimp only[se,cB,cH];exact CondP.intro (fun e=>by cases e) fun _=>⟨_,rfl,_,vc v.blk 8,_,_,v.b.get n 0,a⟩
theorem P4(v:VaultAt W h vp s){K:Tr→ad→Prop}(d:∀h',Upd No h h'→K s.e h'):U4 21 [pV vp] K h:=by
 refine cW (qJ (some ⟨vp,0,none⟩)) .nil Tryz.func21 Tryz.call21 ?_;dsimp only[qJ,dg,dt,ux,MV,nh,aD,wL,aY,aj,cH,xz,te,ge];refine ba fun f b1 k1=>CondP.intro (fun e=>by cases e) fun _=>⟨_,rfl,?_⟩
 have c:=k1.get0 v.blk;refine⟨_,gw c 0 0,_,gw c 0 1,_,gw c 0 2,_,gw c 0 3,_,gw c 0 4,_,gw c 0 5,?_⟩;refine cn (c:=iH sY) (vs:=iH s.e) b1 rfl fun b b2 a=>?_
 exact⟨_,vc b2 0,_,vc b2 1,_,vc b2 2,_,vc b2 3,_,vc b2 4,_,vc b2 5,d b (k1.own a (ai _))⟩
theorem KP(v:VaultAt W h vp s)(id:Int){K:Tr×Int→ad→Prop}(i:id=0→∀h',Upd No h h'→K (s.e,0) h')(k:∀d,bC s.D id=some d→id≠0→∀h',Upd No h h'→K (d.1,0) h')(j:bC s.D id=none→id≠0→∀h',Upd No h h'→K (sY,4) h'):
  MJ 14 [pV vp,.int .u32 id] K h:=by
 refine cW (r9 (some ⟨vp,0,none⟩) id) .nil Tryz.func14 Tryz.call14 ?_;dsimp only[r9,cB,dg,dt,nv,ux,tf,Lw,MV,T0,nh,aD,wL,aY,aj,cH,xA,xz,te,ge];refine ba fun x b1 k1=>CondP.intro (fun e=>by cases e) fun _=>?_
 have c:=k1.get0 v.blk;refine CondP.intro (fun e=>⟨_,rfl,?_⟩) fun e=>⟨_,rfl,_,vc c 7,((bC s.D id).getD (sY,[])).1,_,(v.t.upd k1 fun h=>h).get id (sY,[]),ba fun q b2 p=>?_⟩
 ·refine⟨_,gw c 0 0,_,gw c 0 1,_,gw c 0 2,_,gw c 0 3,_,gw c 0 4,_,gw c 0 5,?_⟩
  refine cn (c:=iH sY) (vs:=iH s.e) b1 rfl fun q b2 m=>?_
  exact⟨_,vc b2 0,_,vc b2 1,_,vc b2 2,_,vc b2 3,_,vc b2 4,_,vc b2 5,i (by simpa using e) q (k1.own m (ai _))⟩
 ·have e:id≠0:=by simpa using e
  have u:=bw b1;have w:=k1.size;refine cn (c:=iH sY) (vs:=iH ((bC s.D id).getD (sY,[])).1) b2 rfl fun t b3 g=>?_
  have f:=g.oth (p.get0 b1) (by omega);have o:Upd No h t:=(k1.tr p).own g k1.size;cases hl:bC s.D id with
  |none=>
   refine aw.2 (cn (c:=iH sY) (vs:=iH sY) f rfl fun n a b=>?_)
   exact⟨_,vc a 0,_,vc a 1,_,vc a 2,_,vc a 3,_,vc a 4,_,vc a 5,j hl e n (o.own b (ai _))⟩
  |some d=>
   rw[hl]at b3;refine ag.2 ⟨_,vc b3 0,_,vc b3 1,_,vc b3 2,_,vc b3 3,_,vc b3 4,_,vc b3 5,?_⟩;refine cn (c:=iH sY) (vs:=iH d.1) f rfl fun n a b=>?_
   exact⟨_,vc a 0,_,vc a 1,_,vc a 2,_,vc a 3,_,vc a 4,_,vc a 5,k d hl e n (o.own b (ai _))⟩
theorem P3(v:VaultAt W h vp s){K:Option Addr→ad→Prop}(a:∀h',Upd No h h'→GraphAt (fun b=>W b∨b=h.size+1∨b=h.size) h' (h.size+1) h.size s.L s.nx→K (some ⟨h.size+1,0,none⟩) h'):eT 8 [pV vp] K h:=by
 refine cW (qI (some ⟨vp,0,none⟩)) .nil Tryz.func8 Tryz.call8 ?_;dsimp only[qI,dg,cH];exact CondP.intro (fun e=>by cases e) fun _=>⟨_,rfl,_,vc v.blk 6,S3 v.g fun h' c _ g=>a h' c g⟩
theorem VaultAt.turn{M:Nat→Prop}{h':ad}{L:cT}{nx:Int}{D:List (Int×TD)}{B G:List (ByteArray×Int)}(v:VaultAt W h vp s)(k:Upd M h h')(hm:∀b,M b→W b∨h.size≤b)(g:GraphAt W h' s.gp s.gm L nx)(t:MapAt KE Xb h' s.tm D)(b:MapAt kStr LY h' s.bm B)(n:MapAt kStr LY h' s.nm G)
  (ts:∀d∈D,d∈s.D∨TreeIs W h' s.kind s.x d.2.1 d.2.2∧bM d.2.2∧Fit d.2.2)(sub:∀id,id∈D.map (·.1)↔id∈dF L)(inv:Inv L nx):VaultAt W h' vp {s with L:=L,nx:=nx,D:=D,B:=B,G:=G}:=by
 have hv:¬M vp:=fun hb=>(hm vp hb).elim (fun e=>v.wv e) fun e=>absurd (bw v.blk) (by omega)
 exact⟨k.get v.blk hv,g,t,b,n,v.w,v.wv,v.ne,v.em.updM k hm,fun d hd=>(ts d hd).elim (fun e=>⟨(v.ts d e).1.updM k hm,(v.ts d e).2⟩) id,sub,inv,v.kd⟩
end
end Go.Proofs
namespace Go.Proofs
open Go Go.Lift
def uO(b:UInt8):Bool:=decide (33≤b.toNat)&&decide (b.toNat≤126)
def oq(n:ByteArray):Bool:=decide (1≤n.size)&&decide (n.size≤32)&&n.data.toList.all uO
theorem Tz{b:UInt8}{h:ad}{K:Bool→ad→Prop}(a:K (!uO b) h):fI 160 [.int .u8 b.toNat] K h:=by
 refine cW (wt b.toNat) .nil Tryz.func160 Tryz.call160 ?_;unfold wt;refine ao (fun e=>?_) fun e=>?_
 ·rw[show(!uO b)=true from by simp[uO];omega]at a;exact a
 ·rw[show(!uO b)=decide ((b.toNat:Int)>126)from by unfold uO;rw[decide_eq_true (by omega:33≤b.toNat),Bool.true_and,←decide_not,decide_eq_decide];omega]at a;exact a
theorem P2{n:ByteArray}{h:ad}{K:Bool→ad→Prop}(f:∀h',Upd No h h'→K (oq n) h'):fI 110 [.string n] K h:=by
 refine cW (yF n) Hk Tryz.func110 Tryz.call110 ?_;unfold yF;refine Join.plain (ao (fun e=>aw.2 ?_) fun e=>ao (fun m=>?_) fun m=>?_)
 ·rw[show oq n=false from by simp[oq];omega]at f;exact f _ (Upd.refl _ _)
 ·rw[show oq n=false from by simp[oq];omega]at f;exact f _ (Upd.refl _ _)
 ·refine fun c hc=>?_
  have k1:=Upd.push No h (.cells (dB n++fh (c-n.size) (Value.int .u8 0)).toArray 5 (c,c+1));have b1:=oh h (.cells (dB n++fh (c-n.size) (Value.int .u8 0)).toArray 5 (c,c+1));generalize h.push (.cells (dB n++fh (c-n.size) (Value.int .u8 0)).toArray 5 (c,c+1))=h1 at k1 b1;have a:n.data.toList.length=n.size:=Array.length_toList;refine nW ⟨some (aL h),n.size,c⟩ _ ?_
  unfold iK;refine po ⟨some (aL h),n.size,c⟩ _ ?_;dsimp only[jw,cB,jA,fQ];refine LoopP.ghost (fun(i:Nat) (t:Int) h'=>t=(i:Int)∧h'=h1∧i≤n.size∧∀b∈n.data.toList.take i,uO b=true) (fun i=>n.size-i) 0 ⟨rfl,rfl,aN _,by simp⟩ ?_
  rintro I i t h' ⟨rfl,rfl,hi,j⟩ k;refine ao (fun d=>?_) fun g=>?_
  ·have d:i<n.data.toList.length:=by rw[a];(try simp only at d);omega
   refine⟨by(try simp only);omega,aL h,rfl,(n.data.toList[i].toNat:Int),?_,?_⟩
   ·rw[jN b1,dP,bf,Nat.mul_one,List.getElem?_append_left (by simp[dB];omega)]
    simp[dB,a▸d]
   ·refine HV.mk' (Tz (b:=n.data.toList[i]) (CondP.intro (fun e=>?_) fun e=>?_))
    ·rw[show oq n=false from ?_]at f
     ·rw[decide_eq_true (by omega)];exact f _ k1
     ·unfold oq
      rw[show n.data.toList.all uO=false from List.all_eq_false.2 ⟨_,aH d,by simpa using e⟩,Bool.and_false]
    ·rw[cp (n:=n.size) (by omega) (by omega)]
     refine k (i+1) _ _ ⟨rfl,rfl,by omega,?_⟩ (by omega)
     rw[av d];intro b hb;rcases aF.1 hb with hb|hb
     ·exact j b hb
     ·rw[List.mem_singleton.1 hb];simpa using e
  ·have:i=n.size:=by(try simp only at g);omega
   subst this;rw[←a,bP]at j;rw[show oq n=true from by unfold oq;rw[List.all_eq_true.2 j];simp;omega]at f
   exact f _ k1
def kS(B:List (ByteArray×Int))(L:cT)(n:ByteArray)(id:Int)(no:Bool):Int:=if oq n=false then 1 else if(bC B n).isSome then 7 else if no|| !decide (id=0∨id∈dF L)then 4 else if B.length≥256 then 6 else 0
theorem PT{W:Nat→Prop}{h:ad}{f:Nat}{s:VS}(v:VaultAt W h f s){r:Nat}{B:List (ByteArray×Int)}(m:MapAt kStr LY h r B)(n:ByteArray)(id:Int)(no:Bool){K:Int→ad→Prop}
  (j:∀h',Upd (· =r) h h'→MapAt kStr LY h' r (if kS B s.L n id no=0 then j5 B n id else B)→K (kS B s.L n id no) h'):fH 61 [.map (some r),pV f,.string n,.int .u32 id,.bool no] K h:=by
 refine cW (tF (some r) (some ⟨f,0,none⟩) n id no) Bs Tryz.func61 Tryz.call61 ?_;unfold tF sL;refine⟨_,_,m.get n 0,P2 fun k k1=>?_⟩
 have a:∀e h',kS B s.L n id no=e→e≠0→Upd No h h'→K e h':=fun e h' x u i=>by
  have:=j h' i.wide;rw[x,if_neg u]at this;exact this (m.upd i fun h=>h)
 refine CondP.intro (fun e=>a 1 k ?_ (by decide) k1) fun e=>CondP.intro (fun c=>a 7 k ?_ (by decide) k1) fun c=>?_
 ·unfold kS;rw[if_pos (by simpa using e)]
 ·unfold kS;rw[if_neg (by simpa using e),if_pos c]
 ·have e:¬oq n=false:=by simpa using e
  have c:¬(bC B n).isSome=true:=by simp[c]
  refine Join.intro (fun t h'=>t=(no|| !decide (id=0∨id∈dF s.L))∧Upd No h h') (fun R o=>?_) ?_
  ·refine CondP.intro (fun b=>o _ _ ⟨by rw[b];rfl,k1⟩) fun b=>Eg (v.upd0 k1) id (o _ _ ⟨by rw[b];rfl,k1⟩)
  ·rintro t g ⟨rfl,d⟩
   refine CondP.intro (fun b=>a 4 g ?_ (by decide) d) fun b=>⟨_,(m.upd d fun h=>h).len,ao (fun q=>a 6 g ?_ (by decide) d) fun q=>?_⟩
   ·unfold kS;rw[if_neg e,if_neg c,if_pos b]
   ·unfold kS;rw[if_neg e,if_neg c,if_neg (by rw[b];decide),if_pos (by omega)]
   ·have p:=m.upd d fun h=>h
    have w:kS B s.L n id no=0:=by unfold kS;rw[if_neg e,if_neg c,if_neg (by rw[b];decide),if_neg (by omega)]
    refine⟨r,rfl,p.isMap,?_⟩;have:=j _ ((d.wide).tr (mI (M:=(· =r)) g (.string n) (.int .u32 id) rfl))
    rw[w,if_pos rfl]at this;exact this (p.put n id)
theorem VS.neB{s:VS}(h: [s.gp,s.gm,s.tm,s.bm,s.nm].Nodup):s.gp≠s.gm∧s.gp≠s.tm∧s.gp≠s.bm∧s.gp≠s.nm∧s.gm≠s.tm∧s.gm≠s.bm∧s.gm≠s.nm∧s.tm≠s.bm∧s.tm≠s.nm∧s.bm≠s.nm:=by
 simp only[List.nodup_cons,aq,List.not_mem_nil,or_false,not_or]at h;exact⟨h.1.1,h.1.2.1,h.1.2.2.1,h.1.2.2.2,h.2.1.1,h.2.1.2.1,h.2.1.2.2,h.2.2.1.1,h.2.2.1.2,h.2.2.2.1⟩
theorem VaultAt.setB{W:Nat→Prop}{h h':ad}{g:Nat}{s:VS}{B:List (ByteArray×Int)}(v:VaultAt W h g s)(k:Upd (· =s.bm) h h')(b:MapAt kStr LY h' s.bm B):VaultAt W h' g {s with B:=B}:=by
 obtain⟨t,p,m,o,u,j,q,i,n,a⟩:=VS.neB v.ne;have f:∀b,b=s.bm→W b:=fun b e=>v.w b (.inr (.inr (.inr (.inl e))))
 exact v.turn k (fun b e=>.inl (f b e)) (v.g.upd k fun b e=>.inl ⟨f b e,fun c=>m (c.symm.trans e),fun c=>j (c.symm.trans e)⟩) (v.t.upd k i) b (v.n.upd k fun e=>a e.symm) (fun d hd=>.inl hd) v.sub v.inv
theorem yU{W:Nat→Prop}{h:ad}{a:Nat}{s:VS}(v:VaultAt W h a s)(n:ByteArray)(id:Int){K:Int→ad→Prop}
  (c:∀h',Upd (· =s.bm) h h'→VaultAt W h' a {s with B:=if kS s.B s.L n id false=0 then j5 s.B n id else s.B}→K (kS s.B s.L n id false) h'):fH 20 [pV a,.string n,.int .u32 id] K h:=by
 refine cW (qc (some ⟨a,0,none⟩) n id) .nil Tryz.func20 Tryz.call20 ?_;dsimp only[qc,cB,cH];exact CondP.intro (fun e=>by cases e) fun _=>⟨_,rfl,_,vc v.blk 8,PT v v.b n id false fun h' b m=>c h' b (v.setB b m)⟩
end Go.Proofs
namespace Go.Proofs
open Go Go.Lift
section
variable {M:Nat→Prop} {h:ad} {s:SliceV} {xs ys:List Int}
theorem Jg(l:List Int):l.flatMap u32=l.map fun x=>Value.int .u32 x:=by
 induction l with
 |nil=>rfl
 |cons x l ih=>rw[List.flatMap_cons,ih];rfl
theorem OwnS.put1(g:OwnS u32 1 31 M h s ys){i:Nat}(hi:i<ys.length)(x:Int){k:ad→Prop}(n:∀h',OwnS u32 1 31 M h' s (ys.set i x)→Upd M h h'→k h'):∃a,s.a=some a∧Wr h (adr a (i*1))∧At (hset h (adr a (i*1)) (.int .u32 x)) k:=by
 have c:=g.len;have d:=g.cap;rcases g.blk with q|⟨b,f,j,hb,hc,m⟩
 ·omega
 refine⟨_,j,?_⟩;rw[Nat.mul_one];refine rA hc (by rw[List.size_toArray,ae,Jg,bS];omega) (List.setIfInBounds_toArray ..) fun p b2 o=>n p ⟨by rw[gK];exact c,jp,d,.inr ⟨b,f,j,hb,?_,m⟩⟩ (o.mono fun _ e=>.inl (e▸hb))
 rw[b2,Jg,List.set_append_left _ _ (by rw[bS];exact hi),Jg,List.map_set]
theorem OwnS.cutZ(g:OwnS u32 1 31 M h s ys){i:Nat}(hi:i<ys.length){k:ad→Prop}(q:∀h',OwnS u32 1 31 M h' ⟨aV s.a 0 s.cap 1,i-0,s.cap-0⟩ (ys.take i)→Upd M h h'→k h'):
  pk h (aV s.a i s.cap 1) 0 (cU (s.len-i) [.int .u32 0])∧At (eG h (aV s.a i s.cap 1) 0 (cU (s.len-i) [.int .u32 0])) k:=by
 have j:=g.len;have n:=g.cap;rcases g.blk with v|⟨b,a,m,hb,hc,p⟩
 ·omega
 have d:((ys.take i).flatMap u32).length=i*1:=by rw[iV jp,aQ,Nat.min_eq_left (by omega)]
 have o:((ys.drop i).flatMap u32).length=(ys.length-i)*1:=by rw[iV jp,aX]
 rw[xr (f:=u32) ys i]at hc;rw[m,iM (by omega)];have c:(cU (s.len-i) [Value.int .u32 0]).length=(s.len-i)*1:=kV _ _;refine Eh hc (by rw[c,ae,ae,d,o];omega) fun t b2 u=>q t ⟨by rw[aQ];simp only;omega,jp,by simp only;omega,
  .inr ⟨b,cU (s.len-i) [Value.int .u32 0]++a,by rw[m,sub_zero],hb,?_,?_⟩⟩ (u.mono fun _ e=>.inl (e▸hb))
 ·rw[b2]
  congr 2
  rw[aE,aE,List.take_left' (by rw[d];omega)];congr 2
  rw[←cL,cA (by rw[d];omega),cA (by rw[o,c];omega)]
 ·rw[ae,c,p];simp only;omega
def nz(xs:List Int):List Int:=xs.filter fun x=> !(x==0)
theorem RU{x:Int}{K:Bool→ad→Prop}(a:K (x==0) h):HV PG (.func (.func 181) #[] #[]) [.int .u32 x] [.c .bool] K h:=by
 refine HV.mk' (Gl x ?_);unfold xE;exact a
theorem RH(k:OwnS u32 1 31 M h s xs)(R:xs.length≤1000000){K:SliceV→ad→Prop}(E:∀s' h',OwnS u32 1 31 M h' s' (nz xs)→Upd M h h'→K s' h'):eP 117 [.slice s.a s.len s.cap] K h:=by
 have o:=k.len;have D:=k.cap;refine cW (Ba s) .nil Tryz.func117 Tryz.call117 ?_;unfold Ba;refine p9 s _ ?_;dsimp only[jI,cV,rz,cB,fQ,jA,l8,mN];refine j8 s _ ?_;dsimp only[gJ,rz,cB,fQ];have N:Sl u32 1 No h s xs:=k.sl fun _ _ _ h=>h
 refine LoopP.ghost (fun(i:Nat) (t:Int) h'=>t=(i:Int)∧h'=h∧i≤xs.length∧nz (xs.take i)=xs.take i) (fun i=>xs.length-i) 0 ⟨rfl,rfl,aN _,by simp[nz]⟩ ?_
 rintro I i t h' ⟨rfl,rfl,hi,m⟩ L;refine ao (fun c=>?_) fun F=>?_
 ·have c:i<xs.length:=by omega
  obtain⟨a,y,_,hx⟩:=Nums.at N c;refine⟨by omega,a,y,_,hx,RU (CondP.intro (fun e=>?_) fun e=>?_)⟩
  ·
   have P:nz (xs.take (i+1))=xs.take i:=by
    rw[av c];unfold nz at m⊢;rw[ci,m];simp[e]
   refine CondP.intro (fun O=>?_) fun _=>?_
   ·simp at O
   rw[cp c (by omega)];refine LoopP.ghost (fun(g:Nat×Nat×List Int) (t:Int×Int) v=>t=((g.1:Int),(g.2.1:Int))∧g.1<g.2.1∧g.2.1≤xs.length∧OwnS u32 1 31 M v s g.2.2∧g.2.2.take g.1=nz (xs.take g.2.1)∧g.2.2.drop g.2.1=xs.drop g.2.1∧Upd M h' v) (fun g=>xs.length-g.2.1) (i,i+1,xs) ⟨rfl,by(try simp only);omega,by(try simp only);omega,k,P.symm,rfl,Upd.refl _ _⟩ ?_
   rintro Q ⟨p,j,ys⟩ t v ⟨rfl,x,G,d,ht,hd,z⟩ q;have d:OwnS u32 1 31 M v s ys:=d;have H:ys.length=xs.length:=d.len.symm.trans o;(try simp only at x G ht hd⊢)
   refine ao (fun b=>?_) fun C=>?_
   ·have b:j<xs.length:=by omega
    have B:ys[j]'(by omega)=xs[j]:=by
     have:=congrArg List.head? hd;simpa[List.head?_drop,af b,af (show j<ys.length by omega)]using this
    obtain⟨a,y,_,hx⟩:=Nums.at (d.sl (W:=No) fun _ _ _ h=>h) (show j<ys.length by omega)
    rw[B]at hx;have u:ys.drop (j+1)=xs.drop (j+1):=by rw[←cL,hd,cL]
    refine Join.plain ⟨by omega,a,y,_,hx,RU (CondP.intro (fun e=>?_) fun e=>?_)⟩
    ·have f:(!(xs[j]==0))=true:=e
     refine⟨by omega,?_⟩;rw[bf];refine OwnS.put1 d (i:=p) (by omega) xs[j] fun J w A=>?_
     rw[cp (i:=p) (n:=xs.length) (by omega) (by omega),cp b (by omega)];refine q (p+1,j+1,ys.set p xs[j]) _ _ ⟨rfl,by(try simp only);omega,by(try simp only);omega,w,?_,?_,z.tr A⟩ (by(try simp only);omega)
     ·(try simp only)
      rw[av (by rw[gK];omega),List.getElem_set_self,List.take_set_of_le (ai _),ht,av b];unfold nz;rw[ci];simp[f]
     ·(try simp only)
      rw[List.drop_set_of_lt (by omega),u]
    ·have f:(!(xs[j]==0))=false:=e
     rw[cp b (by omega)];refine q (p,j+1,ys) _ _ ⟨rfl,by(try simp only);omega,by(try simp only);omega,d,?_,u,z⟩ (by(try simp only);omega)
     (try simp only)
     rw[ht,av b];unfold nz;rw[ci];simp[f]
   ·have:j=xs.length:=by omega
    subst this;rw[bP]at ht;refine⟨by omega,?_⟩;rw[bf];refine OwnS.cutZ (ys:=ys) d (by omega) fun J w A=>⟨by omega,?_⟩
    rw[ht]at w;exact E _ _ w (z.tr A)
  ·rw[cp c (by omega)]
   refine L (i+1) _ _ ⟨rfl,rfl,by omega,?_⟩ (by omega)
   rw[av c];unfold nz at m⊢;rw[ci,m];simp[e]
 ·have:i=xs.length:=by omega
  subst this;rw[bP]at m;rw[←m]at k;exact aw.2 (E s _ k (Upd.refl _ _))
end
end Go.Proofs
