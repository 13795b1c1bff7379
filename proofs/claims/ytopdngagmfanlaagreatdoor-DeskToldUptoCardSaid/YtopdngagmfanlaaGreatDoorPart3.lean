/- A part of the proof that the named laws of this program answer true, whatever the input. -/
import Derived.Test.YtopdngagmfanlaaGreatDoorPart2
import Derived.Test.YtopdngagmfanlaaGreatDoorPart0
import Derived.Shelf.Strings.Search3
import Derived.Shelf.Strings.Count
import Derived.Shelf.Small.Strs
import Derived.Shelf.Strings.Builder1
import Derived.Shelf.Strconv.Itoa1
import Derived.Shelf.Strconv.Itoa2
import Derived.Lib.ItoaNum
import Derived.Lib.ItoaMem
import Derived.Lib.ItoaLen
import Derived.Shelf.LaysM
import Derived.Lib.ParseIntB
import Derived.Shelf.Pu.Lays
import Derived.Test.YtopdngagmfanlaaGreatDoorTreeF0
import Derived.Test.YtopdngagmfanlaaGreatDoorTreeF1
import Derived.Test.YtopdngagmfanlaaGreatDoorTreeF2
import Derived.Shelf.Pu.ParseUintPublic10
open Array renaming toList_inj→mD,getElem?_modify→iI,replicate→iW,size_replicate→jq
open BitVec renaming ofInt→ao
open ByteArray renaming data_extract→hE,mk→wK
open Go.IntKind renaming wrap→ac,wrap_u64→jR,bits→af
open Iff renaming rfl→yS
open Int renaming tmod→iy,tmod_eq_emod_of_nonneg→ix,tdiv→vQ,tdiv_eq_ediv_of_nonneg→lS,toNat_natCast→ai,fdiv→fK
open List renaming size_toArray→cH,length_append→ah,length_singleton→bw,extract_eq_take_drop→fY,length_drop→aR,getElem?_toArray→ef,length→ia,length_nil→bU,take_length→bf,take_append_drop→cF,length_take→aL,mem_append→bM,mem_cons→aA,length_eq_zero_iff→bJ,getElem?_eq_some_iff→aQ,getElem?_map→gJ,replicate→bO,all_cons→vg
open Nat renaming strongRecOn→nI,le_refl→ax,le_trans→bH,le_of_eq→fg,zero_le→be,zero_add→aI,lt_or_ge→co,lt_irrefl→jw,lt_of_lt_of_le→aF,mul_comm→pm,beq→av
open Option renaming some→bh,map_eq_some_iff→eP
open Prod renaming mk→wH
open UInt8 renaming ofNat→cG
namespace Go.Proofs
open Go Go.Lift
theorem cr(a b:List UInt8):aW a++aW b=aW (a++b):=by
 apply ByteArray.ext;rw[ByteArray.data_append];simp
theorem bq(a:List UInt8):(aW a).size=a.length:=cH
theorem Mb:∀(k n:Nat),n<10^(k+1)→(dW n).length≤k+1
 |0,n,h=>by rw[sf (by simpa using h)];simp
 |k+1,n,h=>by
  by_cases c:n<10
  ·rw[sf c];simp
  ·rw[E4 c,ah]
   have:=Mb k (n/10) (by rw[Nat.pow_succ]at h;omega);simp only[bw];omega
theorem px{n:Nat}(h:n<18446744073709551616):(dW n).length≤20:=Mb 19 n (by omega)
theorem pI:∀(n:Nat),n<18446744073709551616→∀{h:ad} {K:ByteArray→ad→Prop},K (aW (dW n)) h→HC PG kU [.int .u64 (n:Int)] [.c .str] K h:=by
 intro n;induction n using nI with
 |ind n ih=>
  intro f h K b;refine QQ (n:Int) ?_;unfold Jg;have e1:iy (n:Int) 10=((n%10:Nat):Int):=by rw[ix (by omega)];omega
  have e2:ac .u64 (((n%10:Nat):Int)+1)=((n%10+1:Nat):Int):=by rw[jR];omega
  have e:ac .u64 (vQ (n:Int) 10)=((n/10:Nat):Int):=by rw[lS (by omega),jR];omega
  have key:∀d:Fin 10,(⟨#[48,49,50,51,52,53,54,55,56,57]⟩:ByteArray).extract d.val (d.val+1)=aW [cG (48+d.val)]:=by decide+kernel
  have a:=key ⟨n%10,Nat.mod_lt _ (by omega)⟩;simp only at a;rw[e1,e2,e,ai,ai,a];refine⟨by decide,by decide,⟨by omega,by show _≤((10:Nat):Int);omega⟩,⟨by omega,by omega⟩,GE (aK (fun c=>?_) fun c=>⟨by decide,ih (n/10) (by omega) (by omega) ⟨?_,?_⟩⟩)⟩
  ·rw[sf (by omega)]at b
   rw[Nat.mod_eq_of_lt (by omega)];exact b
  ·have:=px (n:=n/10) (by omega)
   rw[bq,bq];simp only[bw];omega
  ·rw[cr,←E4 (by omega)];exact b
theorem Pi:∀(v:List UInt8) (a:Nat),a≤v.foldl (fun a c=>10*a+(c.toNat-48)) a
 | [],_=>ax _
 |c::v,a=>bH (show a≤10*a+(c.toNat-48) by omega) (Pi v _)
abbrev Uo(o:Option Nat):Int×Bool:=match o with|some n=>((n:Int),true)|none=>(0,false)
end Go.Proofs
namespace Go.Proofs
open Go Go.Lift
theorem Ln{b:Nat}{h:ad}{K:Bool→ad→Prop}(a:K false h):HC PG nR [.pointer (some ⟨b,0,none⟩),.pointer none] [.c .bool] K h:=by
 refine AO _ none ?_;unfold tx gO;exact aB.2 (xA (aj.2 a))
abbrev Ve:List Value:= [.string (⟨#[]⟩:ByteArray),.bool false,.string (⟨#[]⟩:ByteArray),.slice none 0 0,.pointer none]
theorem oy{W:Nat→Prop}{h:ad}{b:Nat}{sl val:ByteArray}{has:Bool}{s:SliceV}{ow:Option Addr}{ks:List (Option Addr)}(d:h[b]? =some (.cells (FF sl has val s ow) bR (0,0))) (z:Sl vR 1 W h s ks) (C:ks.length≤256) {K:Option Addr→ad→Prop}
  (B:∀h' s',h'[h.size]? =some (.cells (FF sl has val s' none) bR (0,0))→OwnS vR 1 bA (fun x=>h.size<x∧x<h'.size) h' s' ks→Upd No h h'→K (some ⟨h.size,0,none⟩) h'):
  HC PG dM [.pointer (some ⟨b,0,none⟩),.pointer none] [.c .ptr] K h:=by
 refine Dn _ none ?_;unfold vI bE cq ci nv ce iY gO KW Wt;refine Ln (aj.2 ?_);refine⟨_,rfl,sl,fQ (i:=0) d,has,fQ (i:=1) d,val,fQ (i:=2) d,s,fQ (i:=3) d,ow,fQ (i:=4) d,aY ?_⟩;have k1:=Upd.hnew No h Ve bR;have b1:=bG h Ve bR;simp only[cV h];generalize hnew h [.string (⟨#[]⟩:ByteArray),.bool false,.string (⟨#[]⟩:ByteArray),.slice none 0 0,.pointer none] bR=h1 at k1 b1
 refine cY (c:=Ve) (vs:= [.string sl,.bool has,.string val,.slice s.a s.len s.cap,.pointer ow]) b1 rfl fun u b2 p=>?_
 have o:Upd No h u:=k1.trans p fun x hx=>.inr (fg hx.symm)
 have w:h.size<u.size:=bv b2;have n:=o.get0 d;refine⟨_,rfl,s,fQ (i:=3) n,?_⟩;refine QD (z.upd o fun _ h=>h.elim) (by omega) fun m y j f=>?_
 have b3:y[h.size]? =some (.cells (FF sl has val s ow) bR (0,0)):=f.get0 b2;refine⟨TP (i:=3) b3 (show 3<5 by decide),Hk (i:=3) (c':=FF sl has val m ow) b3 rfl fun D v q=>?_⟩
 refine⟨TP (i:=4) v (show 4<5 by decide),Hk (i:=4) (c':=FF sl has val m none) v rfl fun t A k=>?_⟩
 refine xA (aj.2 ?_);have a:=q.tr k;have E:=a.size;have g:=(j.within.upd a fun x hx e=>by have e:x=h.size:=e;have:=hx.1;omega).more (M':=fun x=>h.size<x∧x<t.size) fun x hx=>⟨by have:=hx.1;omega,by have:=hx.2;omega⟩
 exact B t m A g ((o.tr f).trans a fun x hx=>.inr (fg hx.symm))
theorem vW{h:ad}{b:Nat}{sl nl:ByteArray}{has:Bool}{val:ByteArray}{s:SliceV}{ow:Option Addr}(a:h[b]? =some (.cells (FF sl has val s ow) bR (0,0))) {K:Option Addr→ad→Prop}
  (c:∀h',h'[b]? =some (.cells (FF nl has val s ow) bR (0,0))→Upd (· =b) h h'→K (some ⟨b,0,none⟩) h'):HC PG gg [.pointer (some ⟨b,0,none⟩),.string nl] [.c .ptr] K h:=by
 refine AM _ nl ?_;unfold tu ci;exact⟨_,rfl,TP (i:=0) a (show 0<5 by decide),Hk (i:=0) (c':=FF nl has val s ow) a rfl c⟩
theorem DJ{h:ad}{b:Nat}{sl v:ByteArray}{has:Bool}{val:ByteArray}{s:SliceV}{ow:Option Addr}(d:h[b]? =some (.cells (FF sl has val s ow) bR (0,0))) {K:Option Addr→ad→Prop}
  (e:∀h',h'[b]? =some (.cells (FF sl true v s ow) bR (0,0))→Upd (· =b) h h'→K (some ⟨b,0,none⟩) h'):HC PG jB [.pointer (some ⟨b,0,none⟩),.string v] [.c .ptr] K h:=by
 refine y9 _ v ?_;unfold rQ ci;exact⟨_,rfl,TP (i:=1) d (show 1<5 by decide),Hk (i:=1) (c':=FF sl true val s ow) d rfl fun g b1 a=>⟨_,rfl,TP (i:=2) b1 (show 2<5 by decide),Hk (i:=2) (c':=FF sl true v s ow) b1 rfl fun f b2 c=>e f b2 (a.tr c)⟩⟩
theorem Nf{h:ad}{k v:ByteArray}{K:Option Addr→ad→Prop}(j:∀h' b s,h'[b]? =some (.cells (FF k true v s none) bR (0,0))→s.len=0→s.len≤s.cap→h.size≤b→Upd No h h'→K (some ⟨b,0,none⟩) h'):HC PG uS [.pointer none,.string k,.string v] [.c .ptr] K h:=by
 refine HN none k v ?_;unfold zN iL iY KW;have k1:=Upd.hnew No h Ve bR;have b1:=bG h Ve bR;refine aY ?_;simp only[cV h];generalize hnew h [.string (⟨#[]⟩:ByteArray),.bool false,.string (⟨#[]⟩:ByteArray),.slice none 0 0,.pointer none] bR=h1 at k1 b1;refine oy (W:=No) (ks:= []) (sl:=⟨#[]⟩) (val:=⟨#[]⟩) (has:=false) (s:=⟨none,0,0⟩) (ow:=none) b1 (Sl.nil oz) (be _) fun o s b2 c a=>?_
 refine vW (nl:=k) b2 fun n b3 e=>DJ (v:=v) b3 fun i g f=>?_
 have d:=e.tr f;have z:=a.size;have m:=k1.size;refine j i h1.size s g c.len c.cap m ((k1.tr a).trans d fun x hx=>.inr (by have hx:x=h1.size:=hx;omega))
theorem WU{W:Nat→Prop}{h:ad}{b:Nat}{k v:ByteArray}{s:SliceV}{ow:Option Addr}(c:h[b]? =some (.cells (FF k true v s ow) bR (0,0))) (a:s.len=0) (hc:s.len≤s.cap) (nw:¬W b):RxN W h b k (some v) .nil:=
 ⟨v,s,ow,[],c,rfl,⟨a,oz,fun h=>absurd rfl h⟩,⟨hc,nw⟩,rfl⟩
theorem Gh(s:ByteArray)(c:Nat):(s.extract 0 c).data.toList=s.data.toList.take c:=by
 rw[hE,Array.toList_extract,fY];simp
theorem Gi(s:ByteArray)(c:Nat):(s.extract c s.size).data.toList=s.data.toList.drop c:=by
 rw[hE,Array.toList_extract,fY,List.take_of_length_le];rw[aR];simp
theorem Nd{W:Nat→Prop}{h:ad}{b:Nat}{sl:ByteArray}{w:Option ByteArray}{F:Fo}(r:RxN W h b sl w F)(A:∀y,W y→y<h.size)(Q:F.toL.length≤256){c:Nat}(hc:c≤sl.size){K:Option Addr→ad→Prop}
  (hk:∀h' b',RxN W h' b' (sl.extract 0 c) none (.cons (sl.data.toList.drop c) w F .nil)→Upd No h h'→K (some ⟨b',0,none⟩) h'):HC PG nP [.pointer (some ⟨b,0,none⟩),.pointer none,.int .i64 c] [.c .ptr] K h:=by
 refine AK _ none c ?_;unfold tq bE ci iL iY KW;obtain⟨val,s,ow,ks,N,S,hs,O,I⟩:=r;have lab:∀{h'},Upd No h h'→aC h' (adr ⟨b,0,none⟩ 0)=some (.string sl):=fun k=>fQ (i:=0) (k.get0 N)
 have Z:=Upd.refl No h;refine⟨_,rfl,sl,lab Z,⟨by omega,by omega⟩,aY ?_⟩
 have k1:=Upd.hnew No h Ve bR;have b1:=bG h Ve bR;simp only[cV h];generalize hnew h [.string (⟨#[]⟩:ByteArray),.bool false,.string (⟨#[]⟩:ByteArray),.slice none 0 0,.pointer none] bR=h1 at k1 b1;refine⟨lab k1,?_⟩;refine oy (W:=No) (ks:= []) (sl:=⟨#[]⟩) (val:=⟨#[]⟩) (has:=false) (s:=⟨none,0,0⟩) (ow:=none) b1 (Sl.nil oz) (be _) fun h2 R b2 _ t=>⟨lab (k1.tr t),?_⟩
 rw[ai];refine vW b2 fun d b3 C=>?_
 have z1:=k1.size;have a:Upd No h d:=(k1.tr t).trans C fun x hx=>.inr (by have hx:x=h1.size:=hx;omega)
 refine oy (a.get0 N) (hs.upd a fun _ h=>h.elim) (by rw[(lZ.1 I).1];exact Q) fun h4 s4 P D z=>?_
 refine⟨_,rfl,sl,fQ (i:=0) P,⟨by omega,by omega⟩,?_⟩
 refine vW (nl:=sl.extract c sl.size) P fun f b5 n=>?_
 have j:Upd No h f:=(a.tr z).trans n fun x hx=>.inr (by have hx:x=d.size:=hx;have:=a.size;omega)
 have E:=D.upd n fun x hx e=>by have e:x=d.size:=e;have:=hx.1;omega
 have U:=bv b3;have p:f[h1.size]? =some (.cells (FF (sl.extract 0 c) false ⟨#[]⟩ R none) bR (0,0)):=n.get (z.get0 b3) (by show ¬h1.size=d.size;omega);have q:=Upd.hnew No f [.pointer (some ⟨d.size,0,none⟩)] bA;have L:=bG f [.pointer (some ⟨d.size,0,none⟩)] bA;have T:=j.size;have V:=a.size;refine aY ?_;simp only[cV f]
 generalize hnew f [.pointer (some ⟨d.size,0,none⟩)] bA=h6 at q L;have u:=q.get0 p;have J:=bv p;refine⟨_,rfl,TP (i:=3) u (show 3<5 by decide),Hk (i:=3) (c':=FF (sl.extract 0 c) false ⟨#[]⟩ ⟨some ⟨f.size,0,none⟩,1,1⟩ none) u rfl fun G X g=>?_⟩
 have m:Upd No h G:=(j.tr q).trans g fun x hx=>.inr (by have hx:x=h1.size:=hx;omega)
 have H:G[f.size]? =some (.cells #[.pointer (some ⟨d.size,0,none⟩)] bA (0,0)):=g.get L (by show ¬f.size=h1.size;omega);have B:=g.get (q.get0 b5) (by show ¬d.size=h1.size;omega);have o:=(E.upd q fun _ _ h=>h).upd g fun x hx e=>by have e:x=h1.size:=e;have:=hx.1;omega
 refine hk G h1.size ⟨⟨#[]⟩,_,none,[some ⟨d.size,0,none⟩],X,rfl,⟨rfl,oz,fun _=>⟨_,rfl,(fun hx=>by have hx:W f.size:=hx;have:=A _ hx;omega),qc H fun i v hi=>?_⟩⟩,⟨ax _,fun hx=>by have:=A _ hx;omega⟩,?_⟩ m
 ·rw[aI]
  rw[←ef]at hi;exact hi
 ·refine⟨d.size,sl.extract c sl.size,val,s4,none,ks,[],rfl,Gi ..,B,S,o.sl (fun x hx _ Y=>by have:=A _ Y;have:=hx.1;omega),⟨o.cap,fun hx=>by have:=A _ hx;omega⟩,RxF.upd0 m I,rfl⟩
end Go.Proofs
namespace Go.Proofs
open Go Go.Lift
theorem Td:∀{x y:List UInt8} {i:Nat},i≤x.length→i≤y.length→(∀j,j<i→x[j]? =y[j]?)→(i=x.length∨i=y.length∨x[i]?≠y[i]?)→cm x y=i
 | [],_,i,h1,_,_,_=>by simp at h1;simp[cm,h1]
 |_::_,[],i,_,h2,_,_=>by simp at h2;simp[cm,h2]
 |a::x,b::y,0,_,_,_,h=>by
  unfold cm;rw[if_neg];rintro rfl;rcases h with h|h|h<;>simp at h
 |a::x,b::y,i+1,h1,h2,h3,h4=>by
  have:=h3 0 (by omega);simp only[List.getElem?_cons_zero,bh.injEq]at this;unfold cm;rw[if_pos this,Td (i:=i) (by simpa using h1) (by simpa using h2) (fun j c=>by simpa using h3 (j+1) (by omega)) (by simpa using h4)]
theorem QA{a b:ByteArray}(y:a.size≤1000000){h:ad}{K:Int→ad→Prop}(n:K (cm a.data.toList b.data.toList:Nat) h):HC PG uO [.string a,.string b] [.c (.int .i64)] K h:=by
 refine HJ a b ?_;unfold zI;simp only[Bd];have f:(if(b.size:Int)<(a.size:Int)then(b.size:Int)else(a.size:Int))=((min a.size b.size:Nat):Int):=by split<;>omega
 rw[f];have x:a.data.toList.length=a.size:=by simp
 have w:b.data.toList.length=b.size:=by simp
 refine LoopP.ghost (fun(i:Nat) (t:Int) h'=>t=(i:Int)∧i≤min a.size b.size∧h'=h∧∀j,j<i→a.data.toList[j]? =b.data.toList[j]?) (fun i=>min a.size b.size-i) 0 ⟨rfl,be _,rfl,fun j q=>absurd q (Nat.not_lt_zero _)⟩ ?_
 rintro I i t h' ⟨rfl,hi,rfl,o⟩ u;refine aK (fun d=>?_) fun v=>?_
 ·have d:i<min a.size b.size:=by omega
  have k:i<a.size:=by omega
  have m:i<b.size:=by omega
  refine⟨a[i],by omega,by rw[ai,getElem?_pos a i k],b[i],by omega,by rw[ai,getElem?_pos b i m],?_⟩
  have e1:a.data.toList[i]? =some a[i]:=by rw[←Qm,getElem?_pos a i k]
  have e2:b.data.toList[i]? =some b[i]:=by rw[←Qm,getElem?_pos b i m]
  refine CondP.intro (fun g=>?_) fun c=>?_
  ·rw[Td (i:=i) (by omega) (by omega) o (.inr (.inr fun e=>?_))]at n
   ·exact n
   ·rw[e1,e2]at e
    rw[bh.inj e]at g;simp at g
  ·have c:a[i]=b[i]:=by
    have:((a[i].toNat:Int))=(b[i].toNat:Int):=by simpa using c
    exact UInt8.toNat_inj.1 (by omega)
   rw[dw d (by omega)];refine u (i+1) _ _ ⟨rfl,d,rfl,fun j q=>?_⟩ (by omega)
   rcases co j i with s|s
   ·exact o j s
   ·have:j=i:=by omega
    subst this;rw[e1,e2,c]
 ·have p:i=min a.size b.size:=by omega
  rw[Td (i:=i) (by omega) (by omega) o (by omega)]at n;rw[←p];exact n
theorem PT{F:Fo}{i:Nat}{k:List UInt8}{v:ByteArray}(h:jk F)(hi:i<F.toL.length)(ek:hd F.toL[i].1=hd k)(a:uW (xh F.toL[i]) (xh F.toL[i]) k v):uW (ud F) (ud F) k v:=by
 have:=Lx h hi ek a;rw[List.set_getElem_self,Fo.of_to]at this;exact this
theorem Sc{P Q a:List UInt8→ByteArray→Prop}{k:List UInt8}{v:ByteArray}(h:uW P a k v)(e:∀k v,P k v↔Q k v):uW Q a k v:=fun k' b=>by rw[h k' b,e]
set_option maxHeartbeats 1000000 in
theorem RU{W:Nat→Prop}:∀(n:Nat) {b:Nat} {sl:ByteArray} {w:Option ByteArray} {F:Fo} {h:ad} (k v:ByteArray),k.size<n→k.size≤1000000→RxN W h b sl w F→(∀y,W y→y<h.size)→jk F→∀{K:(Option Addr)×Bool×Bool→ad→Prop},
  (∀h' b' w' V C ch,Upd No h h'→RxN W h' b' sl w' V→jk V→uW (vz w F) (vz w' V) k.data.toList v→(ch=false→b'=b∧w'=w∧V=F)→(vz w F k.data.toList v→ch=false)→K (some ⟨b',0,none⟩,C,ch) h')→
  HC PG ml [.pointer (some ⟨b,0,none⟩),.pointer none,.string k,.string v] [.c .ptr,.c .bool,.c .bool] K h:=by
 intro n;induction n with
 |zero=>intro b sl w F h k v hk;omega
 |succ n ih=>
  intro b sl w F h k v I hk6 r Z hc K hk;refine Dm (some ⟨b,0,none⟩) none k v ?_;unfold vH bL dE bE cq ci kf zW ce iL iY Ri Vt Jl;have hr:=r;obtain⟨val,s,ow,ks,hb,hv,hs,hcap,hF⟩:=r;have Y:=lZ.1 hF;have hn:=yL hc;have hcan:=eE.1 hc;rw[eG];refine aK (fun hk0=>?_) fun hk0=>?_
  ·have hke:k.data.toList= []:=by rw[hk0]
   rw[hke]at hk;refine Join.intro (fun t h'=>t=decide (w=some v)∧h'=h) (fun R hR=>⟨_,rfl,w.isSome,fQ (i:=1) hb,?_⟩) ?_
   ·cases G:w with
    |none=>exact aj.2 (hR _ _ ⟨by rw[G];rfl,rfl⟩)
    |some u=>
     refine aB.2 ⟨_,rfl,val,fQ (i:=2) hb,hR _ _ ⟨?_,rfl⟩⟩;rw[eG,vw hv u G,G];exact decide_eq_decide.2 ⟨fun e=>by rw[e],fun e=>bh.inj e⟩
   ·rintro t h' ⟨rfl,rfl⟩
    refine aK (fun e=>?_) fun e=>?_
    ·refine hk h' b w F false false (Upd.refl _ _) hr hc ?_ (fun _=>⟨rfl,rfl,rfl⟩) fun _=>rfl
     rw[e];exact Iq hc v
    ·refine⟨_,rfl,w.isSome,fQ (i:=1) hb,?_⟩
     refine oy hb hs (by rw[Y.1];exact hn) fun h1 s1 b1 ho1 z=>?_
     refine⟨fQ (i:=1) (z.get0 hb),?_⟩;refine DJ b1 fun B b2 A=>?_
     have d:Upd No h' B:=z.trans A fun x hx=>.inr (fg (Eq.symm hx))
     refine⟨fQ (i:=1) (d.get0 hb),?_⟩;have ho2:=ho1.upd A fun x hx e=>by have e:x=h'.size:=e;have:=hx.1;omega
     refine hk B h'.size (some v) F _ true d ⟨v,s1,none,ks,b2,rfl,ho2.sl (fun x hx _ G=>by have:=Z _ G;have:=hx.1;omega),⟨ho2.cap,fun hx=>jw _ (Z _ hx)⟩,RxF.upd0 d hF⟩ hc (Iq hc v) (fun h=>by cases h) fun g=>?_
     rcases g with⟨_,h⟩|h
     ·exact absurd h e
     ·exact absurd rfl (C2 hc h)
  ·have f:k.data.toList≠[]:=fun e=>hk0 (by cases k;exact congrArg wK (mD.1 e))
   obtain⟨c0,hc0,hc0e⟩:=JW f;refine⟨c0,Int.le_refl _,hc0,?_⟩;have hlk:k.data.toList.length=k.size:=by simp
   refine CP hr hc (c:=c0.toNat) (UInt8.toNat_lt _) fun i ok hil hlo hhi hok=>?_
   rw[hc0e]at hlo hhi hok;cases ok with
   |false=>
    have hno:∀hi:i<F.toL.length,hd F.toL[i].1≠hd k.data.toList:=fun hi e=>by have:=hok.2 ⟨hi,e⟩;cases this
    have hhi':∀j (hj:j<F.toL.length),i≤j→hd k.data.toList<hd F.toL[j].1:=fun j hj hij=>by
     have h1:=hhi j hj hij;rcases co i j with X|X
     ·have B:=List.pairwise_iff_getElem.1 hcan.1 i j (by omega) hj X
      have h3:=hhi i (by omega) (ax _);omega
     ·have:i=j:=by omega
      subst this;have:=hno hj;omega
    obtain⟨hc',hp'⟩:=PV (v:=v) hc f hlo hhi';refine aB.2 ?_;refine oy hb hs (by rw[Y.1];exact hn) fun h1 s1 b1 ho1 z=>?_
    refine⟨_,rfl,s1,fQ (i:=3) b1,?_⟩;refine Nf fun B fb fs fb2 hf0 hfc hfb A=>⟨fQ (i:=3) (A.get0 b1),aY ?_⟩
    have k3:=Upd.hnew No B [.pointer (some ⟨fb,0,none⟩)] bA;have b3:=bG B [.pointer (some ⟨fb,0,none⟩)] bA;have z3:(hnew B [.pointer (some ⟨fb,0,none⟩)] bA).size=B.size+1:=fM ..;simp only[cV B];generalize hnew B [.pointer (some ⟨fb,0,none⟩)] bA=h3 at k3 b3 z3;have D:=A.tr k3;refine⟨fQ (i:=3) (D.get0 b1),?_⟩;have z1:=bv b1
    have z2:=A.size;have zf:=bv fb2;have ho3:=(ho1.upd D fun _ _ h=>h).more (M':=fun x=>(h.size<x∧x<h1.size)∨h3.size≤x) fun x hx=>.inl hx
    refine NS ho3 (k:=i) (by rw[Y.1];exact hil) (by rw[Y.1];omega) b3 (by rintro(h|h)<;>omega) (fun x hx=>.inr hx) fun s4 h4 N J=>?_
    have b4:=J.get (D.get0 b1) (by rintro(h|h)<;>omega)
    have f4:=J.get (k3.get0 fb2) (by rintro(h|h)<;>omega)
    refine⟨_,rfl,TP (i:=3) b4 (show 3<5 by decide),Hk (i:=3) (c':=FF sl w.isSome val s4 none) b4 rfl fun h5 b5 hu5=>?_⟩
    have hu05:Upd No h h5:=((z.tr D).trans J fun x hx=>.inr (by have:=z.size;rcases hx with hx|hx<;>omega)).trans hu5 fun x hx=>.inr (fg (Eq.symm hx))
    have ho5:=N.upd hu5 fun x hx e=>by have e:x=h.size:=e;rcases hx with hx|hx<;>omega
    have f5:=hu5.get f4 (by show ¬fb=h.size;omega);refine hk h5 h.size w _ true true hu05 ⟨val,s4,none,_,b5,hv,ho5.sl (fun x hx _ G=>by have:=Z _ G;rcases hx with hx|hx<;>omega),⟨ho5.cap,fun hx=>jw _ (Z _ hx)⟩,lZ.2 (by rw[Fo.to_of];exact(Y.upd0 hu05).ins i ⟨fb,k,rfl,rfl,WU f5 hf0 hfc fun hx=>by have:=Z _ hx;omega⟩)⟩ hc' (CU f hp') (fun h=>by cases h) fun g=>?_
    rcases g with⟨h,_⟩|g
    ·exact absurd h f
    ·obtain⟨n',hn',e,_⟩:=xE hc g
     obtain⟨j,hj,rfl⟩:=List.getElem_of_mem hn';rcases co j i with X|X
     ·have:=hlo j hj X;omega
     ·have:=hhi' j hj X;omega
   |true=>
    obtain⟨hi,H⟩:=hok.1 rfl;refine aj.2 ⟨_,rfl,s,fQ (i:=3) hb,?_⟩;obtain⟨kb,ksl,hki,p,I⟩:=Y.at hi;have hmem:F.toL[i]∈F.toL:=List.getElem_mem hi;have o:=hcan.2 _ hmem;obtain⟨a,ha,_,hvv⟩:=hs.at0 hki;have hslen:=hs.len;rw[Y.1]at hslen;have hlt1:(i:Int)<((s.len:Nat):Int):=by omega
    refine⟨⟨by simp only;omega,hlt1⟩,a,ha,some ⟨kb,0,none⟩,hvv,_,rfl,?_⟩;obtain⟨kval,kss,kow,kks,hkb,_⟩:=id I;refine⟨ksl,fQ (i:=0) hkb,QA hk6 ?_⟩;rw[p];have hc1:=V7 f o.1 H.symm;have U:=Vk k.data.toList F.toL[i].1;have S:=Po k.data.toList F.toL[i].1;have hcd:=Pp k.data.toList F.toL[i].1;have hll:ksl.size=F.toL[i].1.length:=by rw[←p];simp
    have L:ud F k.data.toList v→xh F.toL[i] k.data.toList v:=fun g=>by
     obtain⟨n',hn',e,hN⟩:=xE hc g;rw[←yK hc hn' hmem (by omega)];exact hN
    have hset:∀{w2:Option ByteArray} {F2:Fo} {nl:List UInt8},nl≠[]→hd nl=hd F.toL[i].1→jk F2→Br (vz w2 F2)→jk (.ofL (F.toL.set i (nl,w2,F2))):=fun h1 B h3 h4=>Pq hc hi ⟨h1,(Tn h3).2 h4,h3⟩ B
    have O:∀{m:Bn},uW (xh F.toL[i]) (xh m) k.data.toList v→uW (ud F) (ud (.ofL (F.toL.set i m))) k.data.toList v:=fun hp=>Lx hc hi H hp
    have P:uW (xh F.toL[i]) (xh F.toL[i]) k.data.toList v→uW (ud F) (ud F) k.data.toList v:=PT hc hi H;have hrset:∀{h':ad} {k':Option Addr} {m:Bn},Upd No h h'→Kid W h' k' m→RxL W h' (ks.set i k') (F.toL.set i m):=fun hu hkd=>(Y.upd0 hu).set hi hkd
    generalize F.toL[i]=m at p I o hc1 U S hcd hll L hset O P H;generalize hcc:cm k.data.toList m.1=c at hc1 U S hcd;obtain⟨lab,wk,Fk⟩:=m;simp only at p I o U S hcd hll H hset;refine Join.intro (fun t h'=>∃ub q wu Fu,t=some ⟨ub,0,none⟩∧Upd No h h'∧RxN W h' ub q wu Fu∧jk Fu∧q.data.toList=k.data.toList.take c∧(∀k' v',xh (q.data.toList,wu,Fu) k' v'↔xh (lab,wk,Fk) k' v')∧(∀w' V,jk V→uW (vz wu Fu) (vz w' V) (k.data.toList.drop c) v→Br (vz w' V))) (fun R hR=>⟨_,rfl,ksl,fQ (i:=0) hkb,?_⟩) ?_
    ·refine aK (fun hlt=>?_) fun hge=>?_
     ·have hlt:c<lab.length:=by omega
      refine Nd I Z (yL o.2.2) (c:=c) (by omega) fun h1 ub rn z=>hR _ _ ⟨ub,_,none,_,rfl,z,rn,?_,?_,?_,?_⟩
      ·rw[p]
       refine⟨fun e=>?_,o.2.1,o.2.2,fun _ h=>by simp[Fo.toL]at h,trivial⟩
       have:=congrArg ia e;rw[aR,bU]at this;omega
      ·rw[Gh,p,S]
      ·intro k' v'
       rw[Gh,p];exact IL c k' v'
      ·intro w' V hcF hp
       rw[p]at hp;refine Tm (fun e=>?_) o.2.1 o.2.2 (fun hne=>?_) hp
       ·have:=congrArg ia e
        rw[aR,bU]at this;omega
       ·refine hcd ?_ hlt
        rcases co c k.data.toList.length with X|X
        ·exact X
        ·exact absurd (List.drop_eq_nil_of_le X) hne
     ·have hce:c=lab.length:=by omega
      refine hR _ _ ⟨kb,ksl,wk,Fk,rfl,Upd.refl _ _,I,o.2.2,?_,?_,?_⟩
      ·rw[p,S,hce,bf]
      ·intro k' v';rw[p]
      ·intro w' V hcF hp
       exact UY ((Tn o.2.2).1 o.2.1) hp
    ·rintro t h1 ⟨ub,q,wu,Fu,rfl,z,rn,hcu,hsl,Q,hbr⟩
     refine⟨⟨by omega,by omega⟩,?_⟩
     rw[ai];have hkd:(k.extract c k.size).data.toList=k.data.toList.drop c:=Gi ..;have hks:(k.extract c k.size).size=k.size-c:=by simp
     have E:k.data.toList=q.data.toList++k.data.toList.drop c:=by rw[hsl,cF]
     have T:q.data.toList≠[]:=by
      rw[hsl];intro e;have:=congrArg ia e;rw[aL,bU]at this;omega
     have hslhd:hd q.data.toList=hd lab:=by
      rw[H];conv=>rhs;rw[E]
      rw[uN T]
     refine ih (k.extract c k.size) v (by rw[hks];omega) (by rw[hks];omega) rn (fun y hy=>aF (Z y hy) z.size) hcu fun B b2 w2 F2 C ch A rn2 hc2 hp2 hsm hch=>?_
     rw[hkd]at hp2 hch;have d:=z.tr A;have hpn:uW (xh (lab,wk,Fk)) (xh (q.data.toList,w2,F2)) k.data.toList v:=by
      have:=Sc (PU (lab:=q.data.toList) hp2) Q;rw[←E]at this;exact this
     have hchg:vz w F k.data.toList v→ch=false:=fun g=>by
      rcases g with⟨h,_⟩|g
      ·exact absurd h f
      ·obtain⟨r,e,hr'⟩:=(Q _ _).2 (L g)
       simp only at e;rw[E]at e;have e2:=List.append_cancel_left e;rw[←E]at e;exact hch (by rw[e2];exact hr')
     cases ch with
     |false=>
      obtain⟨_,rfl,rfl⟩:=hsm rfl;refine aB.2 (hk B b w F false false d (hr.upd0 d) hc (CU f (P ?_)) (fun _=>⟨rfl,rfl,rfl⟩) fun _=>rfl)
      intro k' v';exact(Q k' v').symm.trans (hpn k' v')
     |true=>
      refine aj.2 ?_;refine oy (d.get0 hb) (hs.upd d fun _ h=>h.elim) (by rw[Y.1];exact hn) fun h3 s3 b3 ho3 hu3=>?_
      refine⟨_,rfl,s3,fQ (i:=3) b3,?_⟩;have hil:i<ks.length:=by rw[Y.1];exact hi
      obtain⟨a3,ha3,hab,hw3,N,J⟩:=OwnS.setAt ho3 hil (some ⟨b2,0,none⟩);have hlen3:=ho3.len;refine⟨⟨by simp only;omega,by simp only;omega⟩,a3,ha3,?_⟩
      have hw1:Wr h3 (adr a3 (i*1)):=by
       rcases hw3 with G|⟨b',hb',G⟩
       ·cases G
       ·cases hb';exact G 0 (by simp)
      refine⟨hw1,aY ?_⟩;have b4:=J.get b3 fun e=>by have e:B.size=a3.block:=e;have:=hab.1;omega
      have hu24:Upd No B _:=hu3.trans J fun x hx=>.inr (by have hx:x=a3.block:=hx;have:=hab.1;omega)
      have hu04:=d.tr hu24;have eset:ks.set i (some ⟨b2,0,none⟩)=ks.take i++some ⟨b2,0,none⟩::ks.drop (i+1):=by rw[List.set_eq_take_append_cons_drop,if_pos hil]
      rw[←eset]at N;exact hk _ B.size w _ C true hu04 ⟨val,s3,none,_,b4,hv,N.sl (fun x hx _ G=>by have:=Z _ G;have:=d.size;have:=hx.1;omega),⟨N.cap,fun hx=>by have:=Z _ hx;have:=d.size;omega⟩,lZ.2 (by rw[Fo.to_of];exact hrset hu04 ⟨b2,q,rfl,rfl,rn2.upd0 hu24⟩)⟩ (hset T hslhd hc2 (hbr _ _ hc2 hp2)) (CU f (O hpn)) (fun h=>by cases h) hchg
end Go.Proofs
namespace Go.Proofs
open Go Go.Lift
def Ny:Fo→List (List UInt8×ByteArray)
 | .nil=> []
 | .cons lab w kids rest=>((w.map fun v=>(([]:List UInt8),v)).toList++Ny kids).map (fun p=>(lab++p.1,p.2))++Ny rest
def Se(w:Option ByteArray)(F:Fo):List (List UInt8×ByteArray):=(w.map fun v=>(([]:List UInt8),v)).toList++Ny F
theorem EZ:∀{F:Fo} {k:List UInt8} {v:ByteArray},(k,v)∈Ny F↔ud F k v
 | .nil,_,_=>by simp[Ny,ud]
 | .cons lab w kids rest,k,v=>by
  unfold Ny ud;rw[bM,EZ (F:=rest)];refine or_congr ?_ yS;rw[List.mem_map];constructor
  ·rintro⟨⟨r,u⟩,hm,b⟩
   simp only[wH.injEq]at b;obtain⟨rfl,rfl⟩:=b;refine⟨r,rfl,?_⟩;rcases bM.1 hm with h|h
   ·left
    rw[Option.mem_toList,eP]at h;obtain⟨a,c,b⟩:=h;simp only[wH.injEq]at b;exact⟨b.1.symm,by rw[c,b.2]⟩
   ·exact .inr (EZ.1 h)
  ·rintro⟨r,rfl,h⟩
   refine⟨(r,v),bM.2 ?_,rfl⟩;rcases h with⟨rfl,h⟩|h
   ·left;rw[h];simp
   ·exact .inr (EZ.2 h)
theorem qB{w:Option ByteArray}{F:Fo}{k:List UInt8}{v:ByteArray}:(k,v)∈Se w F↔vz w F k v:=by
 unfold Se vz;rw[bM,EZ];refine or_congr ?_ yS;cases w with
 |none=>simp
 |some u=>simp[Prod.ext_iff,eq_comm]
end Go.Proofs
namespace Go.Proofs
open Go Go.Lift
structure RadAt(W:Nat→Prop)(h:ad)(b:Nat)(l:List Pr):Prop where
 ex:∃w F,RxN W h b ⟨#[]⟩ w F∧jk F∧∀k v,(k,v)∈Se w F↔∃p∈l,p.1.data.toList=k∧p.2=v
theorem RadAt.upd0{W:Nat→Prop}{h h':ad}{b:Nat}{l:List Pr}(k:Upd No h h')(r:RadAt W h b l):RadAt W h' b l:=by
 obtain⟨w,F,c,a,d⟩:=r.ex;exact⟨w,F,c.upd0 k,a,d⟩
theorem RadAt.less{W W':Nat→Prop}{h:ad}(hm:∀b,W' b→W b∨h.size≤b){b:Nat}{l:List Pr}(r:RadAt W h b l):RadAt W' h b l:=by
 obtain⟨w,F,c,a,d⟩:=r.ex;exact⟨w,F,c.less hm,a,d⟩
theorem RadAt.updM{W M:Nat→Prop}{h h':ad}(k:Upd M h h')(hm:∀b,M b→W b∨h.size≤b){b:Nat}{l:List Pr}(r:RadAt W h b l):RadAt W h' b l:=by
 obtain⟨w,F,c,a,d⟩:=r.ex;exact⟨w,F,c.updM k hm,a,d⟩
end Go.Proofs
namespace Go.Proofs
open Go Go.Lift
theorem tQ{p q:Pr}:∀{l:List Pr},eH l→(q∈jA p l↔q=p∨(q∈l∧q.1≠p.1))
 | [],_=>by simp[jA]
 |r::l,c=>by
  have c:=List.pairwise_cons.1 c;rw[mf];by_cases b:kl r.1 p.1
  ·have d:r.1≠p.1:=fun e=>by rw[e]at b;exact eN _ b
   rw[if_pos b,aA,aA,tQ c.2];constructor
   ·rintro(rfl|h|⟨h,h'⟩)
    ·exact .inr ⟨.inl rfl,d⟩
    ·exact .inl h
    ·exact .inr ⟨.inr h,h'⟩
   ·rintro(h|⟨h|h,h'⟩)
    ·exact .inr (.inl h)
    ·exact .inl h
    ·exact .inr (.inr ⟨h,h'⟩)
  ·rw[if_neg b]
   by_cases a:r.1=p.1
   ·rw[if_pos a,aA,aA]
    constructor
    ·rintro(h|h)
     ·exact .inl h
     ·refine .inr ⟨.inr h,fun e=>?_⟩
      have:=c.1 q h;rw[e,a]at this;exact eN _ this
    ·rintro(h|⟨rfl|h,h'⟩)
     ·exact .inl h
     ·exact absurd a h'
     ·exact .inr h
   ·rw[if_neg a,aA,aA]
    have f:=FY b a;constructor
    ·rintro(h|rfl|h)
     ·exact .inl h
     ·exact .inr ⟨.inl rfl,a⟩
     ·refine .inr ⟨.inr h,fun e=>?_⟩
      have:=qC f (c.1 q h);rw[e]at this;exact eN _ this
    ·rintro(h|⟨rfl|h,h'⟩)
     ·exact .inl h
     ·exact .inr (.inl rfl)
     ·exact .inr (.inr h)
def RadRoot(W:Nat→Prop)(h:ad)(r:Option Addr)(l:List Pr):Prop:=(r=none∧l= [])∨∃b,r=some ⟨b,0,none⟩∧RadAt W h b l
theorem RadRoot.upd0{W:Nat→Prop}{h h':ad}{r:Option Addr}{l:List Pr}(k:Upd No h h')(t:RadRoot W h r l):RadRoot W h' r l:=t.imp id fun⟨b,e,t⟩=>⟨b,e,t.upd0 k⟩
theorem tc{a b:ByteArray}:a.data.toList=b.data.toList↔a=b:=by
 constructor
 ·intro h;cases a;cases b;exact congrArg wK (mD.1 h)
 ·rintro rfl;rfl
theorem FE{W:Nat→Prop}{h:ad}(c:∀y,W y→y<h.size){K:Option Addr→ad→Prop}(a:∀h' b,RadAt W h' b []→Upd No h h'→K (some ⟨b,0,none⟩) h'):HC PG ql [] [.c .ptr] K h:=by
 refine HO ?_;unfold zO KW;refine aY (a _ h.size ⟨none,.nil,⟨⟨#[]⟩,⟨none,0,0⟩,none,[],bG h Ve bR,rfl,Sl.nil oz,⟨ax _,fun hx=>jw _ (c _ hx)⟩,rfl⟩,trivial,fun k v=>?_⟩ (Upd.hnew No h _ _))
 simp[Se,Ny]
theorem CO{W:Nat→Prop}{h:ad}{r:Option Addr}{l:List Pr}(t:RadRoot W h r l)(c:∀y,W y→y<h.size){K:Option Addr→ad→Prop}(a:∀h' b,RadAt W h' b l→Upd No h h'→(r=some ⟨b,0,none⟩∨r=none)→K (some ⟨b,0,none⟩) h'):HC PG oO [.pointer r] [.c .ptr] K h:=by
 refine Kv r ?_;unfold Ck;rcases t with⟨rfl,rfl⟩|⟨b,rfl,t⟩
 ·exact aB.2 (FE c fun h' b t d=>a h' b t d (.inr rfl))
 ·exact aj.2 (a h b t (Upd.refl _ _) (.inl rfl))
theorem Ls{W:Nat→Prop}{h:ad}{r:Option Addr}{l:List Pr}(t:RadRoot W h r l)(B:∀y,W y→y<h.size)(z:eH l)(p:Pr)(H:p.1.size≤1000000){K:Option Addr×Bool→ad→Prop}
  (N:∀h' b' a,Upd No h h'→RadAt W h' b' (jA p l)→(p∈l→r=some ⟨b',0,none⟩∨r=none)→K (some ⟨b',0,none⟩,a) h'):
  HC PG xN [.pointer none,.pointer r,.agg #[.string p.1,.string p.2]] [.c .ptr,.c .bool] K h:=by
 refine Ms none r p ?_;unfold D6 aq A0 Ri;have k1:=Upd.hnew No h [.string p.1,.string p.2] au;have b1:=bG h [.string p.1,.string p.2] au;refine aY ?_;simp only[cV h];generalize hnew h [.string p.1,.string p.2] au=h1 at k1 b1;have g:∀{h':ad},Upd No h1 h'→∀i,aC h' (adr ⟨h.size,0,none⟩ i)=(#[.string p.1,.string p.2]:Array Value)[i]?:=fun k i=>by rw[cc,aP (k.get0 b1),aI]
 have C:=Upd.refl No h1;refine⟨p.1,g C 0,p.2,g C 1,CO (t.upd0 k1) (fun y s=>aF (B y s) k1.size) fun P b G c I=>⟨g c 1,g c 0,?_⟩⟩
 obtain⟨w,F,D,L,A⟩:=G.ex;refine RU (p.1.size+1) p.1 p.2 (by omega) H D (fun y s=>aF (B y s) (k1.tr c).size) L fun J b3 w' E a O m x o j n u=>?_
 refine N J b3 a ((k1.tr c).tr m) ⟨w',E,x,o,fun k v=>?_⟩ fun hm=>?_
 ·rw[qB,j k v,←qB,A k v]
  constructor
  ·rintro(⟨rfl,rfl⟩|⟨d,q,f,rfl,rfl⟩)
   ·exact⟨p,(tQ z).2 (.inl rfl),rfl,rfl⟩
   ·exact⟨q,(tQ z).2 (.inr ⟨f,fun e=>d (by rw[e])⟩),rfl,rfl⟩
  ·rintro⟨q,f,rfl,rfl⟩
   rcases(tQ z).1 f with rfl|⟨f,d⟩
   ·exact .inl ⟨rfl,rfl⟩
   ·exact .inr ⟨fun e=>d (tc.1 e),q,f,rfl,rfl⟩
 ·have:=u (qB.1 ((A _ _).2 ⟨p,hm,rfl,rfl⟩))
  rw[(n this).1];exact I
end Go.Proofs
namespace Go.Proofs
open Go Go.Lift
theorem cx{h:ad}{cs:List Value}{t:TypeId}{k:ad→Prop}(a:∀h',h'[h.size]? =some (.cells cs.toArray t (0,0))→Upd No h h'→k h'):At (hnew h cs t) k:=
 aY (a _ (bG h cs t) (Upd.hnew No h cs t))
theorem vc{h:ad}{b:Nat}{c:Array Value}{t:TypeId}(a:h[b]? =some (.cells c t (0,0))) (i:Nat):aC h (adr ⟨b,0,none⟩ i)=c[i]?:=by rw[cc,aI];exact aP a
theorem yT{h:ad}{b:Nat}{c:Array Value}{t:TypeId}(a:h[b]? =some (.cells c t (0,0))) (i j:Nat):aC h (adr (adr ⟨b,0,none⟩ i) j)=c[i+j]?:=by rw[cc,cc,aI];exact aP a
theorem kI{h:ad}{b i:Nat}{c c':Array Value}{t:TypeId}{v:Value}{k:ad→Prop}(d:h[b]? =some (.cells c t (0,0))) (hi:i<c.size) (e:c.setIfInBounds i v=c') (f:∀h',h'[b]? =some (.cells c' t (0,0))→Upd (· =b) h h'→k h'):Wr h (adr ⟨b,0,none⟩ i)∧At (hset h (adr ⟨b,0,none⟩ i) v) k:=by
 rw[cc,aI];exact⟨ij d hi,wB d fun h' a g=>f h' (e▸a) g⟩
theorem _root_.Go.Lift.Upd.own{h a c:ad}{b:Nat}(k:Upd No h a)(d:Upd (· =b) a c)(e:h.size≤b):Upd No h c:=k.trans d fun x hx=>.inr (by have hx:x=b:=hx;omega)
theorem _root_.Go.Lift.Upd.oth{h h':ad}{b c:Nat}{o:Obj}(d:Upd (· =b) h h')(hc:h[c]? =some o) (a:c≠b):h'[c]? =some o:=d.get hc a
abbrev Tr:=Int×Int×Int×Int×(Option Addr)×(Option Addr)
abbrev pu(t:Tr):List Value:= [.int .i64 t.1,.int .u64 t.2.1,.int .u64 t.2.2.1,.int .u64 t.2.2.2.1,.pointer t.2.2.2.2.1,.pointer t.2.2.2.2.2]
abbrev PE(t:Tr):Value:=.agg #[.int .i64 t.1,.int .u64 t.2.1,.int .u64 t.2.2.1,.int .u64 t.2.2.2.1,.pointer t.2.2.2.2.1,.pointer t.2.2.2.2.2]
def Pro(W:Nat→Prop)(h a:ad)(y:Nat):Prop:=W y∨(h.size≤y∧y<a.size)
theorem Pro.lt{W:Nat→Prop}{h a:ad}(c:∀y,W y→y<h.size)(k:Upd No h a):∀y,Pro W h a y→y<a.size:=fun y b=>b.elim (fun h=>aF (c y h) k.size) fun h=>h.2
theorem Pro.hm{W:Nat→Prop}{h b:ad}:∀y,Pro W h b y→W y∨h.size≤y:=fun _ a=>a.imp id fun h=>h.1
theorem Pro.sub{W:Nat→Prop}{h c b:ad}:∀y,W y→Pro W h c y∨b.size≤y:=fun _ a=>.inl (.inl a)
theorem RootAt.less{W W':Nat→Prop}{x:Hs}{h:ad}(hm:∀b,W' b→W b∨h.size≤b){r:Option Addr}{l:List Pr}(t:RootAt W x h r l):RootAt W' x h r l:=t.imp id fun⟨b,e,t⟩=>⟨b,e,TrieAt.less hm t⟩
theorem RadRoot.less{W W':Nat→Prop}{h:ad}(hm:∀b,W' b→W b∨h.size≤b){r:Option Addr}{l:List Pr}(t:RadRoot W h r l):RadRoot W' h r l:=t.imp id fun⟨b,e,t⟩=>⟨b,e,t.less hm⟩
def TreeIs(W:Nat→Prop)(h:ad)(kind:Int)(x:Hs)(t:Tr)(l:List Pr):Prop:=(kind=0∧∃b,t=(0,x.k0,x.k1,x.mask,some ⟨b,0,none⟩,none)∧TrieAt W x h 13 b l)∨(kind=1∧∃b,t=(1,0,0,0,none,some ⟨b,0,none⟩)∧RadAt W h b l)
theorem TreeIs.upd0{W:Nat→Prop}{h h':ad}{kind:Int}{x:Hs}{t:Tr}{l:List Pr}(k:Upd No h h')(i:TreeIs W h kind x t l):TreeIs W h' kind x t l:=
 i.imp (fun⟨e,b,e2,t⟩=>⟨e,b,e2,TrieAt.upd0 k t⟩) fun⟨e,b,e2,t⟩=>⟨e,b,e2,t.upd0 k⟩
theorem TreeIs.less{W W':Nat→Prop}{h:ad}(hm:∀b,W' b→W b∨h.size≤b){kind:Int}{x:Hs}{t:Tr}{l:List Pr}(i:TreeIs W h kind x t l):TreeIs W' h kind x t l:=
 i.imp (fun⟨e,b,e2,t⟩=>⟨e,b,e2,TrieAt.less hm t⟩) fun⟨e,b,e2,t⟩=>⟨e,b,e2,t.less hm⟩
theorem TreeIs.updM{W M:Nat→Prop}{h h':ad}(k:Upd M h h')(hm:∀b,M b→W b∨h.size≤b){kind:Int}{x:Hs}{t:Tr}{l:List Pr}(i:TreeIs W h kind x t l):TreeIs W h' kind x t l:=
 i.imp (fun⟨e,b,e2,t⟩=>⟨e,b,e2,TrieAt.updM k hm t⟩) fun⟨e,b,e2,t⟩=>⟨e,b,e2,t.updM k hm⟩
theorem TreeIs.pro{W:Nat→Prop}{h a:ad}(k:Upd No h a){kind:Int}{x:Hs}{t:Tr}{l:List Pr}(i:TreeIs W h kind x t l):TreeIs (Pro W h a) a kind x t l:=(i.less Pro.hm).upd0 k
theorem HH{W:Nat→Prop}{x:Hs}{h:ad}(a:∀y,W y→y<h.size){K:Option Addr→ad→Prop}(d:∀h' b,TrieAt W x h' 13 b []→Upd No h h'→K (some ⟨b,0,none⟩) h'):HC PG qo [] [.c .ptr] K h:=by
 refine zG ?_;unfold ve;exact rW a fun h' b nd c=>d h' b (K8 nd) c
abbrev CD:Tr:=(0,0,0,0,none,none)
theorem Ld{W:Nat→Prop}{x:Hs}{h:ad}{r:Option Addr}{l:List Pr}(t:RootAt W x h r l)(u:∀y,W y→y<h.size){K:Tr→ad→Prop}(s:∀h' t,TreeIs W h' 0 x t l→Upd No h h'→K t h'):HC PG sP [.agg #[.int .u64 x.k0,.int .u64 x.k1,.int .u64 x.mask],.pointer r] [.agg [.int .i64,.int .u64,.int .u64,.int .u64,.ptr,.ptr]] K h:=by
 refine GM (x.k0,x.k1,x.mask) r ?_;unfold yu ar fe ae yV ak pD xb;refine cx fun i b1 k1=>cx fun k b2 m=>?_
 have v:=bv b1;have w:=bv b2;have d:=k1.tr m;refine Join.intro (fun t h'=>Upd No k h'∧∃b,t=some ⟨b,0,none⟩∧TrieAt (Pro W h k) x h' 13 b l) (fun R o=>?_) ?_
 ·rcases t with⟨rfl,rfl⟩|⟨b,rfl,t⟩
  ·exact aB.2 (HH (Pro.lt u d) fun p b t a=>o _ _ ⟨a,b,rfl,t⟩)
  ·exact aj.2 (o _ _ ⟨Upd.refl _ _,b,rfl,TrieAt.upd0 d (TrieAt.less Pro.hm t)⟩)
 ·rintro j p ⟨a,b,rfl,j⟩
  have c1:=a.get0 (m.get0 b1);refine⟨_,vc c1 0,_,vc c1 1,_,vc c1 2,?_⟩;refine cY (c:=pu CD) (vs:=pu (0,x.k0,x.k1,x.mask,some ⟨b,0,none⟩,none)) (a.get0 b2) rfl fun q e f=>?_
  refine⟨_,vc e 0,_,vc e 1,_,vc e 2,_,vc e 3,_,vc e 4,_,vc e 5,?_⟩;have g:h.size≤i.size:=k1.size;exact s q _ (.inl ⟨rfl,b,rfl,TrieAt.less Pro.sub (TrieAt.updM f (fun y n=>.inl (.inr (by have n:y=i.size:=n;omega))) j)⟩) ((d.tr a).own f g)
theorem Lc{W:Nat→Prop}{x:Hs}{h:ad}{r:Option Addr}{l:List Pr}(t:RadRoot W h r l)(p:∀y,W y→y<h.size){K:Tr→ad→Prop}(o:∀h' t,TreeIs W h' 1 x t l→Upd No h h'→K t h'):HC PG sO [.pointer r] [.agg [.int .i64,.int .u64,.int .u64,.int .u64,.ptr,.ptr]] K h:=by
 refine GL r ?_;unfold yr ar fe ae ak pD xb;refine cx fun i b2 d=>?_
 have q:=bv b2;refine Join.intro (fun t h'=>Upd No i h'∧∃b,t=some ⟨b,0,none⟩∧RadAt (Pro W h i) h' b l) (fun R k=>?_) ?_
 ·rcases t with⟨rfl,rfl⟩|⟨b,rfl,t⟩
  ·exact aB.2 (FE (Pro.lt p d) fun m b t a=>k _ _ ⟨a,b,rfl,t⟩)
  ·exact aj.2 (k _ _ ⟨Upd.refl _ _,b,rfl,(t.less Pro.hm).upd0 d⟩)
 ·rintro g m ⟨a,b,rfl,g⟩
  refine cY (c:=pu CD) (vs:=pu (1,0,0,0,none,some ⟨b,0,none⟩)) (a.get0 b2) rfl fun n e f=>?_
  refine⟨_,vc e 0,_,vc e 1,_,vc e 2,_,vc e 3,_,vc e 4,_,vc e 5,?_⟩;exact o n _ (.inr ⟨rfl,b,rfl,(g.updM f (fun y j=>.inl (.inr (by have j:y=h.size:=j;omega)))).less Pro.sub⟩) ((d.tr a).own f (ax _))
theorem Ub{W:Nat→Prop}{x:Hs}{h:ad}(q:∀y,W y→y<h.size){kind:Int}(m:kind=0∨kind=1){K:Tr×Int→ad→Prop}(o:∀h' t,TreeIs W h' kind x t []→Upd No h h'→K (t,0) h'):HC PG Ar [.int .i64 kind,.agg #[.int .u64 x.k0,.int .u64 x.k1,.int .u64 x.mask]] [.agg [.int .i64,.int .u64,.int .u64,.int .u64,.ptr,.ptr],.c (.int .i64)] K h:=by
 refine Ou kind (x.k0,x.k1,x.mask) ?_;unfold GT ar fe rc ae yV ak pD mc;refine cx fun i b1 k1=>cx fun n b2 p=>?_
 have u:=bv b1;have v:=bv b2;have e:=k1.tr p;have f:h.size≤i.size:=k1.size;have c1:=p.get0 b1;rcases m with rfl|rfl
 ·refine aB.2 ⟨_,vc c1 0,_,vc c1 1,_,vc c1 2,?_⟩
  refine Ld (W:=Pro W h n) (x:=x) (l:= []) (.inl ⟨rfl,rfl⟩) (Pro.lt q e) fun s t j b=>?_
  refine cY (c:=pu CD) (vs:=pu t) (b.get0 b2) rfl fun k a d=>?_
  refine⟨_,vc a 0,_,vc a 1,_,vc a 2,_,vc a 3,_,vc a 4,_,vc a 5,?_⟩;exact o k t ((j.updM d (fun y g=>.inl (.inr (by have g:y=i.size:=g;omega)))).less Pro.sub) ((e.tr b).own d f)
 ·refine aj.2 (aB.2 ?_)
  refine Lc (W:=Pro W h n) (x:=x) (l:= []) (.inl ⟨rfl,rfl⟩) (Pro.lt q e) fun s t j b=>?_
  refine cY (c:=pu CD) (vs:=pu t) (b.get0 b2) rfl fun k a d=>?_
  refine⟨_,vc a 0,_,vc a 1,_,vc a 2,_,vc a 3,_,vc a 4,_,vc a 5,?_⟩;exact o k t ((j.updM d (fun y g=>.inl (.inr (by have g:y=i.size:=g;omega)))).less Pro.sub) ((e.tr b).own d f)
theorem It{k v:ByteArray}(b:k.size≤256)(c:v.size≤4096){h:ad}{K:Int→ad→Prop}(a:K 0 h):HC PG r8 [.string k,.string v] [.c (.int .i64)] K h:=by
 refine Kz k v ?_;unfold Cn;refine aK (fun h=>absurd h (by omega)) fun _=>aK (fun h=>absurd h (by omega)) fun _=>a
theorem Lb{W:Nat→Prop}{x:Hs}{h:ad}{kind:Int}{t:Tr}{l:List Pr}(i:TreeIs W h kind x t l)(O:∀y,W y→y<h.size)(H:eH l)(J:l.length≤1000000)(p:Pr)(B:p.1.size≤256)(C:p.2.size≤4096){K:Tr×Int→ad→Prop}
  (I:∀h' t',TreeIs W h' kind x t' (jA p l)→(p∈l→t'=t)→Upd No h h'→K (t',0) h'):HC PG mg [PE t,.pointer none,.agg #[.string p.1,.string p.2]] [.agg [.int .i64,.int .u64,.int .u64,.int .u64,.ptr,.ptr],.c (.int .i64)] K h:=by
 refine Dh t none p ?_;unfold vC ar aq fe ci kf xn A0 rc ae ak pD mc gx xb;refine cx fun G b1 k1=>cx fun D b2 z=>cx fun U b3 v=>?_
 have S:=bv b1;have T:=bv b2;have X:=bv b3;have V:h.size≤G.size:=k1.size;have Q:G.size≤D.size:=z.size;have R:=v.size;have o:=(k1.tr z).tr v;have n:=v.get0 (z.get0 b1);have s:=v.get0 b2;have P:=i.pro o;have u:=Pro.lt O o;refine⟨_,vc s 0,_,vc s 1,It B C (aj.2 ?_)⟩;rcases P with⟨rfl,b,rfl,w⟩|⟨rfl,b,rfl,w⟩
 ·refine⟨_,vc n 0,aj.2 ⟨_,yT n 1 0,_,yT n 1 1,_,yT n 1 2,_,vc n 4,p.1,vc s 0,p.2,vc s 1,?_⟩⟩
  refine Mg (.inr ⟨b,rfl,w⟩) u H J p fun N q f A a=>?_
  refine kI (i:=4) (c':=(pu (0,x.k0,x.k1,x.mask,some ⟨q,0,none⟩,none)).toArray) (f.get0 n) (show 4<6 by decide) rfl fun L g d=>?_
  refine⟨_,vc g 0,_,vc g 1,_,vc g 2,_,vc g 3,_,vc g 4,_,vc g 5,?_⟩;refine cY (c:=pu CD) (vs:=pu (0,x.k0,x.k1,x.mask,some ⟨q,0,none⟩,none)) (d.oth (f.get0 b3) (by omega)) rfl fun E j k=>?_
  refine⟨_,vc j 0,_,vc j 1,_,vc j 2,_,vc j 3,_,vc j 4,_,vc j 5,?_⟩;refine I E _ (.inl ⟨rfl,q,rfl,TrieAt.less Pro.sub (TrieAt.updM k (fun y m=>.inl (.inr (by have m:y=D.size:=m;omega))) (TrieAt.updM d (fun y m=>.inl (.inr (by have m:y=h.size:=m;omega))) A))⟩) (fun hm=>?_) (((o.tr f).own d (ax _)).own k (by omega))
  rcases a hm with e|e
  ·rw[e]
  ·cases e
 ·refine⟨_,vc n 0,aB.2 ⟨_,vc n 5,p.1,vc s 0,p.2,vc s 1,?_⟩⟩
  refine Ls (.inr ⟨b,rfl,w⟩) u H p (by omega) fun N q F f A a=>?_
  refine kI (i:=5) (c':=(pu (1,0,0,0,none,some ⟨q,0,none⟩)).toArray) (f.get0 n) (show 5<6 by decide) rfl fun L g d=>?_
  refine⟨_,vc g 0,_,vc g 1,_,vc g 2,_,vc g 3,_,vc g 4,_,vc g 5,?_⟩;refine cY (c:=pu CD) (vs:=pu (1,0,0,0,none,some ⟨q,0,none⟩)) (d.oth (f.get0 b3) (by omega)) rfl fun E j k=>?_
  refine⟨_,vc j 0,_,vc j 1,_,vc j 2,_,vc j 3,_,vc j 4,_,vc j 5,?_⟩;refine I E _ (.inr ⟨rfl,q,rfl,((A.updM d (fun y m=>.inl (.inr (by have m:y=h.size:=m;omega)))).updM k (fun y m=>.inl (.inr (by have m:y=D.size:=m;omega)))).less Pro.sub⟩) (fun hm=>?_) (((o.tr f).own d (ax _)).own k (by omega))
  rcases a hm with e|e
  ·rw[e]
  ·cases e
end Go.Proofs
namespace Go.Proofs
open Go Go.Lift Go.RowKit
theorem HC.shelf{f:FuncId}{args:List Value}{ks:List Kind}{K:uc ks→ad→Prop}{h:ad}(hc:∀(args:Array Value) (w:World),(callFunc f args).run PG w=.ok (.enter f args) w)
 (g:∀w:World,w.heap=h→Calls PG f args.toArray w fun e w'=>Tame w w'∧∃t:uc ks,e=.returned (Bf ks (lO ks t))∧K t w'.heap):HC PG f args ks K h:=⟨fun w a=>.inl ⟨hc _ w,g w a⟩⟩
theorem HC.same{f:FuncId}{args:List Value}{ks:List Kind}{K:uc ks→ad→Prop}{h:ad}{v:Value}(hc:∀(args:Array Value) (w:World),(callFunc f args).run PG w=.ok (.enter f args) w)(t:uc ks)(c:v=Bf ks (lO ks t))
  (g:∀w:World,Calls PG f args.toArray w fun e w'=>e=.returned v∧w'=w)(i:K t h):HC PG f args ks K h:=
 HC.shelf hc fun w d=>(g w).mono fun e w' ⟨b,a⟩=>by subst a;exact⟨⟨rfl,rfl,rfl⟩,t,by rw[b,c],by rw[d];exact i⟩
theorem Bu{s:ByteArray}{c:UInt8}{h:ad}{K:Int→ad→Prop}(a:K (Lib.indexByte s.data.toList c) h):HC PG pM [.string s,.int .u8 (c.toNat:Int)] [.c (.int .i64)] K h:=
 HC.same (v:=.int .i64 (Lib.indexByte s.data.toList c)) Tryz.call37 (Lib.indexByte s.data.toList c) rfl (fun w=>by
  have:=Any.strings_IndexByte Hz s (c.toNat:Int) w
  rw[show((c.toNat:Int).toNat.toUInt8)=c from by rw[ai];exact UInt8.ofNat_toNat]at this
  exact this) a
theorem IK{s:ByteArray}{c:UInt8}{h:ad}{K:Int→ad→Prop}(a:K (Lib.indexByte s.data.toList c) h):HC PG wg [.string s,.string ⟨#[c]⟩] [.c (.int .i64)] K h:=
 HC.same (v:=.int .i64 (Lib.indexByte s.data.toList c)) Tryz.call114 (Lib.indexByte s.data.toList c) rfl (fun w=>Any.strings_Index_one Hx s c w) a
theorem Qz{s:ByteArray}{c:UInt8}{h:ad}{K:Int→ad→Prop}(a:K ((s.data.toList.count c:Nat):Int) h):HC PG BB [.string s,.string ⟨#[c]⟩] [.c (.int .i64)] K h:=
 HC.same (v:=.int .i64 ((s.data.toList.count c:Nat):Int)) Tryz.call113 ((s.data.toList.count c:Nat):Int) rfl (fun w=>Any.strings_Count_one Hy s c w) a
theorem x72:Builder.X72 PG Jx:=⟨by kernel_rfl,by kernel_rfl⟩
theorem BF{h:ad}{b:Nat}{p:Option Addr}{v:Value}(d:h[b]? =some (.cells #[.pointer p,v] dK (0,0))) (j:p=none∨p=some ⟨b,0,none⟩) {K:Unit→ad→Prop}
  (i:∀h',h'[b]? =some (.cells #[.pointer (some ⟨b,0,none⟩),v] dK (0,0))→Upd (· =b) h h'→K () h'):HC PG jr [.pointer (some ⟨b,0,none⟩)] [] K h:=by
 rcases j with rfl|rfl
 ·refine HC.shelf Tryz.call74 fun w g=>?_
  subst g;refine(Any.Builder_copyCheck_fresh zA x72 b w (by simp[World.cell?,d]) (by simp[World.shape?,d];rfl) (by simp[World.frozen?,d])).mono fun e w' ⟨f,c⟩=>?_
  subst c;refine⟨⟨rfl,rfl,rfl⟩,(),f,i _ ?_ (Upd.hset (M:=(· =b)) w.heap (a:=⟨b,0,none⟩) (.pointer (some ⟨b,0,none⟩)) rfl)⟩
  simp[World.setCell,iI,d]
 ·refine HC.shelf Tryz.call74 fun w g=>?_
  subst g;refine(Any.Builder_copyCheck_used zA x72 b w (by simp[World.cell?,d])).mono fun e w' ⟨f,c⟩=>?_
  subst c;exact⟨⟨rfl,rfl,rfl⟩,(),f,i _ d (Upd.refl _ _)⟩
structure Bld(M:Nat→Prop)(h:ad)(b:Nat)(bs:List UInt8):Prop where
 ex:∃(p:Option Addr) (s:SliceV),h[b]? =some (.cells #[.pointer p,.slice s.a s.len s.cap] dK (0,0))∧(p=none∨p=some ⟨b,0,none⟩)∧OwnS Ki 1 kY M h s bs∧(s.a=none∨s.cap≠0)
 nb:¬M b
section
variable {M:Nat→Prop} {h:ad} {b:Nat} {bs:List UInt8}
theorem A2(d:Bld M h b bs)(hM:∀y,h.size≤y→M y){c:UInt8}(n:bs.length+1≤140737488355328){K:Value→ad→Prop}(v:∀h',Bld M h' b (bs++ [c])→Upd (fun y=>y=b∨M y) h h'→K .nilIface h'):
  HC PG gr [.pointer (some ⟨b,0,none⟩),.int .u8 (c.toNat:Int)] [.c .raw] K h:=by
 obtain⟨p,s,q,u,w,x⟩:=d.ex;refine uX (some ⟨b,0,none⟩) (c.toNat:Int) ?_;unfold nh ci ce;refine BF q u fun z f g=>⟨_,rfl,s,vc f 1,aY ?_⟩
 have j:=w.upd g fun y a e=>d.nb (by have e:y=b:=e;rwa [←e])
 refine Mm rfl j (fun y a=>hM y (bH g.size a)) n fun s' A o k=>⟨_,rfl,kI (k.get f d.nb) (by simp) rfl fun t i m=>v t ⟨⟨_,s',i,.inr rfl,o.upd m fun y a e=>d.nb (by have e:y=b:=e;rwa [←e]),.inr ?_⟩,d.nb⟩ ?_⟩
 ·have:=o.cap
  have:=o.len;simp only[ah,bw]at this;omega
 ·exact((g.mono fun y a=>.inl (.inl a)).tr (k.mono fun y a=>.inl (.inr a))).tr (m.mono fun y a=>.inl (.inl a))
theorem xo(d:Bld M h b bs)(hM:∀y,h.size≤y→M y){x:ByteArray}(D:bs.length+x.size≤140737488355328){K:Int×Value→ad→Prop}(t:∀h' e,Bld M h' b (bs++x.data.toList)→Upd (fun y=>y=b∨M y) h h'→K (e,.nilIface) h'):
  HC PG bP [.pointer (some ⟨b,0,none⟩),.string x] [.c (.int .i64),.c .raw] K h:=by
 obtain⟨p,s,B,w,u,A⟩:=d.ex;refine te (some ⟨b,0,none⟩) x ?_;unfold lQ ci ce;refine BF B w fun n f j=>Join.plain ⟨_,rfl,s,vc f 1,?_⟩
 have g:=u.upd j fun y a e=>d.nb (by have e:y=b:=e;rwa [←e])
 by_cases hx:x.size=0
 ·have q:x.data.toList= []:=bJ.1 ((ox x).trans hx)
  have v:cz x= []:=by rw[j9,q];rfl
  rw[hx,v];refine⟨fun _=>⟨.inl rfl,rfl,?_⟩,fun z=>absurd u.cap (by omega)⟩
  have C:eR n s.a (s.len*1) []=n:=by unfold eR;split<;>rfl
  rw[C];refine⟨_,rfl,kI f (by simp) rfl fun k c i=>t k _ ⟨⟨_,s,c,.inr rfl,?_,A⟩,d.nb⟩ ((j.mono fun y a=>.inl (.inl a)).tr (i.mono fun y a=>.inl (.inl a)))⟩
  rw[q,List.append_nil];exact g.upd i fun y a e=>d.nb (by have e:y=b:=e;rwa [←e])
 refine AppP.own (ys:=x.data.toList) g (ox x).symm (j9 x) (by rw[j9];exact JL _) rfl (by omega) (by rw[ox];omega) (hM _ j.size) fun s' E o m=>⟨_,rfl,kI (m.get f d.nb) (by simp) rfl fun k c i=>t k _ ⟨⟨_,s',c,.inr rfl,o.upd i fun y a e=>d.nb (by have e:y=b:=e;rwa [←e]),?_⟩,d.nb⟩ ?_⟩
 ·have:=o.cap
  have:=o.len;have:=ox x;simp only[ah]at*;exact .inr (by omega)
 ·exact((j.mono fun y a=>.inl (.inl a)).tr (m.mono fun y a=>.inl (.inr a))).tr (i.mono fun y a=>.inl (.inl a))
theorem Upd.hfreeze{h:ad}{g n:Nat}(d:M g):Upd M h (hfreeze h g n):=⟨by simp[Go.Lift.hfreeze],fun c _ b=>by
 unfold Go.Lift.hfreeze
 have a:g≠c:=fun e=>b (by rw[←e];exact d)
 rw[iI,if_neg a]⟩
theorem BA:∀l:List UInt8,l.flatMap Ki=l.map fun b=>Value.int .u8 (b.toNat:Int)
 | []=>rfl
 |a::l=>by rw[List.flatMap_cons,List.map_cons,BA l];rfl
theorem Tl{l:List UInt8}{j:Nat}{x:UInt8}{r:List Value}(h:l[j]? =some x):(l.flatMap Ki++r).toArray[j]? =some (.int .u8 (x.toNat:Int)):=by
 rw[ef,BA,List.getElem?_append_left (by simpa using(aQ.1 h).1),gJ,h];rfl
theorem BM(c:Bld M h b bs)(w:bs.length≤140737488355328){K:ByteArray→ad→Prop}(k:∀h',Upd M h h'→K (aW bs) h'):
  HC PG dD [.pointer (some ⟨b,0,none⟩)] [.c .str] K h:=by
 obtain⟨p,s,a,y,e,o⟩:=c.ex;have m:=e.len;refine xj (some ⟨b,0,none⟩) ?_;unfold pz ce;refine⟨_,rfl,s,vc a 1,o,_,rfl,s,vc a 1,?_⟩;by_cases d:bs= []
 ·subst d
  exact .inl ⟨by rw[m];rfl,vc a 1,vc a 1,k h (Upd.refl _ _)⟩
 ·rcases e.blk with z|⟨g,i,t,v,hc,A⟩
  ·have:=e.cap
   exact absurd (bJ.1 (by omega)) d
  ·have u:=Upd.hfreeze (h:=h) (n:=bs.length) v
   refine .inr ⟨bs,g,_,t,by rw[m],d,by omega,hc,?_,fun j x q=>Tl q,vc (u.get a c.nb) 1,vc (u.get a c.nb) 1,k _ u⟩
   rw[cH,ah];have:(bs.flatMap Ki).length=bs.length*1:=i7 (f:=Ki) (fun x=>rfl) bs
   omega
end
end Go.Proofs
namespace Go.Proofs
open Go Go.Lift
theorem QE{h a:ad}{cs:Array Value}{t:TypeId}{c:Nat×Nat}(b:a[h.size]? =some (.cells cs t c)) (i:Nat):aC a (adr (aJ h) i)=cs[i]?:=by
 unfold aJ;rw[cc,aI];simp[aC,b]
theorem nib(v:UInt8):fK (v.toNat:Int) (2^(min (4:Int).toNat (af .u8)))=((v.toNat/16:Nat):Int)∧ac .u8 (ao (af .u8) (v.toNat:Int)&&&ao (af .u8) 15).toNat=((v.toNat%16:Nat):Int):=by
 have key:∀n:Fin 256,fK (n.val:Int) (2^(min (4:Int).toNat (af .u8)))=((n.val/16:Nat):Int)∧ac .u8 (ao (af .u8) (n.val:Int)&&&ao (af .u8) 15).toNat=((n.val%16:Nat):Int):=by decide+kernel
 exact key ⟨v.toNat,v.toNat_lt⟩
theorem Ap{x:ByteArray}(hx:x.size≤1000000){h:ad}{K:ByteArray→ad→Prop}(o:∀h',Upd No h h'→K (aW (mI x.data.toList)) h'):HC PG jv [.string x] [.c .str] K h:=by
 refine OC x ?_;unfold G2 bL dE He zW;have A:=ox x;rw[EV];refine aK (fun e=>?_) fun e=>?_
 ·have:=o h (Upd.refl _ _)
  rw[e]at this;exact this
 rw[mI,if_neg e]at o;have k1:=Upd.hnew No h [.pointer none,.slice none 0 0] dK;have b1:=bG h [.pointer none,.slice none 0 0] dK;have w:=fM h [.pointer none,.slice none 0 0] dK;refine aY ?_;generalize hnew h [.pointer none,.slice none 0 0] dK=h1 at k1 b1 w;refine fun c hc=>?_
 have n:=Upd.push No h1 (.cells (cz x++bO (c-x.size) (Value.int .u8 0)).toArray kY (c,c+1));have b3:=oD h1 (.cells (cz x++bO (c-x.size) (Value.int .u8 0)).toArray kY (c,c+1));have D:(h1.push (.cells (cz x++bO (c-x.size) (Value.int .u8 0)).toArray kY (c,c+1))).size=h1.size+1:=by simp
 generalize h1.push (.cells (cz x++bO (c-x.size) (Value.int .u8 0)).toArray kY (c,c+1))=h3 at n b3 D;refine LoopP.ghost (fun(i:Nat) (t:Int) m=>t=(i:Int)∧i≤x.size∧Bld (fun y=>h3.size≤y) m h.size (HA (x.data.toList.take i))∧Upd (· =h.size) h3 m) (fun i=>x.size-i) 0 ⟨rfl,be _,⟨⟨none,⟨none,0,0⟩,n.get0 b1,.inl rfl,OwnS.nil Dc,.inl rfl⟩,by omega⟩,Upd.refl _ _⟩ ?_
 rintro I i t m ⟨rfl,hi,g,u⟩ E;refine aK (fun a=>?_) fun k=>?_
 ·have a:i<x.size:=by have:(i:Int)<(x.size:Int):=a;omega
  obtain⟨v,L,z,G⟩:=U1 a;obtain⟨s,q⟩:=nib v;have J:=v.toNat_lt;have Q:=u.size;refine⟨⟨by omega,by omega⟩,_,rfl,(v.toNat:Int),?_,by decide,Eo (v.toNat/16),by rw[s];omega,by rw[s,ai];exact Jr (by omega),?_⟩
  ·rw[ai,Nat.mul_one,QE (u.get b3 (by omega)),j9]
   exact Tl z
  have d:=xF (x.data.toList.take i);have F:(x.data.toList.take i).length=i:=by rw[aL];omega
  refine A2 g (fun y b=>by omega) (by omega) fun O j p=>GE ⟨Eo (v.toNat%16),by rw[q];omega,by rw[q,ai];exact Jr (by omega),?_⟩
  have N:=p.size;refine A2 j (fun y b=>by omega) (by simp only[ah,bw];omega) fun P f C=>?_
  rw[dw a (by omega)];refine E (i+1) _ _ ⟨rfl,a,?_,?_⟩ (by omega)
  ·rw[G,LY]
   rw[List.append_assoc]at f;exact f
  ·exact(u.trans p fun y b=>by omega).trans C fun y b=>by omega
 ·have hi:i=x.size:=by have:¬(i:Int)<(x.size:Int):=k;omega
  rw[hi,←A,bf]at g;have d:=xF x.data.toList;refine BM g (by omega) fun H B=>o H ?_
  exact((k1.tr n).trans u fun y b=>by omega).trans B fun y b=>by omega
theorem RR(c:UInt8):Lib.indexByte sgn16.data.toList c=if Hd c<16 then(Hd c:Int)else-1:=by
 have key:∀n:Fin 256,Lib.indexByte sgn16.data.toList (cG n.val)=if Hd (cG n.val)<16 then(Hd (cG n.val):Int)else-1:=by decide+kernel
 have:=key ⟨c.toNat,c.toNat_lt⟩;rwa [UInt8.ofNat_toNat]at this
theorem X4{a b:Nat}(c:a<16)(d:b<16):ac .u8 (ac .i64 (ao (af .i64) (ac .i64 ((a:Int)*2^(min (4:Int).toNat (af .i64))))|||ao (af .i64) (b:Int)).toNat)=((cG (16*a+b)).toNat:Int):=by
 have key:∀a b:Fin 16,ac .u8 (ac .i64 (ao (af .i64) (ac .i64 ((a.val:Int)*2^(min (4:Int).toNat (af .i64))))|||ao (af .i64) (b.val:Int)).toNat)=((cG (16*a.val+b.val)).toNat:Int):=by decide+kernel
 exact key ⟨a,c⟩ ⟨b,d⟩
theorem Rm{x:ByteArray}(hx:x.size≤1000000){h:ad}{K:ByteArray×Bool→ad→Prop}(f:∀h',Upd No h h'→K (VR (rg x.data.toList)) h'):HC PG sd [.string x] [.c .str,.c .bool] K h:=by
 refine KH x ?_;unfold Cu Xy;have H:=ox x;rw[P6,EV];refine aK (fun e=>?_) fun e=>?_
 ·have:=f h (Upd.refl _ _)
  rw[rg,if_pos e]at this;exact this
 rw[rg,if_neg e]at f;refine Join.plain (aK (fun w=>aB.2 ?_) fun w=>⟨by decide,CondP.intro (fun e1=>?_) fun e1=>?_⟩)
 ·have:=f h (Upd.refl _ _)
  rw[if_pos w]at this;exact this
 ·have e1:iy (x.size:Int) 2=1:=by simpa using e1
  rw[ix (by omega)]at e1;have:=f h (Upd.refl _ _);rw[if_neg w,Fh _ (by omega)]at this;exact this
 ·have e1:iy (x.size:Int) 2≠1:=by simpa using e1
  rw[ix (by omega)]at e1;rw[if_neg w]at f;have L:ac .i64 (vQ (x.size:Int) 2)=((x.size/2:Nat):Int):=by rw[lS (by omega),lz (by omega)];omega
  refine⟨by decide,?_⟩;refine LoopP.ghost (fun(g:Nat×List UInt8) (t:SliceV×Int) h'=>t.2=(g.1:Int)∧2*g.1≤x.size∧jG (x.data.toList.take (2*g.1))=some g.2∧g.2.length=g.1∧OwnS Ki 1 kY (fun y=>h.size≤y) h' t.1 g.2∧Upd No h h') (fun g=>x.size-g.1) (0,[]) ⟨rfl,be _,rfl,rfl,OwnS.nil Dc,Upd.refl _ _⟩ ?_
  rintro I ⟨i,out⟩ ⟨P,N⟩ h' ⟨e2,hi,n,p,A,s⟩ J;simp only at e2 hi n p A;subst e2;rw[L];refine aK (fun j=>?_) fun z=>?_
  ·have j:i<x.size/2:=by have:(i:Int)<((x.size/2:Nat):Int):=j;omega
   obtain⟨a,b,F,b1,d,t⟩:=Xk (x:=x) (i:=2*i) (by omega);have G:ac .i64 (2*(i:Int))=((2*i:Nat):Int):=by rw[lz (by omega)];omega
   have C:ac .i64 (((2*i:Nat):Int)+1)=((2*i+1:Nat):Int):=by rw[lz (by omega)];omega
   have m:jG x.data.toList=(jG (a::b::x.data.toList.drop (2*i+2))).map (out++ ·):=by
    have E:=Aa (x.data.toList.take (2*i)) (x.data.toList.drop (2*i)) (by rw[aL];omega);rw[cF,n,d]at E;exact E
   simp only[G];have k:¬(Hd a<16∧Hd b<16)→K (aW [],false) h':=fun p=>by
    have:=f h' s;rw[m]at this;unfold jG at this;rw[if_neg p]at this;exact this
   have O:=s.size;refine Join.plain ⟨a,by omega,F,b,by rw[C];omega,by rw[C];exact b1,Bu (Bu ?_)⟩
   rw[RR,RR];refine Join.plain ?_;by_cases q:Hd a<16
   ·rw[if_pos q]
    refine aK (fun c=>absurd c (by omega)) fun _=>?_
    by_cases v:Hd b<16
    ·rw[if_pos v]
     refine aK (fun c=>absurd c (by omega)) fun _=>⟨by decide,GE (GE (aY ?_))⟩
     rw[X4 q v];refine Mm (b:=cG (16*Hd a+Hd b)) rfl A (fun y D=>by omega) (by omega) fun s' B o u=>?_
     show I (s',ac .i64 ((i:Int)+1)) B
     rw[dw j (by omega)];refine J (i+1,out++ [cG (16*Hd a+Hd b)]) _ _ ⟨rfl,by simp only;omega,?_,by simp[p],o,s.trans u fun y D=>.inr D⟩ (by simp only;omega)
     rw[show 2*(i+1)=2*i+2 from by omega,t,Aa _ _ (by rw[aL];omega),n]
     simp only[jG,if_pos (show Hd a<16∧Hd b<16 from⟨q,v⟩)]
     rfl
    ·rw[if_neg v]
     exact aK (fun _=>k (by omega)) fun c=>absurd (by decide:(-1:Int)<0) c
   ·rw[if_neg q]
    exact aK (fun _=>aB.2 (k (by omega))) fun c=>absurd (by decide:(-1:Int)<0) c
  ·have hi:2*i=x.size:=by have:¬(i:Int)<((x.size/2:Nat):Int):=z;omega
   rw[hi,←H,bf]at n;rw[n]at f;refine⟨aW out,?_,f h' s⟩;rw[j9];simpa using(A.sl (W:=No) fun _ _ _ h=>h).srow
end Go.Proofs
namespace Go.Proofs
open Go Go.Lift Go.RowKit Go.Sort
def Tab10(h:ad):Prop:=∃t fz,h[3]? =some (.cells (Lib.pow10Tab.map fun z=>Value.int .u64 z).toArray t fz)
theorem Tab10.upd{M:Nat→Prop}{h h':ad}(t:Tab10 h)(k:Upd M h h')(d:¬M 3):Tab10 h':=let⟨a,b,c⟩:=t;⟨a,b,k.get c d⟩
theorem Tab10.upd0{h h':ad}(t:Tab10 h)(k:Upd No h h'):Tab10 h':=t.upd k id
theorem ya(n:Nat):dW n=Lib.decDigits n:=by
 induction n using nI with
 |ind n ih=>
  by_cases h:n<10
  ·rw[sf h,Lib.decDigits,dif_pos h]
  ·rw[E4 h,Lib.decDigits,dif_neg h,ih (n/10) (by omega)]
theorem RP{n:Nat}(a:n<100){h:ad}{K:ByteArray→ad→Prop}(b:K (aW (dW n)) h):HC PG mZ [.int .i64 (n:Int)] [.c .str] K h:=
 HC.same (v:=.string (aW (dW n))) Tryz.call103 (aW (dW n)) rfl (fun w=>by rw[ya];exact Any.internal_strconv_small Hu n a w) b
theorem SL:PG.globalNamed "internal/strconv.uint64pow10" =some 3:=by kernel_rfl
theorem JN{u:Nat}(c:1≤u)(i:u<18446744073709551616){h:ad}(b:Tab10 h){K:Int→ad→Prop}(g:K (Lib.nDigits u:Int) h):HC PG gM [.int .u64 (u:Int)] [.c (.int .i64)] K h:=by
 refine HC.shelf Tryz.call104 fun w f=>?_
 subst f;obtain⟨t,j,b⟩:=b;refine(Any.internal_strconv_numDigits FV u c i w ?_).mono fun e w' ⟨d,a⟩=>?_
 ·unfold Lib.TabIs World.var?
  rw[SL];simp[b]
 ·subst a
  exact⟨⟨rfl,rfl,rfl⟩,(Lib.nDigits u:Int),d,g⟩
theorem QK{u g:Nat}(x:u<18446744073709551616){h:ad}{t:TypeId}(B:h[g]? =some (.cells Lib.zeros24 t (0,0))) {K:Unit→ad→Prop} (E:∀h',SRow h' (some ⟨g,0,none⟩) (Lib.nDigits u) (cz (aW (dW u)))→Upd (· =g) h h'→K () h'):
  HC PG jx [.slice (some ⟨g,0,none⟩) (Lib.nDigits u) 24,.int .u64 (u:Int)] [] K h:=by
 refine HC.shelf Tryz.call105 fun w D=>?_
 subst D;have s:=Lib.nDigits_le20 u x;have z:Holds (fun(b:UInt8)=>Value.int .u8 (b.toNat:Int)) w g 0 (iW (Lib.nDigits u) 0):=fun j p=>by
  have p:j<Lib.nDigits u:=by simpa using p
  refine⟨?_,by simp[World.frozen?,B]⟩
  rw[show(iW (Lib.nDigits u) (0:UInt8))[j]! =0 from by simp[p]]
  have:=Lib.zeros24_at j (by omega);simp[World.cell?,B,this]
 have A:=Any.internal_strconv_formatBase10 Hr g 0 24 u _ w z (by rw[jq];exact Lib.lt_pow_nDigits u) x (by rw[jq];omega);rw[jq]at A;refine A.mono ?_;rintro e w' ⟨C,k,F,o,f,m⟩;have a:(dW u).length=Lib.nDigits u:=by rw[ya,Lib.decDigits_length]
 have q:w'.heap=(putRow (fun(b:UInt8)=>Value.int .u8 (b.toNat:Int)) w g 0 o).heap:=by rw[f];rfl
 refine⟨by rw[f];exact⟨rfl,rfl,rfl⟩,(),C,E _ ⟨?_,.inr ⟨_,rfl,fun i v y=>?_⟩⟩ ⟨?_,fun c _ s=>?_⟩⟩
 ·rw[j9,BA,List.length_map];exact a
 ·rw[j9,BA,gJ]at y
  obtain⟨b,d,rfl⟩:=eP.1 y;have hi:i<(dW u).length:=(aQ.1 d).1;have hc:=cell?_putRow _ w g 0 _ o z (by rw[m.size,jq]) i (by rw[m.size];omega);have n:b=o[i]!:=by
   rw[←Lib.row_is_numeral m i (by rw[←ya];exact hi)];have d:(dW u)[i]? =some b:=d;rw[ya]at d;exact(aQ.1 d).2.symm
  rw[q,cc,n];exact hc
 ·rw[q];simp[putRow,mapBlock]
 ·rw[q]
  simp only[putRow,mapBlock,iI];rw[if_neg (fun e=>s e.symm)]
theorem zB{n:Nat}(a:n<18446744073709551616){h:ad}(i:Tab10 h){K:ByteArray→ad→Prop}(b:∀h',Upd No h h'→K (aW (dW n)) h'):HC PG jb [.int .u64 (n:Int),.int .i64 10] [.c .str] K h:=by
 refine yj (n:Int) 10 ?_;unfold qT oq;refine qQ (n:Int) 10 ?_;unfold ke Wm;refine CondP.intro (fun _=>aK (fun c=>?_) fun c=>?_) fun e=>absurd e (by decide)
 ·rw[lz (by omega)]
  exact RP (by omega) (b h (Upd.refl _ _))
 ·have b1:=bG h (bO 24 (.int .u8 0)) yA
  have k1:=Upd.hnew No h (bO 24 (.int .u8 0)) yA;refine aY ?_;show HC PG gM _ _ _ (hnew h (bO 24 (.int .u8 0)) yA)
  generalize hnew h (bO 24 (.int .u8 0)) yA=h1 at b1 k1;have f:=Lib.nDigits_le20 n a;refine JN (by omega) a (i.upd0 k1) ⟨⟨by omega,by omega⟩,?_⟩
  rw[show aN (some (aJ h)) 0 24 1=some ⟨h.size,0,none⟩from rfl,ai,Nat.sub_zero]
  refine QK a (g:=h.size) (t:=yA) b1 fun j r u=>⟨⟨by omega,by omega⟩,aW (dW n),r,b j (k1.trans u fun y d=>.inr (by have d:y=h.size:=d;omega))⟩
end Go.Proofs
namespace Go.Proofs
open Go Go.Lift
abbrev IU(l:List UInt8)(a:Nat):Nat:=l.foldl (fun a c=>10*a+(c.toNat-48)) a
theorem CX:∀(l:List UInt8) (a u:Nat),Lib.parseUintM 18446744073709551615 a l=.ok u→l.all UD=true∧IU l a=u∧(a<18446744073709551616→u<18446744073709551616)
 | [],a,u,h=>by
  have h:(Lib.NumEnd.ok a:Lib.NumEnd Nat)=.ok u:=h;cases h;exact⟨rfl,rfl,id⟩
 |c::l,a,u,h=>by
  unfold Lib.parseUintM at h;split at h
  ·rename_i hc
   split at h
   ·cases h
   ·split at h
    ·cases h
    ·obtain⟨b,e,d⟩:=CX l _ u h
     refine⟨by rw[vg,b,Pe.2 hc];rfl,?_,fun _=>d (by omega)⟩
     show IU l (10*a+(c.toNat-48))=u
     rw[pm 10 a];exact e
  ·cases h
theorem FM:∀(l:List UInt8) (a:Nat),l.all UD=true→IU l a<18446744073709551616→Lib.parseUintM 18446744073709551615 a l=.ok (IU l a)
 | [],a,_,_=>rfl
 |c::l,a,b,d=>by
  rw[vg,Bool.and_eq_true]at b;obtain⟨hc,b⟩:=b;have hc:=Pe.1 hc;have d:IU l (10*a+(c.toNat-48))<18446744073709551616:=d;have e:=Pi l (10*a+(c.toNat-48));have e:10*a+(c.toNat-48)≤IU l (10*a+(c.toNat-48)):=e;unfold Lib.parseUintM;rw[if_pos hc,if_neg (by omega),if_neg (by omega),pm a 10,FM l _ b d];rfl
theorem NF(l:List UInt8):uL l=match Lib.parseUintB 64 l with
  | .ok u=>if dW u=l then some u else none
  |_=>none:=by
 have b:2^64-1=18446744073709551615:=by decide
 unfold Lib.parseUintB uL;by_cases a:l= []
 ·subst a;rfl
 ·rw[if_neg a,b]
  by_cases hc:l.all UD=true∧Fg l<18446744073709551616
  ·have e:=FM l 0 hc.1 hc.2
   have e:Lib.parseUintM 18446744073709551615 0 l=.ok (Fg l):=e;rw[e];by_cases hd:dW (Fg l)=l
   ·rw[if_pos ⟨a,hc.1,hc.2,hd⟩];simp only[if_pos hd]
   ·rw[if_neg fun h=>hd h.2.2.2];simp only[if_neg hd]
  ·rw[if_neg fun h=>hc ⟨h.2.1,h.2.2.1⟩]
   cases e:Lib.parseUintM 18446744073709551615 0 l
   ·rename_i u
    obtain⟨d,c,f⟩:=CX l 0 u e;have c:Fg l=u:=c;exact absurd ⟨d,by rw[c];exact f (by omega)⟩ hc
   ·rfl
   ·rfl
end Go.Proofs
set_option maxRecDepth 100000
namespace Go.Proofs
open Go Go.Lift Go.Shelf
def renP:Ren:=⟨fun n=>bif av n 14 then 39 else bif av n 16 then 71 else bif av n 17 then 72 else bif av n 19 then 97 else bif av n 20 then 98 else bif av n 21 then 99 else bif av n 22 then 100 else bif av n 23 then 101 else bif av n 24 then 102 else bif av n 25 then 127 else bif av n 26 then 128 else bif av n 27 then 63 else bif av n 28 then 91 else bif av n 29 then 125 else bif av n 30 then 103 else bif av n 31 then 104 else bif av n 32 then 105 else bif av n 33 then 106 else bif av n 34 then 129 else bif av n 35 then 130 else bif av n 36 then 131 else bif av n 37 then 132 else bif av n 38 then 133 else bif av n 39 then 189 else bif av n 40 then 190 else 0,
 fun n=>bif av n 0 then 0 else bif av n 2 then 2 else bif av n 3 then 3 else bif av n 4 then 4 else bif av n 5 then 5 else bif av n 9 then 9 else bif av n 20 then 20 else bif av n 21 then 21 else bif av n 22 then 52 else bif av n 24 then 99 else bif av n 25 then 100 else bif av n 34 then 159 else bif av n 36 then 32 else bif av n 37 then 95 else bif av n 39 then 160 else bif av n 44 then 198 else bif av n 47 then 141 else bif av n 48 then 253 else bif av n 50 then 255 else bif av n 52 then 163 else bif av n 55 then 166 else bif av n 59 then 202 else bif av n 60 then 23 else bif av n 61 then 203 else bif av n 65 then 333 else bif av n 66 then 334 else bif av n 67 then 107 else 0,
 fun n=>bif av n 0 then 1 else bif av n 1 then 2 else bif av n 2 then 3 else bif av n 3 then 6 else bif av n 4 then 7 else 0⟩
theorem sH:LaysPu.n14 PG renP:=by constructor<;>first|kernel_rfl|(intro w;kernel_rfl)
end Go.Proofs
namespace Go.Proofs
open Go Go.Lift Go.RowKit
theorem vx{w w':World}(b:Below w.heap.size w w'):Upd No w.heap w'.heap:=⟨b.size,fun k a _=>b.block k a⟩
theorem wA{B:Nat}{w w':World}(b:Below B w w'):Tame w w':=⟨b.os,b.tape,b.output⟩
structure Laid(h:ad):Prop where
 tab:Tab10 h
 e1:∃t v,aC h ⟨1,0,none⟩=some (.iface t v)
 e2:∃t v,aC h ⟨2,0,none⟩=some (.iface t v)
theorem Laid.upd{M:Nat→Prop}{h h':ad}(l:Laid h)(k:Upd M h h')(d:∀y,M y→4≤y):Laid h':=
 ⟨l.tab.upd k fun e=>absurd (d _ e) (by omega),let⟨a,b,c⟩:=l.e1;⟨a,b,k.cell c fun e=>absurd (d _ e) (by decide)⟩,let⟨a,b,c⟩:=l.e2;⟨a,b,k.cell c fun e=>absurd (d _ e) (by decide)⟩⟩
theorem Laid.upd0{h h':ad}(l:Laid h)(k:Upd No h h'):Laid h':=l.upd k fun _ h=>h.elim
theorem JH{x:ByteArray}(hx:x.size≤1000000){h:ad}(l:Laid h){K:Int×Value→ad→Prop}
  (a:∀h' e,Upd No h h'→UC e.2=true→(match Lib.parseUintB 64 x.data.toList with| .ok u=>e=((u:Int),Value.nilIface)|_=>P4 e.2=false)→K e h'):
  HC PG rD [.string x,.int .i64 10,.int .i64 64] [.c (.int .u64),.c .raw] K h:=by
 refine HC.shelf Tryz.call39 fun w f=>?_
 subst f;obtain⟨m,i,c1⟩:=l.e1;obtain⟨k,j,g⟩:=l.e2;cases hp:Lib.parseUintB 64 x.data.toList
 ·rename_i u
  rw[hp]at a;refine(Any.strconv_ParseUint_10_at64_ok sH x (by omega) u hp w).mono fun e w' ⟨c,d⟩=>?_
  rcases d with rfl|rfl
  ·exact⟨⟨rfl,rfl,rfl⟩,((u:Int),Value.nilIface),c,a _ _ (Upd.refl _ _) rfl rfl⟩
  ·have b:=Lib.bytesWorld_below w (renP.t 5) x
   exact⟨wA b,((u:Int),Value.nilIface),c,a _ _ (vx b) rfl rfl⟩
 ·rw[hp]at a
  refine(Any.strconv_ParseUint_10_at64_syntax sH x (by omega) hp _ w c1 (.inr ⟨_,_,rfl⟩)).mono fun e w' ⟨N,c,_,_,b⟩=>?_
  exact⟨wA b,((0:Int),Value.iface (renP.t 39) (.pointer (some ⟨N,0,none⟩))),c,a _ _ (vx b) rfl rfl⟩
 ·rw[hp]at a
  refine(Any.strconv_ParseUint_10_at64_range sH x (by omega) hp _ w g (.inr ⟨_,_,rfl⟩)).mono fun e w' ⟨N,c,_,_,b⟩=>?_
  exact⟨wA b,((18446744073709551615:Int),Value.iface (renP.t 39) (.pointer (some ⟨N,0,none⟩))),c,a _ _ (vx b) rfl rfl⟩
theorem Sj{l:List UInt8}{u:Nat}(h:Lib.parseUintB 64 l=.ok u):u<18446744073709551616:=by
 unfold Lib.parseUintB at h;split at h
 ·cases h
 ·exact(CX l 0 u h).2.2 (by omega)
theorem yE{x:ByteArray}(hx:x.size≤1000000){h:ad}(l:Laid h){K:Int×Bool→ad→Prop}(b:∀h',Upd No h h'→K (Uo (uL x.data.toList)) h'):HC PG kW [.string x] [.c (.int .u64),.c .bool] K h:=by
 refine HT x ?_;unfold zT vl9 oq;rw[NF]at b;refine JH hx l fun f e k1 c a=>Join.plain ⟨c,?_⟩
 cases hp:Lib.parseUintB 64 x.data.toList
 ·rename_i u
  rw[hp]at a b;have b:∀h',Upd No h h'→K (Uo (if dW u=x.data.toList then some u else none)) h':=b
  have a:e=((u:Int),Value.nilIface):=a;subst a;refine aj.2 (zB (Sj hp) (l.tab.upd0 k1) fun g d=>?_)
  rw[eG];by_cases hd:dW u=x.data.toList
  ·have e:aW (dW u)=x:=by rw[hd]
   rw[if_pos hd]at b;rw[e,decide_eq_true rfl];exact aj.2 (b _ (k1.tr d))
  ·have e:aW (dW u)≠x:=fun e=>hd (by rw[←e])
   rw[if_neg hd]at b;rw[decide_eq_false e];exact aB.2 (b _ (k1.tr d))
 ·rw[hp]at a b
  have a:P4 e.2=false:=a;rw[a];exact aB.2 (aB.2 (b _ k1))
 ·rw[hp]at a b
  have a:P4 e.2=false:=a;rw[a];exact aB.2 (aB.2 (b _ k1))
end Go.Proofs
