/- A part of the proof that the named laws of this program answer true, whatever the input. -/
import Derived.Test.YtopdngagmfanlaaGreatDoorPart10
import Derived.Test.YtopdngagmfanlaaGreatDoorPart5
open Array renaming size→aN
open ByteArray renaming size_extract→p7
open Go.IntKind renaming wrap→ac,wrap_u32→qL
open Int renaming toNat_natCast→ak
open List renaming mem_cons_self→aP,length_singleton→bO,getD_eq_getElem?_getD→fh,mem_cons→ar,mem_singleton→aO,getElem?_eq_getElem→ah,length_take→be,take_length→bJ,length_cons→ay,length_nil→bN,length_append→aj,mem_append→bD
open List.Pairwise renaming nil→j9
open Nat renaming lt_of_lt_of_le→aQ,le_refl→av,le_trans→aU,zero_le→aV
namespace Go.Proofs
open Go Go.Lift
theorem TM{W0:Nat→Prop}{a:List UInt8}(hx:a.length≤1000000)(A:ix 32 a= [[111,112,101,110],[114,97,100,105,120],[48],[48],[48]]){h:ad}(n:∀y,W0 y→y<h.size){c:Nat}(hd:h[c]? =some (.cells #[.pointer none] il (0,0))) (l:Laid h) (i:4≤c) {K:ByteArray→ad→Prop}
  (B:∀b h' sp f gp gm tm bm nm t sm pb g,VaultAt (fun y=>W0 y∨VS.M ⟨gp,gm,tm,bm,nm,1,⟨0,0,0⟩,t,[],1,[],[],[]⟩ y) b f ⟨gp,gm,tm,bm,nm,1,⟨0,0,0⟩,t,[],1,[],[],[]⟩→b[sp]? =some (.cells (PN f (some sm) 0 (some ⟨pb,0,none⟩)).toArray dB (0,0))→
   (∀y,VS.M ⟨gp,gm,tm,bm,nm,1,⟨0,0,0⟩,t,[],1,[],[],[]⟩ y→h.size≤y∧y<g)→g<sp→Upd No h b→h'[c]? =some (.cells #[.pointer (some ⟨sp,0,none⟩)] il (0,0))→Upd (· =c) b h'→K ⟨#[111,107]⟩ h'):
  HC PG iv [.pointer (some ⟨c,0,none⟩),.string (aG a)] [.c .str] K h:=by
 refine Ab (some ⟨c,0,none⟩) (aG a) ?_;unfold un bi cU ao bC ag aX aI nv BI MM JI ZT XO eu iQ;refine af.2 (Cx (by rw[cu];exact hx) fun k F ow x=>nP fun j z o=>?_)
 rw[show(aG a).data.toList=a from by simp,A]at ow
 have e:=x.tr o;have C:=(ow.sl (W:=fun y=>k.size≤y) (fun y _ d=>by omega)).upd o fun _ h=>h.elim
 have m:=e.get0 hd;have v:=e.size;refine LoopP.ghost (fun(_:Unit) (t:Int) p=>t=0∧p=j) (fun _=>0) () ⟨rfl,rfl⟩ ?_
 rintro I _ t p ⟨e1,e2⟩ E;subst e1 e2;refine aA.2 ⟨⟨by decide,by decide⟩,_,rfl,_,vc z 0,HV.mk' (Tl (fun y d=>aQ (n y d) v) m (l.upd0 e) i C fun b h' sp f gp gm tm bm nm t sm pb g s bs hM q u w D=>aA.2 ?_)⟩
 exact B b h' sp f gp gm tm bm nm t sm pb g s bs (fun y d=>⟨by have:=(hM y d).1;omega,(hM y d).2⟩) q (e.tr u) w D
theorem Oc{c:UInt8}:∀{l:List UInt8},c∉l→Lib.indexByte l c= -1
 | [],_=>rfl
 |a::l,h=>by
  have d:(a==c)=false:=beq_eq_false_iff_ne.2 fun e=>h (by rw[e];exact aP ..)
  have b:=Oc (l:=l) fun e=>h (List.mem_cons_of_mem _ e)
  simp only[Lib.indexByte,d,b];rfl
theorem P4{a:List UInt8}{h:ad}{fv:Value}{sb tb nb:Nat}(W:fv=.func (.func jV) #[] #[.pointer (some ⟨sb,0,none⟩),.pointer (some ⟨tb,0,none⟩),.pointer (some ⟨nb,0,none⟩)])(hs:h[sb]? =some (.cells #[.string ⟨#[10]⟩] bR (0,0))) (ht:h[tb]? =some (.cells #[.string (aG a)] bR (0,0))) (hn:h[nb]? =some (.cells #[.int .i64 0] wy (0,0)))
  (q1:tb≠sb) (q2:tb≠nb) (hx:a.length≤1000000)
  {BODY:ByteArray→(Option Ex→ad→Prop)→ad→Prop} {N:ad→Prop} {X:Nat→ad→Prop} {R:ad→Prop} (Inv:Nat→ad→Prop) (M:Nat→Prop)
  (J:Inv 0 h) (d:∀k h1 h2,Inv k h1→h.size≤h1.size→Upd (fun b=>b=tb∨b=h.size∨b=h.size+1) h1 h2→Inv k h2)
  (hM:∀b,M b→b≠tb∧b≠sb∧b≠nb∧b≠h.size∧b≠h.size+1)
  (step:∀k w h1 (KK:Option Ex→ad→Prop),Inv k h1→h.size+2≤h1.size→(ix 10 a)[k]? =some w→(∀h2,Inv (k+1) h2→Upd M h1 h2→KK none h2)→BODY (aG w) KK h1)
  (U:∀h1,Inv (ix 10 a).length h1→h1[h.size]? =some (.deferred (some []))→N h1):
  RangeP PG fv [.c .str] h (fun JX bz (x:ByteArray) k K=>(K[(aN h+1)]? =some JX∧At (Array.setIfInBounds K (aN h+1) bz) (fun Y=>BODY x k Y))) N X R:=by
 subst W;refine⟨fun lo hlo t=>⟨jV,#[],_,rfl,?_⟩⟩
 have zs:=bB hs;have zt:=bB ht;have zn:=bB hn;have k1:Upd No h ((h.push (.deferred (some []))).push (lo .ready none)):=(Upd.push No _ _).tr (Upd.push No _ _);have l2:((h.push (.deferred (some []))).push (lo .ready none))[h.size+1]? =some (lo .ready none):=by
  have:=mF (h.push (.deferred (some []))) (lo .ready none);rwa [Array.size_push]at this
 have l1:((h.push (.deferred (some []))).push (lo .ready none))[h.size]? =some (.deferred (some [])):=(Upd.push No _ _).get0 (mF h _);have i1:=d 0 _ _ J (av _) k1.wide;generalize (h.push (.deferred (some []))).push (lo .ready none)=h1 at k1 l2 l1 i1;have s1:=k1.get0 hs;have t1:=k1.get0 ht;have F:=k1.get0 hn;refine Ce (.func (.yield (h.size+1)) #[] #[]) ⟨sb,0,none⟩ ⟨tb,0,none⟩ ⟨nb,0,none⟩ ?_
 unfold pR eu;refine⟨_,bc s1,af.2 ?_⟩;have round:∀(k:Nat) (w:List UInt8) (h':ad) (KK:Bool→ad→Prop),Inv k h'→(ix 10 a)[k]? =some w→h.size≤h'.size→h'[sb]? =some (.cells #[.string ⟨#[10]⟩] bR (0,0))→h'[nb]? =some (.cells #[.int .i64 0] wy (0,0))→h'[h.size]? =some (.deferred (some []))→h'[h.size+1]? =some (lo .ready none)→∀v,h'[tb]? =some (.cells v bR (0,0))→
   (∀h2,Inv (k+1) h2→h.size≤h2.size→h2[sb]? =some (.cells #[.string ⟨#[10]⟩] bR (0,0))→h2[nb]? =some (.cells #[.int .i64 0] wy (0,0))→h2[h.size]? =some (.deferred (some []))→h2[h.size+1]? =some (lo .ready none)→h2[tb]? =some (.cells v bR (0,0))→KK true h2)→HV PG (.func (.yield (h.size+1)) #[] #[]) [.string (aG w)] [.c .bool] KK h':=by
  intro k w h' KK hi hw Q V nb' u j v tb' hkk;refine t (aG w) h' KK j ⟨j,?_⟩;have A:Upd (· =h.size+1) h' (h'.setIfInBounds (h.size+1) (lo .busy none)):=Upd.set _ _ rfl
  have lb:=jx (o:=lo .busy none) j;have zb:=A.size;refine bj ?_;generalize h'.setIfInBounds (h.size+1) (lo .busy none)=h2 at A lb zb;refine step k w h2 _ (d k _ _ hi Q (A.mono fun b B=>.inl (.inr (.inr B)))) (by have:=bB lb;omega) hw fun h3 hi3 i=>?_
  have H:=i.get lb fun e=>(hM _ e).2.2.2.2 rfl
  refine⟨H,?_⟩;have s:Upd (· =h.size+1) h3 (h3.setIfInBounds (h.size+1) (lo .ready none)):=Upd.set _ _ rfl
  have E:=jx (o:=lo .ready none) H;have z3:=i.size;have D:=s.size;have F:sb≠h.size+1:=by omega
  have O:nb≠h.size+1:=by omega
  have n3:tb≠h.size+1:=by omega
  have n4:h.size≠h.size+1:=by omega
  simp only[Option.isNone_none,if_true];generalize h3.setIfInBounds (h.size+1) (lo .ready none)=L at s E D;exact hkk L (d (k+1) _ _ hi3 (by omega) (s.mono fun b B=>.inl (.inr (.inr B)))) (by omega) (s.get (i.get (A.get V F) fun e=>(hM _ e).2.1 rfl) F) (s.get (i.get (A.get nb' O) fun e=>(hM _ e).2.2.1 rfl) O) (s.get (i.get (A.get u n4) fun e=>(hM _ e).2.2.2.1 rfl) n4) E (s.get (i.get (A.get tb' n3) fun e=>(hM _ e).1 rfl) n3)
 refine LoopP.ghost (fun(g:Nat×List UInt8) (_:Unit) h'=>Inv g.1 h'∧(ix 10 a).drop g.1=ix 10 g.2∧g.2.length≤1000000∧h'[tb]? =some (.cells #[.string (aG g.2)] bR (0,0))∧h'[sb]? =some (.cells #[.string ⟨#[10]⟩] bR (0,0))∧h'[nb]? =some (.cells #[.int .i64 0] wy (0,0))∧h'[h.size]? =some (.deferred (some []))∧h'[h.size+1]? =some (lo .ready none)∧h.size≤h'.size) (fun g=>g.2.length) (0,a) ⟨i1,rfl,hx,t1,s1,F,l1,l2,k1.size⟩ ?_
 rintro I ⟨k,r⟩ ⟨⟩ h' ⟨hi,c,hr,f,y,z,u,j,Q⟩ hI;simp only at hi c hr f;refine⟨_,bc f,_,bc y,Kz ?_⟩;rw[show(aG r).data.toList=r from by simp]
 by_cases hm:(10:UInt8)∈r
 ·obtain⟨p,q,rfl,hp,n⟩:=HB 10 r hm
  rw[zO hp]at c;have hk:(ix 10 a)[k]? =some p:=by
   have:=congrArg (fun l=>l[0]?) c
   simpa using this
  rw[n];refine aF (fun J=>absurd J (by omega)) fun _=>⟨_,bc f,0,bc z,?_⟩
  have G:(p++10::q).length=p.length+(q.length+1):=by simp
  have es:(aG (p++10::q)).size=p.length+(q.length+1):=by rw[cu,G]
  have e4:ac .i64 ((p.length:Int)+0)=(p.length:Int):=by rw[kO (by omega)];omega
  have e5:ac .i64 ((p.length:Int)+((⟨#[10]⟩:ByteArray).size:Int))=((p.length+1:Nat):Int):=by rw[show((⟨#[10]⟩:ByteArray).size:Int)=1 from rfl,kO (by omega)];omega
  rw[e4,es,ak,V0];refine⟨⟨by omega,by omega⟩,round k p h' _ hi hk Q y z u j _ f fun L C D Z n5 S E P=>af.2 ⟨_,bc P,_,bc Z,?_⟩⟩
  rw[e5,es,ak];have er:(aG (p++10::q)).extract (p.length+1) (p.length+(q.length+1))=aG q:=by
   have:=VZ (p++ [10]) q (p.length+(q.length+1)) (by simp<;>omega)
   rw[List.append_assoc]at this;simpa using this
  rw[er];refine⟨⟨by omega,by omega⟩,Ft ⟨i5 P (by simp),vS P fun h6 T m=>?_⟩⟩
  have F:sb≠tb:=fun e=>q1 e.symm
  have O:nb≠tb:=fun e=>q2 e.symm
  refine hI (k+1,q) () h6 ⟨d _ _ _ C D (m.mono fun b B=>.inl (.inl B)),?_,by simp only;omega,T,m.get Z F,m.get n5 O,m.get S (show ¬h.size=tb by omega),m.get E (show ¬h.size+1=tb by omega),aU D m.size⟩ (by simp only;omega)
  have:=congrArg List.tail c;rw[List.tail_drop]at this;exact this
 ·rw[wI hm]at c
  have hk:(ix 10 a)[k]? =some r:=by
   have:=congrArg (fun l=>l[0]?) c
   simpa using this
  have hl:(ix 10 a).length=k+1:=by
   have:=congrArg List.length c;simp only[List.length_drop,bO]at this;omega
  have n:Lib.indexByte r 10<0:=by rw[Oc hm];decide
  refine aF (fun _=>⟨_,bc f,round k r h' _ hi hk Q y z u j _ f fun L C D Z n5 S E P=>?_⟩) fun J=>absurd n J
  have s:Upd (· =h.size+1) L (L.setIfInBounds (h.size+1) (lo .exhausted none)):=Upd.set _ _ rfl
  refine⟨.ready,none,by decide,E,?_⟩
  refine U _ ?_ (s.get S (show ¬h.size=h.size+1 by omega))
  rw[hl];exact d (k+1) _ _ C D (s.mono fun b B=>.inl (.inr (.inr B)))
end Go.Proofs
namespace Go.Proofs
open Go Go.Lift
theorem ZW:mI [48]=some 0:=by
 have:mI (dL 0)=some 0:=CI (by omega);rw[oJ (by omega)]at this;exact this
theorem ZV:mI [49]=some 1:=by
 have:mI (dL 1)=some 1:=CI (by omega);rw[oJ (by omega)]at this;exact this
abbrev Hq:List UInt8:= [109,97,105,110]
theorem Hp:ft (aG Hq)=true:=by decide+kernel
theorem RH:i7 [54,49]=some [97]:=by decide+kernel
theorem Xc:i7 [51,49]=some [49]:=by decide+kernel
abbrev Kr:List UInt8:= [99,114,101,97,116,101,32,109,97,105,110,32,48]
abbrev Kp:List UInt8:= [112,117,116,32,109,97,105,110,32,54,49,32,51,49]
abbrev Kq:List UInt8:= [103,101,116,32,49,32,54,49]
abbrev N3:List UInt8:= [111,112,101,110,32,114,97,100,105,120,32,48,32,48,32,48]
theorem TP:ix 32 N3= [[111,112,101,110],[114,97,100,105,120],[48],[48],[48]]:=by decide+kernel
theorem TR:ix 32 Kr= [[99,114,101,97,116,101],Hq,[48]]:=by decide+kernel
theorem TO:ix 32 Kp= [[112,117,116],Hq,[54,49],[51,49]]:=by decide+kernel
theorem TQ:ix 32 Kq= [[103,101,116],[49],[54,49]]:=by decide+kernel
theorem Oz:ix 10 (N3++10::(Kr++10::(Kp++10::Kq)))= [N3,Kr,Kp,Kq]:=by decide+kernel
theorem P2:([98,105]:List UInt8).foldl (fun x p=>RL p x) (([Hq,[48]],true),rT 0)=(([],true),aay (aaz (rT 0) (aG Hq)) 0):=by
 simp[RL,gT,eI,cd,ZW,Hp,qL]
theorem PZ:([98,107,118]:List UInt8).foldl (fun x p=>RL p x) (([Hq,[54,49],[51,49]],true),rT 4)=(([],true),aaX (aax (aaz (rT 4) (aG Hq)) (aG [97])) (aG [49])):=by
 simp[RL,gT,bw,cd,RH,Xc,Hp]
theorem P0:([105,107]:List UInt8).foldl (fun x p=>RL p x) (([[49],[54,49]],true),rT 10)=(([],true),aax (aay (rT 10) 1) (aG [97])):=by
 simp[RL,bw,eI,cd,RH,ZV,qL]
theorem QK{k:Nat}{kd:Int}{w d:List UInt8}(b:formsL[k]? =some (kd,w,d)):∀j f,j<k→formsL[j]? =some f→f.2.1≠w:=by
 have key:∀i j:Fin 26,j.val<i.val→(formsL.getD j.val (0,[],[])).2.1≠(formsL.getD i.val (0,[],[])).2.1:=by decide+kernel
 intro j f e a;have c:k<26:=(List.getElem?_eq_some_iff.1 b).1;have:=key ⟨k,c⟩ ⟨j,by omega⟩ e
 rw[fh,fh,b,a]at this;exact this
end Go.Proofs
namespace Go.Proofs
open Go Go.Lift
theorem Zd{W:Nat→Prop}{h:ad}{g sp i:Nat}{sm d:Option Addr}{last:Int}{s:VS}(v:VaultAt W h g s)(b:h[sp]? =some (.cells (PN g (sm.map (·.block)) last d).toArray dB (0,0))) (e1:s.B= []) (e2:s.L= []) (hM:∀y,s.M y→y<h.size) (l:Laid h) (u:4≤h.size)
  (hd:h[i]? =some (.cells #[.pointer (some ⟨sp,0,none⟩)] il (0,0))) {K:ByteArray→ad→Prop}
  (m:∀f a h',Upd No h f→Upd s.M f a→VaultAt W a g {s with B:= [(rU,0)]}→Upd No a h'→K ⟨#[111,107]⟩ h'):
  HC PG iv [.pointer (some ⟨i,0,none⟩),.string (aG Kr)] [.c .str] K h:=by
 refine H2 (by decide) TR (by decide) (by decide) (fun x hx=>by
   rcases ar.1 hx with rfl|hx
   ·decide
   rcases ar.1 hx with rfl|hx
   ·decide
   cases hx) (k:=0) rfl (QK rfl) (fun p c=>by
   rcases ar.1 c with rfl|c
   ·exact .inl rfl
   rcases ar.1 c with rfl|c
   ·exact .inr (.inr (.inr (.inr (.inl rfl))))
   cases c) P2 l u hd fun f ob k1 z w n=>?_
 refine Ou (v.upd0 k1) (k1.get0 b) rfl fun a j q=>?_
 rw[e1,e2]at*;refine⟨vc (j.get n fun e=>by have:=hM _ e;omega) 0,UO rfl fun t o=>m f a t k1 j q o⟩
end Go.Proofs
namespace Go.Proofs
open Go Go.Lift
theorem Zb{W:Nat→Prop}{h:ad}{o sp s:Nat}{sm:Option Nat}{f:Option Addr}{last:Int}{gp gm tm bm nm:Nat}{kd:Int}{t:Tr}(v:VaultAt W h o ⟨gp,gm,tm,bm,nm,kd,⟨0,0,0⟩,t,[],1,[],[(rU,0)],[]⟩)(b:h[sp]? =some (.cells (PN o sm last f).toArray dB (0,0))) (i:¬VS.M ⟨gp,gm,tm,bm,nm,kd,⟨0,0,0⟩,t,[],1,[],[(rU,0)],[]⟩ sp)
  (hM:∀y,VS.M ⟨gp,gm,tm,bm,nm,kd,⟨0,0,0⟩,t,[],1,[],[(rU,0)],[]⟩ y→y<h.size) (l:Laid h) (F:4≤h.size)
  (hd:h[s]? =some (.cells #[.pointer (some ⟨sp,0,none⟩)] il (0,0))) {K:ByteArray→ad→Prop}
  (u:∀a,Upd (VS.M ⟨gp,gm,tm,bm,nm,kd,⟨0,0,0⟩,t,[],1,[],[(rU,0)],[]⟩) h a→Laid a)
  (D:∀g a h' j,Upd No h g→Upd (VS.M ⟨gp,gm,tm,bm,nm,kd,⟨0,0,0⟩,t,[],1,[],[(rU,0)],[]⟩) g a→VaultAt W a o ⟨gp,gm,tm,bm,nm,kd,⟨0,0,0⟩,t,[(1,[])],2,[(1,(j,[(⟨#[97]⟩,⟨#[49]⟩)]))],[(rU,1)],[]⟩→Upd No a h'→K (((⟨#[118,101,114,115,105,111,110,32]⟩:ByteArray)++aG (dL 1))++(⟨#[]⟩:ByteArray)) h'):
  HC PG iv [.pointer (some ⟨s,0,none⟩),.string (aG Kp)] [.c .str] K h:=by
 refine H2 (by decide) TO (by decide) (by decide) (fun x hx=>by
  rcases ar.1 hx with rfl|hx
  ·decide
  rcases ar.1 hx with rfl|hx
  ·decide
  rcases ar.1 hx with rfl|hx
  ·decide
  cases hx) (k:=4) rfl (QK rfl) (fun p c=>by
  rcases ar.1 c with rfl|c
  ·exact .inl rfl
  rcases ar.1 c with rfl|c
  ·exact .inr (.inr (.inl rfl))
  rcases ar.1 c with rfl|c
  ·exact .inr (.inr (.inr (.inl rfl)))
  cases c) PZ l F hd fun g ob k1 H G E=>?_
 refine V7 (v.upd0 k1) (k1.get0 b) i rfl (hd:=0) rfl (.inl rfl) (N:=0) (by omega) (fun B d=>?_) (by decide) (by decide) (id:=1) (show(mr [] 1 (nz [0])).1=(1,0) by decide) fun a B j d m q=>?_
 ·rcases d with⟨_,rfl⟩|⟨d,_⟩
  ·exact⟨j9,av _,fun _ h=>by cases h⟩
  ·exact absurd rfl d
 have A:B.2= []:=by
  rcases d with⟨_,rfl⟩|⟨d,_⟩
  ·rfl
  ·exact absurd rfl d
 rw[A]at q;have z:Laid a:=u a (k1.wide.tr m);exact⟨vc (m.get E fun e=>by have:=hM _ e;omega) 0,UN (n:=1) rfl (by omega) rfl z fun C w=>D g a C j k1 m q w⟩
theorem Zc{W:Nat→Prop}{h:ad}{i sp f:Nat}{sm:Option Nat}{e:Option Addr}{last:Int}{gp gm tm bm nm:Nat}{kd:Int}{t g:Tr}(v:VaultAt W h i ⟨gp,gm,tm,bm,nm,kd,⟨0,0,0⟩,t,[(1,[])],2,[(1,(g,[(⟨#[97]⟩,⟨#[49]⟩)]))],[(rU,1)],[]⟩)(b:h[sp]? =some (.cells (PN i sm last e).toArray dB (0,0))) (l:Laid h) (s:4≤h.size)
  (hd:h[f]? =some (.cells #[.pointer (some ⟨sp,0,none⟩)] il (0,0))) {K:ByteArray→ad→Prop}
  (m:∀h',Upd No h h'→K (((⟨#[105,115,32]⟩:ByteArray)++aG (lU [49]))++(⟨#[]⟩:ByteArray)) h'):
  HC PG iv [.pointer (some ⟨f,0,none⟩),.string (aG Kq)] [.c .str] K h:=by
 refine H2 (by decide) TQ (by decide) (by decide) (fun x hx=>by
  rcases ar.1 hx with rfl|hx
  ·decide
  rcases ar.1 hx with rfl|hx
  ·decide
  cases hx) (k:=10) rfl (QK rfl) (fun p c=>by
  rcases ar.1 c with rfl|c
  ·exact .inr (.inr (.inr (.inr (.inl rfl))))
  rcases ar.1 c with rfl|c
  ·exact .inr (.inr (.inl rfl))
  cases c) P0 l s hd fun w ob k1 z y o=>?_
 have d:∀B,BaseOf ⟨gp,gm,tm,bm,nm,kd,⟨0,0,0⟩,t,[(1,[])],2,[(1,(g,[(⟨#[97]⟩,⟨#[49]⟩)]))],[(rU,1)],[]⟩ 1 B→B.2= [(⟨#[97]⟩,⟨#[49]⟩)]:=fun B a=>by
  rcases a with⟨a,_⟩|⟨_,a⟩
  ·cases a
  ·cases a;rfl
 refine V8 (v.upd0 k1) (k1.get0 b) rfl (.inr (show(1:Int)∈ids [(1,[])] by decide)) (fun B a=>?_) fun u B a j=>?_
 ·rw[d B a];exact⟨List.pairwise_singleton _ _,by simp⟩
 rw[d B a];exact⟨vc (j.get0 o) 0,SN (v:=⟨#[49]⟩) rfl rfl rfl (by decide) fun q n=>m q ((k1.tr j).tr n)⟩
end Go.Proofs
namespace Go.Proofs
open Go Go.Lift
theorem OA(x:ByteArray)(n:Nat):(x.extract 0 n).size≤n:=by rw[p7];omega
theorem mX{x:ByteArray}{h:ad}{K:ByteArray→ad→Prop}(a:∀y:ByteArray,y.size≤30→K y h):HC PG jp [.string x] [.c .str] K h:=by
 refine Rg x ?_;unfold IE;refine⟨⟨by split<;>omega,by split<;>omega⟩,Ft (a _ (aU (OA _ _) ?_))⟩
 split<;>omega
end Go.Proofs
namespace Go.Proofs
open Go Go.Lift
theorem Yi{h:ad}{b:Nat}{c c':Array Value}{t:TypeId}{v:Value}{k:ad→Prop}(d:h[b]? =some (.cells c t (0,0))) (hi:0<c.size) (e:c.setIfInBounds 0 v=c') (f:∀h',h'[b]? =some (.cells c' t (0,0))→Upd (· =b) h h'→k h'):Wr h ⟨b,0,none⟩∧At (hset h ⟨b,0,none⟩ v) k:=
 ⟨i5 d hi,vS d fun h' a g=>f h' (e▸a) g⟩
abbrev U3(x:ByteArray):List Value:= [.string x]
theorem U2(x:ByteArray):(U3 x).length=1∧0<1:=⟨rfl,Nat.one_pos⟩
def Ln(Z:Nat):Sp:=⟨(· <Z),fun _=>True,fun _ _ _=>trivial⟩
abbrev ans4:List ByteArray:= [⟨#[111,107]⟩,⟨#[111,107]⟩,⟨#[118,101,114,115,105,111,110,32,49]⟩,⟨#[105,115,32,51,49]⟩]
structure RunI(h0:ad)(db dv ov Z:Nat)(xs:List ByteArray)(h:ad)(sp vp:Nat)(s:VS)(sm:Option Nat)(pool:Option Addr)(so:SliceV):Prop where
 v:Vw [Ln Z,Bz U3 1 bR so xs] h vp s
 b:h[sp]? =some (.cells (PN vp sm 0 pool).toArray dB (0,0))
 d:h[db]? =some (.cells #[.pointer (some ⟨sp,0,none⟩)] il (0,0))
 dv:h[dv]? =some (.cells #[.pointer (some ⟨db,0,none⟩)] vF (0,0))
 o:h[ov]? =some (.cells #[.slice so.a so.len so.cap] Lf (0,0))
 zs:Z≤sp
 sM:¬s.M sp
 nso:¬Go.Proofs.sb so sp
 zM:∀y,s.M y→Z≤y
 zo:∀y,Go.Proofs.sb so y→Z≤y
 k:Upd No h0 h
section
variable {h0 h h':ad} {db dv ov Z:Nat} {xs:List ByteArray} {sp vp:Nat} {s s':VS} {sm:Option Nat} {pool:Option Addr} {so:SliceV} {M:Nat→Prop}
theorem RunI.low(r:RunI h0 db dv ov Z xs h sp vp s sm pool so)(k:Upd M h h')(hM:∀y,M y→y<Z∧y≠db∧y≠dv∧y≠ov∧h0.size≤y):RunI h0 db dv ov Z xs h' sp vp s sm pool so:=
 ⟨r.v.set (i:=0) (p':=Ln Z) rfl k (fun y a=>.inl (hM y a).1) trivial fun y a=>⟨.inl a,aQ (r.v.own.lt (Ln Z) (aP ..) y a) k.size⟩,
  k.get r.b fun e=>by have:=(hM _ e).1;have:=r.zs;omega,k.get r.d fun e=>(hM _ e).2.1 rfl,k.get r.dv fun e=>(hM _ e).2.2.1 rfl,k.get r.o fun e=>(hM _ e).2.2.2.1 rfl,r.zs,r.sM,r.nso,r.zM,r.zo,r.k.trans k fun y a=>.inr (hM y a).2.2.2.2⟩
theorem RunI.up0(r:RunI h0 db dv ov Z xs h sp vp s sm pool so)(k:Upd No h h'):RunI h0 db dv ov Z xs h' sp vp s sm pool so:=r.low k fun _ h=>h.elim
theorem RunI.ed(r:RunI h0 db dv ov Z xs h sp vp s sm pool so)(b:h0.size≤Z)(hd:db<Z)(c:dv<Z)(d:ov<Z)(k:Upd s.M h h')(v:VaultAt (fun y=>s.M y∨AL [Ln Z,Bz U3 1 bR so xs] y) h' vp s')(e:s'.M=s.M):RunI h0 db dv ov Z xs h' sp vp s' sm pool so:=
 ⟨r.v.ed k v e,k.get r.b r.sM,k.get r.d fun e=>by have:=r.zM _ e;omega,k.get r.dv fun e=>by have:=r.zM _ e;omega,k.get r.o fun e=>by have:=r.zM _ e;omega,r.zs,by rw[e];exact r.sM,r.nso,fun y a=>r.zM y (by rw[←e];exact a),r.zo,r.k.trans k fun y a=>.inr (aU b (r.zM y a))⟩
theorem RunI.say(r:RunI h0 db dv ov Z xs h sp vp s sm pool so)(G:h0.size≤Z)(hd:db<Z)(H:dv<Z)(E:ov<Z)(L:ov≠db)(K:ov≠dv)(N:h0.size≤ov)(J:xs.length+1≤1000000){x:ByteArray}{k:ad→Prop}
  (I:∀h' s',RunI h0 db dv ov Z (xs++ [x]) h' sp vp s sm pool s'→Upd (fun y=>y=ov∨Z≤y) h h'→k h'):
  aD h ⟨ov,0,none⟩=some (.slice so.a so.len so.cap)∧At (hnew h [.string x] bR) (fun j=>(aD j ⟨ov,0,none⟩=some (.slice so.a so.len so.cap)∧∃xs21,SRow j (some (aH h)) (1*1) xs21∧
   AppP (some [.string (⟨#[]⟩:ByteArray)]) 1 16 bR so.a so.len so.cap 1 xs21 j (fun n m=>(Wr m ⟨ov,0,none⟩∧At (hset m ⟨ov,0,none⟩ (.slice n.a n.len n.cap)) k)))):=by
 refine⟨bc r.o,nP fun j q g=>?_⟩
 have d:=r.up0 g;have F:=g.size;have D:∀y,y<Z→y<h.size:=fun y a=>r.v.own.lt (Ln Z) (aP ..) y a
 refine⟨bc d.o,Zm (f:=U3) (t:=x) (b:=h.size) (d.v.own.get (i:=1) rfl) q rfl rfl ⟨by decide,by decide⟩ J fun s' m os u z=>?_⟩
 have C:=d.v.slice (i:=1) rfl u os z;have v:∀y,sb s' y→Z≤y:=fun y a=>(z y a).1.elim (r.zo y) fun e=>by
  rcases Nat.lt_or_ge y Z with h|h
  ·have:=D y h;omega
  ·exact h
 have w:=u.get d.b r.nso;have low:∀{y:Nat},y<Z→¬sb so y:=fun a e=>by have:=r.zo _ e;omega
 have o:=u.get d.o (low E);refine Yi (c':= #[.slice s'.a s'.len s'.cap]) o (by simp) rfl fun A B c=>I A s' ⟨C.set (i:=0) (p:=Ln Z) (p':=Ln Z) rfl c (fun y a=>.inl (by have a:y=ov:=a;show y<Z;omega)) trivial fun y a=>⟨.inl a,?_⟩,c.get w (show ¬sp=ov by have:=r.zs;omega),c.get (u.get d.d (low hd)) (show ¬db=ov by omega),c.get (u.get d.dv (low H)) (show ¬dv=ov by omega),B,r.zs,r.sM,?_,r.zM,v,?_⟩ ?_
 ·have:=D y a
  have:=u.size;have:=c.size;omega
 ·intro e
  rcases(z sp e).1 with e|e
  ·exact r.nso e
  ·have:=bB r.b;omega
 ·exact((r.k.tr g).trans u fun y a=>.inr (aU G (r.zo y a))).trans c fun y a=>.inr (by have a:y=ov:=a;omega)
 ·exact(g.wide.trans u fun y a=>.inl (.inr (r.zo y a))).trans c fun y a=>.inl (.inl a)
end
def Inv24(c:ad)(a dv b Z:Nat)(n:Nat)(h:ad):Prop:=
 (n=0∧h[a]? =some (.cells #[.pointer none] il (0,0))∧h[dv]? =some (.cells #[.pointer (some ⟨a,0,none⟩)] vF (0,0))∧h[b]? =some (.cells #[.slice none 0 0] Lf (0,0))∧Upd No c h)∨
  ∃sp vp gp gm tm bm nm t sm pool so,∃t':Tr,(n=1∧RunI c a dv b Z (ans4.take 1) h sp vp ⟨gp,gm,tm,bm,nm,1,⟨0,0,0⟩,t,[],1,[],[],[]⟩ sm pool so)∨
   (n=2∧RunI c a dv b Z (ans4.take 2) h sp vp ⟨gp,gm,tm,bm,nm,1,⟨0,0,0⟩,t,[],1,[],[(rU,0)],[]⟩ sm pool so)∨
   (n=3∧RunI c a dv b Z (ans4.take 3) h sp vp ⟨gp,gm,tm,bm,nm,1,⟨0,0,0⟩,t,[(1,[])],2,[(1,(t',[(⟨#[97]⟩,⟨#[49]⟩)]))],[(rU,1)],[]⟩ sm pool so)∨
   (n=4∧RunI c a dv b Z (ans4.take 4) h sp vp ⟨gp,gm,tm,bm,nm,1,⟨0,0,0⟩,t,[(1,[])],2,[(1,(t',[(⟨#[97]⟩,⟨#[49]⟩)]))],[(rU,1)],[]⟩ sm pool so)
theorem Inv24.low{j h h':ad}{g dv m Z n:Nat}{M:Nat→Prop}(i:Inv24 j g dv m Z n h)(k:Upd M h h')(hM:∀y,M y→y<Z∧y≠g∧y≠dv∧y≠m∧j.size≤y):Inv24 j g dv m Z n h':=by
 rcases i with⟨e,a,b,c,d⟩|⟨sp,p,gp,gm,tm,bm,nm,t,sm,f,s,o,i⟩
 ·exact .inl ⟨e,k.get a fun e=>(hM _ e).2.1 rfl,k.get b fun e=>(hM _ e).2.2.1 rfl,k.get c fun e=>(hM _ e).2.2.2.1 rfl,d.trans k fun y q=>.inr (hM y q).2.2.2.2⟩
 ·exact .inr ⟨sp,p,gp,gm,tm,bm,nm,t,sm,f,s,o,i.imp (fun e=>⟨e.1,e.2.low k hM⟩) fun i=>i.imp (fun e=>⟨e.1,e.2.low k hM⟩) fun i=>i.imp (fun e=>⟨e.1,e.2.low k hM⟩) fun e=>⟨e.1,e.2.low k hM⟩⟩
theorem aaK:(((⟨#[118,101,114,115,105,111,110,32]⟩:ByteArray)++aG (dL 1))++(⟨#[]⟩:ByteArray))=⟨#[118,101,114,115,105,111,110,32,49]⟩:=by
 rw[oJ (by omega)];decide+kernel
theorem abu:(((⟨#[105,115,32]⟩:ByteArray)++aG (lU [49]))++(⟨#[]⟩:ByteArray))=⟨#[105,115,32,51,49]⟩:=by decide+kernel
theorem Xq{D h:ad}{x dv v Z n:Nat}{w:List UInt8}(i:Inv24 D x dv v Z n h)(zh:Z≤h.size)(T:Laid D)(h04:4≤D.size)(J:D.size≤Z)(hd:x<Z)(K:dv<Z)(I:v<Z)(z:v≠x)(C:v≠dv)(B:D.size≤v)(ne4:D.size≤x)(R: [N3,Kr,Kp,Kq][n]? =some w) {k:ad→Prop}
  (U:∀h',Inv24 D x dv v Z (n+1) h'→Upd (fun y=>y=x∨y=v∨Z≤y) h h'→k h'):
  ∃v16:SliceV,aD h ⟨v,0,none⟩=some (.slice v16.a v16.len v16.cap)∧∃v17:Option Addr,aD h ⟨dv,0,none⟩=some (.pointer v17)∧
   HC PG iv [.pointer v17,.string (aG w)] [.c .str] (fun(V:ByteArray) E=>(aD E ⟨v,0,none⟩=some (.slice v16.a v16.len v16.cap)∧At (hnew E [.string V] bR) (fun F=>(aD F ⟨v,0,none⟩=some (.slice v16.a v16.len v16.cap)∧∃xs21,SRow F (some (aH E)) (1*1) xs21∧
    AppP (some [.string (⟨#[]⟩:ByteArray)]) 1 16 bR v16.a v16.len v16.cap 1 xs21 F (fun G P=>(Wr P ⟨v,0,none⟩∧At (hset P ⟨v,0,none⟩ (.slice G.a G.len G.cap)) k)))))) h:=by
 rcases i with⟨rfl,a,b,c,d⟩|⟨sp,L,gp,gm,tm,bm,nm,t,sm,A,W,t',i⟩
 ·cases R
  refine⟨eH,bc c,_,bc b,TM (W0:=(· <Z)) (by decide) TP (fun y f=>aQ f zh) a (T.upd0 d) (by omega) fun h2 h' sp L gp gm tm bm nm t sm pb cb va bs hM q N b6 H=>?_⟩
  have zM:∀y,VS.M ⟨gp,gm,tm,bm,nm,1,⟨0,0,0⟩,t,[],1,[],[],[]⟩ y→Z≤y:=fun y f=>aU zh (hM y f).1
  have zsp:Z≤sp:=by have:=(hM gp (.inl rfl));omega
  have z2:=N.size;have z6:=H.size;have r:RunI D x dv v Z [] h' sp L ⟨gp,gm,tm,bm,nm,1,⟨0,0,0⟩,t,[],1,[],[],[]⟩ (some sm) (some ⟨pb,0,none⟩) eH:=by
   have al:∀y,AL [Ln Z,Bz U3 1 bR eH []] y→y<Z:=fun y ⟨a,s,f⟩=>by
    rcases ar.1 s with rfl|s
    ·exact f
    ·rw[aO.1 s]at f
     exact absurd f (Lj y)
   refine⟨⟨⟨fun a s=>?_,fun a s y f=>?_,fun p j a b s hb Y y f hy'=>?_⟩,va.re H (fun y f=>.inl ⟨.inl (by have f:y=x:=f;show y<Z;omega),fun e=>by have:=zM y e;have f:y=x:=f;omega⟩) (fun y f=>?_) fun y f=>.inl f,fun y f e=>?_⟩,H.get bs (show ¬sp=x by omega),b6,H.get (N.get0 b) (show ¬dv=x from ?_),H.get (N.get0 c) z,zsp,fun e=>?_,Lj sp,zM,fun y f=>absurd f (Lj y),?_⟩
   ·rcases ar.1 s with rfl|s
    ·exact trivial
    ·rw[aO.1 s];exact OwnS.nil U2
   ·have:=al y ⟨a,s,f⟩;omega
   ·have e:∀{j:Nat} {a:Sp},[Ln Z,Bz U3 1 bR eH []][j]? =some a→a.T y→j=0:=fun{j a} s f=>by
     rcases j with _|_|j
     ·rfl
     ·cases s;exact absurd f (Lj y)
     ·cases s
    exact Y ((e s f).trans (e hb hy').symm)
   ·rcases f with f|f
    ·exact⟨.inl (.inr f),by have:=va.g.lt y (.inr f);omega⟩
    ·have:=al y f
     exact⟨.inl (.inl this),by omega⟩
   ·have:=zM y e;have:=al y f;omega
   ·intro e;subst e
    rw[a]at b;cases b
   ·have:=(hM sp e).2;omega
   ·exact(d.tr N).trans H fun y f=>.inr (by have f:y=x:=f;omega)
  refine r.say J hd K I z C B (by decide) fun o s' m g=>U o (.inr ⟨sp,L,gp,gm,tm,bm,nm,t,some sm,some ⟨pb,0,none⟩,s',D4,.inl ⟨rfl,m⟩⟩) ?_
  ·exact((N.wide.tr (H.mono fun y f=>.inl (.inl f)))).trans g fun y f=>.inl (.inr f)
 ·rcases i with⟨rfl,r⟩|⟨rfl,r⟩|⟨rfl,r⟩|⟨rfl,r⟩
  ·cases R
   have l:=T.upd0 r.k;refine⟨W,bc r.o,_,bc r.dv,Zd (sm:=sm.map fun b=>⟨b,0,none⟩) r.v.v (by cases sm<;>exact r.b) rfl rfl (fun y f=>r.v.lt y (.inl f)) l (by have:=r.k.size;omega) r.d fun h1' X h' k1 S v2 O=>?_⟩
   have Q:=((r.up0 k1).ed J hd K I S v2 rfl).up0 O;refine Q.say J hd K I z C B (by decide) fun o s' m g=>U o (.inr ⟨sp,L,gp,gm,tm,bm,nm,t,sm,A,s',D4,.inr (.inl ⟨rfl,m⟩)⟩) ?_
   ·exact(((k1.wide.tr (S.mono fun y f=>.inl (.inr (.inr (r.zM y f))))).tr O.wide)).trans g fun y f=>.inl (.inr f)
  ·cases R
   have l:=T.upd0 r.k;refine⟨W,bc r.o,_,bc r.dv,Zb r.v.v r.b r.sM (fun y f=>r.v.lt y (.inl f)) l (by have:=r.k.size;omega) r.d (fun h2 u=>l.upd u fun y f=>by have:=r.zM y f;omega) fun h1' X h' t' k1 S v2 O=>?_⟩
   have Q:=((r.up0 k1).ed J hd K I S v2 rfl).up0 O;rw[aaK];refine Q.say J hd K I z C B (by decide) fun o s' m g=>U o (.inr ⟨sp,L,gp,gm,tm,bm,nm,t,sm,A,s',t',.inr (.inr (.inl ⟨rfl,m⟩))⟩) ?_
   ·exact(((k1.wide.tr (S.mono fun y f=>.inl (.inr (.inr (r.zM y f))))).tr O.wide)).trans g fun y f=>.inl (.inr f)
  ·cases R
   have l:=T.upd0 r.k;refine⟨W,bc r.o,_,bc r.dv,Zc r.v.v r.b l (by have:=r.k.size;omega) r.d fun h' k1=>?_⟩
   have Q:=r.up0 k1;rw[abu];refine Q.say J hd K I z C B (by decide) fun o s' m g=>U o (.inr ⟨sp,L,gp,gm,tm,bm,nm,t,sm,A,s',t',.inr (.inr (.inr ⟨rfl,m⟩))⟩) ?_
   ·exact k1.wide.trans g fun y f=>.inl (.inr f)
  ·cases R
theorem Sz{W:Nat→Prop}{h:ad}{s:SliceV}{xs:List ByteArray}(c:Sl U3 1 W h s xs){i:Nat}(hi:i<xs.length):∃a,s.a=some a∧aD h (adr a (i*1))=some (.string xs[i]):=by
 obtain⟨a,d,_,b⟩:=c.at0 (g:=fun w=>Value.string w) (ah hi)
 exact⟨a,d,b⟩
theorem V1{W W':Nat→Prop}{h:ad}{s s':SliceV}{xs:List ByteArray}(g:Sl U3 1 W h s xs)(f:Sl U3 1 W' h s' xs)(q:xs.length≤4611686018427387904){K:Bool→ad→Prop}(k:K true h):HC PG kc [.slice s.a s.len s.cap,.slice s'.a s'.len s'.cap] [.c .bool] K h:=by
 refine vW s s' ?_;unfold oy bi cU;have p:=g.len;have n:=f.len;refine CondP.intro (fun e=>absurd e (by rw[p,n];simp)) fun _=>?_
 refine LoopP.ghost (fun(i:Nat) (t:Int) h'=>t=(i:Int)∧h'=h∧i≤xs.length) (fun i=>xs.length-i) 0 ⟨rfl,rfl,aV _⟩ ?_
 rintro I i t h' ⟨rfl,rfl,hi⟩ o;refine aF (fun b=>?_) fun _=>k
 have b:i<xs.length:=by omega
 obtain⟨a,m,j⟩:=Sz g b;obtain⟨a',d,c⟩:=Sz f b;refine⟨⟨by omega,by omega⟩,a,m,_,j,⟨by omega,by omega⟩,a',d,_,c,?_⟩
 rw[di,decide_eq_true rfl,cM b q];exact af.2 (o (i+1) _ _ ⟨rfl,rfl,b⟩ (by omega))
theorem QX{h:ad}{K:Bool→ad→Prop}(l:Laid h)(O:4≤h.size)(hk:∀h',Upd No h h'→K true h'):HC PG zE [] [.c .bool] K h:=by
 refine O4 ?_;unfold FL vl1;have run:∀{K:SliceV→ad→Prop},(∀h' s,OwnS U3 1 bR (sb s) h' s ans4→Upd No h h'→K s h')→HC PG BQ [.string (aG (N3++10::(Kr++10::(Kp++10::Kq))))] [.c .slice] K h:=by
  intro K V;refine Ri _ ?_;unfold IH eu nZ;refine Rj ?_;unfold II;refine nP fun g b1 k1=>nP fun h3 b3 z=>?_
  refine Yi (c':= #[.pointer (some ⟨h.size,0,none⟩)]) b3 (by simp) rfl fun a X A=>nP fun h5 E J=>?_
  refine Gb _ _ ?_;unfold yx YI;refine F9 _ _ _ ?_;unfold yr;refine nP fun h6 D p=>nP fun h7 L m=>nP fun d F j=>?_
  have z1:=bB b1;have z3:=bB b3;have z5:=bB E;have z6:=bB D;have z7:=bB L;have z8:=bB F;have Q:=k1.size;have y3:=z.size;have y4:=A.size;have y5:=J.size;have y6:=p.size;have y7:=m.size;have y8:=j.size;have x:Upd No h a:=(k1.tr z).own A Q;have f:=((J.tr p).tr m).tr j;have q:=x.tr f;have d8:=f.get0 (A.get (z.get0 b1) (show ¬h.size=g.size by omega))
  have T:=f.get0 X;have o8:=((p.tr m).tr j).get0 E;have R:=(m.tr j).get0 D;have Z:=j.get0 L;have low:∀b,(b=h5.size∨b=d.size∨b=d.size+1)→b<d.size+2∧b≠h.size∧b≠g.size∧b≠a.size∧h.size≤b:=fun b G=>by
   rcases G with rfl|rfl|rfl<;>omega
  refine P4 rfl Z R F (by omega) (by omega) (by decide) (Inv24 h h.size g.size a.size (d.size+2)) (fun b=>b=h.size∨b=a.size∨d.size+2≤b) (.inl ⟨rfl,d8,T,o8,q⟩) (fun n c P i _ u=>i.low u low) (fun b G=>by omega) (fun n w c KK i S H B=>?_) fun c i U=>?_
  ·rw[Oz]at H
   exact Xq i S l O (by omega) (by omega) (by omega) (by omega) (by omega) (by omega) (by omega) (by omega) H B
  ·rw[Oz]at i
   rcases i with⟨e,_⟩|⟨sp,vp,gp,gm,tm,bm,nm,t,sm,I,k,t',⟨e,_⟩|⟨e,_⟩|⟨e,_⟩|⟨_,r⟩⟩
   ·cases e
   ·cases e
   ·cases e
   ·cases e
   have u:=Upd.set (M:=(· =d.size)) c (b:=d.size) (.deferred none) rfl
   have zo:∀y,sb k y→¬y=d.size:=fun y o=>by have:=r.zo y o;omega
   refine⟨k,bc r.o,U,bj (V _ k ((r.v.own.get (i:=1) rfl:OwnS U3 1 bR (sb k) c k ans4).upd u zo) (r.k.trans u fun y o=>.inr (by have o:y=d.size:=o;omega)))⟩
 refine run fun g s os k1=>nP fun N b2 C=>?_
 refine V1 (W:=No) (W':=No) (s':=⟨some ⟨g.size,0,none⟩,4,4⟩) (xs:=ans4) ((os.upd C fun _ _ h=>h).sl fun _ _ _ h=>h) ?_ (by decide) (hk N (k1.tr C))
 exact⟨rfl,U2,fun _=>⟨⟨g.size,0,none⟩,rfl,fun h=>h,py b2 fun i v Y=>by rw[Nat.zero_add,List.getElem?_toArray];exact Y⟩⟩
end Go.Proofs
namespace Go.Proofs
open Go Go.Lift Go.RowKit
theorem Qd{W W':Nat→Prop}{h:ad}{s s':SliceV}{l:List Pr}(j:Sl iZ 2 W h s l)(g:Sl iZ 2 W' h s' l)(q:l.length≤1000000){K:Bool→ad→Prop}(k:K true h):HC PG BN [.slice s.a s.len s.cap,.slice s'.a s'.len s'.cap] [.c .bool] K h:=by
 refine Re s s' ?_;unfold IB cU bL;have p:=j.len;have n:=g.len;refine CondP.intro (fun e=>absurd e (by rw[p,n];simp)) fun _=>?_
 refine LoopP.ghost (fun(i:Nat) (t:Int) h'=>t=(i:Int)∧h'=h∧i≤l.length) (fun i=>l.length-i) 0 ⟨rfl,rfl,aV _⟩ ?_
 rintro I i t h' ⟨rfl,rfl,hi⟩ o;refine aF (fun b=>?_) fun _=>k
 have b:i<l.length:=by omega
 obtain⟨a,m,_,f⟩:=j.at (ah b);obtain⟨a',d,_,c⟩:=g.at (ah b);refine⟨⟨by omega,by omega⟩,a,m,_,f 0 _ rfl,_,f 1 _ rfl,⟨by omega,by omega⟩,a',d,_,c 0 _ rfl,_,c 1 _ rfl,?_⟩
 rw[di,di,decide_eq_true rfl,decide_eq_true rfl];rw[cM b (by omega)];exact af.2 (o (i+1) _ _ ⟨rfl,rfl,b⟩ (by omega))
theorem Qc{W W':Nat→Prop}{h:ad}{s s':SliceV}{l:List Ch}(j:Sl oX 5 W h s l)(g:Sl oX 5 W' h s' l)(q:l.length≤1000000){K:Bool→ad→Prop}(k:K true h):HC PG BM [.slice s.a s.len s.cap,.slice s'.a s'.len s'.cap] [.c .bool] K h:=by
 refine Rd s s' ?_;unfold IA cU bL cI;have p:=j.len;have n:=g.len;refine CondP.intro (fun e=>absurd e (by rw[p,n];simp)) fun _=>?_
 refine LoopP.ghost (fun(i:Nat) (t:Int) h'=>t=(i:Int)∧h'=h∧i≤l.length) (fun i=>l.length-i) 0 ⟨rfl,rfl,aV _⟩ ?_
 rintro I i t h' ⟨rfl,rfl,hi⟩ o;refine aF (fun c=>?_) fun _=>k
 have c:i<l.length:=by omega
 obtain⟨a,m,_,d⟩:=j.at (ah c);obtain⟨a',f,_,b⟩:=g.at (ah c);refine⟨⟨by omega,by omega⟩,a,m,_,d 0 _ rfl,_,d 1 _ rfl,_,d 2 _ rfl,_,d 3 _ rfl,_,d 4 _ rfl,⟨by omega,by omega⟩,a',f,_,b 0 _ rfl,_,b 1 _ rfl,_,b 2 _ rfl,_,b 3 _ rfl,_,b 4 _ rfl,?_⟩
 rw[di,di,di,decide_eq_true rfl,decide_eq_true rfl,decide_eq_true rfl,beq_self_eq_true,beq_self_eq_true];rw[cM c (by omega)];exact af.2 (o (i+1) _ _ ⟨rfl,rfl,c⟩ (by omega))
theorem ZZ(n:Int):(n !=n)=false:=by simp
theorem Y0(x:ByteArray):(!(x.toList==x.toList))=false:=by rw[di,decide_eq_true rfl];rfl
theorem neB(b:Bool):(!(b==b))=false:=by cases b<;>rfl
section
variable {d:OpD} {sp sc sp' sc':SliceV} {h:ad}
theorem SV(f:d.ps.length≤1000000)(m:d.cs.length≤1000000)(e:Sl iZ 2 No h sp d.ps)(c:Sl iZ 2 No h sp' d.ps)(i:Sl oX 5 No h sc d.cs)(j:Sl oX 5 No h sc' d.cs){K:Bool→ad→Prop}(b:∀h',Upd No h h'→K true h'):HC PG BP [LG (mo d sp sc),LG (mo d sp' sc')] [.c .bool] K h:=by
 refine Rh (mo d sp sc) (mo d sp' sc') ?_;unfold IG ao bC ag aX aI BI SI;refine nP fun n b1 k1=>nP fun g b2 a=>?_
 have c1:=a.get0 b1;have k:=k1.tr a;refine Join.plain ⟨_,vc c1 0,_,vc b2 0,?_⟩;rw[ZZ];refine af.2 ⟨_,vc c1 1,_,vc b2 1,?_⟩;rw[Y0];refine af.2 ⟨_,vc c1 2,_,vc b2 2,?_⟩;rw[Y0];refine af.2 ⟨_,vc c1 3,_,vc b2 3,?_⟩;rw[Y0];refine af.2 ⟨_,vc c1 4,_,vc b2 4,?_⟩;rw[Y0];refine af.2 ⟨_,vc c1 5,_,vc b2 5,?_⟩;rw[ZZ];refine af.2 ⟨_,vc c1 6,_,vc b2 6,?_⟩
 rw[ZZ];refine af.2 ⟨_,vc c1 7,_,vc b2 7,?_⟩;rw[ZZ];refine af.2 ⟨_,vc c1 8,_,vc b2 8,?_⟩;rw[ZZ];refine af.2 ⟨_,vc c1 9,_,vc b2 9,?_⟩;rw[neB];refine af.2 ⟨_,vc c1 10,_,vc b2 10,?_⟩;rw[Y0];refine af.2 ⟨_,vc c1 11,_,vc b2 11,?_⟩;rw[Y0];refine af.2 ⟨_,vc c1 12,_,vc b2 12,?_⟩;rw[neB];refine af.2 ⟨sp,vc c1 13,sp',vc b2 13,Qd (e.upd k fun _ h=>h.elim) (c.upd k fun _ h=>h.elim) f (aA.2 ⟨sc,vc c1 14,sc',vc b2 14,Qc (i.upd k fun _ h=>h.elim) (j.upd k fun _ h=>h.elim) m (b g k)⟩)⟩
theorem N5(n1:d.ps.length≤1000000)(n2:d.cs.length≤1000000)(h1:Sl iZ 2 No h sp d.ps)(h2:Sl oX 5 No h sc d.cs){K:xm→ad→Prop}(hk:∀h' sp' sc',Sl iZ 2 No h' sp' d.ps→Sl oX 5 No h' sc' d.cs→Upd No h h'→K (mo d sp' sc') h'):HC PG C2 [LG (mo d sp sc)] [.agg [.int .i64,.str,.str,.str,.str,.int .u32,.int .u32,.int .i64,.int .i64,.bool,.str,.str,.bool,.slice,.slice]] K h:=by
 refine WL (mo d sp sc) ?_;unfold Pd cU ao bC ag aX aI eX nv BI JI bL cI bM ic eu rO my W9;refine nP fun u b1 k1=>nP fun k b2 Y=>?_
 have c1:=Y.get0 b1;refine⟨_,vc c1 0,_,vc c1 1,_,vc c1 2,_,vc c1 3,_,vc c1 4,_,vc c1 5,_,vc c1 6,_,vc c1 7,_,vc c1 8,_,vc c1 9,_,xg c1 10 0,_,xg c1 10 1,_,xg c1 10 2,nP fun g3 b3 k3=>cS (c:=gn (rT 0)) (vs:=gn (mo {d with ps:= [],cs:= []} eH eH)) b3 rfl fun s b4 u4=>?_⟩
 have C:Upd No k s:=k3.own u4 (av _);have X:=(k1.tr Y).tr C;have zg1:=bB b1;have zg2:=bB b2;have zg4:=bB b4;have y1:=k1.size;have y2:=Y.size;have m4:MkO h u.size k.size s.size s {d with ps:= [],cs:= []} eH eH:=⟨b4,C.get0 b2,OwnS.nil fR,OwnS.nil kH,X⟩;have a4:=C.get0 c1;refine⟨sp,vc a4 13,?_⟩;have hl1:=h1.len;have hl2:=h2.len;have O:h.size≠k.size:=by omega
 have J:u.size≠k.size:=by omega
 refine LoopP.ghost (fun(i:Nat) (t:Int) h'=>t=(i:Int)∧i≤d.ps.length∧(∃x,MkO h u.size k.size s.size h' {d with ps:=d.ps.take i,cs:= []} x eH)∧h'[h.size]? =some (.cells (gn (mo d sp sc)).toArray aL (0,0))∧s.size≤h'.size) (fun i=>d.ps.length-i) 0 ⟨rfl,aV _,⟨eH,m4⟩,a4,av _⟩ ?_
 rintro I i t h' ⟨rfl,hi,⟨x,z⟩,L,zh⟩ R;have z':=bB z.o;refine aF (fun f=>Join.plain ?_) fun E=>?_
 ·have f:i<d.ps.length:=by have:(i:Int)<(sp.len:Int):=f;omega
  obtain⟨a,ha,_,v⟩:=(h1.upd z.k fun _ h=>h.elim).at (ah f)
  have H:=E0 f;generalize d.ps[i]=p at v H;refine⟨⟨by omega,by omega⟩,a,ha,p.1,by rw[ak];exact v 0 _ rfl,p.2,by rw[ak];exact v 1 _ rfl,nP fun Z B D=>cS (c:= [.string ⟨#[]⟩,.string ⟨#[]⟩]) (vs:=iZ p) B rfl fun m j F=>?_⟩
  have q:Upd No h' m:=D.own F (av _);have m3:=z.up0 q;refine⟨x,vc m3.o 13,_,vc j 0,_,vc j 1,nP fun Q b5 N=>?_⟩
  have T:=m3.up0 N;have z5:=q.size;have z6:=N.size;have o1:OwnS iZ 2 ln (fun _=>True) Q ⟨some (aH m),1,1⟩ [p]:=⟨rfl,fR,av _,.inr ⟨m.size,[],rfl,trivial,b5,rfl⟩⟩
  refine⟨_,(o1.sl (W:=No) fun _ _ _ h=>h).srow,AppP.own (ys:= [p]) T.ps rfl rfl rfl rfl (by omega) (by show((d.ps.take i).length+1)*32≤_;rw[be];omega) (show s.size≤Q.size by omega) fun s' h6 U w=>?_⟩
  have V:=w.get T.o (show ¬s.size≤k.size by omega)
  refine kP (c':=(gn (mo {d with ps:=d.ps.take i++ [p],cs:= []} s' eH)).toArray) V (by simp) rfl fun h7 P n=>?_
  rw[cM f (by omega)];have z7:=w.size;have z8:=n.size;refine R (i+1) _ _ ⟨rfl,f,⟨s',?_⟩,n.get (w.get (((q.tr N)).get0 L) (show ¬s.size≤h.size by omega)) O,by omega⟩ (by omega)
  rw[H];exact⟨P,n.get (w.get T.r (show ¬s.size≤u.size by omega)) J,U.upd n fun y b e=>by have b:s.size≤y:=b;have e:y=k.size:=e;omega,OwnS.nil kH,(T.k.trans w fun y b=>.inr (by have b:s.size≤y:=b;omega)).trans n fun y b=>.inr (by have b:y=k.size:=b;omega)⟩
 have hi:i=d.ps.length:=by have:¬(i:Int)<(sp.len:Int):=E;omega
 rw[hi,bJ]at z;clear R I;refine⟨sc,vc L 14,?_⟩;have S1:Sl iZ 2 (fun y=>y=k.size∨y=u.size∨h'.size≤y) h' x d.ps:=z.ps.sl fun y b f e=>by have b:s.size≤y:=b;omega
 have kh:=z.k;refine LoopP.ghost (fun(i:Nat) (t:Int) g=>t=(i:Int)∧i≤d.cs.length∧(∃A,g[k.size]? =some (.cells (gn (mo {d with cs:=d.cs.take i} x A)).toArray ZJ (0,0))∧OwnS oX 5 ie (fun y=>h'.size≤y) g A (d.cs.take i))∧g[u.size]? =some (.cells (gn (rT 0)).toArray ZJ (0,0))∧g[h.size]? =some (.cells (gn (mo d sp sc)).toArray aL (0,0))∧Upd (fun y=>y=k.size) h' g) (fun i=>d.cs.length-i) 0 ⟨rfl,aV _,⟨eH,z.o,OwnS.nil kH⟩,z.r,L,Upd.refl _ _⟩ ?_
 rintro I i t g ⟨rfl,hi,⟨A,G,os⟩,cr,L,S⟩ R;have zu:=S.size;have ku:Upd No h g:=kh.trans S fun y b=>.inr (by have b:y=k.size:=b;omega)
 refine aF (fun f=>Join.plain ?_) fun E=>?_
 ·have f:i<d.cs.length:=by have:(i:Int)<(sc.len:Int):=f;omega
  obtain⟨a,ha,_,v⟩:=(h2.upd ku fun _ h=>h.elim).at (ah f)
  have H:=E0 f;generalize d.cs[i]=c at v H;refine⟨⟨by omega,by omega⟩,a,ha,c.1,by rw[ak];exact v 0 _ rfl,c.2.1,by rw[ak];exact v 1 _ rfl,c.2.2.1,by rw[ak];exact v 2 _ rfl,c.2.2.2.1,by rw[ak];exact v 3 _ rfl,c.2.2.2.2,by rw[ak];exact v 4 _ rfl,nP fun Z B D=>cS (c:= [.string ⟨#[]⟩,.string ⟨#[]⟩,.string ⟨#[]⟩,.bool false,.bool false]) (vs:=oX c) B rfl fun m j F=>?_⟩
  have q:Upd No g m:=D.own F (av _);refine⟨A,vc (q.get0 G) 14,_,vc j 0,_,vc j 1,_,vc j 2,_,vc j 3,_,vc j 4,nP fun Q b5 N=>?_⟩
  have o:=q.tr N;have z35:=o.size;have o1:OwnS oX 5 ie (fun _=>True) Q ⟨some (aH m),1,1⟩ [c]:=⟨rfl,kH,av _,.inr ⟨m.size,[],rfl,trivial,b5,rfl⟩⟩
  refine⟨_,(o1.sl (W:=No) fun _ _ _ h=>h).srow,AppP.own (ys:= [c]) (os.upd o fun _ _ h=>h) rfl rfl rfl rfl (by omega) (by rw[be];show(min i d.cs.length+1)*56≤_;omega) (show h'.size≤Q.size by omega) fun s' h6 U w=>?_⟩
  have V:=w.get (o.get0 G) (show ¬h'.size≤k.size by omega)
  refine kP (c':=(gn (mo {d with cs:=d.cs.take i++ [c]} x s')).toArray) V (by simp) rfl fun h7 P n=>?_
  rw[cM f (by omega)];refine R (i+1) _ _ ⟨rfl,f,⟨s',?_,?_⟩,n.get (w.get (o.get0 cr) (show ¬h'.size≤u.size by omega)) J,n.get (w.get (o.get0 L) (show ¬h'.size≤h.size by omega)) O,?_⟩ (by omega)
  ·rw[H];exact P
  ·rw[H];exact U.upd n fun y b e=>by have b:h'.size≤y:=b;have e:y=k.size:=e;omega
  ·exact((S.tr o.wide).trans w fun y b=>.inr b).trans n fun y b=>.inl b
 ·have hi:i=d.cs.length:=by have:¬(i:Int)<(sc.len:Int):=E;omega
  rw[hi,bJ]at G os;have G:g[k.size]? =some (.cells (gn (mo d x A)).toArray ZJ (0,0)):=G;have S2:Sl oX 5 (fun y=>y=u.size) g A d.cs:=os.sl fun y b _ e=>by have b:h'.size≤y:=b;have e:y=u.size:=e;omega
  have S1':=S1.upd S fun y b=>.inl (.inl b)
  refine tA G (cS (c:=gn (rT 0)) (vs:=gn (mo d x A)) cr rfl fun h7 P n=>tA P (hk h7 x A ?_ ?_ ?_))
  ·exact(S1'.upd n fun y b=>.inl (.inr (.inl b))).less fun _ h=>h.elim
  ·exact(S2.upd n fun y b=>.inl b).less fun _ h=>h.elim
  ·exact ku.trans n fun y b=>.inr (by have b:y=u.size:=b;omega)
end
def PQ(a:List UInt8)(d:OpD)(ok:Bool):Prop:=(ok=true∧iq a=some d)∨(ok=false∧iq a=none∧d=d0 0)
theorem PQ.uniq{a:List UInt8}{d d':OpD}{ok b:Bool}(h:PQ a d ok)(h':PQ a d' b):d'=d∧b=ok:=by
 rcases h with⟨rfl,h⟩|⟨rfl,h,rfl⟩<;>rcases h' with⟨rfl,h'⟩|⟨rfl,h',rfl⟩
 ·rw[h]at h';exact⟨(Option.some.inj h').symm,rfl⟩
 ·rw[h]at h';cases h'
 ·rw[h]at h';cases h'
 ·exact⟨rfl,rfl⟩
theorem PQ.small{a:List UInt8}(b:a.length≤10000){d:OpD}{ok:Bool}(h:PQ a d ok):d.ps.length≤1000000∧d.cs.length≤1000000∧(ok=true→SmallD d∧jQ d=some a):=by
 rcases h with⟨rfl,h⟩|⟨rfl,h,rfl⟩
 ·have sm:=NM (by omega) h
  exact⟨by have:=sm.ps.1;omega,by have:=sm.cs.1;omega,fun _=>⟨sm,GS h⟩⟩
 ·exact⟨aV _,aV _,fun h=>by cases h⟩
theorem QQ{a:List UInt8}(hx:a.length≤10000){h:ad}(l:Laid h)(i:4≤h.size){K:xm×Bool→ad→Prop}(c:∀h' d sp b ok,PQ a d ok→Sl iZ 2 No h' sp d.ps→Sl oX 5 No h' b d.cs→Upd No h h'→K (mo d sp b,ok) h'):
  HC PG np [.string (aG a)] [.agg [.int .i64,.str,.str,.str,.str,.int .u32,.int .u32,.int .i64,.int .i64,.bool,.str,.str,.bool,.slice,.slice],.c .bool] K h:=
 L8 (by omega) l i (fun h' d sp b f op e k=>c h' d sp b true (.inl ⟨rfl,f⟩) (op.sl fun _ _ _ h=>h) (e.sl fun _ _ _ h=>h) k) fun g h' k=>c h' (d0 0) eH eH false (.inr ⟨rfl,g,rfl⟩) (Sl.nil fR) (Sl.nil kH) k
theorem S9{a:List UInt8}(hx:a.length≤10000){h:ad}{K:xm×Bool→ad→Prop}(c:∀h' d sp b ok,PQ a d ok→Sl iZ 2 No h' sp d.ps→Sl oX 5 No h' b d.cs→Upd No h h'→K (mo d sp b,ok) h'):
  HC PG uJ [.string (aG a)] [.agg [.int .i64,.str,.str,.str,.str,.int .u32,.int .u32,.int .i64,.int .i64,.bool,.str,.str,.bool,.slice,.slice],.c .bool] K h:=
 NB hx (fun h' d sp b f op e k=>c h' d sp b true (.inl ⟨rfl,f⟩) op e k) fun g h' k=>c h' (d0 0) eH eH false (.inr ⟨rfl,g,rfl⟩) (Sl.nil fR) (Sl.nil kH) k
theorem XC{h:ad}{b:Nat}{t:TypeId}{o:xm}(a:h[b]? =some (.cells (gn o).toArray t (0,0))):
  aD h (adr ⟨b,0,none⟩ 0)=some (.int .i64 o.1)∧aD h (adr ⟨b,0,none⟩ 1)=some (.string o.2.1)∧aD h (adr ⟨b,0,none⟩ 2)=some (.string o.2.2.1)∧aD h (adr ⟨b,0,none⟩ 3)=some (.string o.2.2.2.1)∧aD h (adr ⟨b,0,none⟩ 4)=some (.string o.2.2.2.2.1)∧aD h (adr ⟨b,0,none⟩ 5)=some (.int .u32 o.2.2.2.2.2.1)∧aD h (adr ⟨b,0,none⟩ 6)=some (.int .u32 o.2.2.2.2.2.2.1)∧aD h (adr ⟨b,0,none⟩ 7)=some (.int .i64 o.2.2.2.2.2.2.2.1)∧aD h (adr ⟨b,0,none⟩ 8)=some (.int .i64 o.2.2.2.2.2.2.2.2.1)∧aD h (adr ⟨b,0,none⟩ 9)=some (.bool o.2.2.2.2.2.2.2.2.2.1)∧aD h (adr ⟨b,0,none⟩ 10)=some (.string o.2.2.2.2.2.2.2.2.2.2.1)∧aD h (adr ⟨b,0,none⟩ 11)=some (.string o.2.2.2.2.2.2.2.2.2.2.2.1)∧aD h (adr ⟨b,0,none⟩ 12)=some (.bool o.2.2.2.2.2.2.2.2.2.2.2.2.1)∧aD h (adr ⟨b,0,none⟩ 13)=some (.slice o.2.2.2.2.2.2.2.2.2.2.2.2.2.1.a o.2.2.2.2.2.2.2.2.2.2.2.2.2.1.len o.2.2.2.2.2.2.2.2.2.2.2.2.2.1.cap)∧aD h (adr ⟨b,0,none⟩ 14)=some (.slice o.2.2.2.2.2.2.2.2.2.2.2.2.2.2.a o.2.2.2.2.2.2.2.2.2.2.2.2.2.2.len o.2.2.2.2.2.2.2.2.2.2.2.2.2.2.cap):=
 ⟨vc a 0,vc a 1,vc a 2,vc a 3,vc a 4,vc a 5,vc a 6,vc a 7,vc a 8,vc a 9,vc a 10,vc a 11,vc a 12,vc a 13,vc a 14⟩
theorem Sl.k0{α:Type}{f:α→List Value}{a:Nat}{h h':ad}{s:SliceV}{xs:List α}(b:Sl f a No h s xs)(k:Upd No h h'):Sl f a No h' s xs:=b.upd k fun _ h=>h.elim
end Go.Proofs
namespace Go.Proofs
open Go Go.Lift Go.RowKit
theorem Yq{n:Nat}{x:ByteArray}:(x.extract 0 ((if(n:Int)<(x.size:Int)then(n:Int)else(x.size:Int)).toNat)).size≤n:=aU (OA _ _) (by split<;>omega)
structure FewD(d:OpD):Prop where
 b:d.b.size≤40
 o:d.o.size≤40
 bnd:BndD 30 12 d
 s: -9223372036854775808≤d.s∧d.s≤9223372036854775807
 w: -9223372036854775808≤d.w∧d.w≤9223372036854775807
theorem FewD.small{d:OpD}(f:FewD d):SmallD d:=
 ⟨aU f.b (by omega),aU f.o (by omega),aU f.bnd.key (by omega),aU f.bnd.v (by omega),aU f.bnd.fr (by omega),aU f.bnd.up (by omega),⟨aU f.bnd.ps.1 (by omega),fun p a=>⟨aU (f.bnd.ps.2 p a).1 (by omega),aU (f.bnd.ps.2 p a).2 (by omega)⟩⟩,⟨aU f.bnd.cs.1 (by omega),fun c hc=>⟨aU (f.bnd.cs.2 c hc).1 (by omega),aU (f.bnd.cs.2 c hc).2.1 (by omega),aU (f.bnd.cs.2 c hc).2.2 (by omega)⟩⟩,f.bnd.num,f.s,f.w⟩
set_option maxHeartbeats 4000000 in
theorem VY{d:OpD}{sp E:SliceV}{h:ad}(n1:d.ps.length≤9223372036854775807)(n2:d.cs.length≤9223372036854775807)(num:W4 d)(hs: -9223372036854775808≤d.s∧d.s≤9223372036854775807)(hw: -9223372036854775808≤d.w∧d.w≤9223372036854775807)(h1:Sl iZ 2 No h sp d.ps)(h2:Sl oX 5 No h E d.cs){K:xm→ad→Prop}(hk:∀h' d' sp' sc',FewD d'→Sl iZ 2 (fun y=>y<h.size) h' sp' d'.ps→Sl oX 5 (fun y=>y<h.size) h' sc' d'.cs→Upd No h h'→K (mo d' sp' sc') h'):
  HC PG EB [LG (mo d sp E)] [.agg [.int .i64,.str,.str,.str,.str,.int .u32,.int .u32,.int .i64,.int .i64,.bool,.str,.str,.bool,.slice,.slice]] K h:=by
 refine Uc (mo d sp E) ?_;unfold K5 cU ao bC ag aX aI eX nv BI JI bL cI bM ic eu rO my W9;refine nP fun z b1 k1=>nP fun g2 b2 k2=>?_
 have c1:=k2.get0 b1;have k12:=k1.tr k2;have zg1:=bB b1;have zg2:=bB b2;have F:=k1.size;have J:=k2.size;have hab:h.size≠z.size:=by omega
 refine⟨_,vc c1 1,_,vc c1 1,⟨by split<;>omega,by split<;>omega⟩,Ft ⟨_,vc c1 2,_,vc c1 2,⟨by split<;>omega,by split<;>omega⟩,Ft ?_⟩⟩
 have q1:(d.b.extract 0 ((if 40<(d.b.size:Int)then 40 else(d.b.size:Int)).toNat)).size≤40:=Yq (n:=40)
 have q2:(d.o.extract 0 ((if 40<(d.o.size:Int)then 40 else(d.o.size:Int)).toNat)).size≤40:=Yq (n:=40)
 show _∧_
 generalize d.b.extract 0 ((if 40<(d.b.size:Int)then 40 else(d.b.size:Int)).toNat)=xb at q1
 generalize d.o.extract 0 ((if 40<(d.o.size:Int)then 40 else(d.o.size:Int)).toNat)=xo at q2
 refine kP (c':=(gn (mo {d with b:=xb} sp E)).toArray) c1 (by simp) rfl fun g3 b3 u3=>kP (c':=(gn (mo {d with b:=xb,o:=xo} sp E)).toArray) b3 (by simp) rfl fun g4 D u4=>?_
 refine⟨_,vc D 3,_,vc D 4,_,xg D 10 0,_,xg D 10 1,mX fun R hxk=>⟨xg D 10 1,xg D 10 0,vc D 4,mX fun xv hxv=>⟨xg D 10 1,xg D 10 0,mX fun xf hxf=>⟨xg D 10 1,mX fun xu hxu=>?_⟩⟩⟩⟩
 refine kP (c':=(gn (mo {d with b:=xb,o:=xo,key:=R} sp E)).toArray) D (by simp) rfl fun g5 b5 u5=>kP (c':=(gn (mo {d with b:=xb,o:=xo,key:=R,v:=xv} sp E)).toArray) b5 (by simp) rfl fun g6 b6 u6=>MU (c':=(gn (mo {d with b:=xb,o:=xo,key:=R,v:=xv,fr:=xf} sp E)).toArray) b6 (by simp) rfl fun g7 b7 u7=>MU (c':=(gn (mo {d with b:=xb,o:=xo,key:=R,v:=xv,fr:=xf,up:=xu} sp E)).toArray) b7 (by simp) rfl fun g8 b8 u8=>?_
 have S:Upd (· =h.size) g2 g8:=((((u3.tr u4).tr u5).tr u6).tr u7).tr u8
 have r8:=S.get b2 (show ¬z.size=h.size by omega)
 have N:Upd No h g8:=k12.trans S fun y f=>.inr (by have f:y=h.size:=f;omega)
 have z8:=N.size;have z28:=S.size;have hl1:=h1.len;have hl2:=h2.len;refine⟨sp,vc b8 13,?_⟩;refine LoopP.ghost (fun(g:Nat×List Pr) (t:SliceV×Int) h'=>t.2=(g.1:Int)∧g.1≤d.ps.length∧g.2.length≤g.1∧g.2.length≤12∧(∀p∈g.2,p.1.size≤30∧p.2.size≤30)∧OwnS iZ 2 ax (fun y=>g8.size≤y) h' t.1 g.2∧Upd No g8 h') (fun g=>d.ps.length-g.1) (0,[]) ⟨rfl,aV _,aV _,aV _,(fun _ h=>by cases h),OwnS.nil fR,Upd.refl _ _⟩ ?_
 rintro I ⟨i,C⟩ ⟨so,ti⟩ h' ⟨e1,hi,ha1,T,P,ho,Y⟩ hI;simp only at e1 hi ha1 T P ho;subst e1;have zku:=Y.size;refine aF (fun j=>Join.plain ?_) fun hge=>?_
 ·have j:i<d.ps.length:=by have:(i:Int)<(sp.len:Int):=j;omega
  obtain⟨a,ha,_,L⟩:=(h1.upd (N.tr Y) fun _ h=>h.elim).at (ah j)
  generalize d.ps[i]=p at L;refine⟨⟨by simp only;omega,by simp only;omega⟩,a,ha,p.1,?_,p.2,?_,nP fun h2' V u=>cS (c:= [.string ⟨#[]⟩,.string ⟨#[]⟩]) (vs:=iZ p) V rfl fun w k Z=>?_⟩
  ·simp only[ak];exact L 0 _ rfl
  ·simp only[ak];exact L 1 _ rfl
  have m:Upd No h' w:=u.own Z (av _);have z3':=m.size;refine aF (fun x=>⟨_,vc k 0,_,vc k 1,mX fun F X=>⟨vc k 1,mX fun J U=>nP fun h5 b5 k5=>?_⟩⟩) fun x=>?_
  ·have o1:OwnS iZ 2 ax (fun _=>True) h5 ⟨some (aH w),1,1⟩ [(F,J)]:=⟨rfl,fR,av _,.inr ⟨w.size,[],rfl,trivial,b5,rfl⟩⟩
   have z5:=k5.size;refine⟨_,(o1.sl (W:=No) fun _ _ _ h=>h).srow,AppP.own (ys:= [(F,J)]) (ho.upd (m.tr k5) fun _ _ h=>h) rfl rfl rfl rfl (by omega) (by simp only[ay,bN];omega) (show g8.size≤h5.size by omega) fun s' h6 o6 u6=>?_⟩
   show I (s',ac .i64 ((i:Int)+1)) h6
   rw[xn j n1];refine hI (i+1,C++ [(F,J)]) _ _ ⟨rfl,j,by simp only[aj,bO];omega,by have x:(i:Int)<12:=x;simp only[aj,bO];omega,fun q H=>?_,o6,((Y.tr m).tr k5).trans u6 fun y f=>.inr f⟩ (by simp only;omega)
   rcases bD.1 H with H|H
   ·exact P q H
   ·rw[aO.1 H];exact⟨X,U⟩
  ·show I (so,ac .i64 ((i:Int)+1)) w
   rw[xn j n1];exact hI (i+1,C) _ _ ⟨rfl,j,by simp only;omega,T,P,ho.upd m fun _ _ h=>h,Y.tr m⟩ (by simp only;omega)
 clear hI I;have S1:Sl iZ 2 (fun y=>y≤z.size∨h'.size≤y) h' so C:=ho.sl fun y f j e=>by have f:g8.size≤y:=f;omega
 refine⟨E,vc (Y.get0 b8) 14,?_⟩;have k0':=N.tr Y;refine LoopP.ghost (fun(g:Nat×List Ch) (t:SliceV×Int) s=>t.2=(g.1:Int)∧g.1≤d.cs.length∧g.2.length≤g.1∧g.2.length≤12∧(∀c∈g.2,c.1.size≤30∧c.2.1.size≤30∧c.2.2.1.size≤30)∧OwnS oX 5 bE (fun y=>h'.size≤y) s t.1 g.2∧Upd No h' s) (fun g=>d.cs.length-g.1) (0,[]) ⟨rfl,aV _,aV _,aV _,(fun _ h=>by cases h),OwnS.nil kH,Upd.refl _ _⟩ ?_
 rintro I ⟨i,A⟩ ⟨G,ti⟩ s ⟨e1,hi,hb1,hb2,Q,O,B⟩ hI;simp only at e1 hi hb1 hb2 Q O;subst e1;have zku2:=B.size;refine aF (fun j=>Join.plain ?_) fun hge=>?_
 ·have j:i<d.cs.length:=by have:(i:Int)<(E.len:Int):=j;omega
  obtain⟨a,ha,_,L⟩:=(h2.upd (k0'.tr B) fun _ h=>h.elim).at (ah j)
  generalize d.cs[i]=c at L;refine⟨⟨by simp only;omega,by simp only;omega⟩,a,ha,c.1,?_,c.2.1,?_,c.2.2.1,?_,c.2.2.2.1,?_,c.2.2.2.2,?_,nP fun h2' V u=>cS (c:= [.string ⟨#[]⟩,.string ⟨#[]⟩,.string ⟨#[]⟩,.bool false,.bool false]) (vs:=oX c) V rfl fun w k Z=>?_⟩
  ·simp only[ak];exact L 0 _ rfl
  ·simp only[ak];exact L 1 _ rfl
  ·simp only[ak];exact L 2 _ rfl
  ·simp only[ak];exact L 3 _ rfl
  ·simp only[ak];exact L 4 _ rfl
  have m:Upd No s w:=u.own Z (av _);have z3':=m.size;refine aF (fun x=>⟨_,vc k 0,_,vc k 1,_,vc k 2,mX fun F X=>⟨vc k 2,vc k 1,mX fun J U=>⟨vc k 2,mX fun y3 hy3=>?_⟩⟩⟩) fun x=>?_
  ·refine kP (c':=(oX (F,c.2.1,c.2.2.1,c.2.2.2.1,c.2.2.2.2)).toArray) k (by simp) rfl fun h4 D u4=>kP (c':=(oX (F,J,c.2.2.1,c.2.2.2.1,c.2.2.2.2)).toArray) D (by simp) rfl fun h5 b5 u5=>kP (c':=(oX (F,J,y3,c.2.2.2.1,c.2.2.2.2)).toArray) b5 (by simp) rfl fun h6 b6 u6=>?_
   have k36:Upd No s h6:=m.trans ((u4.tr u5).tr u6) fun y f=>.inr (by have f:y=s.size:=f;omega)
   refine⟨_,vc b6 0,_,vc b6 1,_,vc b6 2,_,vc b6 3,_,vc b6 4,nP fun h7 b7 k7=>?_⟩
   have k37:=k36.tr k7;have z37:=k37.size;have o1:OwnS oX 5 bE (fun _=>True) h7 ⟨some (aH h6),1,1⟩ [(F,J,y3,c.2.2.2.1,c.2.2.2.2)]:=⟨rfl,kH,av _,.inr ⟨h6.size,[],rfl,trivial,b7,rfl⟩⟩
   refine⟨_,(o1.sl (W:=No) fun _ _ _ h=>h).srow,AppP.own (ys:= [(F,J,y3,c.2.2.2.1,c.2.2.2.2)]) (O.upd k37 fun _ _ h=>h) rfl rfl rfl rfl (by omega) (by simp only[ay,bN];omega) (show h'.size≤h7.size by omega) fun s' h8 o8 u8=>?_⟩
   show I (s',ac .i64 ((i:Int)+1)) h8
   rw[xn j n2];refine hI (i+1,A++ [(F,J,y3,c.2.2.2.1,c.2.2.2.2)]) _ _ ⟨rfl,j,by simp only[aj,bO];omega,by have x:(i:Int)<12:=x;simp only[aj,bO];omega,fun q H=>?_,o8,(B.tr k37).trans u8 fun y f=>.inr f⟩ (by simp only;omega)
   rcases bD.1 H with H|H
   ·exact Q q H
   ·rw[aO.1 H];exact⟨X,U,hy3⟩
  ·show I (G,ac .i64 ((i:Int)+1)) w
   rw[xn j n2];exact hI (i+1,A) _ _ ⟨rfl,j,by simp only;omega,hb2,Q,O.upd m fun _ _ h=>h,B.tr m⟩ (by simp only;omega)
 have S1':=S1.upd B fun _ h=>h.elim
 have S2:Sl oX 5 (fun y=>y≤z.size) s G A:=O.sl fun y f _ e=>by have f:h'.size≤y:=f;have e:y≤z.size:=e;omega
 have u:=Y.tr B;refine kP (c':=(gn (mo {d with b:=xb,o:=xo,key:=R,v:=xv,fr:=xf,up:=xu} so E)).toArray) (u.get0 b8) (by simp) rfl fun e5 d5 v5=>kP (c':=(gn (mo {d with b:=xb,o:=xo,key:=R,v:=xv,fr:=xf,up:=xu,ps:=C,cs:=A} so G)).toArray) d5 (by simp) rfl fun e6 d6 v6=>?_
 have r6:=v6.get (v5.get (u.get0 r8) (show ¬z.size=h.size by omega)) (show ¬z.size=h.size by omega)
 refine tA d6 (cS (c:=gn (rT 0)) (vs:=gn (mo {d with b:=xb,o:=xo,key:=R,v:=xv,fr:=xf,up:=xu,ps:=C,cs:=A} so G)) r6 rfl fun e7 d7 v7=>tA d7 (hk e7 {d with b:=xb,o:=xo,key:=R,v:=xv,fr:=xf,up:=xu,ps:=C,cs:=A} so G ⟨q1,q2,⟨hxk,hxv,hxf,hxu,⟨T,P⟩,⟨hb2,Q⟩,num⟩,hs,hw⟩ ?_ ?_ ?_))
 ·exact(((S1'.upd v5 fun y f=>.inl (.inl (by have f:y=h.size:=f;omega))).upd v6 fun y f=>.inl (.inl (by have f:y=h.size:=f;omega))).upd v7 fun y f=>.inl (.inl (by have f:y=z.size:=f;omega))).less fun y f=>.inl (.inl (by have f:y<h.size:=f;omega))
 ·exact(((S2.upd v5 fun y f=>.inl (by have f:y=h.size:=f;show y≤z.size;omega)).upd v6 fun y f=>.inl (by have f:y=h.size:=f;show y≤z.size;omega)).upd v7 fun y f=>.inl (by have f:y=z.size:=f;show y≤z.size;omega)).less fun y f=>.inl (by have f:y<h.size:=f;show y≤z.size;omega)
 ·exact(((N.tr u).trans v5 fun y f=>.inr (by have f:y=h.size:=f;omega)).trans v6 fun y f=>.inr (by have f:y=h.size:=f;omega)).trans v7 fun y f=>.inr (by have f:y=z.size:=f;omega)
theorem Ti:iq []=none:=by
 have:formsL.find? (fun f=>f.2.1==([]:List UInt8))=none:=by decide+kernel
 unfold iq;rw[show ix 32 []= [[]]from rfl]
 simp only;rw[this]
theorem UP{d:OpD}(f:FewD d){a:List UInt8}(h:jQ d=some a):a.length≤10000∧a≠[]:=by
 unfold jQ at h;cases e:formsL.find? (fun f=>f.1==d.k)with
 |none=>rw[e]at h;cases h
 |some g=>
  rw[e]at h;have hm:=List.mem_of_find?_eq_some e;obtain⟨k,b,i⟩:=HK g hm;obtain⟨l,c,rfl⟩:=Option.map_eq_some_iff.1 h;obtain⟨o,j⟩:=Cr (by omega) f.bnd _ _ (tH g hm).1 c;have n:g.2.2.length*(3*12+3)≤3*(3*12+3):=Nat.mul_le_mul_right _ b;have:=Hx (m:=61) 32 (g.2.1::l) fun x hx=>by
   rcases ar.1 hx with rfl|hx
   ·omega
   ·exact j x hx
  simp only[ay]at this;refine⟨by omega,fun e=>?_⟩
  rw[Es]at e;exact i (List.append_eq_nil_iff.1 e).1
set_option maxHeartbeats 2000000 in
theorem L7{d:OpD}{sp G:SliceV}{h:ad}(n1:d.ps.length≤9223372036854775807)(n2:d.cs.length≤9223372036854775807)(num:W4 d)(hs: -9223372036854775808≤d.s∧d.s≤9223372036854775807)(hw: -9223372036854775808≤d.w∧d.w≤9223372036854775807)(h1:Sl iZ 2 No h sp d.ps)(h2:Sl oX 5 No h G d.cs)(l:Laid h)(h4:4≤h.size){K:Bool→ad→Prop}(hk:∀h',Upd No h h'→K true h'):HC PG yg [LG (mo d sp G)] [.c .bool] K h:=by
 refine Gf (mo d sp G) ?_;unfold yB ao bC ag aX aI eX nv BI MM Ps JI;refine nP fun g1 b1 k1=>?_
 have z1:=k1.size;have zg1:=bB b1;refine QX (l.upd0 k1) (by omega) fun g3 s=>af.2 (tA (s.get0 b1) (VY n1 n2 num hs hw (Sl.k0 h1 (k1.tr s)) (Sl.k0 h2 (k1.tr s)) fun g20 e s1 c1 fd p1 q1 Y=>?_))
 have sm:=fd.small;have p:=s.tr Y;refine cS (c:=gn (mo d sp G)) (vs:=gn (mo e s1 c1)) (p.get0 b1) rfl fun g21 z q=>?_
 have n:Upd No h g21:=(k1.tr p).trans q fun y o=>.inr (by have o:y=h.size:=o;omega)
 have z3:=s.size;have P1:=(p1.upd q fun y o=>.inl (by have o:y=h.size:=o;show y<g3.size;omega)).less (W':=No) fun _ h=>h.elim
 have Q1:=(q1.upd q fun y o=>.inl (by have o:y=h.size:=o;show y<g3.size;omega)).less (W':=No) fun _ h=>h.elim
 refine tA z (Fp sm P1 Q1 (l.upd0 n) fun g38 k=>tA (k.get0 z) ?_)
 have m1:=sm.ps.1;have m2:=sm.cs.1;refine N5 (by omega) (by omega) (Sl.k0 P1 k) (Sl.k0 Q1 k) fun g55 s2 c2 p2 q2 k55=>He sm p2 q2 fun g57 N=>?_
 rw[Y0];obtain⟨a,b⟩:∃a,(jQ e).getD []=a:=⟨_,rfl⟩;rw[b];have H:a.length≤10000∧(a≠[]→jQ e=some a):=by
  cases D:jQ e with
  |none=>rw[D]at b;rw[←b];exact⟨aV _,fun h=>absurd rfl h⟩
  |some w=>rw[D]at b;have b:w=a:=b;subst b;exact⟨(UP fd D).1,fun _=>rfl⟩
 have f:=((k.tr k55).tr N);have z21:=n.size;have z57:=f.size;refine af.2 (QQ H.1 ((l.upd0 n).upd0 f) (by omega) fun g5 d' T Q ok J t F k5=>nP fun g6 b6 k6=>cS (c:=gn (rT 0)) (vs:=gn (mo d' T Q)) b6 rfl fun g7 b7 u7=>?_)
 have C:Upd No g5 g7:=k6.own u7 (av _);refine S9 H.1 fun g9 d2 s3 c3 v Z ps2 cs2 k9=>?_
 obtain⟨rfl,rfl⟩:=J.uniq Z;obtain⟨x1,x2,P⟩:=J.small H.1;refine nP fun g10 S V=>cS (c:=gn (rT 0)) (vs:=gn (mo d2 s3 c3)) S rfl fun O A u11=>?_
 have i:Upd No g9 O:=V.own u11 (av _);have u:=(k9.tr i).get0 b7;have x:=(C.tr k9).tr i;have B:v= !((aG a).toList==(⟨#[]⟩:ByteArray).toList):=by
  rw[Ar,show(aG a).data.toList=a from by simp]
  by_cases L:a= []
  ·rw[decide_eq_true L]
   rcases J with⟨rfl,I⟩|⟨rfl,_,_⟩
   ·rw[L,Ti]at I;cases I
   ·rfl
  ·rw[decide_eq_false L]
   rcases J with⟨rfl,_⟩|⟨rfl,I,_⟩
   ·rfl
   ·have:=Hi fd.bnd.num (H.2 L)
    rw[I]at this;cases this
 rw[←B,beq_self_eq_true];refine aA.2 (aA.2 (tA u (tA A (N5 x1 x2 (Sl.k0 t x) (Sl.k0 F x) fun g43 s5 c5 ps3 U g=>⟨XC (g.get0 A),SV x1 x2 ps3 (Sl.k0 ps2 (i.tr g)) U (Sl.k0 cs2 (i.tr g)) fun W m=>aA.2 ?_⟩))))
 have j:=((((n.tr f).tr k5).tr x).tr g).tr m;refine CondP.intro (fun e=>hk W j) fun e=>?_
 have e:v=true:=by simpa using e
 obtain⟨X,D⟩:=P e;refine tA ((g.tr m).get0 u) (Fp X (Sl.k0 t ((x.tr g).tr m)) (Sl.k0 F ((x.tr g).tr m)) (l.upd0 j) fun E R=>?_)
 rw[D];show K ((aG a).toList==(aG a).toList) E
 rw[di,decide_eq_true rfl];exact hk E (j.tr R)
end Go.Proofs
