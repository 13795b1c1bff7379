/- A part of the proof that the named laws of this program answer true, whatever the input. -/
import Derived.Test.YtopdngagmfanlaaGreatDoorPart10
open Array renaming size→aM
open ByteArray renaming size_extract→pP
open Go.IntKind renaming wrap→ac,wrap_u32→qz
open Int renaming toNat_natCast→ak
open List renaming mem_cons_self→aN,getD_eq_getElem?_getD→fa,mem_cons→ar,mem_singleton→aQ,getElem?_eq_getElem→ax,length_take→aY,take_length→bG
open List.Pairwise renaming nil→jZ
open Nat renaming lt_of_lt_of_le→aO,le_refl→au,le_trans→bv,zero_le→bc
namespace Go.Proofs
open Go Go.Lift
theorem S4{W0:Nat→Prop}{a:List UInt8}(hx:a.length≤1000000)(z:im 32 a= [[111,112,101,110],[114,97,100,105,120],[48],[48],[48]]){h:ad}(i:∀y,W0 y→y<h.size){c:Nat}(hd:h[c]? =some (.cells #[.pointer none] hE (0,0))) (l:Laid h) (j:4≤c) {K:ByteArray→ad→Prop}
  (s:∀b h' sp g gp gm tm bm nm t sm pb f,VaultAt (fun y=>W0 y∨VS.M ⟨gp,gm,tm,bm,nm,1,⟨0,0,0⟩,t,[],1,[],[],[]⟩ y) b g ⟨gp,gm,tm,bm,nm,1,⟨0,0,0⟩,t,[],1,[],[],[]⟩→b[sp]? =some (.cells (O9 g (some sm) 0 (some ⟨pb,0,none⟩)).toArray dB (0,0))→
   (∀y,VS.M ⟨gp,gm,tm,bm,nm,1,⟨0,0,0⟩,t,[],1,[],[],[]⟩ y→h.size≤y∧y<f)→f<sp→Upd No h b→h'[c]? =some (.cells #[.pointer (some ⟨sp,0,none⟩)] hE (0,0))→Upd (· =c) b h'→K ⟨#[111,107]⟩ h'):
  HC PG ie [.pointer (some ⟨c,0,none⟩),.string (aG a)] [.c .str] K h:=by
 refine zw (some ⟨c,0,none⟩) (aG a) ?_;unfold tY bf cU aj bJ ah aZ aL nv L8 DR O0 Y4 W1 ez iE;refine af.2 (B5 (by rw[ci];exact hx) fun m F ow v=>pe fun k C p=>?_)
 rw[show(aG a).data.toList=a from by simp,z]at ow
 have e:=v.tr p;have u:=(ow.sl (W:=fun y=>m.size≤y) (fun y _ d=>by omega)).upd p fun _ h=>h.elim
 have n:=e.get0 hd;have A:=e.size;refine LoopP.ghost (fun(_:Unit) (t:Int) o=>t=0∧o=k) (fun _=>0) () ⟨rfl,rfl⟩ ?_
 rintro I _ t o ⟨e1,e2⟩ E;subst e1 e2;refine aA.2 ⟨⟨by decide,by decide⟩,_,rfl,_,vc C 0,HV.mk' (SD (fun y d=>aO (i y d) A) n (l.upd0 e) j u fun b h' sp g gp gm tm bm nm t sm pb f D bs hM q w B x=>aA.2 ?_)⟩
 exact s b h' sp g gp gm tm bm nm t sm pb f D bs (fun y d=>⟨by have:=(hM y d).1;omega,(hM y d).2⟩) q (e.tr w) B x
theorem Nz{c:UInt8}:∀{l:List UInt8},c∉l→Lib.indexByte l c= -1
 | [],_=>rfl
 |a::l,h=>by
  have b:(a==c)=false:=beq_eq_false_iff_ne.2 fun e=>h (by rw[e];exact aN ..)
  have d:=Nz (l:=l) fun e=>h (List.mem_cons_of_mem _ e)
  simp only[Lib.indexByte,b,d];rfl
theorem Po{a:List UInt8}{h:ad}{fv:Value}{sb tb nb:Nat}(T:fv=.func (.func jM) #[] #[.pointer (some ⟨sb,0,none⟩),.pointer (some ⟨tb,0,none⟩),.pointer (some ⟨nb,0,none⟩)])(hs:h[sb]? =some (.cells #[.string ⟨#[10]⟩] cn (0,0))) (ht:h[tb]? =some (.cells #[.string (aG a)] cn (0,0))) (hn:h[nb]? =some (.cells #[.int .i64 0] Mu (0,0)))
  (q1:tb≠sb) (q2:tb≠nb) (hx:a.length≤1000000)
  {BODY:ByteArray→(Option Ex→ad→Prop)→ad→Prop} {N:ad→Prop} {X:Nat→ad→Prop} {R:ad→Prop} (Inv:Nat→ad→Prop) (M:Nat→Prop)
  (H:Inv 0 h) (d:∀k h1 h2,Inv k h1→h.size≤h1.size→Upd (fun b=>b=tb∨b=h.size∨b=h.size+1) h1 h2→Inv k h2)
  (hM:∀b,M b→b≠tb∧b≠sb∧b≠nb∧b≠h.size∧b≠h.size+1)
  (step:∀k w h1 (KK:Option Ex→ad→Prop),Inv k h1→h.size+2≤h1.size→(im 10 a)[k]? =some w→(∀h2,Inv (k+1) h2→Upd M h1 h2→KK none h2)→BODY (aG w) KK h1)
  (fin:∀h1,Inv (im 10 a).length h1→h1[h.size]? =some (.deferred (some []))→N h1):
  RangeP PG fv [.c .str] h (fun Jp bz (x:ByteArray) k K=>(K[(aM h+1)]? =some Jp∧At (Array.setIfInBounds K (aM h+1) bz) (fun h69=>BODY x k h69))) N X R:=by
 subst T;refine⟨fun lo hlo t=>⟨jM,#[],_,rfl,?_⟩⟩
 have zs:=bB hs;have zt:=bB ht;have zn:=bB hn;have k1:Upd No h ((h.push (.deferred (some []))).push (lo .ready none)):=(Upd.push No _ _).tr (Upd.push No _ _);have l2:((h.push (.deferred (some []))).push (lo .ready none))[h.size+1]? =some (lo .ready none):=by
  have:=mo (h.push (.deferred (some []))) (lo .ready none);rwa [Array.size_push]at this
 have l1:((h.push (.deferred (some []))).push (lo .ready none))[h.size]? =some (.deferred (some [])):=(Upd.push No _ _).get0 (mo h _);have i1:=d 0 _ _ H (au _) k1.wide;generalize (h.push (.deferred (some []))).push (lo .ready none)=h1 at k1 l2 l1 i1;have s1:=k1.get0 hs;have t1:=k1.get0 ht;have E:=k1.get0 hn;refine BL (.func (.yield (h.size+1)) #[] #[]) ⟨sb,0,none⟩ ⟨tb,0,none⟩ ⟨nb,0,none⟩ ?_
 unfold pF ez;refine⟨_,aW s1,af.2 ?_⟩
  have round:∀(k:Nat) (w:List UInt8) (h':ad) (KK:Bool→ad→Prop),Inv k h'→(im 10 a)[k]? =some w→h.size≤h'.size→h'[sb]? =some (.cells #[.string ⟨#[10]⟩] cn (0,0))→h'[nb]? =some (.cells #[.int .i64 0] Mu (0,0))→h'[h.size]? =some (.deferred (some []))→h'[h.size+1]? =some (lo .ready none)→∀v,h'[tb]? =some (.cells v cn (0,0))→
   (∀h2,Inv (k+1) h2→h.size≤h2.size→h2[sb]? =some (.cells #[.string ⟨#[10]⟩] cn (0,0))→h2[nb]? =some (.cells #[.int .i64 0] Mu (0,0))→h2[h.size]? =some (.deferred (some []))→h2[h.size+1]? =some (lo .ready none)→h2[tb]? =some (.cells v cn (0,0))→KK true h2)→HV PG (.func (.yield (h.size+1)) #[] #[]) [.string (aG w)] [.c .bool] KK h':=by
  intro k w h' KK hi hw Q sb' W u j v Z U;refine t (aG w) h' KK j ⟨j,?_⟩;have A:Upd (· =h.size+1) h' (h'.setIfInBounds (h.size+1) (lo .busy none)):=Upd.set _ _ rfl
  have lb:=jo (o:=lo .busy none) j;have zb:=A.size;refine bi ?_;generalize h'.setIfInBounds (h.size+1) (lo .busy none)=h2 at A lb zb;refine step k w h2 _ (d k _ _ hi Q (A.mono fun b y=>.inl (.inr (.inr y)))) (by have:=bB lb;omega) hw fun h3 V i=>?_
  have G:=i.get lb fun e=>(hM _ e).2.2.2.2 rfl
  refine⟨G,?_⟩;have s:Upd (· =h.size+1) h3 (h3.setIfInBounds (h.size+1) (lo .ready none)):=Upd.set _ _ rfl
  have D:=jo (o:=lo .ready none) G;have z3:=i.size;have F:=s.size;have E:sb≠h.size+1:=by omega
  have O:nb≠h.size+1:=by omega
  have n3:tb≠h.size+1:=by omega
  have n4:h.size≠h.size+1:=by omega
  simp only[Option.isNone_none,if_true];generalize h3.setIfInBounds (h.size+1) (lo .ready none)=J at s D F;exact U J (d (k+1) _ _ V (by omega) (s.mono fun b y=>.inl (.inr (.inr y)))) (by omega) (s.get (i.get (A.get sb' E) fun e=>(hM _ e).2.1 rfl) E) (s.get (i.get (A.get W O) fun e=>(hM _ e).2.2.1 rfl) O) (s.get (i.get (A.get u n4) fun e=>(hM _ e).2.2.2.1 rfl) n4) D (s.get (i.get (A.get Z n3) fun e=>(hM _ e).1 rfl) n3)
 refine LoopP.ghost (fun(g:Nat×List UInt8) (_:Unit) h'=>Inv g.1 h'∧(im 10 a).drop g.1=im 10 g.2∧g.2.length≤1000000∧h'[tb]? =some (.cells #[.string (aG g.2)] cn (0,0))∧h'[sb]? =some (.cells #[.string ⟨#[10]⟩] cn (0,0))∧h'[nb]? =some (.cells #[.int .i64 0] Mu (0,0))∧h'[h.size]? =some (.deferred (some []))∧h'[h.size+1]? =some (lo .ready none)∧h.size≤h'.size) (fun g=>g.2.length) (0,a) ⟨i1,rfl,hx,t1,s1,E,l1,l2,k1.size⟩ ?_
 rintro I ⟨k,r⟩ ⟨⟩ h' ⟨hi,c,hr,f,z,B,u,j,Q⟩ hI;simp only at hi c hr f;refine⟨_,aW f,_,aW z,JP ?_⟩;rw[show(aG r).data.toList=r from by simp]
 by_cases hm:(10:UInt8)∈r
 ·obtain⟨p,q,rfl,hp,n⟩:=G3 10 r hm
  rw[yZ hp]at c;have S:(im 10 a)[k]? =some p:=by
   have:=congrArg (fun l=>l[0]?) c
   simpa using this
  rw[n];refine aF (fun H=>absurd H (by omega)) fun _=>⟨_,aW f,0,aW B,?_⟩
  have L:(p++10::q).length=p.length+(q.length+1):=by simp
  have es:(aG (p++10::q)).size=p.length+(q.length+1):=by rw[ci,L]
  have e4:ac .i64 ((p.length:Int)+0)=(p.length:Int):=by rw[kD (by omega)];omega
  have e5:ac .i64 ((p.length:Int)+((⟨#[10]⟩:ByteArray).size:Int))=((p.length+1:Nat):Int):=by rw[show((⟨#[10]⟩:ByteArray).size:Int)=1 from rfl,kD (by omega)];omega
  rw[e4,es,ak,Vf];refine⟨⟨by omega,by omega⟩,round k p h' _ hi S Q z B u j _ f fun J C F s5 n5 d5 D P=>af.2 ⟨_,aW P,_,aW s5,?_⟩⟩
  rw[e5,es,ak];have er:(aG (p++10::q)).extract (p.length+1) (p.length+(q.length+1))=aG q:=by
   have:=Ve (p++ [10]) q (p.length+(q.length+1)) (by simp<;>omega)
   rw[List.append_assoc]at this;simpa using this
  rw[er];refine⟨⟨by omega,by omega⟩,F6 ⟨iM P (by simp),vC P fun h6 Y m=>?_⟩⟩
  have E:sb≠tb:=fun e=>q1 e.symm
  have O:nb≠tb:=fun e=>q2 e.symm
  refine hI (k+1,q) () h6 ⟨d _ _ _ C F (m.mono fun b y=>.inl (.inl y)),?_,by simp only;omega,Y,m.get s5 E,m.get n5 O,m.get d5 (show ¬h.size=tb by omega),m.get D (show ¬h.size+1=tb by omega),bv F m.size⟩ (by simp only;omega)
  have:=congrArg List.tail c;rw[List.tail_drop]at this;exact this
 ·rw[wn hm]at c
  have S:(im 10 a)[k]? =some r:=by
   have:=congrArg (fun l=>l[0]?) c
   simpa using this
  have hl:(im 10 a).length=k+1:=by
   have:=congrArg List.length c;simp only[List.length_drop,List.length_singleton]at this;omega
  have n:Lib.indexByte r 10<0:=by rw[Nz hm];decide
  refine aF (fun _=>⟨_,aW f,round k r h' _ hi S Q z B u j _ f fun J C F s5 n5 d5 D P=>?_⟩) fun H=>absurd n H
  have s:Upd (· =h.size+1) J (J.setIfInBounds (h.size+1) (lo .exhausted none)):=Upd.set _ _ rfl
  refine⟨.ready,none,by decide,D,?_⟩
  refine fin _ ?_ (s.get d5 (show ¬h.size=h.size+1 by omega))
  rw[hl];exact d (k+1) _ _ C F (s.mono fun b y=>.inl (.inr (.inr y)))
end Go.Proofs
namespace Go.Proofs
open Go Go.Lift
theorem Y7:mr [48]=some 0:=by
 have:mr (dJ 0)=some 0:=Cg (by omega);rw[ot (by omega)]at this;exact this
theorem Y6:mr [49]=some 1:=by
 have:mr (dJ 1)=some 1:=Cg (by omega);rw[ot (by omega)]at this;exact this
abbrev GU:List UInt8:= [109,97,105,110]
theorem GT:fj (aG GU)=true:=by decide+kernel
theorem Q3:iP [54,49]=some [97]:=by decide+kernel
theorem Wl:iP [51,49]=some [49]:=by decide+kernel
abbrev JI:List UInt8:= [99,114,101,97,116,101,32,109,97,105,110,32,48]
abbrev JG:List UInt8:= [112,117,116,32,109,97,105,110,32,54,49,32,51,49]
abbrev JH:List UInt8:= [103,101,116,32,49,32,54,49]
abbrev Nq:List UInt8:= [111,112,101,110,32,114,97,100,105,120,32,48,32,48,32,48]
theorem S7:im 32 Nq= [[111,112,101,110],[114,97,100,105,120],[48],[48],[48]]:=by decide+kernel
theorem S9:im 32 JI= [[99,114,101,97,116,101],GU,[48]]:=by decide+kernel
theorem S6:im 32 JG= [[112,117,116],GU,[54,49],[51,49]]:=by decide+kernel
theorem S8:im 32 JH= [[103,101,116],[49],[54,49]]:=by decide+kernel
theorem NW:im 10 (Nq++10::(JI++10::(JG++10::JH)))= [Nq,JI,JG,JH]:=by decide+kernel
theorem Pm:([98,105]:List UInt8).foldl (fun x p=>Q6 p x) (([GU,[48]],true),rS 0)=(([],true),ZG (ZH (rS 0) (aG GU)) 0):=by
 simp[Q6,gJ,eC,bX,Y7,GT,qz]
theorem Pk:([98,107,118]:List UInt8).foldl (fun x p=>Q6 p x) (([GU,[54,49],[51,49]],true),rS 4)=(([],true),Z4 (ZF (ZH (rS 4) (aG GU)) (aG [97])) (aG [49])):=by
 simp[Q6,gJ,bw,bX,Q3,Wl,GT]
theorem Pl:([105,107]:List UInt8).foldl (fun x p=>Q6 p x) (([[49],[54,49]],true),rS 10)=(([],true),ZF (ZG (rS 10) 1) (aG [97])):=by
 simp[Q6,bw,eC,bX,Q3,Y6,qz]
theorem Qa{k:Nat}{kd:Int}{w c:List UInt8}(b:formsL[k]? =some (kd,w,c)):∀j f,j<k→formsL[j]? =some f→f.2.1≠w:=by
 have key:∀i j:Fin 26,j.val<i.val→(formsL.getD j.val (0,[],[])).2.1≠(formsL.getD i.val (0,[],[])).2.1:=by decide+kernel
 intro j f e a;have d:k<26:=(List.getElem?_eq_some_iff.1 b).1;have:=key ⟨k,d⟩ ⟨j,by omega⟩ e
 rw[fa,fa,b,a]at this;exact this
end Go.Proofs
namespace Go.Proofs
open Go Go.Lift
theorem Yo{W:Nat→Prop}{h:ad}{g sp i:Nat}{sm a:Option Addr}{last:Int}{s:VS}(v:VaultAt W h g s)(b:h[sp]? =some (.cells (O9 g (sm.map (·.block)) last a).toArray dB (0,0))) (e1:s.B= []) (e2:s.L= []) (hM:∀y,s.M y→y<h.size) (l:Laid h) (u:4≤h.size)
  (hd:h[i]? =some (.cells #[.pointer (some ⟨sp,0,none⟩)] hE (0,0))) {K:ByteArray→ad→Prop}
  (m:∀f d h',Upd No h f→Upd s.M f d→VaultAt W d g {s with B:= [(rG,0)]}→Upd No d h'→K ⟨#[111,107]⟩ h'):
  HC PG ie [.pointer (some ⟨i,0,none⟩),.string (aG JI)] [.c .str] K h:=by
 refine Hp (by decide) S9 (by decide) (by decide) (fun x hx=>by rcases ar.1 hx with rfl|hx; · decide
   rcases ar.1 hx with rfl|hx; · decide
   cases hx) (k:=0) rfl (Qa rfl) (fun p c=>by rcases ar.1 c with rfl|c; · exact .inl rfl
    rcases ar.1 c with rfl|c; · exact .inr (.inr (.inr (.inr (.inl rfl))))
    cases c) Pm l u hd fun f ob k1 z w n=>?_
 refine NQ (v.upd0 k1) (k1.get0 b) rfl fun d j q=>?_
 rw[e1,e2]at*;refine⟨vc (j.get n fun e=>by have:=hM _ e;omega) 0,T5 rfl fun t o=>m f d t k1 j q o⟩
end Go.Proofs
namespace Go.Proofs
open Go Go.Lift
theorem Ym{W:Nat→Prop}{h:ad}{o sp q:Nat}{sm:Option Nat}{f:Option Addr}{last:Int}{gp gm tm bm nm:Nat}{kd:Int}{t:Tr}(v:VaultAt W h o ⟨gp,gm,tm,bm,nm,kd,⟨0,0,0⟩,t,[],1,[],[(rG,0)],[]⟩)(b:h[sp]? =some (.cells (O9 o sm last f).toArray dB (0,0))) (i:¬VS.M ⟨gp,gm,tm,bm,nm,kd,⟨0,0,0⟩,t,[],1,[],[(rG,0)],[]⟩ sp)
  (hM:∀y,VS.M ⟨gp,gm,tm,bm,nm,kd,⟨0,0,0⟩,t,[],1,[],[(rG,0)],[]⟩ y→y<h.size) (l:Laid h) (E:4≤h.size)
  (hd:h[q]? =some (.cells #[.pointer (some ⟨sp,0,none⟩)] hE (0,0))) {K:ByteArray→ad→Prop}
  (F:∀a,Upd (VS.M ⟨gp,gm,tm,bm,nm,kd,⟨0,0,0⟩,t,[],1,[],[(rG,0)],[]⟩) h a→Laid a)
  (u:∀g a h' j,Upd No h g→Upd (VS.M ⟨gp,gm,tm,bm,nm,kd,⟨0,0,0⟩,t,[],1,[],[(rG,0)],[]⟩) g a→VaultAt W a o ⟨gp,gm,tm,bm,nm,kd,⟨0,0,0⟩,t,[(1,[])],2,[(1,(j,[(⟨#[97]⟩,⟨#[49]⟩)]))],[(rG,1)],[]⟩→Upd No a h'→K (((⟨#[118,101,114,115,105,111,110,32]⟩:ByteArray)++aG (dJ 1))++(⟨#[]⟩:ByteArray)) h'):
  HC PG ie [.pointer (some ⟨q,0,none⟩),.string (aG JG)] [.c .str] K h:=by
 refine Hp (by decide) S6 (by decide) (by decide) (fun x hx=>by
  rcases ar.1 hx with rfl|hx
  ·decide
  rcases ar.1 hx with rfl|hx
  ·decide
  rcases ar.1 hx with rfl|hx
  ·decide
  cases hx) (k:=4) rfl (Qa rfl) (fun p d=>by
  rcases ar.1 d with rfl|d
  ·exact .inl rfl
  rcases ar.1 d with rfl|d
  ·exact .inr (.inr (.inl rfl))
  rcases ar.1 d with rfl|d
  ·exact .inr (.inr (.inr (.inl rfl)))
  cases d) Pk l E hd fun g ob k1 G H w=>?_
 refine Vm (v.upd0 k1) (k1.get0 b) i rfl (hd:=0) rfl (.inl rfl) (N:=0) (by omega) (fun B c=>?_) (by decide) (by decide) (id:=1) (show(mc [] 1 (nz [0])).1=(1,0) by decide) fun a B j c m s=>?_
 ·rcases c with⟨_,rfl⟩|⟨c,_⟩
  ·exact⟨jZ,au _,fun _ h=>by cases h⟩
  ·exact absurd rfl c
 have D:B.2= []:=by
  rcases c with⟨_,rfl⟩|⟨c,_⟩
  ·rfl
  ·exact absurd rfl c
 rw[D]at s;have A:Laid a:=F a (k1.wide.tr m);exact⟨vc (m.get w fun e=>by have:=hM _ e;omega) 0,T4 (n:=1) rfl (by omega) rfl A fun C z=>u g a C j k1 m s z⟩
theorem Yn{W:Nat→Prop}{h:ad}{i sp f:Nat}{sm:Option Nat}{d:Option Addr}{last:Int}{gp gm tm bm nm:Nat}{kd:Int}{t j:Tr}(v:VaultAt W h i ⟨gp,gm,tm,bm,nm,kd,⟨0,0,0⟩,t,[(1,[])],2,[(1,(j,[(⟨#[97]⟩,⟨#[49]⟩)]))],[(rG,1)],[]⟩)(b:h[sp]? =some (.cells (O9 i sm last d).toArray dB (0,0))) (l:Laid h) (s:4≤h.size)
  (hd:h[f]? =some (.cells #[.pointer (some ⟨sp,0,none⟩)] hE (0,0))) {K:ByteArray→ad→Prop}
  (m:∀h',Upd No h h'→K (((⟨#[105,115,32]⟩:ByteArray)++aG (lI [49]))++(⟨#[]⟩:ByteArray)) h'):
  HC PG ie [.pointer (some ⟨f,0,none⟩),.string (aG JH)] [.c .str] K h:=by
 refine Hp (by decide) S8 (by decide) (by decide) (fun x hx=>by
  rcases ar.1 hx with rfl|hx
  ·decide
  rcases ar.1 hx with rfl|hx
  ·decide
  cases hx) (k:=10) rfl (Qa rfl) (fun p e=>by
  rcases ar.1 e with rfl|e
  ·exact .inr (.inr (.inr (.inr (.inl rfl))))
  rcases ar.1 e with rfl|e
  ·exact .inr (.inr (.inl rfl))
  cases e) Pl l s hd fun w ob k1 y u n=>?_
 have c:∀B,BaseOf ⟨gp,gm,tm,bm,nm,kd,⟨0,0,0⟩,t,[(1,[])],2,[(1,(j,[(⟨#[97]⟩,⟨#[49]⟩)]))],[(rG,1)],[]⟩ 1 B→B.2= [(⟨#[97]⟩,⟨#[49]⟩)]:=fun B a=>by
  rcases a with⟨a,_⟩|⟨_,a⟩
  ·cases a
  ·cases a;rfl
 refine Vn (v.upd0 k1) (k1.get0 b) rfl (.inr (show(1:Int)∈ids [(1,[])] by decide)) (fun B a=>?_) fun z B a g=>?_
 ·rw[c B a];exact⟨List.pairwise_singleton _ _,by simp⟩
 rw[c B a];exact⟨vc (g.get0 n) 0,RV (v:=⟨#[49]⟩) rfl rfl rfl (by decide) fun q o=>m q ((k1.tr g).tr o)⟩
end Go.Proofs
namespace Go.Proofs
open Go Go.Lift
theorem Vr(x:ByteArray)(n:Nat):(x.extract 0 n).size≤n:=by rw[pP];omega
end Go.Proofs
namespace Go.Proofs
open Go Go.Lift
theorem Xv{h:ad}{b:Nat}{c c':Array Value}{t:TypeId}{v:Value}{k:ad→Prop}(d:h[b]? =some (.cells c t (0,0))) (hi:0<c.size) (e:c.setIfInBounds 0 v=c') (g:∀h',h'[b]? =some (.cells c' t (0,0))→Upd (· =b) h h'→k h'):Wr h ⟨b,0,none⟩∧At (hset h ⟨b,0,none⟩ v) k:=
 ⟨iM d hi,vC d fun h' a f=>g h' (e▸a) f⟩
abbrev Uk(x:ByteArray):List Value:= [.string x]
theorem Uj(x:ByteArray):(Uk x).length=1∧0<1:=⟨rfl,Nat.one_pos⟩
def KL(Z:Nat):Sp:=⟨(· <Z),fun _=>True,fun _ _ _=>trivial⟩
abbrev ans4:List ByteArray:= [⟨#[111,107]⟩,⟨#[111,107]⟩,⟨#[118,101,114,115,105,111,110,32,49]⟩,⟨#[105,115,32,51,49]⟩]
structure RunI(h0:ad)(db dv ov Z:Nat)(xs:List ByteArray)(h:ad)(sp vp:Nat)(s:VS)(sm:Option Nat)(pool:Option Addr)(so:SliceV):Prop where
 v:Vw [KL Z,A2 Uk 1 cn so xs] h vp s
 b:h[sp]? =some (.cells (O9 vp sm 0 pool).toArray dB (0,0))
 d:h[db]? =some (.cells #[.pointer (some ⟨sp,0,none⟩)] hE (0,0))
 dv:h[dv]? =some (.cells #[.pointer (some ⟨db,0,none⟩)] vm (0,0))
 o:h[ov]? =some (.cells #[.slice so.a so.len so.cap] KB (0,0))
 zs:Z≤sp
 sM:¬s.M sp
 nso:¬Go.Proofs.sb so sp
 zM:∀y,s.M y→Z≤y
 zo:∀y,Go.Proofs.sb so y→Z≤y
 k:Upd No h0 h
section
variable {h0 h h':ad} {db dv ov Z:Nat} {xs:List ByteArray} {sp vp:Nat} {s s':VS} {sm:Option Nat} {pool:Option Addr} {so:SliceV} {M:Nat→Prop}
theorem RunI.low(r:RunI h0 db dv ov Z xs h sp vp s sm pool so)(k:Upd M h h')(hM:∀y,M y→y<Z∧y≠db∧y≠dv∧y≠ov∧h0.size≤y):RunI h0 db dv ov Z xs h' sp vp s sm pool so:=
 ⟨r.v.set (i:=0) (p':=KL Z) rfl k (fun y a=>.inl (hM y a).1) trivial fun y a=>⟨.inl a,aO (r.v.own.lt (KL Z) (aN ..) y a) k.size⟩,
  k.get r.b fun e=>by have:=(hM _ e).1;have:=r.zs;omega,k.get r.d fun e=>(hM _ e).2.1 rfl,k.get r.dv fun e=>(hM _ e).2.2.1 rfl,k.get r.o fun e=>(hM _ e).2.2.2.1 rfl,r.zs,r.sM,r.nso,r.zM,r.zo,r.k.trans k fun y a=>.inr (hM y a).2.2.2.2⟩
theorem RunI.up0(r:RunI h0 db dv ov Z xs h sp vp s sm pool so)(k:Upd No h h'):RunI h0 db dv ov Z xs h' sp vp s sm pool so:=r.low k fun _ h=>h.elim
theorem RunI.ed(r:RunI h0 db dv ov Z xs h sp vp s sm pool so)(b:h0.size≤Z)(hd:db<Z)(c:dv<Z)(d:ov<Z)(k:Upd s.M h h')(v:VaultAt (fun y=>s.M y∨AL [KL Z,A2 Uk 1 cn so xs] y) h' vp s')(e:s'.M=s.M):RunI h0 db dv ov Z xs h' sp vp s' sm pool so:=
 ⟨r.v.ed k v e,k.get r.b r.sM,k.get r.d fun e=>by have:=r.zM _ e;omega,k.get r.dv fun e=>by have:=r.zM _ e;omega,k.get r.o fun e=>by have:=r.zM _ e;omega,r.zs,by rw[e];exact r.sM,r.nso,fun y a=>r.zM y (by rw[←e];exact a),r.zo,r.k.trans k fun y a=>.inr (bv b (r.zM y a))⟩
theorem RunI.say(r:RunI h0 db dv ov Z xs h sp vp s sm pool so)(H:h0.size≤Z)(hd:db<Z)(F:dv<Z)(G:ov<Z)(L:ov≠db)(K:ov≠dv)(N:h0.size≤ov)(I:xs.length+1≤1000000){x:ByteArray}{k:ad→Prop}
  (E:∀h' s',RunI h0 db dv ov Z (xs++ [x]) h' sp vp s sm pool s'→Upd (fun y=>y=ov∨Z≤y) h h'→k h'):
  aD h ⟨ov,0,none⟩=some (.slice so.a so.len so.cap)∧At (hnew h [.string x] cn) (fun g=>(aD g ⟨ov,0,none⟩=some (.slice so.a so.len so.cap)∧∃xs21,SRow g (some (aH h)) (1*1) xs21∧
   AppP (some [.string (⟨#[]⟩:ByteArray)]) 1 16 cn so.a so.len so.cap 1 xs21 g (fun m n=>(Wr n ⟨ov,0,none⟩∧At (hset n ⟨ov,0,none⟩ (.slice m.a m.len m.cap)) k)))):=by
 refine⟨aW r.o,pe fun g C j=>?_⟩
 have c:=r.up0 j;have J:=j.size;have D:∀y,y<Z→y<h.size:=fun y a=>r.v.own.lt (KL Z) (aN ..) y a
 refine⟨aW c.o,Yu (f:=Uk) (t:=x) (b:=h.size) (c.v.own.get (i:=1) rfl) C rfl rfl ⟨by decide,by decide⟩ I fun s' n os u q=>?_⟩
 have A:=c.v.slice (i:=1) rfl u os q;have z:∀y,sb s' y→Z≤y:=fun y a=>(q y a).1.elim (r.zo y) fun e=>by
  rcases Nat.lt_or_ge y Z with h|h
  ·have:=D y h;omega
  ·exact h
 have v:=u.get c.b r.nso;have low:∀{y:Nat},y<Z→¬sb so y:=fun a e=>by have:=r.zo _ e;omega
 have o:=u.get c.o (low G);refine Xv (c':= #[.slice s'.a s'.len s'.cap]) o (by simp) rfl fun w B d=>E w s' ⟨A.set (i:=0) (p:=KL Z) (p':=KL Z) rfl d (fun y a=>.inl (by have a:y=ov:=a;show y<Z;omega)) trivial fun y a=>⟨.inl a,?_⟩,d.get v (show ¬sp=ov by have:=r.zs;omega),d.get (u.get c.d (low hd)) (show ¬db=ov by omega),d.get (u.get c.dv (low F)) (show ¬dv=ov by omega),B,r.zs,r.sM,?_,r.zM,z,?_⟩ ?_
 ·have:=D y a
  have:=u.size;have:=d.size;omega
 ·intro e
  rcases(q sp e).1 with e|e
  ·exact r.nso e
  ·have:=bB r.b;omega
 ·exact((r.k.tr j).trans u fun y a=>.inr (bv H (r.zo y a))).trans d fun y a=>.inr (by have a:y=ov:=a;omega)
 ·exact(j.wide.trans u fun y a=>.inl (.inr (r.zo y a))).trans d fun y a=>.inl (.inl a)
end
def Inv24(b:ad)(a dv c Z:Nat)(n:Nat)(h:ad):Prop:=
 (n=0∧h[a]? =some (.cells #[.pointer none] hE (0,0))∧h[dv]? =some (.cells #[.pointer (some ⟨a,0,none⟩)] vm (0,0))∧h[c]? =some (.cells #[.slice none 0 0] KB (0,0))∧Upd No b h)∨
  ∃sp vp gp gm tm bm nm t sm pool so,∃t':Tr,(n=1∧RunI b a dv c Z (ans4.take 1) h sp vp ⟨gp,gm,tm,bm,nm,1,⟨0,0,0⟩,t,[],1,[],[],[]⟩ sm pool so)∨
   (n=2∧RunI b a dv c Z (ans4.take 2) h sp vp ⟨gp,gm,tm,bm,nm,1,⟨0,0,0⟩,t,[],1,[],[(rG,0)],[]⟩ sm pool so)∨
   (n=3∧RunI b a dv c Z (ans4.take 3) h sp vp ⟨gp,gm,tm,bm,nm,1,⟨0,0,0⟩,t,[(1,[])],2,[(1,(t',[(⟨#[97]⟩,⟨#[49]⟩)]))],[(rG,1)],[]⟩ sm pool so)∨
   (n=4∧RunI b a dv c Z (ans4.take 4) h sp vp ⟨gp,gm,tm,bm,nm,1,⟨0,0,0⟩,t,[(1,[])],2,[(1,(t',[(⟨#[97]⟩,⟨#[49]⟩)]))],[(rG,1)],[]⟩ sm pool so)
theorem Inv24.low{j h h':ad}{g dv m Z n:Nat}{M:Nat→Prop}(i:Inv24 j g dv m Z n h)(k:Upd M h h')(hM:∀y,M y→y<Z∧y≠g∧y≠dv∧y≠m∧j.size≤y):Inv24 j g dv m Z n h':=by
 rcases i with⟨e,a,b,c,d⟩|⟨sp,q,gp,gm,tm,bm,nm,t,sm,f,p,s,i⟩
 ·exact .inl ⟨e,k.get a fun e=>(hM _ e).2.1 rfl,k.get b fun e=>(hM _ e).2.2.1 rfl,k.get c fun e=>(hM _ e).2.2.2.1 rfl,d.trans k fun y o=>.inr (hM y o).2.2.2.2⟩
 ·exact .inr ⟨sp,q,gp,gm,tm,bm,nm,t,sm,f,p,s,i.imp (fun e=>⟨e.1,e.2.low k hM⟩) fun i=>i.imp (fun e=>⟨e.1,e.2.low k hM⟩) fun i=>i.imp (fun e=>⟨e.1,e.2.low k hM⟩) fun e=>⟨e.1,e.2.low k hM⟩⟩
theorem ZS:(((⟨#[118,101,114,115,105,111,110,32]⟩:ByteArray)++aG (dJ 1))++(⟨#[]⟩:ByteArray))=⟨#[118,101,114,115,105,111,110,32,49]⟩:=by
 rw[ot (by omega)];decide+kernel
theorem aaB:(((⟨#[105,115,32]⟩:ByteArray)++aG (lI [49]))++(⟨#[]⟩:ByteArray))=⟨#[105,115,32,51,49]⟩:=by decide+kernel
theorem WC{D h:ad}{x dv v Z n:Nat}{w:List UInt8}(i:Inv24 D x dv v Z n h)(zh:Z≤h.size)(U:Laid D)(h04:4≤D.size)(K:D.size≤Z)(hd:x<Z)(I:dv<Z)(J:v<Z)(z:v≠x)(B:v≠dv)(C:D.size≤v)(ne4:D.size≤x)(S: [Nq,JI,JG,JH][n]? =some w) {k:ad→Prop}
  (T:∀h',Inv24 D x dv v Z (n+1) h'→Upd (fun y=>y=x∨y=v∨Z≤y) h h'→k h'):
  ∃v16:SliceV,aD h ⟨v,0,none⟩=some (.slice v16.a v16.len v16.cap)∧∃v17:Option Addr,aD h ⟨dv,0,none⟩=some (.pointer v17)∧
   HC PG ie [.pointer v17,.string (aG w)] [.c .str] (fun(e18:ByteArray) H=>(aD H ⟨v,0,none⟩=some (.slice v16.a v16.len v16.cap)∧At (hnew H [.string e18] cn) (fun F=>(aD F ⟨v,0,none⟩=some (.slice v16.a v16.len v16.cap)∧∃xs21,SRow F (some (aH H)) (1*1) xs21∧
    AppP (some [.string (⟨#[]⟩:ByteArray)]) 1 16 cn v16.a v16.len v16.cap 1 xs21 F (fun E P=>(Wr P ⟨v,0,none⟩∧At (hset P ⟨v,0,none⟩ (.slice E.a E.len E.cap)) k)))))) h:=by
 rcases i with⟨rfl,a,b,c,d⟩|⟨sp,L,gp,gm,tm,bm,nm,t,sm,A,so,W,i⟩
 ·cases S
  refine⟨eA,aW c,_,aW b,S4 (W0:=(· <Z)) (by decide) S7 (fun y f=>aO f zh) a (U.upd0 d) (by omega) fun h2 h' sp L gp gm tm bm nm t sm pb cb va bs hM q O b6 G=>?_⟩
  have zM:∀y,VS.M ⟨gp,gm,tm,bm,nm,1,⟨0,0,0⟩,t,[],1,[],[],[]⟩ y→Z≤y:=fun y f=>bv zh (hM y f).1
  have zsp:Z≤sp:=by have:=(hM gp (.inl rfl));omega
  have z2:=O.size;have z6:=G.size;have r:RunI D x dv v Z [] h' sp L ⟨gp,gm,tm,bm,nm,1,⟨0,0,0⟩,t,[],1,[],[],[]⟩ (some sm) (some ⟨pb,0,none⟩) eA:=by
   have X:∀y,AL [KL Z,A2 Uk 1 cn eA []] y→y<Z:=fun y ⟨a,s,f⟩=>by
    rcases ar.1 s with rfl|s
    ·exact f
    ·rw[aQ.1 s]at f
     exact absurd f (KG y)
   refine⟨⟨⟨fun a s=>?_,fun a s y f=>?_,fun p j a b s hb Y y f hy'=>?_⟩,va.re G (fun y f=>.inl ⟨.inl (by have f:y=x:=f;show y<Z;omega),fun e=>by have:=zM y e;have f:y=x:=f;omega⟩) (fun y f=>?_) fun y f=>.inl f,fun y f e=>?_⟩,G.get bs (show ¬sp=x by omega),b6,G.get (O.get0 b) (show ¬dv=x from ?_),G.get (O.get0 c) z,zsp,fun e=>?_,KG sp,zM,fun y f=>absurd f (KG y),?_⟩
   ·rcases ar.1 s with rfl|s
    ·exact trivial
    ·rw[aQ.1 s];exact OwnS.nil Uj
   ·have:=X y ⟨a,s,f⟩;omega
   ·have e:∀{j:Nat} {a:Sp},[KL Z,A2 Uk 1 cn eA []][j]? =some a→a.T y→j=0:=fun{j a} s f=>by
     rcases j with _|_|j
     ·rfl
     ·cases s;exact absurd f (KG y)
     ·cases s
    exact Y ((e s f).trans (e hb hy').symm)
   ·rcases f with f|f
    ·exact⟨.inl (.inr f),by have:=va.g.lt y (.inr f);omega⟩
    ·have:=X y f
     exact⟨.inl (.inl this),by omega⟩
   ·have:=zM y e;have:=X y f;omega
   ·intro e;subst e
    rw[a]at b;cases b
   ·have:=(hM sp e).2;omega
   ·exact(d.tr O).trans G fun y f=>.inr (by have f:y=x:=f;omega)
  refine r.say K hd I J z B C (by decide) fun m s' g o=>T m (.inr ⟨sp,L,gp,gm,tm,bm,nm,t,some sm,some ⟨pb,0,none⟩,s',Dx,.inl ⟨rfl,g⟩⟩) ?_
  ·exact((O.wide.tr (G.mono fun y f=>.inl (.inl f)))).trans o fun y f=>.inl (.inr f)
 ·rcases i with⟨rfl,r⟩|⟨rfl,r⟩|⟨rfl,r⟩|⟨rfl,r⟩
  ·cases S
   have l:=U.upd0 r.k;refine⟨so,aW r.o,_,aW r.dv,Yo (sm:=sm.map fun b=>⟨b,0,none⟩) r.v.v (by cases sm<;>exact r.b) rfl rfl (fun y f=>r.v.lt y (.inl f)) l (by have:=r.k.size;omega) r.d fun h1' V h' k1 R v2 N=>?_⟩
   have Q:=((r.up0 k1).ed K hd I J R v2 rfl).up0 N;refine Q.say K hd I J z B C (by decide) fun m s' g o=>T m (.inr ⟨sp,L,gp,gm,tm,bm,nm,t,sm,A,s',Dx,.inr (.inl ⟨rfl,g⟩)⟩) ?_
   ·exact(((k1.wide.tr (R.mono fun y f=>.inl (.inr (.inr (r.zM y f))))).tr N.wide)).trans o fun y f=>.inl (.inr f)
  ·cases S
   have l:=U.upd0 r.k;refine⟨so,aW r.o,_,aW r.dv,Ym r.v.v r.b r.sM (fun y f=>r.v.lt y (.inl f)) l (by have:=r.k.size;omega) r.d (fun h2 u=>l.upd u fun y f=>by have:=r.zM y f;omega) fun h1' V h' W k1 R v2 N=>?_⟩
   have Q:=((r.up0 k1).ed K hd I J R v2 rfl).up0 N;rw[ZS];refine Q.say K hd I J z B C (by decide) fun m s' g o=>T m (.inr ⟨sp,L,gp,gm,tm,bm,nm,t,sm,A,s',W,.inr (.inr (.inl ⟨rfl,g⟩))⟩) ?_
   ·exact(((k1.wide.tr (R.mono fun y f=>.inl (.inr (.inr (r.zM y f))))).tr N.wide)).trans o fun y f=>.inl (.inr f)
  ·cases S
   have l:=U.upd0 r.k;refine⟨so,aW r.o,_,aW r.dv,Yn r.v.v r.b l (by have:=r.k.size;omega) r.d fun h' k1=>?_⟩
   have Q:=r.up0 k1;rw[aaB];refine Q.say K hd I J z B C (by decide) fun m s' g o=>T m (.inr ⟨sp,L,gp,gm,tm,bm,nm,t,sm,A,s',W,.inr (.inr (.inr ⟨rfl,g⟩))⟩) ?_
   ·exact k1.wide.trans o fun y f=>.inl (.inr f)
  ·cases S
theorem RH{W:Nat→Prop}{h:ad}{s:SliceV}{xs:List ByteArray}(d:Sl Uk 1 W h s xs){i:Nat}(hi:i<xs.length):∃a,s.a=some a∧aD h (adr a (i*1))=some (.string xs[i]):=by
 obtain⟨a,b,_,c⟩:=d.at0 (g:=fun w=>Value.string w) (ax hi)
 exact⟨a,b,c⟩
theorem Vg{W W':Nat→Prop}{h:ad}{s s':SliceV}{xs:List ByteArray}(f:Sl Uk 1 W h s xs)(g:Sl Uk 1 W' h s' xs)(o:xs.length≤4611686018427387904){K:Bool→ad→Prop}(k:K true h):HC PG j2 [.slice s.a s.len s.cap,.slice s'.a s'.len s'.cap] [.c .bool] K h:=by
 refine vG s s' ?_;unfold nZ bf cU;have m:=f.len;have n:=g.len;refine CondP.intro (fun e=>absurd e (by rw[m,n];simp)) fun _=>?_
 refine LoopP.ghost (fun(i:Nat) (t:Int) h'=>t=(i:Int)∧h'=h∧i≤xs.length) (fun i=>xs.length-i) 0 ⟨rfl,rfl,bc _⟩ ?_
 rintro I i t h' ⟨rfl,rfl,hi⟩ q;refine aF (fun b=>?_) fun _=>k
 have b:i<xs.length:=by omega
 obtain⟨a,j,p⟩:=RH f b;obtain⟨a',d,c⟩:=RH g b;refine⟨⟨by omega,by omega⟩,a,j,_,p,⟨by omega,by omega⟩,a',d,_,c,?_⟩
 rw[di,decide_eq_true rfl,cM b o];exact af.2 (q (i+1) _ _ ⟨rfl,rfl,b⟩ (by omega))
theorem Qm{h:ad}{K:Bool→ad→Prop}(l:Laid h)(h4:4≤h.size)(P:∀h',Upd No h h'→K true h'):HC PG yP [] [.c .bool] K h:=by
 refine On ?_;unfold E9 vl1;have run:∀{K:SliceV→ad→Prop},(∀h' s,OwnS Uk 1 cn (sb s) h' s ans4→Upd No h h'→K s h')→HC PG Bl [.string (aG (Nq++10::(JI++10::(JG++10::JH))))] [.c .slice] K h:=by
  intro K N;refine QE _ ?_;unfold H1 ez nN;refine QF ?_;unfold H2;refine pe fun g b1 k1=>pe fun h3 b3 p=>?_
  refine Xv (c':= #[.pointer (some ⟨h.size,0,none⟩)]) b3 (by simp) rfl fun c O A=>pe fun h5 I L=>?_
  refine FC _ _ ?_;unfold xN XT;refine FA _ _ _ ?_;unfold xL;refine pe fun h6 H z=>pe fun h7 G o=>pe fun d J j=>?_
  have z1:=bB b1;have z3:=bB b3;have z5:=bB I;have z6:=bB H;have z7:=bB G;have z8:=bB J;have y1:=k1.size;have y3:=p.size;have y4:=A.size;have y5:=L.size;have y6:=z.size;have y7:=o.size;have y8:=j.size;have x:Upd No h c:=(k1.tr p).own A y1;have f:=((L.tr z).tr o).tr j;have q:=x.tr f;have R:=f.get0 (A.get (p.get0 b1) (show ¬h.size=g.size by omega))
  have Q:=f.get0 O;have Y:=((z.tr o).tr j).get0 I;have Z:=(o.tr j).get0 H;have S:=j.get0 G;have low:∀b,(b=h5.size∨b=d.size∨b=d.size+1)→b<d.size+2∧b≠h.size∧b≠g.size∧b≠c.size∧h.size≤b:=fun b C=>by
   rcases C with rfl|rfl|rfl<;>omega
  refine Po rfl S Z J (by omega) (by omega) (by decide) (Inv24 h h.size g.size c.size (d.size+2)) (fun b=>b=h.size∨b=c.size∨d.size+2≤b) (.inl ⟨rfl,R,Q,Y,q⟩) (fun n a X i _ u=>i.low u low) (fun b C=>by omega) (fun n w a KK i hz F B=>?_) fun a i V=>?_
  ·rw[NW]at F
   exact WC i hz l h4 (by omega) (by omega) (by omega) (by omega) (by omega) (by omega) (by omega) (by omega) F B
  ·rw[NW]at i
   rcases i with⟨e,_⟩|⟨sp,vp,gp,gm,tm,bm,nm,t,sm,E,k,t',⟨e,_⟩|⟨e,_⟩|⟨e,_⟩|⟨_,r⟩⟩
   ·cases e
   ·cases e
   ·cases e
   ·cases e
   have u:=Upd.set (M:=(· =d.size)) a (b:=d.size) (.deferred none) rfl
   have zo:∀y,sb k y→¬y=d.size:=fun y m=>by have:=r.zo y m;omega
   refine⟨k,aW r.o,V,bi (N _ k ((r.v.own.get (i:=1) rfl:OwnS Uk 1 cn (sb k) a k ans4).upd u zo) (r.k.trans u fun y m=>.inr (by have m:y=d.size:=m;omega)))⟩
 refine run fun g s os k1=>pe fun T b2 D=>?_
 refine Vg (W:=No) (W':=No) (s':=⟨some ⟨g.size,0,none⟩,4,4⟩) (xs:=ans4) ((os.upd D fun _ _ h=>h).sl fun _ _ _ h=>h) ?_ (by decide) (P T (k1.tr D))
 exact⟨rfl,Uj,fun _=>⟨⟨g.size,0,none⟩,rfl,fun h=>h,pj b2 fun i v U=>by rw[Nat.zero_add,List.getElem?_toArray];exact U⟩⟩
end Go.Proofs
namespace Go.Proofs
open Go Go.Lift Go.RowKit
theorem PA{W W':Nat→Prop}{h:ad}{s s':SliceV}{l:List Pr}(f:Sl jz 2 W h s l)(g:Sl jz 2 W' h s' l)(q:l.length≤1000000){K:Bool→ad→Prop}(m:K true h):HC PG Bi [.slice s.a s.len s.cap,.slice s'.a s'.len s'.cap] [.c .bool] K h:=by
 refine QB s s' ?_;unfold HX cU bP;have n:=f.len;have o:=g.len;refine CondP.intro (fun e=>absurd e (by rw[n,o];simp)) fun _=>?_
 refine LoopP.ghost (fun(i:Nat) (t:Int) h'=>t=(i:Int)∧h'=h∧i≤l.length) (fun i=>l.length-i) 0 ⟨rfl,rfl,bc _⟩ ?_
 rintro I i t h' ⟨rfl,rfl,hi⟩ p;refine aF (fun b=>?_) fun _=>m
 have b:i<l.length:=by omega
 obtain⟨a,k,_,j⟩:=f.at (ax b);obtain⟨a',d,_,c⟩:=g.at (ax b);refine⟨⟨by omega,by omega⟩,a,k,_,j 0 _ rfl,_,j 1 _ rfl,⟨by omega,by omega⟩,a',d,_,c 0 _ rfl,_,c 1 _ rfl,?_⟩
 rw[di,di,decide_eq_true rfl,decide_eq_true rfl];rw[cM b (by omega)];exact af.2 (p (i+1) _ _ ⟨rfl,rfl,b⟩ (by omega))
theorem Pz{W W':Nat→Prop}{h:ad}{s s':SliceV}{l:List Ch}(g:Sl sg 5 W h s l)(j:Sl sg 5 W' h s' l)(q:l.length≤1000000){K:Bool→ad→Prop}(m:K true h):HC PG Bh [.slice s.a s.len s.cap,.slice s'.a s'.len s'.cap] [.c .bool] K h:=by
 refine QA s s' ?_;unfold HW cU bP cJ;have n:=g.len;have o:=j.len;refine CondP.intro (fun e=>absurd e (by rw[n,o];simp)) fun _=>?_
 refine LoopP.ghost (fun(i:Nat) (t:Int) h'=>t=(i:Int)∧h'=h∧i≤l.length) (fun i=>l.length-i) 0 ⟨rfl,rfl,bc _⟩ ?_
 rintro I i t h' ⟨rfl,rfl,hi⟩ p;refine aF (fun c=>?_) fun _=>m
 have c:i<l.length:=by omega
 obtain⟨a,k,_,d⟩:=g.at (ax c);obtain⟨a',f,_,b⟩:=j.at (ax c);refine⟨⟨by omega,by omega⟩,a,k,_,d 0 _ rfl,_,d 1 _ rfl,_,d 2 _ rfl,_,d 3 _ rfl,_,d 4 _ rfl,⟨by omega,by omega⟩,a',f,_,b 0 _ rfl,_,b 1 _ rfl,_,b 2 _ rfl,_,b 3 _ rfl,_,b 4 _ rfl,?_⟩
 rw[di,di,di,decide_eq_true rfl,decide_eq_true rfl,decide_eq_true rfl,beq_self_eq_true,beq_self_eq_true];rw[cM c (by omega)];exact af.2 (p (i+1) _ _ ⟨rfl,rfl,c⟩ (by omega))
theorem Za(n:Int):(n !=n)=false:=by simp
theorem YC(x:ByteArray):(!(x.toList==x.toList))=false:=by rw[di,decide_eq_true rfl];rfl
theorem neB(b:Bool):(!(b==b))=false:=by cases b<;>rfl
section
variable {d:OpD} {sp sc sp' sc':SliceV} {h:ad}
theorem R9(f:d.ps.length≤1000000)(b:d.cs.length≤1000000)(e:Sl jz 2 No h sp d.ps)(i:Sl jz 2 No h sp' d.ps)(j:Sl sg 5 No h sc d.cs)(m:Sl sg 5 No h sc' d.cs){K:Bool→ad→Prop}(c:∀h',Upd No h h'→K true h'):HC PG Bk [ON (pY d sp sc),ON (pY d sp' sc')] [.c .bool] K h:=by
 refine QD (pY d sp sc) (pY d sp' sc') ?_;unfold H0 aj bJ ah aZ aL DR RP;refine pe fun n b1 k1=>pe fun g b2 a=>?_
 have c1:=a.get0 b1;have k:=k1.tr a;refine Join.plain ⟨_,vc c1 0,_,vc b2 0,?_⟩;rw[Za];refine af.2 ⟨_,vc c1 1,_,vc b2 1,?_⟩;rw[YC];refine af.2 ⟨_,vc c1 2,_,vc b2 2,?_⟩;rw[YC];refine af.2 ⟨_,vc c1 3,_,vc b2 3,?_⟩;rw[YC];refine af.2 ⟨_,vc c1 4,_,vc b2 4,?_⟩;rw[YC];refine af.2 ⟨_,vc c1 5,_,vc b2 5,?_⟩;rw[Za];refine af.2 ⟨_,vc c1 6,_,vc b2 6,?_⟩
 rw[Za];refine af.2 ⟨_,vc c1 7,_,vc b2 7,?_⟩;rw[Za];refine af.2 ⟨_,vc c1 8,_,vc b2 8,?_⟩;rw[Za];refine af.2 ⟨_,vc c1 9,_,vc b2 9,?_⟩;rw[neB];refine af.2 ⟨_,vc c1 10,_,vc b2 10,?_⟩;rw[YC];refine af.2 ⟨_,vc c1 11,_,vc b2 11,?_⟩;rw[YC];refine af.2 ⟨_,vc c1 12,_,vc b2 12,?_⟩;rw[neB];refine af.2 ⟨sp,vc c1 13,sp',vc b2 13,PA (e.upd k fun _ h=>h.elim) (i.upd k fun _ h=>h.elim) f (aA.2 ⟨sc,vc c1 14,sc',vc b2 14,Pz (j.upd k fun _ h=>h.elim) (m.upd k fun _ h=>h.elim) b (c g k)⟩)⟩
theorem UU(n1:d.ps.length≤1000000)(n2:d.cs.length≤1000000)(h1:Sl jz 2 No h sp d.ps)(h2:Sl sg 5 No h sc d.cs){K:xp→ad→Prop}(hk:∀h' sp' sc',Sl jz 2 No h' sp' d.ps→Sl sg 5 No h' sc' d.cs→Upd No h h'→K (pY d sp' sc') h'):HC PG Hf [ON (pY d sp sc)] [.agg [.int .i64,.str,.str,.str,.str,.int .u32,.int .u32,.int .i64,.int .i64,.bool,.str,.str,.bool,.slice,.slice]] K h:=by
 refine VX (pY d sp sc) ?_;unfold Oz cU aj bJ ah aZ aL fx nv L8 DR bP cJ iA ez uf nO bM XV;refine pe fun u b1 k1=>pe fun k b2 Z=>?_
 have c1:=Z.get0 b1;refine⟨_,vc c1 0,_,vc c1 1,_,vc c1 2,_,vc c1 3,_,vc c1 4,_,vc c1 5,_,vc c1 6,_,vc c1 7,_,vc c1 8,_,vc c1 9,_,Aa c1 10 0,_,Aa c1 10 1,_,Aa c1 10 2,pe fun g3 b3 k3=>dd (c:=ia (rS 0)) (vs:=ia (pY {d with ps:= [],cs:= []} eA eA)) b3 rfl fun s b4 u4=>?_⟩
 have C:Upd No k s:=k3.own u4 (au _);have V:=(k1.tr Z).tr C;have zg1:=bB b1;have zg2:=bB b2;have zg4:=bB b4;have y1:=k1.size;have y2:=Z.size;have m4:MkO h u.size k.size s.size s {d with ps:= [],cs:= []} eA eA:=⟨b4,C.get0 b2,OwnS.nil gy,OwnS.nil mC,V⟩;have a4:=C.get0 c1;refine⟨sp,vc a4 13,?_⟩;have hl1:=h1.len;have hl2:=h2.len;have L:h.size≠k.size:=by omega
 have P:u.size≠k.size:=by omega
 refine LoopP.ghost (fun(i:Nat) (t:Int) h'=>t=(i:Int)∧i≤d.ps.length∧(∃x,MkO h u.size k.size s.size h' {d with ps:=d.ps.take i,cs:= []} x eA)∧h'[h.size]? =some (.cells (ia (pY d sp sc)).toArray aR (0,0))∧s.size≤h'.size) (fun i=>d.ps.length-i) 0 ⟨rfl,bc _,⟨eA,m4⟩,a4,au _⟩ ?_
 rintro I i t h' ⟨rfl,hi,⟨x,A⟩,J,zh⟩ R;have z':=bB A.o;refine aF (fun f=>Join.plain ?_) fun F=>?_
 ·have f:i<d.ps.length:=by have:(i:Int)<(sp.len:Int):=f;omega
  obtain⟨a,U,_,v⟩:=(h1.upd A.k fun _ h=>h.elim).at (ax f)
  have G:=Eu f;generalize d.ps[i]=p at v G;refine⟨⟨by omega,by omega⟩,a,U,p.1,by rw[ak];exact v 0 _ rfl,p.2,by rw[ak];exact v 1 _ rfl,pe fun X B E=>dd (c:= [.string ⟨#[]⟩,.string ⟨#[]⟩]) (vs:=jz p) B rfl fun m j D=>?_⟩
  have q:Upd No h' m:=E.own D (au _);have m3:=A.up0 q;refine⟨x,vc m3.o 13,_,vc j 0,_,vc j 1,pe fun N b5 Q=>?_⟩
  have S:=m3.up0 Q;have z5:=q.size;have z6:=Q.size;have o1:OwnS jz 2 kV (fun _=>True) N ⟨some (aH m),1,1⟩ [p]:=⟨rfl,gy,au _,.inr ⟨m.size,[],rfl,trivial,b5,rfl⟩⟩
  refine⟨_,(o1.sl (W:=No) fun _ _ _ h=>h).srow,AppP.own (ys:= [p]) S.ps rfl rfl rfl rfl (by omega) (by show((d.ps.take i).length+1)*32≤_;rw[aY];omega) (show s.size≤N.size by omega) fun s' h6 o6 w=>?_⟩
  have Y:=w.get S.o (show ¬s.size≤k.size by omega)
  refine oz (c':=(ia (pY {d with ps:=d.ps.take i++ [p],cs:= []} s' eA)).toArray) Y (by simp) rfl fun h7 O n=>?_
  rw[cM f (by omega)];have z7:=w.size;have z8:=n.size;refine R (i+1) _ _ ⟨rfl,f,⟨s',?_⟩,n.get (w.get (((q.tr Q)).get0 J) (show ¬s.size≤h.size by omega)) L,by omega⟩ (by omega)
  rw[G];exact⟨O,n.get (w.get S.r (show ¬s.size≤u.size by omega)) P,o6.upd n fun y b e=>by have b:s.size≤y:=b;have e:y=k.size:=e;omega,OwnS.nil mC,(S.k.trans w fun y b=>.inr (by have b:s.size≤y:=b;omega)).trans n fun y b=>.inr (by have b:y=k.size:=b;omega)⟩
 have hi:i=d.ps.length:=by have:¬(i:Int)<(sp.len:Int):=F;omega
 rw[hi,bG]at A;clear R I;refine⟨sc,vc J 14,?_⟩;have S1:Sl jz 2 (fun y=>y=k.size∨y=u.size∨h'.size≤y) h' x d.ps:=A.ps.sl fun y b f e=>by have b:s.size≤y:=b;omega
 have kh:=A.k;refine LoopP.ghost (fun(i:Nat) (t:Int) g=>t=(i:Int)∧i≤d.cs.length∧(∃z,g[k.size]? =some (.cells (ia (pY {d with cs:=d.cs.take i} x z)).toArray YU (0,0))∧OwnS sg 5 gU (fun y=>h'.size≤y) g z (d.cs.take i))∧g[u.size]? =some (.cells (ia (rS 0)).toArray YU (0,0))∧g[h.size]? =some (.cells (ia (pY d sp sc)).toArray aR (0,0))∧Upd (fun y=>y=k.size) h' g) (fun i=>d.cs.length-i) 0 ⟨rfl,bc _,⟨eA,A.o,OwnS.nil mC⟩,A.r,J,Upd.refl _ _⟩ ?_
 rintro I i t g ⟨rfl,hi,⟨z,H,os⟩,cr,J,T⟩ R;have zu:=T.size;have ku:Upd No h g:=kh.trans T fun y b=>.inr (by have b:y=k.size:=b;omega)
 refine aF (fun f=>Join.plain ?_) fun F=>?_
 ·have f:i<d.cs.length:=by have:(i:Int)<(sc.len:Int):=f;omega
  obtain⟨a,U,_,v⟩:=(h2.upd ku fun _ h=>h.elim).at (ax f)
  have G:=Eu f;generalize d.cs[i]=c at v G;refine⟨⟨by omega,by omega⟩,a,U,c.1,by rw[ak];exact v 0 _ rfl,c.2.1,by rw[ak];exact v 1 _ rfl,c.2.2.1,by rw[ak];exact v 2 _ rfl,c.2.2.2.1,by rw[ak];exact v 3 _ rfl,c.2.2.2.2,by rw[ak];exact v 4 _ rfl,pe fun X B E=>dd (c:= [.string ⟨#[]⟩,.string ⟨#[]⟩,.string ⟨#[]⟩,.bool false,.bool false]) (vs:=sg c) B rfl fun m j D=>?_⟩
  have q:Upd No g m:=E.own D (au _);refine⟨z,vc (q.get0 H) 14,_,vc j 0,_,vc j 1,_,vc j 2,_,vc j 3,_,vc j 4,pe fun N b5 Q=>?_⟩
  have o:=q.tr Q;have z35:=o.size;have o1:OwnS sg 5 gU (fun _=>True) N ⟨some (aH m),1,1⟩ [c]:=⟨rfl,mC,au _,.inr ⟨m.size,[],rfl,trivial,b5,rfl⟩⟩
  refine⟨_,(o1.sl (W:=No) fun _ _ _ h=>h).srow,AppP.own (ys:= [c]) (os.upd o fun _ _ h=>h) rfl rfl rfl rfl (by omega) (by rw[aY];show(min i d.cs.length+1)*56≤_;omega) (show h'.size≤N.size by omega) fun s' h6 o6 w=>?_⟩
  have Y:=w.get (o.get0 H) (show ¬h'.size≤k.size by omega)
  refine oz (c':=(ia (pY {d with cs:=d.cs.take i++ [c]} x s')).toArray) Y (by simp) rfl fun h7 O n=>?_
  rw[cM f (by omega)];refine R (i+1) _ _ ⟨rfl,f,⟨s',?_,?_⟩,n.get (w.get (o.get0 cr) (show ¬h'.size≤u.size by omega)) P,n.get (w.get (o.get0 J) (show ¬h'.size≤h.size by omega)) L,?_⟩ (by omega)
  ·rw[G];exact O
  ·rw[G];exact o6.upd n fun y b e=>by have b:h'.size≤y:=b;have e:y=k.size:=e;omega
  ·exact((T.tr o.wide).trans w fun y b=>.inr b).trans n fun y b=>.inl b
 ·have hi:i=d.cs.length:=by have:¬(i:Int)<(sc.len:Int):=F;omega
  rw[hi,bG]at H os;have H:g[k.size]? =some (.cells (ia (pY d x z)).toArray YU (0,0)):=H;have S2:Sl sg 5 (fun y=>y=u.size) g z d.cs:=os.sl fun y b _ e=>by have b:h'.size≤y:=b;have e:y=u.size:=e;omega
  have S1':=S1.upd T fun y b=>.inl (.inl b)
  refine xW H (dd (c:=ia (rS 0)) (vs:=ia (pY d x z)) cr rfl fun h7 O n=>xW O (hk h7 x z ?_ ?_ ?_))
  ·exact(S1'.upd n fun y b=>.inl (.inr (.inl b))).less fun _ h=>h.elim
  ·exact(S2.upd n fun y b=>.inl b).less fun _ h=>h.elim
  ·exact ku.trans n fun y b=>.inr (by have b:y=u.size:=b;omega)
end
def PQ(a:List UInt8)(d:OpD)(ok:Bool):Prop:=(ok=true∧iQ a=some d)∨(ok=false∧iQ a=none∧d=d0 0)
theorem PQ.uniq{a:List UInt8}{d d':OpD}{ok b:Bool}(h:PQ a d ok)(h':PQ a d' b):d'=d∧b=ok:=by
 rcases h with⟨rfl,h⟩|⟨rfl,h,rfl⟩<;>rcases h' with⟨rfl,h'⟩|⟨rfl,h',rfl⟩
 ·rw[h]at h';exact⟨(Option.some.inj h').symm,rfl⟩
 ·rw[h]at h';cases h'
 ·rw[h]at h';cases h'
 ·exact⟨rfl,rfl⟩
theorem PQ.small{a:List UInt8}(b:a.length≤10000){d:OpD}{ok:Bool}(h:PQ a d ok):d.ps.length≤1000000∧d.cs.length≤1000000∧(ok=true→SmallD d∧lP d=some a):=by
 rcases h with⟨rfl,h⟩|⟨rfl,h,rfl⟩
 ·have sm:=M7 (by omega) h
  exact⟨by have:=sm.ps.1;omega,by have:=sm.cs.1;omega,fun _=>⟨sm,Gn h⟩⟩
 ·exact⟨bc _,bc _,fun h=>by cases h⟩
theorem Qg{a:List UInt8}(hx:a.length≤10000){h:ad}(l:Laid h)(i:4≤h.size){K:xp×Bool→ad→Prop}(c:∀h' d sp b ok,PQ a d ok→Sl jz 2 No h' sp d.ps→Sl sg 5 No h' b d.cs→Upd No h h'→K (pY d sp b,ok) h'):
  HC PG mZ [.string (aG a)] [.agg [.int .i64,.str,.str,.str,.str,.int .u32,.int .u32,.int .i64,.int .i64,.bool,.str,.str,.bool,.slice,.slice],.c .bool] K h:=
 Lw (by omega) l i (fun h' d sp b e op g k=>c h' d sp b true (.inl ⟨rfl,e⟩) (op.sl fun _ _ _ h=>h) (g.sl fun _ _ _ h=>h) k) fun f h' k=>c h' (d0 0) eA eA false (.inr ⟨rfl,f,rfl⟩) (Sl.nil gy) (Sl.nil mC) k
theorem Sn{a:List UInt8}(hx:a.length≤10000){h:ad}{K:xp×Bool→ad→Prop}(c:∀h' d sp b ok,PQ a d ok→Sl jz 2 No h' sp d.ps→Sl sg 5 No h' b d.cs→Upd No h h'→K (pY d sp b,ok) h'):
  HC PG uv [.string (aG a)] [.agg [.int .i64,.str,.str,.str,.str,.int .u32,.int .u32,.int .i64,.int .i64,.bool,.str,.str,.bool,.slice,.slice],.c .bool] K h:=
 MX hx (fun h' d sp b e op g k=>c h' d sp b true (.inl ⟨rfl,e⟩) op g k) fun f h' k=>c h' (d0 0) eA eA false (.inr ⟨rfl,f,rfl⟩) (Sl.nil gy) (Sl.nil mC) k
theorem WN{h:ad}{b:Nat}{t:TypeId}{o:xp}(a:h[b]? =some (.cells (ia o).toArray t (0,0))):
  aD h (adr ⟨b,0,none⟩ 0)=some (.int .i64 o.1)∧aD h (adr ⟨b,0,none⟩ 1)=some (.string o.2.1)∧aD h (adr ⟨b,0,none⟩ 2)=some (.string o.2.2.1)∧aD h (adr ⟨b,0,none⟩ 3)=some (.string o.2.2.2.1)∧aD h (adr ⟨b,0,none⟩ 4)=some (.string o.2.2.2.2.1)∧aD h (adr ⟨b,0,none⟩ 5)=some (.int .u32 o.2.2.2.2.2.1)∧aD h (adr ⟨b,0,none⟩ 6)=some (.int .u32 o.2.2.2.2.2.2.1)∧aD h (adr ⟨b,0,none⟩ 7)=some (.int .i64 o.2.2.2.2.2.2.2.1)∧aD h (adr ⟨b,0,none⟩ 8)=some (.int .i64 o.2.2.2.2.2.2.2.2.1)∧aD h (adr ⟨b,0,none⟩ 9)=some (.bool o.2.2.2.2.2.2.2.2.2.1)∧aD h (adr ⟨b,0,none⟩ 10)=some (.string o.2.2.2.2.2.2.2.2.2.2.1)∧aD h (adr ⟨b,0,none⟩ 11)=some (.string o.2.2.2.2.2.2.2.2.2.2.2.1)∧aD h (adr ⟨b,0,none⟩ 12)=some (.bool o.2.2.2.2.2.2.2.2.2.2.2.2.1)∧aD h (adr ⟨b,0,none⟩ 13)=some (.slice o.2.2.2.2.2.2.2.2.2.2.2.2.2.1.a o.2.2.2.2.2.2.2.2.2.2.2.2.2.1.len o.2.2.2.2.2.2.2.2.2.2.2.2.2.1.cap)∧aD h (adr ⟨b,0,none⟩ 14)=some (.slice o.2.2.2.2.2.2.2.2.2.2.2.2.2.2.a o.2.2.2.2.2.2.2.2.2.2.2.2.2.2.len o.2.2.2.2.2.2.2.2.2.2.2.2.2.2.cap):=
 ⟨vc a 0,vc a 1,vc a 2,vc a 3,vc a 4,vc a 5,vc a 6,vc a 7,vc a 8,vc a 9,vc a 10,vc a 11,vc a 12,vc a 13,vc a 14⟩
theorem Sl.k0{α:Type}{f:α→List Value}{a:Nat}{h h':ad}{s:SliceV}{xs:List α}(b:Sl f a No h s xs)(k:Upd No h h'):Sl f a No h' s xs:=b.upd k fun _ h=>h.elim
set_option maxHeartbeats 1000000 in
theorem IB{s:ByteArray}{h:ad}(l:Laid h)(h4:4≤h.size){K:Bool→ad→Prop}(G:∀h',Upd No h h'→K true h'):HC PG wf [.string s] [.c .bool] K h:=by
 refine El s ?_;unfold wJ aj bJ ah aZ aL nv L8 DR O0 Sw;refine Qm l h4 fun h1 k1=>af.2 ⟨⟨by split<;>omega,by split<;>omega⟩,F6 ?_⟩
 have H:(s.extract 0 ((if 150<(s.size:Int)then 150 else(s.size:Int)).toNat)).size≤150:=bv (Vr _ _) (by split<;>omega)
 generalize s.extract 0 ((if 150<(s.size:Int)then 150 else(s.size:Int)).toNat)=x at H
 obtain⟨f,rfl⟩:∃f,x=aG f:=⟨x.data.toList,rfl⟩;rw[ci]at H;have U:=l.upd0 k1;have z1:=k1.size;refine Qg (by omega) U (by omega) fun X d sp Q ok L ps cs k5=>pe fun h6 Z R=>dd (c:=ia (rS 0)) (vs:=ia (pY d sp Q)) Z rfl fun S Y O=>?_
 have o:Upd No X S:=R.own O (au _);refine Sn (by omega) fun P d' s2 V B v w D J=>?_
 obtain⟨rfl,rfl⟩:=L.uniq v;obtain⟨I,F,t⟩:=L.small (by omega);refine pe fun N y E=>dd (c:=ia (rS 0)) (vs:=ia (pY d' s2 V)) y rfl fun C n q=>?_
 have b:Upd No P C:=E.own q (au _);have j:=(J.tr b).get0 Y;have k:=(o.tr J).tr b;rw[beq_self_eq_true];refine aA.2 (xW j (xW n (UU I F (Sl.k0 ps k) (Sl.k0 cs k) fun T s3 c3 p u a=>⟨WN (a.get0 n),R9 I F p (Sl.k0 w (b.tr a)) u (Sl.k0 D (b.tr a)) fun A i=>aA.2 ?_⟩)))
 have g:=(((k1.tr k5).tr k).tr a).tr i;refine CondP.intro (fun e=>G A g) fun e=>?_
 have e:B=true:=by simpa using e
 obtain⟨sm,W⟩:=t e;refine xW ((a.tr i).get0 j) (NT sm (Sl.k0 ps ((k.tr a).tr i)) (Sl.k0 cs ((k.tr a).tr i)) (l.upd0 g) fun m z=>?_)
 rw[W];show K ((aG f).toList==(aG f).toList) m
 rw[di,decide_eq_true rfl];exact G m (g.tr z)
end Go.Proofs
