/- A part of the proof that the named laws of this program answer true, whatever the input. -/
import Derived.Test.YtopdngagmfanlaaGreatDoorPart10
open Array renaming size→aM
open ByteArray renaming size_extract→pP
open Go.IntKind renaming wrap→ac,wrap_u32→qz
open Int renaming toNat_natCast→ak
open List renaming mem_cons_self→aN,getD_eq_getElem?_getD→fa,mem_cons→ar,mem_singleton→aQ,getElem?_eq_getElem→ax,length_take→aY,take_length→bG
open List.Pairwise renaming nil→jZ
open Nat renaming lt_of_lt_of_le→aO,le_refl→au,le_trans→bv,zero_le→bc
namespace Go.Proofs
open Go Go.Lift
theorem S4{W0:Nat→Prop}{a:List UInt8}(hx:a.length≤1000000)(v:im 32 a= [[111,112,101,110],[114,97,100,105,120],[48],[48],[48]]){h:ad}(i:∀y,W0 y→y<h.size){c:Nat}(hd:h[c]? =some (.cells #[.pointer none] hE (0,0))) (l:Laid h) (k:4≤c) {K:ByteArray→ad→Prop}
  (x:∀b h' sp f gp gm tm bm nm t sm pb e,VaultAt (fun y=>W0 y∨VS.M ⟨gp,gm,tm,bm,nm,1,⟨0,0,0⟩,t,[],1,[],[],[]⟩ y) b f ⟨gp,gm,tm,bm,nm,1,⟨0,0,0⟩,t,[],1,[],[],[]⟩→b[sp]? =some (.cells (O9 f (some sm) 0 (some ⟨pb,0,none⟩)).toArray dB (0,0))→
   (∀y,VS.M ⟨gp,gm,tm,bm,nm,1,⟨0,0,0⟩,t,[],1,[],[],[]⟩ y→h.size≤y∧y<e)→e<sp→Upd No h b→h'[c]? =some (.cells #[.pointer (some ⟨sp,0,none⟩)] hE (0,0))→Upd (· =c) b h'→K ⟨#[111,107]⟩ h'):
  HC PG ie [.pointer (some ⟨c,0,none⟩),.string (aG a)] [.c .str] K h:=by
 refine zw (some ⟨c,0,none⟩) (aG a) ?_;unfold tY bf cU aj bJ ah aZ aL nv L8 DR O0 Y4 W1 ez iE;refine af.2 (B5 (by rw[ci];exact hx) fun j F ow s=>pe fun m B p=>?_)
 rw[show(aG a).data.toList=a from by simp,v]at ow
 have g:=s.tr p;have A:=(ow.sl (W:=fun y=>j.size≤y) (fun y _ d=>by omega)).upd p fun _ h=>h.elim
 have n:=g.get0 hd;have w:=g.size;refine LoopP.ghost (fun(_:Unit) (t:Int) o=>t=0∧o=m) (fun _=>0) () ⟨rfl,rfl⟩ ?_
 rintro I _ t o ⟨e1,e2⟩ E;subst e1 e2;refine aA.2 ⟨⟨by decide,by decide⟩,_,rfl,_,vc B 0,HV.mk' (SD (fun y d=>aO (i y d) w) n (l.upd0 g) k A fun b h' sp f gp gm tm bm nm t sm pb e D bs hM q C u z=>aA.2 ?_)⟩
 exact x b h' sp f gp gm tm bm nm t sm pb e D bs (fun y d=>⟨by have:=(hM y d).1;omega,(hM y d).2⟩) q (g.tr C) u z
theorem Nz{c:UInt8}:∀{l:List UInt8},c∉l→Lib.indexByte l c= -1
 | [],_=>rfl
 |a::l,h=>by
  have d:(a==c)=false:=beq_eq_false_iff_ne.2 fun e=>h (by rw[e];exact aN ..)
  have b:=Nz (l:=l) fun e=>h (List.mem_cons_of_mem _ e)
  simp only[Lib.indexByte,d,b];rfl
theorem Po{a:List UInt8}{h:ad}{fv:Value}{sb tb nb:Nat}(hfv:fv=.func (.func jM) #[] #[.pointer (some ⟨sb,0,none⟩),.pointer (some ⟨tb,0,none⟩),.pointer (some ⟨nb,0,none⟩)])(hs:h[sb]? =some (.cells #[.string ⟨#[10]⟩] cn (0,0))) (ht:h[tb]? =some (.cells #[.string (aG a)] cn (0,0))) (hn:h[nb]? =some (.cells #[.int .i64 0] Mu (0,0)))
  (q1:tb≠sb) (q2:tb≠nb) (hx:a.length≤1000000)
  {BODY:ByteArray→(Option Ex→ad→Prop)→ad→Prop} {N:ad→Prop} {X:Nat→ad→Prop} {R:ad→Prop} (Inv:Nat→ad→Prop) (M:Nat→Prop)
  (H:Inv 0 h) (d:∀k h1 h2,Inv k h1→h.size≤h1.size→Upd (fun b=>b=tb∨b=h.size∨b=h.size+1) h1 h2→Inv k h2)
  (hM:∀b,M b→b≠tb∧b≠sb∧b≠nb∧b≠h.size∧b≠h.size+1)
  (step:∀k w h1 (KK:Option Ex→ad→Prop),Inv k h1→h.size+2≤h1.size→(im 10 a)[k]? =some w→(∀h2,Inv (k+1) h2→Upd M h1 h2→KK none h2)→BODY (aG w) KK h1)
  (V:∀h1,Inv (im 10 a).length h1→h1[h.size]? =some (.deferred (some []))→N h1):
  RangeP PG fv [.c .str] h (fun Jp bz (x:ByteArray) k G=>(G[(aM h+1)]? =some Jp∧At (Array.setIfInBounds G (aM h+1) bz) (fun h69=>BODY x k h69))) N X R:=by
 subst hfv;refine⟨fun lo hlo t=>⟨jM,#[],_,rfl,?_⟩⟩
 have zs:=bB hs;have zt:=bB ht;have zn:=bB hn;have k1:Upd No h ((h.push (.deferred (some []))).push (lo .ready none)):=(Upd.push No _ _).tr (Upd.push No _ _);have l2:((h.push (.deferred (some []))).push (lo .ready none))[h.size+1]? =some (lo .ready none):=by
  have:=mo (h.push (.deferred (some []))) (lo .ready none);rwa [Array.size_push]at this
 have l1:((h.push (.deferred (some []))).push (lo .ready none))[h.size]? =some (.deferred (some [])):=(Upd.push No _ _).get0 (mo h _);have i1:=d 0 _ _ H (au _) k1.wide;generalize (h.push (.deferred (some []))).push (lo .ready none)=h1 at k1 l2 l1 i1;have s1:=k1.get0 hs;have t1:=k1.get0 ht;have F:=k1.get0 hn;refine BL (.func (.yield (h.size+1)) #[] #[]) ⟨sb,0,none⟩ ⟨tb,0,none⟩ ⟨nb,0,none⟩ ?_
 unfold pF ez;refine⟨_,aW s1,af.2 ?_⟩;have round:∀(k:Nat) (w:List UInt8) (h':ad) (KK:Bool→ad→Prop),Inv k h'→(im 10 a)[k]? =some w→h.size≤h'.size→h'[sb]? =some (.cells #[.string ⟨#[10]⟩] cn (0,0))→h'[nb]? =some (.cells #[.int .i64 0] Mu (0,0))→h'[h.size]? =some (.deferred (some []))→h'[h.size+1]? =some (lo .ready none)→∀v,h'[tb]? =some (.cells v cn (0,0))→
   (∀h2,Inv (k+1) h2→h.size≤h2.size→h2[sb]? =some (.cells #[.string ⟨#[10]⟩] cn (0,0))→h2[nb]? =some (.cells #[.int .i64 0] Mu (0,0))→h2[h.size]? =some (.deferred (some []))→h2[h.size+1]? =some (lo .ready none)→h2[tb]? =some (.cells v cn (0,0))→KK true h2)→HV PG (.func (.yield (h.size+1)) #[] #[]) [.string (aG w)] [.c .bool] KK h':=by
  intro k w h' KK hi hw P Y nb' u m v tb' S;refine t (aG w) h' KK m ⟨m,?_⟩;have B:Upd (· =h.size+1) h' (h'.setIfInBounds (h.size+1) (lo .busy none)):=Upd.set _ _ rfl
  have T:=jo (o:=lo .busy none) m;have zb:=B.size;refine bi ?_;generalize h'.setIfInBounds (h.size+1) (lo .busy none)=h2 at B T zb;refine step k w h2 _ (d k _ _ hi P (B.mono fun b y=>.inl (.inr (.inr y)))) (by have:=bB T;omega) hw fun Z hi3 j=>?_
  have K:=j.get T fun e=>(hM _ e).2.2.2.2 rfl
  refine⟨K,?_⟩;have s:Upd (· =h.size+1) Z (Z.setIfInBounds (h.size+1) (lo .ready none)):=Upd.set _ _ rfl
  have D:=jo (o:=lo .ready none) K;have z3:=j.size;have E:=s.size;have F:sb≠h.size+1:=by omega
  have O:nb≠h.size+1:=by omega
  have n3:tb≠h.size+1:=by omega
  have n4:h.size≠h.size+1:=by omega
  simp only[Option.isNone_none,if_true];generalize Z.setIfInBounds (h.size+1) (lo .ready none)=J at s D E;exact S J (d (k+1) _ _ hi3 (by omega) (s.mono fun b y=>.inl (.inr (.inr y)))) (by omega) (s.get (j.get (B.get Y F) fun e=>(hM _ e).2.1 rfl) F) (s.get (j.get (B.get nb' O) fun e=>(hM _ e).2.2.1 rfl) O) (s.get (j.get (B.get u n4) fun e=>(hM _ e).2.2.2.1 rfl) n4) D (s.get (j.get (B.get tb' n3) fun e=>(hM _ e).1 rfl) n3)
 refine LoopP.ghost (fun(g:Nat×List UInt8) (_:Unit) h'=>Inv g.1 h'∧(im 10 a).drop g.1=im 10 g.2∧g.2.length≤1000000∧h'[tb]? =some (.cells #[.string (aG g.2)] cn (0,0))∧h'[sb]? =some (.cells #[.string ⟨#[10]⟩] cn (0,0))∧h'[nb]? =some (.cells #[.int .i64 0] Mu (0,0))∧h'[h.size]? =some (.deferred (some []))∧h'[h.size+1]? =some (lo .ready none)∧h.size≤h'.size) (fun g=>g.2.length) (0,a) ⟨i1,rfl,hx,t1,s1,F,l1,l2,k1.size⟩ ?_
 rintro I ⟨k,r⟩ ⟨⟩ h' ⟨hi,c,hr,f,C,A,u,m,P⟩ hI;simp only at hi c hr f;refine⟨_,aW f,_,aW C,JP ?_⟩;rw[show(aG r).data.toList=r from by simp]
 by_cases hm:(10:UInt8)∈r
 ·obtain⟨p,q,rfl,hp,n⟩:=G3 10 r hm
  rw[yZ hp]at c;have W:(im 10 a)[k]? =some p:=by
   have:=congrArg (fun l=>l[0]?) c
   simpa using this
  rw[n];refine aF (fun H=>absurd H (by omega)) fun _=>⟨_,aW f,0,aW A,?_⟩
  have L:(p++10::q).length=p.length+(q.length+1):=by simp
  have es:(aG (p++10::q)).size=p.length+(q.length+1):=by rw[ci,L]
  have e4:ac .i64 ((p.length:Int)+0)=(p.length:Int):=by rw[kD (by omega)];omega
  have e5:ac .i64 ((p.length:Int)+((⟨#[10]⟩:ByteArray).size:Int))=((p.length+1:Nat):Int):=by rw[show((⟨#[10]⟩:ByteArray).size:Int)=1 from rfl,kD (by omega)];omega
  rw[e4,es,ak,Vf];refine⟨⟨by omega,by omega⟩,round k p h' _ hi W P C A u m _ f fun J z E s5 n5 d5 D Q=>af.2 ⟨_,aW Q,_,aW s5,?_⟩⟩
  rw[e5,es,ak];have er:(aG (p++10::q)).extract (p.length+1) (p.length+(q.length+1))=aG q:=by
   have:=Ve (p++ [10]) q (p.length+(q.length+1)) (by simp<;>omega)
   rw[List.append_assoc]at this;simpa using this
  rw[er];refine⟨⟨by omega,by omega⟩,F6 ⟨iM Q (by simp),vC Q fun h6 U i=>?_⟩⟩
  have F:sb≠tb:=fun e=>q1 e.symm
  have O:nb≠tb:=fun e=>q2 e.symm
  refine hI (k+1,q) () h6 ⟨d _ _ _ z E (i.mono fun b y=>.inl (.inl y)),?_,by simp only;omega,U,i.get s5 F,i.get n5 O,i.get d5 (show ¬h.size=tb by omega),i.get D (show ¬h.size+1=tb by omega),bv E i.size⟩ (by simp only;omega)
  have:=congrArg List.tail c;rw[List.tail_drop]at this;exact this
 ·rw[wn hm]at c
  have W:(im 10 a)[k]? =some r:=by
   have:=congrArg (fun l=>l[0]?) c
   simpa using this
  have hl:(im 10 a).length=k+1:=by
   have:=congrArg List.length c;simp only[List.length_drop,List.length_singleton]at this;omega
  have n:Lib.indexByte r 10<0:=by rw[Nz hm];decide
  refine aF (fun _=>⟨_,aW f,round k r h' _ hi W P C A u m _ f fun J z E s5 n5 d5 D Q=>?_⟩) fun H=>absurd n H
  have s:Upd (· =h.size+1) J (J.setIfInBounds (h.size+1) (lo .exhausted none)):=Upd.set _ _ rfl
  refine⟨.ready,none,by decide,D,?_⟩
  refine V _ ?_ (s.get d5 (show ¬h.size=h.size+1 by omega))
  rw[hl];exact d (k+1) _ _ z E (s.mono fun b y=>.inl (.inr (.inr y)))
end Go.Proofs
namespace Go.Proofs
open Go Go.Lift
theorem Y7:mr [48]=some 0:=by
 have:mr (dJ 0)=some 0:=Cg (by omega);rw[ot (by omega)]at this;exact this
theorem Y6:mr [49]=some 1:=by
 have:mr (dJ 1)=some 1:=Cg (by omega);rw[ot (by omega)]at this;exact this
abbrev GU:List UInt8:= [109,97,105,110]
theorem GT:fj (aG GU)=true:=by decide+kernel
theorem Q3:iP [54,49]=some [97]:=by decide+kernel
theorem Wl:iP [51,49]=some [49]:=by decide+kernel
abbrev JI:List UInt8:= [99,114,101,97,116,101,32,109,97,105,110,32,48]
abbrev JG:List UInt8:= [112,117,116,32,109,97,105,110,32,54,49,32,51,49]
abbrev JH:List UInt8:= [103,101,116,32,49,32,54,49]
abbrev Nq:List UInt8:= [111,112,101,110,32,114,97,100,105,120,32,48,32,48,32,48]
theorem S7:im 32 Nq= [[111,112,101,110],[114,97,100,105,120],[48],[48],[48]]:=by decide+kernel
theorem S9:im 32 JI= [[99,114,101,97,116,101],GU,[48]]:=by decide+kernel
theorem S6:im 32 JG= [[112,117,116],GU,[54,49],[51,49]]:=by decide+kernel
theorem S8:im 32 JH= [[103,101,116],[49],[54,49]]:=by decide+kernel
theorem NW:im 10 (Nq++10::(JI++10::(JG++10::JH)))= [Nq,JI,JG,JH]:=by decide+kernel
theorem Pm:([98,105]:List UInt8).foldl (fun x p=>Q6 p x) (([GU,[48]],true),rS 0)=(([],true),ZG (ZH (rS 0) (aG GU)) 0):=by
 simp[Q6,gJ,eC,bX,Y7,GT,qz]
theorem Pk:([98,107,118]:List UInt8).foldl (fun x p=>Q6 p x) (([GU,[54,49],[51,49]],true),rS 4)=(([],true),Z4 (ZF (ZH (rS 4) (aG GU)) (aG [97])) (aG [49])):=by
 simp[Q6,gJ,bw,bX,Q3,Wl,GT]
theorem Pl:([105,107]:List UInt8).foldl (fun x p=>Q6 p x) (([[49],[54,49]],true),rS 10)=(([],true),ZF (ZG (rS 10) 1) (aG [97])):=by
 simp[Q6,bw,eC,bX,Q3,Y6,qz]
theorem Qa{k:Nat}{kd:Int}{w e:List UInt8}(b:formsL[k]? =some (kd,w,e)):∀j f,j<k→formsL[j]? =some f→f.2.1≠w:=by
 have key:∀i j:Fin 26,j.val<i.val→(formsL.getD j.val (0,[],[])).2.1≠(formsL.getD i.val (0,[],[])).2.1:=by decide+kernel
 intro j f c a;have d:k<26:=(List.getElem?_eq_some_iff.1 b).1;have:=key ⟨k,d⟩ ⟨j,by omega⟩ c
 rw[fa,fa,b,a]at this;exact this
end Go.Proofs
namespace Go.Proofs
open Go Go.Lift
theorem Yo{W:Nat→Prop}{h:ad}{g sp j:Nat}{sm d:Option Addr}{last:Int}{s:VS}(v:VaultAt W h g s)(b:h[sp]? =some (.cells (O9 g (sm.map (·.block)) last d).toArray dB (0,0))) (e1:s.B= []) (e2:s.L= []) (hM:∀y,s.M y→y<h.size) (l:Laid h) (t:4≤h.size)
  (hd:h[j]? =some (.cells #[.pointer (some ⟨sp,0,none⟩)] hE (0,0))) {K:ByteArray→ad→Prop}
  (q:∀f c h',Upd No h f→Upd s.M f c→VaultAt W c g {s with B:= [(rG,0)]}→Upd No c h'→K ⟨#[111,107]⟩ h'):
  HC PG ie [.pointer (some ⟨j,0,none⟩),.string (aG JI)] [.c .str] K h:=by
 refine Hp (by decide) S9 (by decide) (by decide) (fun x hx=>by
   rcases ar.1 hx with rfl|hx
   ·decide
   rcases ar.1 hx with rfl|hx
   ·decide
   cases hx) (k:=0) rfl (Qa rfl) (fun p a=>by
   rcases ar.1 a with rfl|a
   ·exact .inl rfl
   rcases ar.1 a with rfl|a
   ·exact .inr (.inr (.inr (.inr (.inl rfl))))
   cases a) Pm l t hd fun f ob k1 z w m=>?_
 refine NQ (v.upd0 k1) (k1.get0 b) rfl fun c i u=>?_
 rw[e1,e2]at*;refine⟨vc (i.get m fun e=>by have:=hM _ e;omega) 0,T5 rfl fun o n=>q f c o k1 i u n⟩
end Go.Proofs
namespace Go.Proofs
open Go Go.Lift
theorem Ym{W:Nat→Prop}{h:ad}{m sp s:Nat}{sm:Option Nat}{f:Option Addr}{last:Int}{gp gm tm bm nm:Nat}{kd:Int}{t:Tr}(v:VaultAt W h m ⟨gp,gm,tm,bm,nm,kd,⟨0,0,0⟩,t,[],1,[],[(rG,0)],[]⟩)(b:h[sp]? =some (.cells (O9 m sm last f).toArray dB (0,0))) (j:¬VS.M ⟨gp,gm,tm,bm,nm,kd,⟨0,0,0⟩,t,[],1,[],[(rG,0)],[]⟩ sp)
  (hM:∀y,VS.M ⟨gp,gm,tm,bm,nm,kd,⟨0,0,0⟩,t,[],1,[],[(rG,0)],[]⟩ y→y<h.size) (l:Laid h) (C:4≤h.size)
  (hd:h[s]? =some (.cells #[.pointer (some ⟨sp,0,none⟩)] hE (0,0))) {K:ByteArray→ad→Prop}
  (F:∀a,Upd (VS.M ⟨gp,gm,tm,bm,nm,kd,⟨0,0,0⟩,t,[],1,[],[(rG,0)],[]⟩) h a→Laid a)
  (w:∀g a h' o,Upd No h g→Upd (VS.M ⟨gp,gm,tm,bm,nm,kd,⟨0,0,0⟩,t,[],1,[],[(rG,0)],[]⟩) g a→VaultAt W a m ⟨gp,gm,tm,bm,nm,kd,⟨0,0,0⟩,t,[(1,[])],2,[(1,(o,[(⟨#[97]⟩,⟨#[49]⟩)]))],[(rG,1)],[]⟩→Upd No a h'→K (((⟨#[118,101,114,115,105,111,110,32]⟩:ByteArray)++aG (dJ 1))++(⟨#[]⟩:ByteArray)) h'):
  HC PG ie [.pointer (some ⟨s,0,none⟩),.string (aG JG)] [.c .str] K h:=by
 refine Hp (by decide) S6 (by decide) (by decide) (fun x hx=>by
  rcases ar.1 hx with rfl|hx
  ·decide
  rcases ar.1 hx with rfl|hx
  ·decide
  rcases ar.1 hx with rfl|hx
  ·decide
  cases hx) (k:=4) rfl (Qa rfl) (fun p c=>by
  rcases ar.1 c with rfl|c
  ·exact .inl rfl
  rcases ar.1 c with rfl|c
  ·exact .inr (.inr (.inl rfl))
  rcases ar.1 c with rfl|c
  ·exact .inr (.inr (.inr (.inl rfl)))
  cases c) Pk l C hd fun g ob k1 G H D=>?_
 refine Vm (v.upd0 k1) (k1.get0 b) j rfl (hd:=0) rfl (.inl rfl) (N:=0) (by omega) (fun B d=>?_) (by decide) (by decide) (id:=1) (show(mc [] 1 (nz [0])).1=(1,0) by decide) fun a B o d i q=>?_
 ·rcases d with⟨_,rfl⟩|⟨d,_⟩
  ·exact⟨jZ,au _,fun _ h=>by cases h⟩
  ·exact absurd rfl d
 have u:B.2= []:=by
  rcases d with⟨_,rfl⟩|⟨d,_⟩
  ·rfl
  ·exact absurd rfl d
 rw[u]at q;have z:Laid a:=F a (k1.wide.tr i);exact⟨vc (i.get D fun e=>by have:=hM _ e;omega) 0,T4 (n:=1) rfl (by omega) rfl z fun A E=>w g a A o k1 i q E⟩
theorem Yn{W:Nat→Prop}{h:ad}{i sp j:Nat}{sm:Option Nat}{e:Option Addr}{last:Int}{gp gm tm bm nm:Nat}{kd:Int}{t f:Tr}(v:VaultAt W h i ⟨gp,gm,tm,bm,nm,kd,⟨0,0,0⟩,t,[(1,[])],2,[(1,(f,[(⟨#[97]⟩,⟨#[49]⟩)]))],[(rG,1)],[]⟩)(b:h[sp]? =some (.cells (O9 i sm last e).toArray dB (0,0))) (l:Laid h) (s:4≤h.size)
  (hd:h[j]? =some (.cells #[.pointer (some ⟨sp,0,none⟩)] hE (0,0))) {K:ByteArray→ad→Prop}
  (q:∀h',Upd No h h'→K (((⟨#[105,115,32]⟩:ByteArray)++aG (lI [49]))++(⟨#[]⟩:ByteArray)) h'):
  HC PG ie [.pointer (some ⟨j,0,none⟩),.string (aG JH)] [.c .str] K h:=by
 refine Hp (by decide) S8 (by decide) (by decide) (fun x hx=>by
  rcases ar.1 hx with rfl|hx
  ·decide
  rcases ar.1 hx with rfl|hx
  ·decide
  cases hx) (k:=10) rfl (Qa rfl) (fun p c=>by
  rcases ar.1 c with rfl|c
  ·exact .inr (.inr (.inr (.inr (.inl rfl))))
  rcases ar.1 c with rfl|c
  ·exact .inr (.inr (.inl rfl))
  cases c) Pl l s hd fun u ob k1 z y m=>?_
 have d:∀B,BaseOf ⟨gp,gm,tm,bm,nm,kd,⟨0,0,0⟩,t,[(1,[])],2,[(1,(f,[(⟨#[97]⟩,⟨#[49]⟩)]))],[(rG,1)],[]⟩ 1 B→B.2= [(⟨#[97]⟩,⟨#[49]⟩)]:=fun B a=>by
  rcases a with⟨a,_⟩|⟨_,a⟩
  ·cases a
  ·cases a;rfl
 refine Vn (v.upd0 k1) (k1.get0 b) rfl (.inr (show(1:Int)∈ids [(1,[])] by decide)) (fun B a=>?_) fun w B a g=>?_
 ·rw[d B a];exact⟨List.pairwise_singleton _ _,by simp⟩
 rw[d B a];exact⟨vc (g.get0 m) 0,RV (v:=⟨#[49]⟩) rfl rfl rfl (by decide) fun o n=>q o ((k1.tr g).tr n)⟩
end Go.Proofs
namespace Go.Proofs
open Go Go.Lift
theorem Vr(x:ByteArray)(n:Nat):(x.extract 0 n).size≤n:=by rw[pP];omega
end Go.Proofs
namespace Go.Proofs
open Go Go.Lift
theorem Xv{h:ad}{b:Nat}{c c':Array Value}{t:TypeId}{v:Value}{k:ad→Prop}(d:h[b]? =some (.cells c t (0,0))) (hi:0<c.size) (e:c.setIfInBounds 0 v=c') (g:∀h',h'[b]? =some (.cells c' t (0,0))→Upd (· =b) h h'→k h'):Wr h ⟨b,0,none⟩∧At (hset h ⟨b,0,none⟩ v) k:=
 ⟨iM d hi,vC d fun h' a f=>g h' (e▸a) f⟩
abbrev Uk(x:ByteArray):List Value:= [.string x]
theorem Uj(x:ByteArray):(Uk x).length=1∧0<1:=⟨rfl,Nat.one_pos⟩
def KL(Z:Nat):Sp:=⟨(· <Z),fun _=>True,fun _ _ _=>trivial⟩
abbrev ans4:List ByteArray:= [⟨#[111,107]⟩,⟨#[111,107]⟩,⟨#[118,101,114,115,105,111,110,32,49]⟩,⟨#[105,115,32,51,49]⟩]
structure RunI(h0:ad)(db dv ov Z:Nat)(xs:List ByteArray)(h:ad)(sp vp:Nat)(s:VS)(sm:Option Nat)(pool:Option Addr)(so:SliceV):Prop where
 v:Vw [KL Z,A2 Uk 1 cn so xs] h vp s
 b:h[sp]? =some (.cells (O9 vp sm 0 pool).toArray dB (0,0))
 d:h[db]? =some (.cells #[.pointer (some ⟨sp,0,none⟩)] hE (0,0))
 dv:h[dv]? =some (.cells #[.pointer (some ⟨db,0,none⟩)] vm (0,0))
 o:h[ov]? =some (.cells #[.slice so.a so.len so.cap] KB (0,0))
 zs:Z≤sp
 sM:¬s.M sp
 nso:¬Go.Proofs.sb so sp
 zM:∀y,s.M y→Z≤y
 zo:∀y,Go.Proofs.sb so y→Z≤y
 k:Upd No h0 h
section
variable {h0 h h':ad} {db dv ov Z:Nat} {xs:List ByteArray} {sp vp:Nat} {s s':VS} {sm:Option Nat} {pool:Option Addr} {so:SliceV} {M:Nat→Prop}
theorem RunI.low(r:RunI h0 db dv ov Z xs h sp vp s sm pool so)(k:Upd M h h')(hM:∀y,M y→y<Z∧y≠db∧y≠dv∧y≠ov∧h0.size≤y):RunI h0 db dv ov Z xs h' sp vp s sm pool so:=
 ⟨r.v.set (i:=0) (p':=KL Z) rfl k (fun y a=>.inl (hM y a).1) trivial fun y a=>⟨.inl a,aO (r.v.own.lt (KL Z) (aN ..) y a) k.size⟩,
  k.get r.b fun e=>by have:=(hM _ e).1;have:=r.zs;omega,k.get r.d fun e=>(hM _ e).2.1 rfl,k.get r.dv fun e=>(hM _ e).2.2.1 rfl,k.get r.o fun e=>(hM _ e).2.2.2.1 rfl,r.zs,r.sM,r.nso,r.zM,r.zo,r.k.trans k fun y a=>.inr (hM y a).2.2.2.2⟩
theorem RunI.up0(r:RunI h0 db dv ov Z xs h sp vp s sm pool so)(k:Upd No h h'):RunI h0 db dv ov Z xs h' sp vp s sm pool so:=r.low k fun _ h=>h.elim
theorem RunI.ed(r:RunI h0 db dv ov Z xs h sp vp s sm pool so)(b:h0.size≤Z)(hd:db<Z)(d:dv<Z)(c:ov<Z)(k:Upd s.M h h')(v:VaultAt (fun y=>s.M y∨AL [KL Z,A2 Uk 1 cn so xs] y) h' vp s')(e:s'.M=s.M):RunI h0 db dv ov Z xs h' sp vp s' sm pool so:=
 ⟨r.v.ed k v e,k.get r.b r.sM,k.get r.d fun e=>by have:=r.zM _ e;omega,k.get r.dv fun e=>by have:=r.zM _ e;omega,k.get r.o fun e=>by have:=r.zM _ e;omega,r.zs,by rw[e];exact r.sM,r.nso,fun y a=>r.zM y (by rw[←e];exact a),r.zo,r.k.trans k fun y a=>.inr (bv b (r.zM y a))⟩
theorem RunI.say(r:RunI h0 db dv ov Z xs h sp vp s sm pool so)(J:h0.size≤Z)(hd:db<Z)(E:dv<Z)(I:ov<Z)(K:ov≠db)(L:ov≠dv)(N:h0.size≤ov)(H:xs.length+1≤1000000){x:ByteArray}{k:ad→Prop}
  (G:∀h' s',RunI h0 db dv ov Z (xs++ [x]) h' sp vp s sm pool s'→Upd (fun y=>y=ov∨Z≤y) h h'→k h'):
  aD h ⟨ov,0,none⟩=some (.slice so.a so.len so.cap)∧At (hnew h [.string x] cn) (fun g=>(aD g ⟨ov,0,none⟩=some (.slice so.a so.len so.cap)∧∃xs21,SRow g (some (aH h)) (1*1) xs21∧
   AppP (some [.string (⟨#[]⟩:ByteArray)]) 1 16 cn so.a so.len so.cap 1 xs21 g (fun n m=>(Wr m ⟨ov,0,none⟩∧At (hset m ⟨ov,0,none⟩ (.slice n.a n.len n.cap)) k)))):=by
 refine⟨aW r.o,pe fun g C j=>?_⟩
 have c:=r.up0 j;have F:=j.size;have D:∀y,y<Z→y<h.size:=fun y a=>r.v.own.lt (KL Z) (aN ..) y a
 refine⟨aW c.o,Yu (f:=Uk) (t:=x) (b:=h.size) (c.v.own.get (i:=1) rfl) C rfl rfl ⟨by decide,by decide⟩ H fun s' m os u q=>?_⟩
 have w:=c.v.slice (i:=1) rfl u os q;have v:∀y,sb s' y→Z≤y:=fun y a=>(q y a).1.elim (r.zo y) fun e=>by
  rcases Nat.lt_or_ge y Z with h|h
  ·have:=D y h;omega
  ·exact h
 have B:=u.get c.b r.nso;have low:∀{y:Nat},y<Z→¬sb so y:=fun a e=>by have:=r.zo _ e;omega
 have o:=u.get c.o (low I);refine Xv (c':= #[.slice s'.a s'.len s'.cap]) o (by simp) rfl fun A z d=>G A s' ⟨w.set (i:=0) (p:=KL Z) (p':=KL Z) rfl d (fun y a=>.inl (by have a:y=ov:=a;show y<Z;omega)) trivial fun y a=>⟨.inl a,?_⟩,d.get B (show ¬sp=ov by have:=r.zs;omega),d.get (u.get c.d (low hd)) (show ¬db=ov by omega),d.get (u.get c.dv (low E)) (show ¬dv=ov by omega),z,r.zs,r.sM,?_,r.zM,v,?_⟩ ?_
 ·have:=D y a
  have:=u.size;have:=d.size;omega
 ·intro e
  rcases(q sp e).1 with e|e
  ·exact r.nso e
  ·have:=bB r.b;omega
 ·exact((r.k.tr j).trans u fun y a=>.inr (bv J (r.zo y a))).trans d fun y a=>.inr (by have a:y=ov:=a;omega)
 ·exact(j.wide.trans u fun y a=>.inl (.inr (r.zo y a))).trans d fun y a=>.inl (.inl a)
end
def Inv24(b:ad)(a dv c Z:Nat)(n:Nat)(h:ad):Prop:=
 (n=0∧h[a]? =some (.cells #[.pointer none] hE (0,0))∧h[dv]? =some (.cells #[.pointer (some ⟨a,0,none⟩)] vm (0,0))∧h[c]? =some (.cells #[.slice none 0 0] KB (0,0))∧Upd No b h)∨
  ∃sp vp gp gm tm bm nm t sm pool so,∃t':Tr,(n=1∧RunI b a dv c Z (ans4.take 1) h sp vp ⟨gp,gm,tm,bm,nm,1,⟨0,0,0⟩,t,[],1,[],[],[]⟩ sm pool so)∨
   (n=2∧RunI b a dv c Z (ans4.take 2) h sp vp ⟨gp,gm,tm,bm,nm,1,⟨0,0,0⟩,t,[],1,[],[(rG,0)],[]⟩ sm pool so)∨
   (n=3∧RunI b a dv c Z (ans4.take 3) h sp vp ⟨gp,gm,tm,bm,nm,1,⟨0,0,0⟩,t,[(1,[])],2,[(1,(t',[(⟨#[97]⟩,⟨#[49]⟩)]))],[(rG,1)],[]⟩ sm pool so)∨
   (n=4∧RunI b a dv c Z (ans4.take 4) h sp vp ⟨gp,gm,tm,bm,nm,1,⟨0,0,0⟩,t,[(1,[])],2,[(1,(t',[(⟨#[97]⟩,⟨#[49]⟩)]))],[(rG,1)],[]⟩ sm pool so)
theorem Inv24.low{g h h':ad}{m dv j Z n:Nat}{M:Nat→Prop}(i:Inv24 g m dv j Z n h)(k:Upd M h h')(hM:∀y,M y→y<Z∧y≠m∧y≠dv∧y≠j∧g.size≤y):Inv24 g m dv j Z n h':=by
 rcases i with⟨e,a,b,c,d⟩|⟨sp,p,gp,gm,tm,bm,nm,t,sm,f,s,q,i⟩
 ·exact .inl ⟨e,k.get a fun e=>(hM _ e).2.1 rfl,k.get b fun e=>(hM _ e).2.2.1 rfl,k.get c fun e=>(hM _ e).2.2.2.1 rfl,d.trans k fun y o=>.inr (hM y o).2.2.2.2⟩
 ·exact .inr ⟨sp,p,gp,gm,tm,bm,nm,t,sm,f,s,q,i.imp (fun e=>⟨e.1,e.2.low k hM⟩) fun i=>i.imp (fun e=>⟨e.1,e.2.low k hM⟩) fun i=>i.imp (fun e=>⟨e.1,e.2.low k hM⟩) fun e=>⟨e.1,e.2.low k hM⟩⟩
theorem ZS:(((⟨#[118,101,114,115,105,111,110,32]⟩:ByteArray)++aG (dJ 1))++(⟨#[]⟩:ByteArray))=⟨#[118,101,114,115,105,111,110,32,49]⟩:=by
 rw[ot (by omega)];decide+kernel
theorem aaB:(((⟨#[105,115,32]⟩:ByteArray)++aG (lI [49]))++(⟨#[]⟩:ByteArray))=⟨#[105,115,32,51,49]⟩:=by decide+kernel
theorem WC{D h:ad}{x dv v Z n:Nat}{w:List UInt8}(i:Inv24 D x dv v Z n h)(zh:Z≤h.size)(T:Laid D)(h04:4≤D.size)(L:D.size≤Z)(hd:x<Z)(I:dv<Z)(K:v<Z)(A:v≠x)(B:v≠dv)(C:D.size≤v)(ne4:D.size≤x)(P: [Nq,JI,JG,JH][n]? =some w) {k:ad→Prop}
  (U:∀h',Inv24 D x dv v Z (n+1) h'→Upd (fun y=>y=x∨y=v∨Z≤y) h h'→k h'):
  ∃v16:SliceV,aD h ⟨v,0,none⟩=some (.slice v16.a v16.len v16.cap)∧∃v17:Option Addr,aD h ⟨dv,0,none⟩=some (.pointer v17)∧
   HC PG ie [.pointer v17,.string (aG w)] [.c .str] (fun(W:ByteArray) G=>(aD G ⟨v,0,none⟩=some (.slice v16.a v16.len v16.cap)∧At (hnew G [.string W] cn) (fun E=>(aD E ⟨v,0,none⟩=some (.slice v16.a v16.len v16.cap)∧∃xs21,SRow E (some (aH G)) (1*1) xs21∧
    AppP (some [.string (⟨#[]⟩:ByteArray)]) 1 16 cn v16.a v16.len v16.cap 1 xs21 E (fun H O=>(Wr O ⟨v,0,none⟩∧At (hset O ⟨v,0,none⟩ (.slice H.a H.len H.cap)) k)))))) h:=by
 rcases i with⟨rfl,a,b,c,d⟩|⟨sp,J,gp,gm,tm,bm,nm,t,sm,z,so,t',i⟩
 ·cases P
  refine⟨eA,aW c,_,aW b,S4 (W0:=(· <Z)) (by decide) S7 (fun y f=>aO f zh) a (T.upd0 d) (by omega) fun h2 h' sp J gp gm tm bm nm t sm pb cb va bs hM q S b6 F=>?_⟩
  have zM:∀y,VS.M ⟨gp,gm,tm,bm,nm,1,⟨0,0,0⟩,t,[],1,[],[],[]⟩ y→Z≤y:=fun y f=>bv zh (hM y f).1
  have zsp:Z≤sp:=by have:=(hM gp (.inl rfl));omega
  have z2:=S.size;have z6:=F.size;have r:RunI D x dv v Z [] h' sp J ⟨gp,gm,tm,bm,nm,1,⟨0,0,0⟩,t,[],1,[],[],[]⟩ (some sm) (some ⟨pb,0,none⟩) eA:=by
   have al:∀y,AL [KL Z,A2 Uk 1 cn eA []] y→y<Z:=fun y ⟨a,s,f⟩=>by
    rcases ar.1 s with rfl|s
    ·exact f
    ·rw[aQ.1 s]at f
     exact absurd f (KG y)
   refine⟨⟨⟨fun a s=>?_,fun a s y f=>?_,fun p j a b s hb hij y f V=>?_⟩,va.re F (fun y f=>.inl ⟨.inl (by have f:y=x:=f;show y<Z;omega),fun e=>by have:=zM y e;have f:y=x:=f;omega⟩) (fun y f=>?_) fun y f=>.inl f,fun y f e=>?_⟩,F.get bs (show ¬sp=x by omega),b6,F.get (S.get0 b) (show ¬dv=x from ?_),F.get (S.get0 c) A,zsp,fun e=>?_,KG sp,zM,fun y f=>absurd f (KG y),?_⟩
   ·rcases ar.1 s with rfl|s
    ·exact trivial
    ·rw[aQ.1 s];exact OwnS.nil Uj
   ·have:=al y ⟨a,s,f⟩;omega
   ·have e:∀{j:Nat} {a:Sp},[KL Z,A2 Uk 1 cn eA []][j]? =some a→a.T y→j=0:=fun{j a} s f=>by
     rcases j with _|_|j
     ·rfl
     ·cases s;exact absurd f (KG y)
     ·cases s
    exact hij ((e s f).trans (e hb V).symm)
   ·rcases f with f|f
    ·exact⟨.inl (.inr f),by have:=va.g.lt y (.inr f);omega⟩
    ·have:=al y f
     exact⟨.inl (.inl this),by omega⟩
   ·have:=zM y e;have:=al y f;omega
   ·intro e;subst e
    rw[a]at b;cases b
   ·have:=(hM sp e).2;omega
   ·exact(d.tr S).trans F fun y f=>.inr (by have f:y=x:=f;omega)
  refine r.say L hd I K A B C (by decide) fun m s' o g=>U m (.inr ⟨sp,J,gp,gm,tm,bm,nm,t,some sm,some ⟨pb,0,none⟩,s',Dx,.inl ⟨rfl,o⟩⟩) ?_
  ·exact((S.wide.tr (F.mono fun y f=>.inl (.inl f)))).trans g fun y f=>.inl (.inr f)
 ·rcases i with⟨rfl,r⟩|⟨rfl,r⟩|⟨rfl,r⟩|⟨rfl,r⟩
  ·cases P
   have l:=T.upd0 r.k;refine⟨so,aW r.o,_,aW r.dv,Yo (sm:=sm.map fun b=>⟨b,0,none⟩) r.v.v (by cases sm<;>exact r.b) rfl rfl (fun y f=>r.v.lt y (.inl f)) l (by have:=r.k.size;omega) r.d fun h1' Y h' k1 N X R=>?_⟩
   have Q:=((r.up0 k1).ed L hd I K N X rfl).up0 R;refine Q.say L hd I K A B C (by decide) fun m s' o g=>U m (.inr ⟨sp,J,gp,gm,tm,bm,nm,t,sm,z,s',Dx,.inr (.inl ⟨rfl,o⟩)⟩) ?_
   ·exact(((k1.wide.tr (N.mono fun y f=>.inl (.inr (.inr (r.zM y f))))).tr R.wide)).trans g fun y f=>.inl (.inr f)
  ·cases P
   have l:=T.upd0 r.k;refine⟨so,aW r.o,_,aW r.dv,Ym r.v.v r.b r.sM (fun y f=>r.v.lt y (.inl f)) l (by have:=r.k.size;omega) r.d (fun h2 u=>l.upd u fun y f=>by have:=r.zM y f;omega) fun h1' Y h' t' k1 N X R=>?_⟩
   have Q:=((r.up0 k1).ed L hd I K N X rfl).up0 R;rw[ZS];refine Q.say L hd I K A B C (by decide) fun m s' o g=>U m (.inr ⟨sp,J,gp,gm,tm,bm,nm,t,sm,z,s',t',.inr (.inr (.inl ⟨rfl,o⟩))⟩) ?_
   ·exact(((k1.wide.tr (N.mono fun y f=>.inl (.inr (.inr (r.zM y f))))).tr R.wide)).trans g fun y f=>.inl (.inr f)
  ·cases P
   have l:=T.upd0 r.k;refine⟨so,aW r.o,_,aW r.dv,Yn r.v.v r.b l (by have:=r.k.size;omega) r.d fun h' k1=>?_⟩
   have Q:=r.up0 k1;rw[aaB];refine Q.say L hd I K A B C (by decide) fun m s' o g=>U m (.inr ⟨sp,J,gp,gm,tm,bm,nm,t,sm,z,s',t',.inr (.inr (.inr ⟨rfl,o⟩))⟩) ?_
   ·exact k1.wide.trans g fun y f=>.inl (.inr f)
  ·cases P
theorem RH{W:Nat→Prop}{h:ad}{s:SliceV}{xs:List ByteArray}(c:Sl Uk 1 W h s xs){i:Nat}(hi:i<xs.length):∃a,s.a=some a∧aD h (adr a (i*1))=some (.string xs[i]):=by
 obtain⟨a,b,_,d⟩:=c.at0 (g:=fun w=>Value.string w) (ax hi)
 exact⟨a,b,d⟩
theorem Vg{W W':Nat→Prop}{h:ad}{s s':SliceV}{xs:List ByteArray}(f:Sl Uk 1 W h s xs)(g:Sl Uk 1 W' h s' xs)(j:xs.length≤4611686018427387904){K:Bool→ad→Prop}(n:K true h):HC PG j2 [.slice s.a s.len s.cap,.slice s'.a s'.len s'.cap] [.c .bool] K h:=by
 refine vG s s' ?_;unfold nZ bf cU;have m:=f.len;have q:=g.len;refine CondP.intro (fun e=>absurd e (by rw[m,q];simp)) fun _=>?_
 refine LoopP.ghost (fun(i:Nat) (t:Int) h'=>t=(i:Int)∧h'=h∧i≤xs.length) (fun i=>xs.length-i) 0 ⟨rfl,rfl,bc _⟩ ?_
 rintro I i t h' ⟨rfl,rfl,hi⟩ p;refine aF (fun b=>?_) fun _=>n
 have b:i<xs.length:=by omega
 obtain⟨a,o,k⟩:=RH f b;obtain⟨a',c,d⟩:=RH g b;refine⟨⟨by omega,by omega⟩,a,o,_,k,⟨by omega,by omega⟩,a',c,_,d,?_⟩
 rw[di,decide_eq_true rfl,cM b j];exact af.2 (p (i+1) _ _ ⟨rfl,rfl,b⟩ (by omega))
theorem Qm{h:ad}{K:Bool→ad→Prop}(l:Laid h)(h4:4≤h.size)(U:∀h',Upd No h h'→K true h'):HC PG yP [] [.c .bool] K h:=by
 refine On ?_;unfold E9 vl1;have run:∀{K:SliceV→ad→Prop},(∀h' s,OwnS Uk 1 cn (sb s) h' s ans4→Upd No h h'→K s h')→HC PG Bl [.string (aG (Nq++10::(JI++10::(JG++10::JH))))] [.c .slice] K h:=by
  intro K Y;refine QE _ ?_;unfold H1 ez nN;refine QF ?_;unfold H2;refine pe fun g b1 k1=>pe fun h3 b3 B=>?_
  refine Xv (c':= #[.pointer (some ⟨h.size,0,none⟩)]) b3 (by simp) rfl fun d R A=>pe fun X I E=>?_
  refine FC _ _ ?_;unfold xN XT;refine FA _ _ _ ?_;unfold xL;refine pe fun h6 F z=>pe fun h7 H m=>pe fun a L j=>?_
  have z1:=bB b1;have z3:=bB b3;have z5:=bB I;have z6:=bB F;have z7:=bB H;have z8:=bB L;have S:=k1.size;have y3:=B.size;have y4:=A.size;have y5:=E.size;have y6:=z.size;have y7:=m.size;have y8:=j.size;have q:Upd No h d:=(k1.tr B).own A S;have f:=((E.tr z).tr m).tr j;have x:=q.tr f;have Z:=f.get0 (A.get (B.get0 b1) (show ¬h.size=g.size by omega))
  have P:=f.get0 R;have T:=((z.tr m).tr j).get0 I;have t8:=(m.tr j).get0 F;have Q:=j.get0 H;have low:∀b,(b=X.size∨b=a.size∨b=a.size+1)→b<a.size+2∧b≠h.size∧b≠g.size∧b≠d.size∧h.size≤b:=fun b C=>by
   rcases C with rfl|rfl|rfl<;>omega
  refine Po rfl Q t8 L (by omega) (by omega) (by decide) (Inv24 h h.size g.size d.size (a.size+2)) (fun b=>b=h.size∨b=d.size∨a.size+2≤b) (.inl ⟨rfl,Z,P,T,x⟩) (fun n c V i _ u=>i.low u low) (fun b C=>by omega) (fun n w c KK i hz G p=>?_) fun c i N=>?_
  ·rw[NW]at G
   exact WC i hz l h4 (by omega) (by omega) (by omega) (by omega) (by omega) (by omega) (by omega) (by omega) G p
  ·rw[NW]at i
   rcases i with⟨e,_⟩|⟨sp,vp,gp,gm,tm,bm,nm,t,sm,D,k,t',⟨e,_⟩|⟨e,_⟩|⟨e,_⟩|⟨_,r⟩⟩
   ·cases e
   ·cases e
   ·cases e
   ·cases e
   have u:=Upd.set (M:=(· =a.size)) c (b:=a.size) (.deferred none) rfl
   have zo:∀y,sb k y→¬y=a.size:=fun y o=>by have:=r.zo y o;omega
   refine⟨k,aW r.o,N,bi (Y _ k ((r.v.own.get (i:=1) rfl:OwnS Uk 1 cn (sb k) c k ans4).upd u zo) (r.k.trans u fun y o=>.inr (by have o:y=a.size:=o;omega)))⟩
 refine run fun g s os k1=>pe fun h2 b2 J=>?_
 refine Vg (W:=No) (W':=No) (s':=⟨some ⟨g.size,0,none⟩,4,4⟩) (xs:=ans4) ((os.upd J fun _ _ h=>h).sl fun _ _ _ h=>h) ?_ (by decide) (U h2 (k1.tr J))
 exact⟨rfl,Uj,fun _=>⟨⟨g.size,0,none⟩,rfl,fun h=>h,pj b2 fun i v O=>by rw[Nat.zero_add,List.getElem?_toArray];exact O⟩⟩
end Go.Proofs
namespace Go.Proofs
open Go Go.Lift Go.RowKit
theorem PA{W W':Nat→Prop}{h:ad}{s s':SliceV}{l:List Pr}(g:Sl jz 2 W h s l)(j:Sl jz 2 W' h s' l)(q:l.length≤1000000){K:Bool→ad→Prop}(m:K true h):HC PG Bi [.slice s.a s.len s.cap,.slice s'.a s'.len s'.cap] [.c .bool] K h:=by
 refine QB s s' ?_;unfold HX cU bP;have k:=g.len;have p:=j.len;refine CondP.intro (fun e=>absurd e (by rw[k,p];simp)) fun _=>?_
 refine LoopP.ghost (fun(i:Nat) (t:Int) h'=>t=(i:Int)∧h'=h∧i≤l.length) (fun i=>l.length-i) 0 ⟨rfl,rfl,bc _⟩ ?_
 rintro I i t h' ⟨rfl,rfl,hi⟩ o;refine aF (fun b=>?_) fun _=>m
 have b:i<l.length:=by omega
 obtain⟨a,n,_,f⟩:=g.at (ax b);obtain⟨a',d,_,c⟩:=j.at (ax b);refine⟨⟨by omega,by omega⟩,a,n,_,f 0 _ rfl,_,f 1 _ rfl,⟨by omega,by omega⟩,a',d,_,c 0 _ rfl,_,c 1 _ rfl,?_⟩
 rw[di,di,decide_eq_true rfl,decide_eq_true rfl];rw[cM b (by omega)];exact af.2 (o (i+1) _ _ ⟨rfl,rfl,b⟩ (by omega))
theorem Pz{W W':Nat→Prop}{h:ad}{s s':SliceV}{l:List Ch}(g:Sl sg 5 W h s l)(j:Sl sg 5 W' h s' l)(q:l.length≤1000000){K:Bool→ad→Prop}(m:K true h):HC PG Bh [.slice s.a s.len s.cap,.slice s'.a s'.len s'.cap] [.c .bool] K h:=by
 refine QA s s' ?_;unfold HW cU bP cJ;have k:=g.len;have p:=j.len;refine CondP.intro (fun e=>absurd e (by rw[k,p];simp)) fun _=>?_
 refine LoopP.ghost (fun(i:Nat) (t:Int) h'=>t=(i:Int)∧h'=h∧i≤l.length) (fun i=>l.length-i) 0 ⟨rfl,rfl,bc _⟩ ?_
 rintro I i t h' ⟨rfl,rfl,hi⟩ o;refine aF (fun c=>?_) fun _=>m
 have c:i<l.length:=by omega
 obtain⟨a,n,_,d⟩:=g.at (ax c);obtain⟨a',f,_,b⟩:=j.at (ax c);refine⟨⟨by omega,by omega⟩,a,n,_,d 0 _ rfl,_,d 1 _ rfl,_,d 2 _ rfl,_,d 3 _ rfl,_,d 4 _ rfl,⟨by omega,by omega⟩,a',f,_,b 0 _ rfl,_,b 1 _ rfl,_,b 2 _ rfl,_,b 3 _ rfl,_,b 4 _ rfl,?_⟩
 rw[di,di,di,decide_eq_true rfl,decide_eq_true rfl,decide_eq_true rfl,beq_self_eq_true,beq_self_eq_true];rw[cM c (by omega)];exact af.2 (o (i+1) _ _ ⟨rfl,rfl,c⟩ (by omega))
theorem Za(n:Int):(n !=n)=false:=by simp
theorem YC(x:ByteArray):(!(x.toList==x.toList))=false:=by rw[di,decide_eq_true rfl];rfl
theorem neB(b:Bool):(!(b==b))=false:=by cases b<;>rfl
section
variable {d:OpD} {sp sc sp' sc':SliceV} {h:ad}
theorem R9(g:d.ps.length≤1000000)(i:d.cs.length≤1000000)(c:Sl jz 2 No h sp d.ps)(e:Sl jz 2 No h sp' d.ps)(f:Sl sg 5 No h sc d.cs)(m:Sl sg 5 No h sc' d.cs){K:Bool→ad→Prop}(j:∀h',Upd No h h'→K true h'):HC PG Bk [ON (pY d sp sc),ON (pY d sp' sc')] [.c .bool] K h:=by
 refine QD (pY d sp sc) (pY d sp' sc') ?_;unfold H0 aj bJ ah aZ aL DR RP;refine pe fun n b1 k1=>pe fun b b2 a=>?_
 have c1:=a.get0 b1;have k:=k1.tr a;refine Join.plain ⟨_,vc c1 0,_,vc b2 0,?_⟩;rw[Za];refine af.2 ⟨_,vc c1 1,_,vc b2 1,?_⟩;rw[YC];refine af.2 ⟨_,vc c1 2,_,vc b2 2,?_⟩;rw[YC];refine af.2 ⟨_,vc c1 3,_,vc b2 3,?_⟩;rw[YC];refine af.2 ⟨_,vc c1 4,_,vc b2 4,?_⟩;rw[YC];refine af.2 ⟨_,vc c1 5,_,vc b2 5,?_⟩;rw[Za];refine af.2 ⟨_,vc c1 6,_,vc b2 6,?_⟩
 rw[Za];refine af.2 ⟨_,vc c1 7,_,vc b2 7,?_⟩;rw[Za];refine af.2 ⟨_,vc c1 8,_,vc b2 8,?_⟩;rw[Za];refine af.2 ⟨_,vc c1 9,_,vc b2 9,?_⟩;rw[neB];refine af.2 ⟨_,vc c1 10,_,vc b2 10,?_⟩;rw[YC];refine af.2 ⟨_,vc c1 11,_,vc b2 11,?_⟩;rw[YC];refine af.2 ⟨_,vc c1 12,_,vc b2 12,?_⟩;rw[neB];refine af.2 ⟨sp,vc c1 13,sp',vc b2 13,PA (c.upd k fun _ h=>h.elim) (e.upd k fun _ h=>h.elim) g (aA.2 ⟨sc,vc c1 14,sc',vc b2 14,Pz (f.upd k fun _ h=>h.elim) (m.upd k fun _ h=>h.elim) i (j b k)⟩)⟩
theorem UU(n1:d.ps.length≤1000000)(n2:d.cs.length≤1000000)(h1:Sl jz 2 No h sp d.ps)(h2:Sl sg 5 No h sc d.cs){K:xp→ad→Prop}(hk:∀h' sp' sc',Sl jz 2 No h' sp' d.ps→Sl sg 5 No h' sc' d.cs→Upd No h h'→K (pY d sp' sc') h'):HC PG Hf [ON (pY d sp sc)] [.agg [.int .i64,.str,.str,.str,.str,.int .u32,.int .u32,.int .i64,.int .i64,.bool,.str,.str,.bool,.slice,.slice]] K h:=by
 refine VX (pY d sp sc) ?_;unfold Oz cU aj bJ ah aZ aL fx nv L8 DR bP cJ iA ez uf nO bM XV;refine pe fun w b1 k1=>pe fun m b2 k2=>?_
 have c1:=k2.get0 b1;refine⟨_,vc c1 0,_,vc c1 1,_,vc c1 2,_,vc c1 3,_,vc c1 4,_,vc c1 5,_,vc c1 6,_,vc c1 7,_,vc c1 8,_,vc c1 9,_,Aa c1 10 0,_,Aa c1 10 1,_,Aa c1 10 2,pe fun g3 b3 k3=>dd (c:=ia (rS 0)) (vs:=ia (pY {d with ps:= [],cs:= []} eA eA)) b3 rfl fun s b4 u4=>?_⟩
 have C:Upd No m s:=k3.own u4 (au _);have Y:=(k1.tr k2).tr C;have zg1:=bB b1;have zg2:=bB b2;have zg4:=bB b4;have y1:=k1.size;have y2:=k2.size;have m4:MkO h w.size m.size s.size s {d with ps:= [],cs:= []} eA eA:=⟨b4,C.get0 b2,OwnS.nil gy,OwnS.nil mC,Y⟩;have a4:=C.get0 c1;refine⟨sp,vc a4 13,?_⟩;have hl1:=h1.len;have hl2:=h2.len;have J:h.size≠m.size:=by omega
 have Q:w.size≠m.size:=by omega
 refine LoopP.ghost (fun(i:Nat) (t:Int) h'=>t=(i:Int)∧i≤d.ps.length∧(∃x,MkO h w.size m.size s.size h' {d with ps:=d.ps.take i,cs:= []} x eA)∧h'[h.size]? =some (.cells (ia (pY d sp sc)).toArray aR (0,0))∧s.size≤h'.size) (fun i=>d.ps.length-i) 0 ⟨rfl,bc _,⟨eA,m4⟩,a4,au _⟩ ?_
 rintro I i t h' ⟨rfl,hi,⟨x,z⟩,L,zh⟩ T;have z':=bB z.o;refine aF (fun f=>Join.plain ?_) fun B=>?_
 ·have f:i<d.ps.length:=by have:(i:Int)<(sp.len:Int):=f;omega
  obtain⟨a,V,_,u⟩:=(h1.upd z.k fun _ h=>h.elim).at (ax f)
  have G:=Eu f;generalize d.ps[i]=p at u G;refine⟨⟨by omega,by omega⟩,a,V,p.1,by rw[ak];exact u 0 _ rfl,p.2,by rw[ak];exact u 1 _ rfl,pe fun X E F=>dd (c:= [.string ⟨#[]⟩,.string ⟨#[]⟩]) (vs:=jz p) E rfl fun k j D=>?_⟩
  have o:Upd No h' k:=F.own D (au _);have m3:=z.up0 o;refine⟨x,vc m3.o 13,_,vc j 0,_,vc j 1,pe fun P b5 N=>?_⟩
  have R:=m3.up0 N;have z5:=o.size;have z6:=N.size;have o1:OwnS jz 2 kV (fun _=>True) P ⟨some (aH k),1,1⟩ [p]:=⟨rfl,gy,au _,.inr ⟨k.size,[],rfl,trivial,b5,rfl⟩⟩
  refine⟨_,(o1.sl (W:=No) fun _ _ _ h=>h).srow,AppP.own (ys:= [p]) R.ps rfl rfl rfl rfl (by omega) (by show((d.ps.take i).length+1)*32≤_;rw[aY];omega) (show s.size≤P.size by omega) fun s' h6 o6 v=>?_⟩
  have U:=v.get R.o (show ¬s.size≤m.size by omega)
  refine oz (c':=(ia (pY {d with ps:=d.ps.take i++ [p],cs:= []} s' eA)).toArray) U (by simp) rfl fun Z O n=>?_
  rw[cM f (by omega)];have z7:=v.size;have z8:=n.size;refine T (i+1) _ _ ⟨rfl,f,⟨s',?_⟩,n.get (v.get (((o.tr N)).get0 L) (show ¬s.size≤h.size by omega)) J,by omega⟩ (by omega)
  rw[G];exact⟨O,n.get (v.get R.r (show ¬s.size≤w.size by omega)) Q,o6.upd n fun y b e=>by have b:s.size≤y:=b;have e:y=m.size:=e;omega,OwnS.nil mC,(R.k.trans v fun y b=>.inr (by have b:s.size≤y:=b;omega)).trans n fun y b=>.inr (by have b:y=m.size:=b;omega)⟩
 have hi:i=d.ps.length:=by have:¬(i:Int)<(sp.len:Int):=B;omega
 rw[hi,bG]at z;clear T I;refine⟨sc,vc L 14,?_⟩;have S1:Sl jz 2 (fun y=>y=m.size∨y=w.size∨h'.size≤y) h' x d.ps:=z.ps.sl fun y b f e=>by have b:s.size≤y:=b;omega
 have kh:=z.k;refine LoopP.ghost (fun(i:Nat) (t:Int) g=>t=(i:Int)∧i≤d.cs.length∧(∃A,g[m.size]? =some (.cells (ia (pY {d with cs:=d.cs.take i} x A)).toArray YU (0,0))∧OwnS sg 5 gU (fun y=>h'.size≤y) g A (d.cs.take i))∧g[w.size]? =some (.cells (ia (rS 0)).toArray YU (0,0))∧g[h.size]? =some (.cells (ia (pY d sp sc)).toArray aR (0,0))∧Upd (fun y=>y=m.size) h' g) (fun i=>d.cs.length-i) 0 ⟨rfl,bc _,⟨eA,z.o,OwnS.nil mC⟩,z.r,L,Upd.refl _ _⟩ ?_
 rintro I i t g ⟨rfl,hi,⟨A,H,os⟩,cr,L,S⟩ T;have zu:=S.size;have ku:Upd No h g:=kh.trans S fun y b=>.inr (by have b:y=m.size:=b;omega)
 refine aF (fun f=>Join.plain ?_) fun B=>?_
 ·have f:i<d.cs.length:=by have:(i:Int)<(sc.len:Int):=f;omega
  obtain⟨a,V,_,u⟩:=(h2.upd ku fun _ h=>h.elim).at (ax f)
  have G:=Eu f;generalize d.cs[i]=c at u G;refine⟨⟨by omega,by omega⟩,a,V,c.1,by rw[ak];exact u 0 _ rfl,c.2.1,by rw[ak];exact u 1 _ rfl,c.2.2.1,by rw[ak];exact u 2 _ rfl,c.2.2.2.1,by rw[ak];exact u 3 _ rfl,c.2.2.2.2,by rw[ak];exact u 4 _ rfl,pe fun X E F=>dd (c:= [.string ⟨#[]⟩,.string ⟨#[]⟩,.string ⟨#[]⟩,.bool false,.bool false]) (vs:=sg c) E rfl fun k j D=>?_⟩
  have o:Upd No g k:=F.own D (au _);refine⟨A,vc (o.get0 H) 14,_,vc j 0,_,vc j 1,_,vc j 2,_,vc j 3,_,vc j 4,pe fun P b5 N=>?_⟩
  have q:=o.tr N;have z35:=q.size;have o1:OwnS sg 5 gU (fun _=>True) P ⟨some (aH k),1,1⟩ [c]:=⟨rfl,mC,au _,.inr ⟨k.size,[],rfl,trivial,b5,rfl⟩⟩
  refine⟨_,(o1.sl (W:=No) fun _ _ _ h=>h).srow,AppP.own (ys:= [c]) (os.upd q fun _ _ h=>h) rfl rfl rfl rfl (by omega) (by rw[aY];show(min i d.cs.length+1)*56≤_;omega) (show h'.size≤P.size by omega) fun s' h6 o6 v=>?_⟩
  have U:=v.get (q.get0 H) (show ¬h'.size≤m.size by omega)
  refine oz (c':=(ia (pY {d with cs:=d.cs.take i++ [c]} x s')).toArray) U (by simp) rfl fun Z O n=>?_
  rw[cM f (by omega)];refine T (i+1) _ _ ⟨rfl,f,⟨s',?_,?_⟩,n.get (v.get (q.get0 cr) (show ¬h'.size≤w.size by omega)) Q,n.get (v.get (q.get0 L) (show ¬h'.size≤h.size by omega)) J,?_⟩ (by omega)
  ·rw[G];exact O
  ·rw[G];exact o6.upd n fun y b e=>by have b:h'.size≤y:=b;have e:y=m.size:=e;omega
  ·exact((S.tr q.wide).trans v fun y b=>.inr b).trans n fun y b=>.inl b
 ·have hi:i=d.cs.length:=by have:¬(i:Int)<(sc.len:Int):=B;omega
  rw[hi,bG]at H os;have H:g[m.size]? =some (.cells (ia (pY d x A)).toArray YU (0,0)):=H;have S2:Sl sg 5 (fun y=>y=w.size) g A d.cs:=os.sl fun y b _ e=>by have b:h'.size≤y:=b;have e:y=w.size:=e;omega
  have S1':=S1.upd S fun y b=>.inl (.inl b)
  refine xW H (dd (c:=ia (rS 0)) (vs:=ia (pY d x A)) cr rfl fun Z O n=>xW O (hk Z x A ?_ ?_ ?_))
  ·exact(S1'.upd n fun y b=>.inl (.inr (.inl b))).less fun _ h=>h.elim
  ·exact(S2.upd n fun y b=>.inl b).less fun _ h=>h.elim
  ·exact ku.trans n fun y b=>.inr (by have b:y=w.size:=b;omega)
end
def PQ(a:List UInt8)(d:OpD)(ok:Bool):Prop:=(ok=true∧iQ a=some d)∨(ok=false∧iQ a=none∧d=d0 0)
theorem PQ.uniq{a:List UInt8}{d d':OpD}{ok b:Bool}(h:PQ a d ok)(h':PQ a d' b):d'=d∧b=ok:=by
 rcases h with⟨rfl,h⟩|⟨rfl,h,rfl⟩<;>rcases h' with⟨rfl,h'⟩|⟨rfl,h',rfl⟩
 ·rw[h]at h';exact⟨(Option.some.inj h').symm,rfl⟩
 ·rw[h]at h';cases h'
 ·rw[h]at h';cases h'
 ·exact⟨rfl,rfl⟩
theorem PQ.small{a:List UInt8}(b:a.length≤10000){d:OpD}{ok:Bool}(h:PQ a d ok):d.ps.length≤1000000∧d.cs.length≤1000000∧(ok=true→SmallD d∧lP d=some a):=by
 rcases h with⟨rfl,h⟩|⟨rfl,h,rfl⟩
 ·have sm:=M7 (by omega) h
  exact⟨by have:=sm.ps.1;omega,by have:=sm.cs.1;omega,fun _=>⟨sm,Gn h⟩⟩
 ·exact⟨bc _,bc _,fun h=>by cases h⟩
theorem Qg{a:List UInt8}(hx:a.length≤10000){h:ad}(l:Laid h)(i:4≤h.size){K:xp×Bool→ad→Prop}(c:∀h' d sp b ok,PQ a d ok→Sl jz 2 No h' sp d.ps→Sl sg 5 No h' b d.cs→Upd No h h'→K (pY d sp b,ok) h'):
  HC PG mZ [.string (aG a)] [.agg [.int .i64,.str,.str,.str,.str,.int .u32,.int .u32,.int .i64,.int .i64,.bool,.str,.str,.bool,.slice,.slice],.c .bool] K h:=
 Lw (by omega) l i (fun h' d sp b g op e k=>c h' d sp b true (.inl ⟨rfl,g⟩) (op.sl fun _ _ _ h=>h) (e.sl fun _ _ _ h=>h) k) fun f h' k=>c h' (d0 0) eA eA false (.inr ⟨rfl,f,rfl⟩) (Sl.nil gy) (Sl.nil mC) k
theorem Sn{a:List UInt8}(hx:a.length≤10000){h:ad}{K:xp×Bool→ad→Prop}(c:∀h' d sp b ok,PQ a d ok→Sl jz 2 No h' sp d.ps→Sl sg 5 No h' b d.cs→Upd No h h'→K (pY d sp b,ok) h'):
  HC PG uv [.string (aG a)] [.agg [.int .i64,.str,.str,.str,.str,.int .u32,.int .u32,.int .i64,.int .i64,.bool,.str,.str,.bool,.slice,.slice],.c .bool] K h:=
 MX hx (fun h' d sp b g op e k=>c h' d sp b true (.inl ⟨rfl,g⟩) op e k) fun f h' k=>c h' (d0 0) eA eA false (.inr ⟨rfl,f,rfl⟩) (Sl.nil gy) (Sl.nil mC) k
theorem WN{h:ad}{b:Nat}{t:TypeId}{o:xp}(a:h[b]? =some (.cells (ia o).toArray t (0,0))):
  aD h (adr ⟨b,0,none⟩ 0)=some (.int .i64 o.1)∧aD h (adr ⟨b,0,none⟩ 1)=some (.string o.2.1)∧aD h (adr ⟨b,0,none⟩ 2)=some (.string o.2.2.1)∧aD h (adr ⟨b,0,none⟩ 3)=some (.string o.2.2.2.1)∧aD h (adr ⟨b,0,none⟩ 4)=some (.string o.2.2.2.2.1)∧aD h (adr ⟨b,0,none⟩ 5)=some (.int .u32 o.2.2.2.2.2.1)∧aD h (adr ⟨b,0,none⟩ 6)=some (.int .u32 o.2.2.2.2.2.2.1)∧aD h (adr ⟨b,0,none⟩ 7)=some (.int .i64 o.2.2.2.2.2.2.2.1)∧aD h (adr ⟨b,0,none⟩ 8)=some (.int .i64 o.2.2.2.2.2.2.2.2.1)∧aD h (adr ⟨b,0,none⟩ 9)=some (.bool o.2.2.2.2.2.2.2.2.2.1)∧aD h (adr ⟨b,0,none⟩ 10)=some (.string o.2.2.2.2.2.2.2.2.2.2.1)∧aD h (adr ⟨b,0,none⟩ 11)=some (.string o.2.2.2.2.2.2.2.2.2.2.2.1)∧aD h (adr ⟨b,0,none⟩ 12)=some (.bool o.2.2.2.2.2.2.2.2.2.2.2.2.1)∧aD h (adr ⟨b,0,none⟩ 13)=some (.slice o.2.2.2.2.2.2.2.2.2.2.2.2.2.1.a o.2.2.2.2.2.2.2.2.2.2.2.2.2.1.len o.2.2.2.2.2.2.2.2.2.2.2.2.2.1.cap)∧aD h (adr ⟨b,0,none⟩ 14)=some (.slice o.2.2.2.2.2.2.2.2.2.2.2.2.2.2.a o.2.2.2.2.2.2.2.2.2.2.2.2.2.2.len o.2.2.2.2.2.2.2.2.2.2.2.2.2.2.cap):=
 ⟨vc a 0,vc a 1,vc a 2,vc a 3,vc a 4,vc a 5,vc a 6,vc a 7,vc a 8,vc a 9,vc a 10,vc a 11,vc a 12,vc a 13,vc a 14⟩
theorem Sl.k0{α:Type}{f:α→List Value}{a:Nat}{h h':ad}{s:SliceV}{xs:List α}(b:Sl f a No h s xs)(k:Upd No h h'):Sl f a No h' s xs:=b.upd k fun _ h=>h.elim
set_option maxHeartbeats 1000000 in
theorem IB{s:ByteArray}{h:ad}(l:Laid h)(h4:4≤h.size){K:Bool→ad→Prop}(H:∀h',Upd No h h'→K true h'):HC PG wf [.string s] [.c .bool] K h:=by
 refine El s ?_;unfold wJ aj bJ ah aZ aL nv L8 DR O0 Sw;refine Qm l h4 fun h1 k1=>af.2 ⟨⟨by split<;>omega,by split<;>omega⟩,F6 ?_⟩
 have J:(s.extract 0 ((if 150<(s.size:Int)then 150 else(s.size:Int)).toNat)).size≤150:=bv (Vr _ _) (by split<;>omega)
 generalize s.extract 0 ((if 150<(s.size:Int)then 150 else(s.size:Int)).toNat)=x at J
 obtain⟨b,rfl⟩:∃b,x=aG b:=⟨x.data.toList,rfl⟩;rw[ci]at J;have l1:=l.upd0 k1;have z1:=k1.size;refine Qg (by omega) l1 (by omega) fun Y d sp O ok F ps cs P=>pe fun h6 R W=>dd (c:=ia (rS 0)) (vs:=ia (pY d sp O)) R rfl fun Z X N=>?_
 have o:Upd No Y Z:=W.own N (au _);refine Sn (by omega) fun S d' V U z E u p I=>?_
 obtain⟨rfl,rfl⟩:=F.uniq E;obtain⟨L,G,w⟩:=F.small (by omega);refine pe fun Q D y=>dd (c:=ia (rS 0)) (vs:=ia (pY d' V U)) D rfl fun t m v=>?_
 have f:Upd No S t:=y.own v (au _);have n:=(I.tr f).get0 X;have j:=(o.tr I).tr f;rw[beq_self_eq_true];refine aA.2 (xW n (xW m (UU L G (Sl.k0 ps j) (Sl.k0 cs j) fun h43 s3 c3 A B a=>⟨WN (a.get0 m),R9 L G A (Sl.k0 u (f.tr a)) B (Sl.k0 p (f.tr a)) fun q i=>aA.2 ?_⟩)))
 have g:=(((k1.tr P).tr j).tr a).tr i;refine CondP.intro (fun e=>H q g) fun e=>?_
 have e:z=true:=by simpa using e
 obtain⟨sm,T⟩:=w e;refine xW ((a.tr i).get0 n) (NT sm (Sl.k0 ps ((j.tr a).tr i)) (Sl.k0 cs ((j.tr a).tr i)) (l.upd0 g) fun k C=>?_)
 rw[T];show K ((aG b).toList==(aG b).toList) k
 rw[di,decide_eq_true rfl];exact H k (g.tr C)
end Go.Proofs
