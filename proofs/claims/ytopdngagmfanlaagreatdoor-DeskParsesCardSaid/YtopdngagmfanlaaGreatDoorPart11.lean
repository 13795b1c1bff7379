/- A part of the proof that the named laws of this program answer true, whatever the input. -/
import Derived.Test.YtopdngagmfanlaaGreatDoorPart10
open Array renaming size→aM
open ByteArray renaming size_extract→pP
open Go.IntKind renaming wrap→ac,wrap_u32→qz
open Int renaming toNat_natCast→ak
open List renaming mem_cons_self→aN,getD_eq_getElem?_getD→fa,mem_cons→ar,mem_singleton→aQ,getElem?_eq_getElem→ax,length_take→aY,take_length→bG
open List.Pairwise renaming nil→jZ
open Nat renaming lt_of_lt_of_le→aO,le_refl→au,le_trans→bv,zero_le→bc
namespace Go.Proofs
open Go Go.Lift
theorem S4{W0:Nat→Prop}{a:List UInt8}(hx:a.length≤1000000)(s:im 32 a= [[111,112,101,110],[114,97,100,105,120],[48],[48],[48]]){h:ad}(j:∀y,W0 y→y<h.size){c:Nat}(hd:h[c]? =some (.cells #[.pointer none] hE (0,0))) (l:Laid h) (i:4≤c) {K:ByteArray→ad→Prop}
  (B:∀b h' sp e gp gm tm bm nm t sm pb f,VaultAt (fun y=>W0 y∨VS.M ⟨gp,gm,tm,bm,nm,1,⟨0,0,0⟩,t,[],1,[],[],[]⟩ y) b e ⟨gp,gm,tm,bm,nm,1,⟨0,0,0⟩,t,[],1,[],[],[]⟩→b[sp]? =some (.cells (O9 e (some sm) 0 (some ⟨pb,0,none⟩)).toArray dB (0,0))→
   (∀y,VS.M ⟨gp,gm,tm,bm,nm,1,⟨0,0,0⟩,t,[],1,[],[],[]⟩ y→h.size≤y∧y<f)→f<sp→Upd No h b→h'[c]? =some (.cells #[.pointer (some ⟨sp,0,none⟩)] hE (0,0))→Upd (· =c) b h'→K ⟨#[111,107]⟩ h'):
  HC PG ie [.pointer (some ⟨c,0,none⟩),.string (aG a)] [.c .str] K h:=by
 refine zw (some ⟨c,0,none⟩) (aG a) ?_;unfold tY bf cU aj bJ ah aZ aL nv L8 DR O0 Y4 W1 ez iE;refine af.2 (B5 (by rw[ci];exact hx) fun k E ow C=>pe fun m z p=>?_)
 rw[show(aG a).data.toList=a from by simp,s]at ow
 have g:=C.tr p;have x:=(ow.sl (W:=fun y=>k.size≤y) (fun y _ d=>by omega)).upd p fun _ h=>h.elim
 have n:=g.get0 hd;have w:=g.size;refine LoopP.ghost (fun(_:Unit) (t:Int) o=>t=0∧o=m) (fun _=>0) () ⟨rfl,rfl⟩ ?_
 rintro I _ t o ⟨e1,e2⟩ F;subst e1 e2;refine aA.2 ⟨⟨by decide,by decide⟩,_,rfl,_,vc z 0,HV.mk' (SD (fun y d=>aO (j y d) w) n (l.upd0 g) i x fun b h' sp e gp gm tm bm nm t sm pb f u bs hM q v D A=>aA.2 ?_)⟩
 exact B b h' sp e gp gm tm bm nm t sm pb f u bs (fun y d=>⟨by have:=(hM y d).1;omega,(hM y d).2⟩) q (g.tr v) D A
theorem Nz{c:UInt8}:∀{l:List UInt8},c∉l→Lib.indexByte l c= -1
 | [],_=>rfl
 |a::l,h=>by
  have b:(a==c)=false:=beq_eq_false_iff_ne.2 fun e=>h (by rw[e];exact aN ..)
  have d:=Nz (l:=l) fun e=>h (List.mem_cons_of_mem _ e)
  simp only[Lib.indexByte,b,d];rfl
theorem Po{a:List UInt8}{h:ad}{fv:Value}{sb tb nb:Nat}(hfv:fv=.func (.func jM) #[] #[.pointer (some ⟨sb,0,none⟩),.pointer (some ⟨tb,0,none⟩),.pointer (some ⟨nb,0,none⟩)])(hs:h[sb]? =some (.cells #[.string ⟨#[10]⟩] cn (0,0))) (ht:h[tb]? =some (.cells #[.string (aG a)] cn (0,0))) (hn:h[nb]? =some (.cells #[.int .i64 0] Mu (0,0)))
  (q1:tb≠sb) (q2:tb≠nb) (hx:a.length≤1000000)
  {BODY:ByteArray→(Option Ex→ad→Prop)→ad→Prop} {N:ad→Prop} {X:Nat→ad→Prop} {R:ad→Prop} (Inv:Nat→ad→Prop) (M:Nat→Prop)
  (J:Inv 0 h) (d:∀k h1 h2,Inv k h1→h.size≤h1.size→Upd (fun b=>b=tb∨b=h.size∨b=h.size+1) h1 h2→Inv k h2)
  (hM:∀b,M b→b≠tb∧b≠sb∧b≠nb∧b≠h.size∧b≠h.size+1)
  (step:∀k w h1 (KK:Option Ex→ad→Prop),Inv k h1→h.size+2≤h1.size→(im 10 a)[k]? =some w→(∀h2,Inv (k+1) h2→Upd M h1 h2→KK none h2)→BODY (aG w) KK h1)
  (Y:∀h1,Inv (im 10 a).length h1→h1[h.size]? =some (.deferred (some []))→N h1):
  RangeP PG fv [.c .str] h (fun Jp bz (x:ByteArray) k H=>(H[(aM h+1)]? =some Jp∧At (Array.setIfInBounds H (aM h+1) bz) (fun S=>BODY x k S))) N X R:=by
 subst hfv;refine⟨fun lo hlo t=>⟨jM,#[],_,rfl,?_⟩⟩
 have zs:=bB hs;have zt:=bB ht;have zn:=bB hn;have k1:Upd No h ((h.push (.deferred (some []))).push (lo .ready none)):=(Upd.push No _ _).tr (Upd.push No _ _);have l2:((h.push (.deferred (some []))).push (lo .ready none))[h.size+1]? =some (lo .ready none):=by
  have:=mo (h.push (.deferred (some []))) (lo .ready none);rwa [Array.size_push]at this
 have l1:((h.push (.deferred (some []))).push (lo .ready none))[h.size]? =some (.deferred (some [])):=(Upd.push No _ _).get0 (mo h _);have i1:=d 0 _ _ J (au _) k1.wide;generalize (h.push (.deferred (some []))).push (lo .ready none)=h1 at k1 l2 l1 i1;have s1:=k1.get0 hs;have t1:=k1.get0 ht;have F:=k1.get0 hn;refine BL (.func (.yield (h.size+1)) #[] #[]) ⟨sb,0,none⟩ ⟨tb,0,none⟩ ⟨nb,0,none⟩ ?_
 unfold pF ez;refine⟨_,aW s1,af.2 ?_⟩
  have round:∀(k:Nat) (w:List UInt8) (h':ad) (KK:Bool→ad→Prop),Inv k h'→(im 10 a)[k]? =some w→h.size≤h'.size→h'[sb]? =some (.cells #[.string ⟨#[10]⟩] cn (0,0))→h'[nb]? =some (.cells #[.int .i64 0] Mu (0,0))→h'[h.size]? =some (.deferred (some []))→h'[h.size+1]? =some (lo .ready none)→∀v,h'[tb]? =some (.cells v cn (0,0))→
   (∀h2,Inv (k+1) h2→h.size≤h2.size→h2[sb]? =some (.cells #[.string ⟨#[10]⟩] cn (0,0))→h2[nb]? =some (.cells #[.int .i64 0] Mu (0,0))→h2[h.size]? =some (.deferred (some []))→h2[h.size+1]? =some (lo .ready none)→h2[tb]? =some (.cells v cn (0,0))→KK true h2)→HV PG (.func (.yield (h.size+1)) #[] #[]) [.string (aG w)] [.c .bool] KK h':=by
  intro k w h' KK hi hw O sb' W u j v T Z;refine t (aG w) h' KK j ⟨j,?_⟩;have A:Upd (· =h.size+1) h' (h'.setIfInBounds (h.size+1) (lo .busy none)):=Upd.set _ _ rfl
  have lb:=jo (o:=lo .busy none) j;have zb:=A.size;refine bi ?_;generalize h'.setIfInBounds (h.size+1) (lo .busy none)=h2 at A lb zb;refine step k w h2 _ (d k _ _ hi O (A.mono fun b z=>.inl (.inr (.inr z)))) (by have:=bB lb;omega) hw fun h3 hi3 f=>?_
  have G:=f.get lb fun e=>(hM _ e).2.2.2.2 rfl
  refine⟨G,?_⟩;have s:Upd (· =h.size+1) h3 (h3.setIfInBounds (h.size+1) (lo .ready none)):=Upd.set _ _ rfl
  have D:=jo (o:=lo .ready none) G;have z3:=f.size;have E:=s.size;have F:sb≠h.size+1:=by omega
  have P:nb≠h.size+1:=by omega
  have n3:tb≠h.size+1:=by omega
  have n4:h.size≠h.size+1:=by omega
  simp only[Option.isNone_none,if_true];generalize h3.setIfInBounds (h.size+1) (lo .ready none)=L at s D E;exact Z L (d (k+1) _ _ hi3 (by omega) (s.mono fun b z=>.inl (.inr (.inr z)))) (by omega) (s.get (f.get (A.get sb' F) fun e=>(hM _ e).2.1 rfl) F) (s.get (f.get (A.get W P) fun e=>(hM _ e).2.2.1 rfl) P) (s.get (f.get (A.get u n4) fun e=>(hM _ e).2.2.2.1 rfl) n4) D (s.get (f.get (A.get T n3) fun e=>(hM _ e).1 rfl) n3)
 refine LoopP.ghost (fun(g:Nat×List UInt8) (_:Unit) h'=>Inv g.1 h'∧(im 10 a).drop g.1=im 10 g.2∧g.2.length≤1000000∧h'[tb]? =some (.cells #[.string (aG g.2)] cn (0,0))∧h'[sb]? =some (.cells #[.string ⟨#[10]⟩] cn (0,0))∧h'[nb]? =some (.cells #[.int .i64 0] Mu (0,0))∧h'[h.size]? =some (.deferred (some []))∧h'[h.size+1]? =some (lo .ready none)∧h.size≤h'.size) (fun g=>g.2.length) (0,a) ⟨i1,rfl,hx,t1,s1,F,l1,l2,k1.size⟩ ?_
 rintro I ⟨k,r⟩ ⟨⟩ h' ⟨hi,c,hr,m,C,y,u,j,O⟩ hI;simp only at hi c hr m;refine⟨_,aW m,_,aW C,JP ?_⟩;rw[show(aG r).data.toList=r from by simp]
 by_cases hm:(10:UInt8)∈r
 ·obtain⟨p,q,rfl,hp,n⟩:=G3 10 r hm
  rw[yZ hp]at c;have hk:(im 10 a)[k]? =some p:=by
   have:=congrArg (fun l=>l[0]?) c
   simpa using this
  rw[n];refine aF (fun J=>absurd J (by omega)) fun _=>⟨_,aW m,0,aW y,?_⟩
  have K:(p++10::q).length=p.length+(q.length+1):=by simp
  have es:(aG (p++10::q)).size=p.length+(q.length+1):=by rw[ci,K]
  have e4:ac .i64 ((p.length:Int)+0)=(p.length:Int):=by rw[kD (by omega)];omega
  have e5:ac .i64 ((p.length:Int)+((⟨#[10]⟩:ByteArray).size:Int))=((p.length+1:Nat):Int):=by rw[show((⟨#[10]⟩:ByteArray).size:Int)=1 from rfl,kD (by omega)];omega
  rw[e4,es,ak,Vf];refine⟨⟨by omega,by omega⟩,round k p h' _ hi hk O C y u j _ m fun L B E s5 n5 U D Q=>af.2 ⟨_,aW Q,_,aW s5,?_⟩⟩
  rw[e5,es,ak];have er:(aG (p++10::q)).extract (p.length+1) (p.length+(q.length+1))=aG q:=by
   have:=Ve (p++ [10]) q (p.length+(q.length+1)) (by simp<;>omega)
   rw[List.append_assoc]at this;simpa using this
  rw[er];refine⟨⟨by omega,by omega⟩,F6 ⟨iM Q (by simp),vC Q fun h6 V i=>?_⟩⟩
  have F:sb≠tb:=fun e=>q1 e.symm
  have P:nb≠tb:=fun e=>q2 e.symm
  refine hI (k+1,q) () h6 ⟨d _ _ _ B E (i.mono fun b z=>.inl (.inl z)),?_,by simp only;omega,V,i.get s5 F,i.get n5 P,i.get U (show ¬h.size=tb by omega),i.get D (show ¬h.size+1=tb by omega),bv E i.size⟩ (by simp only;omega)
  have:=congrArg List.tail c;rw[List.tail_drop]at this;exact this
 ·rw[wn hm]at c
  have hk:(im 10 a)[k]? =some r:=by
   have:=congrArg (fun l=>l[0]?) c
   simpa using this
  have hl:(im 10 a).length=k+1:=by
   have:=congrArg List.length c;simp only[List.length_drop,List.length_singleton]at this;omega
  have n:Lib.indexByte r 10<0:=by rw[Nz hm];decide
  refine aF (fun _=>⟨_,aW m,round k r h' _ hi hk O C y u j _ m fun L B E s5 n5 U D Q=>?_⟩) fun J=>absurd n J
  have s:Upd (· =h.size+1) L (L.setIfInBounds (h.size+1) (lo .exhausted none)):=Upd.set _ _ rfl
  refine⟨.ready,none,by decide,D,?_⟩
  refine Y _ ?_ (s.get U (show ¬h.size=h.size+1 by omega))
  rw[hl];exact d (k+1) _ _ B E (s.mono fun b z=>.inl (.inr (.inr z)))
end Go.Proofs
namespace Go.Proofs
open Go Go.Lift
theorem Y7:mr [48]=some 0:=by
 have:mr (dJ 0)=some 0:=Cg (by omega);rw[ot (by omega)]at this;exact this
theorem Y6:mr [49]=some 1:=by
 have:mr (dJ 1)=some 1:=Cg (by omega);rw[ot (by omega)]at this;exact this
abbrev GU:List UInt8:= [109,97,105,110]
theorem GT:fj (aG GU)=true:=by decide+kernel
theorem Q3:iP [54,49]=some [97]:=by decide+kernel
theorem Wl:iP [51,49]=some [49]:=by decide+kernel
abbrev JI:List UInt8:= [99,114,101,97,116,101,32,109,97,105,110,32,48]
abbrev JG:List UInt8:= [112,117,116,32,109,97,105,110,32,54,49,32,51,49]
abbrev JH:List UInt8:= [103,101,116,32,49,32,54,49]
abbrev Nq:List UInt8:= [111,112,101,110,32,114,97,100,105,120,32,48,32,48,32,48]
theorem S7:im 32 Nq= [[111,112,101,110],[114,97,100,105,120],[48],[48],[48]]:=by decide+kernel
theorem S9:im 32 JI= [[99,114,101,97,116,101],GU,[48]]:=by decide+kernel
theorem S6:im 32 JG= [[112,117,116],GU,[54,49],[51,49]]:=by decide+kernel
theorem S8:im 32 JH= [[103,101,116],[49],[54,49]]:=by decide+kernel
theorem NW:im 10 (Nq++10::(JI++10::(JG++10::JH)))= [Nq,JI,JG,JH]:=by decide+kernel
theorem Pm:([98,105]:List UInt8).foldl (fun x p=>Q6 p x) (([GU,[48]],true),rS 0)=(([],true),ZG (ZH (rS 0) (aG GU)) 0):=by
 simp[Q6,gJ,eC,bX,Y7,GT,qz]
theorem Pk:([98,107,118]:List UInt8).foldl (fun x p=>Q6 p x) (([GU,[54,49],[51,49]],true),rS 4)=(([],true),Z4 (ZF (ZH (rS 4) (aG GU)) (aG [97])) (aG [49])):=by
 simp[Q6,gJ,bw,bX,Q3,Wl,GT]
theorem Pl:([105,107]:List UInt8).foldl (fun x p=>Q6 p x) (([[49],[54,49]],true),rS 10)=(([],true),ZF (ZG (rS 10) 1) (aG [97])):=by
 simp[Q6,bw,eC,bX,Q3,Y6,qz]
theorem Qa{k:Nat}{kd:Int}{w d:List UInt8}(b:formsL[k]? =some (kd,w,d)):∀j f,j<k→formsL[j]? =some f→f.2.1≠w:=by
 have key:∀i j:Fin 26,j.val<i.val→(formsL.getD j.val (0,[],[])).2.1≠(formsL.getD i.val (0,[],[])).2.1:=by decide+kernel
 intro j f e a;have c:k<26:=(List.getElem?_eq_some_iff.1 b).1;have:=key ⟨k,c⟩ ⟨j,by omega⟩ e
 rw[fa,fa,b,a]at this;exact this
end Go.Proofs
namespace Go.Proofs
open Go Go.Lift
theorem Yo{W:Nat→Prop}{h:ad}{g sp j:Nat}{sm d:Option Addr}{last:Int}{s:VS}(v:VaultAt W h g s)(b:h[sp]? =some (.cells (O9 g (sm.map (·.block)) last d).toArray dB (0,0))) (e1:s.B= []) (e2:s.L= []) (hM:∀y,s.M y→y<h.size) (l:Laid h) (t:4≤h.size)
  (hd:h[j]? =some (.cells #[.pointer (some ⟨sp,0,none⟩)] hE (0,0))) {K:ByteArray→ad→Prop}
  (n:∀f c h',Upd No h f→Upd s.M f c→VaultAt W c g {s with B:= [(rG,0)]}→Upd No c h'→K ⟨#[111,107]⟩ h'):
  HC PG ie [.pointer (some ⟨j,0,none⟩),.string (aG JI)] [.c .str] K h:=by
 refine Hp (by decide) S9 (by decide) (by decide) (fun x hx=>by rcases ar.1 hx with rfl|hx; · decide
   rcases ar.1 hx with rfl|hx; · decide
   cases hx) (k:=0) rfl (Qa rfl) (fun p a=>by rcases ar.1 a with rfl|a; · exact .inl rfl
    rcases ar.1 a with rfl|a; · exact .inr (.inr (.inr (.inr (.inl rfl))))
    cases a) Pm l t hd fun f ob k1 z w q=>?_
 refine NQ (v.upd0 k1) (k1.get0 b) rfl fun c i m=>?_
 rw[e1,e2]at*;refine⟨vc (i.get q fun e=>by have:=hM _ e;omega) 0,T5 rfl fun u o=>n f c u k1 i m o⟩
end Go.Proofs
namespace Go.Proofs
open Go Go.Lift
theorem Ym{W:Nat→Prop}{h:ad}{j sp s:Nat}{sm:Option Nat}{f:Option Addr}{last:Int}{gp gm tm bm nm:Nat}{kd:Int}{t:Tr}(v:VaultAt W h j ⟨gp,gm,tm,bm,nm,kd,⟨0,0,0⟩,t,[],1,[],[(rG,0)],[]⟩)(b:h[sp]? =some (.cells (O9 j sm last f).toArray dB (0,0))) (o:¬VS.M ⟨gp,gm,tm,bm,nm,kd,⟨0,0,0⟩,t,[],1,[],[(rG,0)],[]⟩ sp)
  (hM:∀y,VS.M ⟨gp,gm,tm,bm,nm,kd,⟨0,0,0⟩,t,[],1,[],[(rG,0)],[]⟩ y→y<h.size) (l:Laid h) (D:4≤h.size)
  (hd:h[s]? =some (.cells #[.pointer (some ⟨sp,0,none⟩)] hE (0,0))) {K:ByteArray→ad→Prop}
  (A:∀a,Upd (VS.M ⟨gp,gm,tm,bm,nm,kd,⟨0,0,0⟩,t,[],1,[],[(rG,0)],[]⟩) h a→Laid a)
  (z:∀g a h' i,Upd No h g→Upd (VS.M ⟨gp,gm,tm,bm,nm,kd,⟨0,0,0⟩,t,[],1,[],[(rG,0)],[]⟩) g a→VaultAt W a j ⟨gp,gm,tm,bm,nm,kd,⟨0,0,0⟩,t,[(1,[])],2,[(1,(i,[(⟨#[97]⟩,⟨#[49]⟩)]))],[(rG,1)],[]⟩→Upd No a h'→K (((⟨#[118,101,114,115,105,111,110,32]⟩:ByteArray)++aG (dJ 1))++(⟨#[]⟩:ByteArray)) h'):
  HC PG ie [.pointer (some ⟨s,0,none⟩),.string (aG JG)] [.c .str] K h:=by
 refine Hp (by decide) S6 (by decide) (by decide) (fun x hx=>by
  rcases ar.1 hx with rfl|hx
  ·decide
  rcases ar.1 hx with rfl|hx
  ·decide
  rcases ar.1 hx with rfl|hx
  ·decide
  cases hx) (k:=4) rfl (Qa rfl) (fun p d=>by
  rcases ar.1 d with rfl|d
  ·exact .inl rfl
  rcases ar.1 d with rfl|d
  ·exact .inr (.inr (.inl rfl))
  rcases ar.1 d with rfl|d
  ·exact .inr (.inr (.inr (.inl rfl)))
  cases d) Pk l D hd fun g ob k1 H G w=>?_
 refine Vm (v.upd0 k1) (k1.get0 b) o rfl (hd:=0) rfl (.inl rfl) (N:=0) (by omega) (fun B c=>?_) (by decide) (by decide) (id:=1) (show(mc [] 1 (nz [0])).1=(1,0) by decide) fun a B i c m q=>?_
 ·rcases c with⟨_,rfl⟩|⟨c,_⟩
  ·exact⟨jZ,au _,fun _ h=>by cases h⟩
  ·exact absurd rfl c
 have C:B.2= []:=by
  rcases c with⟨_,rfl⟩|⟨c,_⟩
  ·rfl
  ·exact absurd rfl c
 rw[C]at q;have E:Laid a:=A a (k1.wide.tr m);exact⟨vc (m.get w fun e=>by have:=hM _ e;omega) 0,T4 (n:=1) rfl (by omega) rfl E fun F u=>z g a F i k1 m q u⟩
theorem Yn{W:Nat→Prop}{h:ad}{f sp i:Nat}{sm:Option Nat}{e:Option Addr}{last:Int}{gp gm tm bm nm:Nat}{kd:Int}{t g:Tr}(v:VaultAt W h f ⟨gp,gm,tm,bm,nm,kd,⟨0,0,0⟩,t,[(1,[])],2,[(1,(g,[(⟨#[97]⟩,⟨#[49]⟩)]))],[(rG,1)],[]⟩)(b:h[sp]? =some (.cells (O9 f sm last e).toArray dB (0,0))) (l:Laid h) (q:4≤h.size)
  (hd:h[i]? =some (.cells #[.pointer (some ⟨sp,0,none⟩)] hE (0,0))) {K:ByteArray→ad→Prop}
  (m:∀h',Upd No h h'→K (((⟨#[105,115,32]⟩:ByteArray)++aG (lI [49]))++(⟨#[]⟩:ByteArray)) h'):
  HC PG ie [.pointer (some ⟨i,0,none⟩),.string (aG JH)] [.c .str] K h:=by
 refine Hp (by decide) S8 (by decide) (by decide) (fun x hx=>by
  rcases ar.1 hx with rfl|hx
  ·decide
  rcases ar.1 hx with rfl|hx
  ·decide
  cases hx) (k:=10) rfl (Qa rfl) (fun p c=>by
  rcases ar.1 c with rfl|c
  ·exact .inr (.inr (.inr (.inr (.inl rfl))))
  rcases ar.1 c with rfl|c
  ·exact .inr (.inr (.inl rfl))
  cases c) Pl l q hd fun z ob k1 y u o=>?_
 have d:∀B,BaseOf ⟨gp,gm,tm,bm,nm,kd,⟨0,0,0⟩,t,[(1,[])],2,[(1,(g,[(⟨#[97]⟩,⟨#[49]⟩)]))],[(rG,1)],[]⟩ 1 B→B.2= [(⟨#[97]⟩,⟨#[49]⟩)]:=fun B a=>by
  rcases a with⟨a,_⟩|⟨_,a⟩
  ·cases a
  ·cases a;rfl
 refine Vn (v.upd0 k1) (k1.get0 b) rfl (.inr (show(1:Int)∈ids [(1,[])] by decide)) (fun B a=>?_) fun w B a j=>?_
 ·rw[d B a];exact⟨List.pairwise_singleton _ _,by simp⟩
 rw[d B a];exact⟨vc (j.get0 o) 0,RV (v:=⟨#[49]⟩) rfl rfl rfl (by decide) fun s n=>m s ((k1.tr j).tr n)⟩
end Go.Proofs
namespace Go.Proofs
open Go Go.Lift
theorem Vr(x:ByteArray)(n:Nat):(x.extract 0 n).size≤n:=by rw[pP];omega
end Go.Proofs
namespace Go.Proofs
open Go Go.Lift
theorem Xv{h:ad}{b:Nat}{c c':Array Value}{t:TypeId}{v:Value}{k:ad→Prop}(d:h[b]? =some (.cells c t (0,0))) (hi:0<c.size) (e:c.setIfInBounds 0 v=c') (g:∀h',h'[b]? =some (.cells c' t (0,0))→Upd (· =b) h h'→k h'):Wr h ⟨b,0,none⟩∧At (hset h ⟨b,0,none⟩ v) k:=
 ⟨iM d hi,vC d fun h' a f=>g h' (e▸a) f⟩
abbrev Uk(x:ByteArray):List Value:= [.string x]
theorem Uj(x:ByteArray):(Uk x).length=1∧0<1:=⟨rfl,Nat.one_pos⟩
def KL(Z:Nat):Sp:=⟨(· <Z),fun _=>True,fun _ _ _=>trivial⟩
abbrev ans4:List ByteArray:= [⟨#[111,107]⟩,⟨#[111,107]⟩,⟨#[118,101,114,115,105,111,110,32,49]⟩,⟨#[105,115,32,51,49]⟩]
structure RunI(h0:ad)(db dv ov Z:Nat)(xs:List ByteArray)(h:ad)(sp vp:Nat)(s:VS)(sm:Option Nat)(pool:Option Addr)(so:SliceV):Prop where
 v:Vw [KL Z,A2 Uk 1 cn so xs] h vp s
 b:h[sp]? =some (.cells (O9 vp sm 0 pool).toArray dB (0,0))
 d:h[db]? =some (.cells #[.pointer (some ⟨sp,0,none⟩)] hE (0,0))
 dv:h[dv]? =some (.cells #[.pointer (some ⟨db,0,none⟩)] vm (0,0))
 o:h[ov]? =some (.cells #[.slice so.a so.len so.cap] KB (0,0))
 zs:Z≤sp
 sM:¬s.M sp
 nso:¬Go.Proofs.sb so sp
 zM:∀y,s.M y→Z≤y
 zo:∀y,Go.Proofs.sb so y→Z≤y
 k:Upd No h0 h
section
variable {h0 h h':ad} {db dv ov Z:Nat} {xs:List ByteArray} {sp vp:Nat} {s s':VS} {sm:Option Nat} {pool:Option Addr} {so:SliceV} {M:Nat→Prop}
theorem RunI.low(r:RunI h0 db dv ov Z xs h sp vp s sm pool so)(k:Upd M h h')(hM:∀y,M y→y<Z∧y≠db∧y≠dv∧y≠ov∧h0.size≤y):RunI h0 db dv ov Z xs h' sp vp s sm pool so:=
 ⟨r.v.set (i:=0) (p':=KL Z) rfl k (fun y a=>.inl (hM y a).1) trivial fun y a=>⟨.inl a,aO (r.v.own.lt (KL Z) (aN ..) y a) k.size⟩,
  k.get r.b fun e=>by have:=(hM _ e).1;have:=r.zs;omega,k.get r.d fun e=>(hM _ e).2.1 rfl,k.get r.dv fun e=>(hM _ e).2.2.1 rfl,k.get r.o fun e=>(hM _ e).2.2.2.1 rfl,r.zs,r.sM,r.nso,r.zM,r.zo,r.k.trans k fun y a=>.inr (hM y a).2.2.2.2⟩
theorem RunI.up0(r:RunI h0 db dv ov Z xs h sp vp s sm pool so)(k:Upd No h h'):RunI h0 db dv ov Z xs h' sp vp s sm pool so:=r.low k fun _ h=>h.elim
theorem RunI.ed(r:RunI h0 db dv ov Z xs h sp vp s sm pool so)(b:h0.size≤Z)(hd:db<Z)(c:dv<Z)(d:ov<Z)(k:Upd s.M h h')(v:VaultAt (fun y=>s.M y∨AL [KL Z,A2 Uk 1 cn so xs] y) h' vp s')(e:s'.M=s.M):RunI h0 db dv ov Z xs h' sp vp s' sm pool so:=
 ⟨r.v.ed k v e,k.get r.b r.sM,k.get r.d fun e=>by have:=r.zM _ e;omega,k.get r.dv fun e=>by have:=r.zM _ e;omega,k.get r.o fun e=>by have:=r.zM _ e;omega,r.zs,by rw[e];exact r.sM,r.nso,fun y a=>r.zM y (by rw[←e];exact a),r.zo,r.k.trans k fun y a=>.inr (bv b (r.zM y a))⟩
theorem RunI.say(r:RunI h0 db dv ov Z xs h sp vp s sm pool so)(J:h0.size≤Z)(hd:db<Z)(E:dv<Z)(F:ov<Z)(L:ov≠db)(K:ov≠dv)(N:h0.size≤ov)(G:xs.length+1≤1000000){x:ByteArray}{k:ad→Prop}
  (I:∀h' s',RunI h0 db dv ov Z (xs++ [x]) h' sp vp s sm pool s'→Upd (fun y=>y=ov∨Z≤y) h h'→k h'):
  aD h ⟨ov,0,none⟩=some (.slice so.a so.len so.cap)∧At (hnew h [.string x] cn) (fun j=>(aD j ⟨ov,0,none⟩=some (.slice so.a so.len so.cap)∧∃xs21,SRow j (some (aH h)) (1*1) xs21∧
   AppP (some [.string (⟨#[]⟩:ByteArray)]) 1 16 cn so.a so.len so.cap 1 xs21 j (fun m n=>(Wr n ⟨ov,0,none⟩∧At (hset n ⟨ov,0,none⟩ (.slice m.a m.len m.cap)) k)))):=by
 refine⟨aW r.o,pe fun j C g=>?_⟩
 have c:=r.up0 g;have H:=g.size;have D:∀y,y<Z→y<h.size:=fun y a=>r.v.own.lt (KL Z) (aN ..) y a
 refine⟨aW c.o,Yu (f:=Uk) (t:=x) (b:=h.size) (c.v.own.get (i:=1) rfl) C rfl rfl ⟨by decide,by decide⟩ G fun s' n os u w=>?_⟩
 have v:=c.v.slice (i:=1) rfl u os w;have B:∀y,sb s' y→Z≤y:=fun y a=>(w y a).1.elim (r.zo y) fun e=>by
  rcases Nat.lt_or_ge y Z with h|h
  ·have:=D y h;omega
  ·exact h
 have q:=u.get c.b r.nso;have low:∀{y:Nat},y<Z→¬sb so y:=fun a e=>by have:=r.zo _ e;omega
 have o:=u.get c.o (low F);refine Xv (c':= #[.slice s'.a s'.len s'.cap]) o (by simp) rfl fun A z d=>I A s' ⟨v.set (i:=0) (p:=KL Z) (p':=KL Z) rfl d (fun y a=>.inl (by have a:y=ov:=a;show y<Z;omega)) trivial fun y a=>⟨.inl a,?_⟩,d.get q (show ¬sp=ov by have:=r.zs;omega),d.get (u.get c.d (low hd)) (show ¬db=ov by omega),d.get (u.get c.dv (low E)) (show ¬dv=ov by omega),z,r.zs,r.sM,?_,r.zM,B,?_⟩ ?_
 ·have:=D y a
  have:=u.size;have:=d.size;omega
 ·intro e
  rcases(w sp e).1 with e|e
  ·exact r.nso e
  ·have:=bB r.b;omega
 ·exact((r.k.tr g).trans u fun y a=>.inr (bv J (r.zo y a))).trans d fun y a=>.inr (by have a:y=ov:=a;omega)
 ·exact(g.wide.trans u fun y a=>.inl (.inr (r.zo y a))).trans d fun y a=>.inl (.inl a)
end
def Inv24(c:ad)(a dv b Z:Nat)(n:Nat)(h:ad):Prop:=
 (n=0∧h[a]? =some (.cells #[.pointer none] hE (0,0))∧h[dv]? =some (.cells #[.pointer (some ⟨a,0,none⟩)] vm (0,0))∧h[b]? =some (.cells #[.slice none 0 0] KB (0,0))∧Upd No c h)∨
  ∃sp vp gp gm tm bm nm t sm pool so,∃t':Tr,(n=1∧RunI c a dv b Z (ans4.take 1) h sp vp ⟨gp,gm,tm,bm,nm,1,⟨0,0,0⟩,t,[],1,[],[],[]⟩ sm pool so)∨
   (n=2∧RunI c a dv b Z (ans4.take 2) h sp vp ⟨gp,gm,tm,bm,nm,1,⟨0,0,0⟩,t,[],1,[],[(rG,0)],[]⟩ sm pool so)∨
   (n=3∧RunI c a dv b Z (ans4.take 3) h sp vp ⟨gp,gm,tm,bm,nm,1,⟨0,0,0⟩,t,[(1,[])],2,[(1,(t',[(⟨#[97]⟩,⟨#[49]⟩)]))],[(rG,1)],[]⟩ sm pool so)∨
   (n=4∧RunI c a dv b Z (ans4.take 4) h sp vp ⟨gp,gm,tm,bm,nm,1,⟨0,0,0⟩,t,[(1,[])],2,[(1,(t',[(⟨#[97]⟩,⟨#[49]⟩)]))],[(rG,1)],[]⟩ sm pool so)
theorem Inv24.low{j h h':ad}{m dv g Z n:Nat}{M:Nat→Prop}(i:Inv24 j m dv g Z n h)(k:Upd M h h')(hM:∀y,M y→y<Z∧y≠m∧y≠dv∧y≠g∧j.size≤y):Inv24 j m dv g Z n h':=by
 rcases i with⟨e,a,b,c,d⟩|⟨sp,o,gp,gm,tm,bm,nm,t,sm,f,s,q,i⟩
 ·exact .inl ⟨e,k.get a fun e=>(hM _ e).2.1 rfl,k.get b fun e=>(hM _ e).2.2.1 rfl,k.get c fun e=>(hM _ e).2.2.2.1 rfl,d.trans k fun y p=>.inr (hM y p).2.2.2.2⟩
 ·exact .inr ⟨sp,o,gp,gm,tm,bm,nm,t,sm,f,s,q,i.imp (fun e=>⟨e.1,e.2.low k hM⟩) fun i=>i.imp (fun e=>⟨e.1,e.2.low k hM⟩) fun i=>i.imp (fun e=>⟨e.1,e.2.low k hM⟩) fun e=>⟨e.1,e.2.low k hM⟩⟩
theorem ZS:(((⟨#[118,101,114,115,105,111,110,32]⟩:ByteArray)++aG (dJ 1))++(⟨#[]⟩:ByteArray))=⟨#[118,101,114,115,105,111,110,32,49]⟩:=by
 rw[ot (by omega)];decide+kernel
theorem aaB:(((⟨#[105,115,32]⟩:ByteArray)++aG (lI [49]))++(⟨#[]⟩:ByteArray))=⟨#[105,115,32,51,49]⟩:=by decide+kernel
theorem WC{D h:ad}{x dv v Z n:Nat}{w:List UInt8}(i:Inv24 D x dv v Z n h)(zh:Z≤h.size)(T:Laid D)(h04:4≤D.size)(L:D.size≤Z)(hd:x<Z)(I:dv<Z)(J:v<Z)(A:v≠x)(C:v≠dv)(B:D.size≤v)(ne4:D.size≤x)(N: [Nq,JI,JG,JH][n]? =some w) {k:ad→Prop}
  (U:∀h',Inv24 D x dv v Z (n+1) h'→Upd (fun y=>y=x∨y=v∨Z≤y) h h'→k h'):
  ∃v16:SliceV,aD h ⟨v,0,none⟩=some (.slice v16.a v16.len v16.cap)∧∃v17:Option Addr,aD h ⟨dv,0,none⟩=some (.pointer v17)∧
   HC PG ie [.pointer v17,.string (aG w)] [.c .str] (fun(V:ByteArray) E=>(aD E ⟨v,0,none⟩=some (.slice v16.a v16.len v16.cap)∧At (hnew E [.string V] cn) (fun H=>(aD H ⟨v,0,none⟩=some (.slice v16.a v16.len v16.cap)∧∃xs21,SRow H (some (aH E)) (1*1) xs21∧
    AppP (some [.string (⟨#[]⟩:ByteArray)]) 1 16 cn v16.a v16.len v16.cap 1 xs21 H (fun F S=>(Wr S ⟨v,0,none⟩∧At (hset S ⟨v,0,none⟩ (.slice F.a F.len F.cap)) k)))))) h:=by
 rcases i with⟨rfl,a,b,c,d⟩|⟨sp,K,gp,gm,tm,bm,nm,t,sm,z,W,Y,i⟩
 ·cases N
  refine⟨eA,aW c,_,aW b,S4 (W0:=(· <Z)) (by decide) S7 (fun y f=>aO f zh) a (T.upd0 d) (by omega) fun h2 h' sp K gp gm tm bm nm t sm pb cb va bs hM q O b6 G=>?_⟩
  have zM:∀y,VS.M ⟨gp,gm,tm,bm,nm,1,⟨0,0,0⟩,t,[],1,[],[],[]⟩ y→Z≤y:=fun y f=>bv zh (hM y f).1
  have zsp:Z≤sp:=by have:=(hM gp (.inl rfl));omega
  have z2:=O.size;have z6:=G.size;have r:RunI D x dv v Z [] h' sp K ⟨gp,gm,tm,bm,nm,1,⟨0,0,0⟩,t,[],1,[],[],[]⟩ (some sm) (some ⟨pb,0,none⟩) eA:=by
   have al:∀y,AL [KL Z,A2 Uk 1 cn eA []] y→y<Z:=fun y ⟨a,s,f⟩=>by
    rcases ar.1 s with rfl|s
    ·exact f
    ·rw[aQ.1 s]at f
     exact absurd f (KG y)
   refine⟨⟨⟨fun a s=>?_,fun a s y f=>?_,fun p j a b s hb hij y f hy'=>?_⟩,va.re G (fun y f=>.inl ⟨.inl (by have f:y=x:=f;show y<Z;omega),fun e=>by have:=zM y e;have f:y=x:=f;omega⟩) (fun y f=>?_) fun y f=>.inl f,fun y f e=>?_⟩,G.get bs (show ¬sp=x by omega),b6,G.get (O.get0 b) (show ¬dv=x from ?_),G.get (O.get0 c) A,zsp,fun e=>?_,KG sp,zM,fun y f=>absurd f (KG y),?_⟩
   ·rcases ar.1 s with rfl|s
    ·exact trivial
    ·rw[aQ.1 s];exact OwnS.nil Uj
   ·have:=al y ⟨a,s,f⟩;omega
   ·have e:∀{j:Nat} {a:Sp},[KL Z,A2 Uk 1 cn eA []][j]? =some a→a.T y→j=0:=fun{j a} s f=>by
     rcases j with _|_|j
     ·rfl
     ·cases s;exact absurd f (KG y)
     ·cases s
    exact hij ((e s f).trans (e hb hy').symm)
   ·rcases f with f|f
    ·exact⟨.inl (.inr f),by have:=va.g.lt y (.inr f);omega⟩
    ·have:=al y f
     exact⟨.inl (.inl this),by omega⟩
   ·have:=zM y e;have:=al y f;omega
   ·intro e;subst e
    rw[a]at b;cases b
   ·have:=(hM sp e).2;omega
   ·exact(d.tr O).trans G fun y f=>.inr (by have f:y=x:=f;omega)
  refine r.say L hd I J A C B (by decide) fun m s' g o=>U m (.inr ⟨sp,K,gp,gm,tm,bm,nm,t,some sm,some ⟨pb,0,none⟩,s',Dx,.inl ⟨rfl,g⟩⟩) ?_
  ·exact((O.wide.tr (G.mono fun y f=>.inl (.inl f)))).trans o fun y f=>.inl (.inr f)
 ·rcases i with⟨rfl,r⟩|⟨rfl,r⟩|⟨rfl,r⟩|⟨rfl,r⟩
  ·cases N
   have l:=T.upd0 r.k;refine⟨W,aW r.o,_,aW r.dv,Yo (sm:=sm.map fun b=>⟨b,0,none⟩) r.v.v (by cases sm<;>exact r.b) rfl rfl (fun y f=>r.v.lt y (.inl f)) l (by have:=r.k.size;omega) r.d fun h1' X h' k1 Q v2 P=>?_⟩
   have R:=((r.up0 k1).ed L hd I J Q v2 rfl).up0 P;refine R.say L hd I J A C B (by decide) fun m s' g o=>U m (.inr ⟨sp,K,gp,gm,tm,bm,nm,t,sm,z,s',Dx,.inr (.inl ⟨rfl,g⟩)⟩) ?_
   ·exact(((k1.wide.tr (Q.mono fun y f=>.inl (.inr (.inr (r.zM y f))))).tr P.wide)).trans o fun y f=>.inl (.inr f)
  ·cases N
   have l:=T.upd0 r.k;refine⟨W,aW r.o,_,aW r.dv,Ym r.v.v r.b r.sM (fun y f=>r.v.lt y (.inl f)) l (by have:=r.k.size;omega) r.d (fun h2 u=>l.upd u fun y f=>by have:=r.zM y f;omega) fun h1' X h' Y k1 Q v2 P=>?_⟩
   have R:=((r.up0 k1).ed L hd I J Q v2 rfl).up0 P;rw[ZS];refine R.say L hd I J A C B (by decide) fun m s' g o=>U m (.inr ⟨sp,K,gp,gm,tm,bm,nm,t,sm,z,s',Y,.inr (.inr (.inl ⟨rfl,g⟩))⟩) ?_
   ·exact(((k1.wide.tr (Q.mono fun y f=>.inl (.inr (.inr (r.zM y f))))).tr P.wide)).trans o fun y f=>.inl (.inr f)
  ·cases N
   have l:=T.upd0 r.k;refine⟨W,aW r.o,_,aW r.dv,Yn r.v.v r.b l (by have:=r.k.size;omega) r.d fun h' k1=>?_⟩
   have R:=r.up0 k1;rw[aaB];refine R.say L hd I J A C B (by decide) fun m s' g o=>U m (.inr ⟨sp,K,gp,gm,tm,bm,nm,t,sm,z,s',Y,.inr (.inr (.inr ⟨rfl,g⟩))⟩) ?_
   ·exact k1.wide.trans o fun y f=>.inl (.inr f)
  ·cases N
theorem RH{W:Nat→Prop}{h:ad}{s:SliceV}{xs:List ByteArray}(c:Sl Uk 1 W h s xs){i:Nat}(hi:i<xs.length):∃a,s.a=some a∧aD h (adr a (i*1))=some (.string xs[i]):=by
 obtain⟨a,b,_,d⟩:=c.at0 (g:=fun w=>Value.string w) (ax hi)
 exact⟨a,b,d⟩
theorem Vg{W W':Nat→Prop}{h:ad}{s s':SliceV}{xs:List ByteArray}(g:Sl Uk 1 W h s xs)(f:Sl Uk 1 W' h s' xs)(n:xs.length≤4611686018427387904){K:Bool→ad→Prop}(k:K true h):HC PG j2 [.slice s.a s.len s.cap,.slice s'.a s'.len s'.cap] [.c .bool] K h:=by
 refine vG s s' ?_;unfold nZ bf cU;have m:=g.len;have q:=f.len;refine CondP.intro (fun e=>absurd e (by rw[m,q];simp)) fun _=>?_
 refine LoopP.ghost (fun(i:Nat) (t:Int) h'=>t=(i:Int)∧h'=h∧i≤xs.length) (fun i=>xs.length-i) 0 ⟨rfl,rfl,bc _⟩ ?_
 rintro I i t h' ⟨rfl,rfl,hi⟩ o;refine aF (fun b=>?_) fun _=>k
 have b:i<xs.length:=by omega
 obtain⟨a,p,j⟩:=RH g b;obtain⟨a',c,d⟩:=RH f b;refine⟨⟨by omega,by omega⟩,a,p,_,j,⟨by omega,by omega⟩,a',c,_,d,?_⟩
 rw[di,decide_eq_true rfl,cM b n];exact af.2 (o (i+1) _ _ ⟨rfl,rfl,b⟩ (by omega))
theorem Qm{h:ad}{K:Bool→ad→Prop}(l:Laid h)(h4:4≤h.size)(X:∀h',Upd No h h'→K true h'):HC PG yP [] [.c .bool] K h:=by
 refine On ?_;unfold E9 vl1;have run:∀{K:SliceV→ad→Prop},(∀h' s,OwnS Uk 1 cn (sb s) h' s ans4→Upd No h h'→K s h')→HC PG Bl [.string (aG (Nq++10::(JI++10::(JG++10::JH))))] [.c .slice] K h:=by
  intro K hK;refine QE _ ?_;unfold H1 ez nN;refine QF ?_;unfold H2;refine pe fun g b1 k1=>pe fun h3 b3 q=>?_
  refine Xv (c':= #[.pointer (some ⟨h.size,0,none⟩)]) b3 (by simp) rfl fun d S x=>pe fun h5 J F=>?_
  refine FC _ _ ?_;unfold xN XT;refine FA _ _ _ ?_;unfold xL;refine pe fun h6 L B=>pe fun h7 G o=>pe fun a I k=>?_
  have z1:=bB b1;have z3:=bB b3;have z5:=bB J;have z6:=bB L;have z7:=bB G;have z8:=bB I;have Z:=k1.size;have y3:=q.size;have y4:=x.size;have y5:=F.size;have y6:=B.size;have y7:=o.size;have y8:=k.size;have A:Upd No h d:=(k1.tr q).own x Z;have f:=((F.tr B).tr o).tr k;have z:=A.tr f;have V:=f.get0 (x.get (q.get0 b1) (show ¬h.size=g.size by omega))
  have v8:=f.get0 S;have T:=((B.tr o).tr k).get0 J;have Q:=(o.tr k).get0 L;have U:=k.get0 G;have low:∀b,(b=h5.size∨b=a.size∨b=a.size+1)→b<a.size+2∧b≠h.size∧b≠g.size∧b≠d.size∧h.size≤b:=fun b E=>by
   rcases E with rfl|rfl|rfl<;>omega
  refine Po rfl U Q I (by omega) (by omega) (by decide) (Inv24 h h.size g.size d.size (a.size+2)) (fun b=>b=h.size∨b=d.size∨a.size+2≤b) (.inl ⟨rfl,V,v8,T,z⟩) (fun n c R i _ u=>i.low u low) (fun b E=>by omega) (fun n w c KK i Y C p=>?_) fun c i N=>?_
  ·rw[NW]at C
   exact WC i Y l h4 (by omega) (by omega) (by omega) (by omega) (by omega) (by omega) (by omega) (by omega) C p
  ·rw[NW]at i
   rcases i with⟨e,_⟩|⟨sp,vp,gp,gm,tm,bm,nm,t,sm,H,j,t',⟨e,_⟩|⟨e,_⟩|⟨e,_⟩|⟨_,r⟩⟩
   ·cases e
   ·cases e
   ·cases e
   ·cases e
   have u:=Upd.set (M:=(· =a.size)) c (b:=a.size) (.deferred none) rfl
   have zo:∀y,sb j y→¬y=a.size:=fun y m=>by have:=r.zo y m;omega
   refine⟨j,aW r.o,N,bi (hK _ j ((r.v.own.get (i:=1) rfl:OwnS Uk 1 cn (sb j) c j ans4).upd u zo) (r.k.trans u fun y m=>.inr (by have m:y=a.size:=m;omega)))⟩
 refine run fun g s os k1=>pe fun P b2 D=>?_
 refine Vg (W:=No) (W':=No) (s':=⟨some ⟨g.size,0,none⟩,4,4⟩) (xs:=ans4) ((os.upd D fun _ _ h=>h).sl fun _ _ _ h=>h) ?_ (by decide) (X P (k1.tr D))
 exact⟨rfl,Uj,fun _=>⟨⟨g.size,0,none⟩,rfl,fun h=>h,pj b2 fun i v O=>by rw[Nat.zero_add,List.getElem?_toArray];exact O⟩⟩
end Go.Proofs
namespace Go.Proofs
open Go Go.Lift Go.RowKit
theorem PA{W W':Nat→Prop}{h:ad}{s s':SliceV}{l:List Pr}(j:Sl jz 2 W h s l)(g:Sl jz 2 W' h s' l)(q:l.length≤1000000){K:Bool→ad→Prop}(k:K true h):HC PG Bi [.slice s.a s.len s.cap,.slice s'.a s'.len s'.cap] [.c .bool] K h:=by
 refine QB s s' ?_;unfold HX cU bP;have m:=j.len;have p:=g.len;refine CondP.intro (fun e=>absurd e (by rw[m,p];simp)) fun _=>?_
 refine LoopP.ghost (fun(i:Nat) (t:Int) h'=>t=(i:Int)∧h'=h∧i≤l.length) (fun i=>l.length-i) 0 ⟨rfl,rfl,bc _⟩ ?_
 rintro I i t h' ⟨rfl,rfl,hi⟩ n;refine aF (fun b=>?_) fun _=>k
 have b:i<l.length:=by omega
 obtain⟨a,o,_,f⟩:=j.at (ax b);obtain⟨a',d,_,c⟩:=g.at (ax b);refine⟨⟨by omega,by omega⟩,a,o,_,f 0 _ rfl,_,f 1 _ rfl,⟨by omega,by omega⟩,a',d,_,c 0 _ rfl,_,c 1 _ rfl,?_⟩
 rw[di,di,decide_eq_true rfl,decide_eq_true rfl];rw[cM b (by omega)];exact af.2 (n (i+1) _ _ ⟨rfl,rfl,b⟩ (by omega))
theorem Pz{W W':Nat→Prop}{h:ad}{s s':SliceV}{l:List Ch}(j:Sl sg 5 W h s l)(g:Sl sg 5 W' h s' l)(q:l.length≤1000000){K:Bool→ad→Prop}(k:K true h):HC PG Bh [.slice s.a s.len s.cap,.slice s'.a s'.len s'.cap] [.c .bool] K h:=by
 refine QA s s' ?_;unfold HW cU bP cJ;have m:=j.len;have p:=g.len;refine CondP.intro (fun e=>absurd e (by rw[m,p];simp)) fun _=>?_
 refine LoopP.ghost (fun(i:Nat) (t:Int) h'=>t=(i:Int)∧h'=h∧i≤l.length) (fun i=>l.length-i) 0 ⟨rfl,rfl,bc _⟩ ?_
 rintro I i t h' ⟨rfl,rfl,hi⟩ n;refine aF (fun b=>?_) fun _=>k
 have b:i<l.length:=by omega
 obtain⟨a,o,_,d⟩:=j.at (ax b);obtain⟨a',f,_,c⟩:=g.at (ax b);refine⟨⟨by omega,by omega⟩,a,o,_,d 0 _ rfl,_,d 1 _ rfl,_,d 2 _ rfl,_,d 3 _ rfl,_,d 4 _ rfl,⟨by omega,by omega⟩,a',f,_,c 0 _ rfl,_,c 1 _ rfl,_,c 2 _ rfl,_,c 3 _ rfl,_,c 4 _ rfl,?_⟩
 rw[di,di,di,decide_eq_true rfl,decide_eq_true rfl,decide_eq_true rfl,beq_self_eq_true,beq_self_eq_true];rw[cM b (by omega)];exact af.2 (n (i+1) _ _ ⟨rfl,rfl,b⟩ (by omega))
theorem Za(n:Int):(n !=n)=false:=by simp
theorem YC(x:ByteArray):(!(x.toList==x.toList))=false:=by rw[di,decide_eq_true rfl];rfl
theorem neB(b:Bool):(!(b==b))=false:=by cases b<;>rfl
section
variable {d:OpD} {sp sc sp' sc':SliceV} {h:ad}
theorem R9(f:d.ps.length≤1000000)(e:d.cs.length≤1000000)(i:Sl jz 2 No h sp d.ps)(g:Sl jz 2 No h sp' d.ps)(m:Sl sg 5 No h sc d.cs)(j:Sl sg 5 No h sc' d.cs){K:Bool→ad→Prop}(b:∀h',Upd No h h'→K true h'):HC PG Bk [ON (pY d sp sc),ON (pY d sp' sc')] [.c .bool] K h:=by
 refine QD (pY d sp sc) (pY d sp' sc') ?_;unfold H0 aj bJ ah aZ aL DR RP;refine pe fun n b1 k1=>pe fun c b2 a=>?_
 have c1:=a.get0 b1;have k:=k1.tr a;refine Join.plain ⟨_,vc c1 0,_,vc b2 0,?_⟩;rw[Za];refine af.2 ⟨_,vc c1 1,_,vc b2 1,?_⟩;rw[YC];refine af.2 ⟨_,vc c1 2,_,vc b2 2,?_⟩;rw[YC];refine af.2 ⟨_,vc c1 3,_,vc b2 3,?_⟩;rw[YC];refine af.2 ⟨_,vc c1 4,_,vc b2 4,?_⟩;rw[YC];refine af.2 ⟨_,vc c1 5,_,vc b2 5,?_⟩;rw[Za];refine af.2 ⟨_,vc c1 6,_,vc b2 6,?_⟩
 rw[Za];refine af.2 ⟨_,vc c1 7,_,vc b2 7,?_⟩;rw[Za];refine af.2 ⟨_,vc c1 8,_,vc b2 8,?_⟩;rw[Za];refine af.2 ⟨_,vc c1 9,_,vc b2 9,?_⟩;rw[neB];refine af.2 ⟨_,vc c1 10,_,vc b2 10,?_⟩;rw[YC];refine af.2 ⟨_,vc c1 11,_,vc b2 11,?_⟩;rw[YC];refine af.2 ⟨_,vc c1 12,_,vc b2 12,?_⟩;rw[neB];refine af.2 ⟨sp,vc c1 13,sp',vc b2 13,PA (i.upd k fun _ h=>h.elim) (g.upd k fun _ h=>h.elim) f (aA.2 ⟨sc,vc c1 14,sc',vc b2 14,Pz (m.upd k fun _ h=>h.elim) (j.upd k fun _ h=>h.elim) e (b c k)⟩)⟩
theorem UU(n1:d.ps.length≤1000000)(n2:d.cs.length≤1000000)(h1:Sl jz 2 No h sp d.ps)(h2:Sl sg 5 No h sc d.cs){K:xp→ad→Prop}(hk:∀h' sp' sc',Sl jz 2 No h' sp' d.ps→Sl sg 5 No h' sc' d.cs→Upd No h h'→K (pY d sp' sc') h'):HC PG Hf [ON (pY d sp sc)] [.agg [.int .i64,.str,.str,.str,.str,.int .u32,.int .u32,.int .i64,.int .i64,.bool,.str,.str,.bool,.slice,.slice]] K h:=by
 refine VX (pY d sp sc) ?_;unfold Oz cU aj bJ ah aZ aL fx nv L8 DR bP cJ iA ez uf nO bM XV;refine pe fun v b1 k1=>pe fun k b2 U=>?_
 have c1:=U.get0 b1;refine⟨_,vc c1 0,_,vc c1 1,_,vc c1 2,_,vc c1 3,_,vc c1 4,_,vc c1 5,_,vc c1 6,_,vc c1 7,_,vc c1 8,_,vc c1 9,_,Aa c1 10 0,_,Aa c1 10 1,_,Aa c1 10 2,pe fun g3 b3 k3=>dd (c:=ia (rS 0)) (vs:=ia (pY {d with ps:= [],cs:= []} eA eA)) b3 rfl fun s b4 u4=>?_⟩
 have E:Upd No k s:=k3.own u4 (au _);have k04:=(k1.tr U).tr E;have zg1:=bB b1;have zg2:=bB b2;have zg4:=bB b4;have y1:=k1.size;have y2:=U.size;have m4:MkO h v.size k.size s.size s {d with ps:= [],cs:= []} eA eA:=⟨b4,E.get0 b2,OwnS.nil gy,OwnS.nil mC,k04⟩;have a4:=E.get0 c1;refine⟨sp,vc a4 13,?_⟩;have hl1:=h1.len;have hl2:=h2.len;have P:h.size≠k.size:=by omega
 have N:v.size≠k.size:=by omega
 refine LoopP.ghost (fun(i:Nat) (t:Int) h'=>t=(i:Int)∧i≤d.ps.length∧(∃x,MkO h v.size k.size s.size h' {d with ps:=d.ps.take i,cs:= []} x eA)∧h'[h.size]? =some (.cells (ia (pY d sp sc)).toArray aR (0,0))∧s.size≤h'.size) (fun i=>d.ps.length-i) 0 ⟨rfl,bc _,⟨eA,m4⟩,a4,au _⟩ ?_
 rintro I i t h' ⟨rfl,hi,⟨x,A⟩,J,zh⟩ S;have z':=bB A.o;refine aF (fun f=>Join.plain ?_) fun D=>?_
 ·have f:i<d.ps.length:=by have:(i:Int)<(sp.len:Int):=f;omega
  obtain⟨a,Z,_,u⟩:=(h1.upd A.k fun _ h=>h.elim).at (ax f)
  have G:=Eu f;generalize d.ps[i]=p at u G;refine⟨⟨by omega,by omega⟩,a,Z,p.1,by rw[ak];exact u 0 _ rfl,p.2,by rw[ak];exact u 1 _ rfl,pe fun V C B=>dd (c:= [.string ⟨#[]⟩,.string ⟨#[]⟩]) (vs:=jz p) C rfl fun m j F=>?_⟩
  have q:Upd No h' m:=B.own F (au _);have m3:=A.up0 q;refine⟨x,vc m3.o 13,_,vc j 0,_,vc j 1,pe fun Q b5 L=>?_⟩
  have T:=m3.up0 L;have z5:=q.size;have z6:=L.size;have o1:OwnS jz 2 kV (fun _=>True) Q ⟨some (aH m),1,1⟩ [p]:=⟨rfl,gy,au _,.inr ⟨m.size,[],rfl,trivial,b5,rfl⟩⟩
  refine⟨_,(o1.sl (W:=No) fun _ _ _ h=>h).srow,AppP.own (ys:= [p]) T.ps rfl rfl rfl rfl (by omega) (by show((d.ps.take i).length+1)*32≤_;rw[aY];omega) (show s.size≤Q.size by omega) fun s' h6 Y w=>?_⟩
  have X:=w.get T.o (show ¬s.size≤k.size by omega)
  refine oz (c':=(ia (pY {d with ps:=d.ps.take i++ [p],cs:= []} s' eA)).toArray) X (by simp) rfl fun h7 O n=>?_
  rw[cM f (by omega)];have z7:=w.size;have z8:=n.size;refine S (i+1) _ _ ⟨rfl,f,⟨s',?_⟩,n.get (w.get (((q.tr L)).get0 J) (show ¬s.size≤h.size by omega)) P,by omega⟩ (by omega)
  rw[G];exact⟨O,n.get (w.get T.r (show ¬s.size≤v.size by omega)) N,Y.upd n fun y b e=>by have b:s.size≤y:=b;have e:y=k.size:=e;omega,OwnS.nil mC,(T.k.trans w fun y b=>.inr (by have b:s.size≤y:=b;omega)).trans n fun y b=>.inr (by have b:y=k.size:=b;omega)⟩
 have hi:i=d.ps.length:=by have:¬(i:Int)<(sp.len:Int):=D;omega
 rw[hi,bG]at A;clear S I;refine⟨sc,vc J 14,?_⟩;have S1:Sl jz 2 (fun y=>y=k.size∨y=v.size∨h'.size≤y) h' x d.ps:=A.ps.sl fun y b f e=>by have b:s.size≤y:=b;omega
 have kh:=A.k;refine LoopP.ghost (fun(i:Nat) (t:Int) g=>t=(i:Int)∧i≤d.cs.length∧(∃z,g[k.size]? =some (.cells (ia (pY {d with cs:=d.cs.take i} x z)).toArray YU (0,0))∧OwnS sg 5 gU (fun y=>h'.size≤y) g z (d.cs.take i))∧g[v.size]? =some (.cells (ia (rS 0)).toArray YU (0,0))∧g[h.size]? =some (.cells (ia (pY d sp sc)).toArray aR (0,0))∧Upd (fun y=>y=k.size) h' g) (fun i=>d.cs.length-i) 0 ⟨rfl,bc _,⟨eA,A.o,OwnS.nil mC⟩,A.r,J,Upd.refl _ _⟩ ?_
 rintro I i t g ⟨rfl,hi,⟨z,H,os⟩,cr,J,R⟩ S;have zu:=R.size;have ku:Upd No h g:=kh.trans R fun y b=>.inr (by have b:y=k.size:=b;omega)
 refine aF (fun f=>Join.plain ?_) fun D=>?_
 ·have f:i<d.cs.length:=by have:(i:Int)<(sc.len:Int):=f;omega
  obtain⟨a,Z,_,u⟩:=(h2.upd ku fun _ h=>h.elim).at (ax f)
  have G:=Eu f;generalize d.cs[i]=c at u G;refine⟨⟨by omega,by omega⟩,a,Z,c.1,by rw[ak];exact u 0 _ rfl,c.2.1,by rw[ak];exact u 1 _ rfl,c.2.2.1,by rw[ak];exact u 2 _ rfl,c.2.2.2.1,by rw[ak];exact u 3 _ rfl,c.2.2.2.2,by rw[ak];exact u 4 _ rfl,pe fun V C B=>dd (c:= [.string ⟨#[]⟩,.string ⟨#[]⟩,.string ⟨#[]⟩,.bool false,.bool false]) (vs:=sg c) C rfl fun m j F=>?_⟩
  have q:Upd No g m:=B.own F (au _);refine⟨z,vc (q.get0 H) 14,_,vc j 0,_,vc j 1,_,vc j 2,_,vc j 3,_,vc j 4,pe fun Q b5 L=>?_⟩
  have o:=q.tr L;have z35:=o.size;have o1:OwnS sg 5 gU (fun _=>True) Q ⟨some (aH m),1,1⟩ [c]:=⟨rfl,mC,au _,.inr ⟨m.size,[],rfl,trivial,b5,rfl⟩⟩
  refine⟨_,(o1.sl (W:=No) fun _ _ _ h=>h).srow,AppP.own (ys:= [c]) (os.upd o fun _ _ h=>h) rfl rfl rfl rfl (by omega) (by rw[aY];show(min i d.cs.length+1)*56≤_;omega) (show h'.size≤Q.size by omega) fun s' h6 Y w=>?_⟩
  have X:=w.get (o.get0 H) (show ¬h'.size≤k.size by omega)
  refine oz (c':=(ia (pY {d with cs:=d.cs.take i++ [c]} x s')).toArray) X (by simp) rfl fun h7 O n=>?_
  rw[cM f (by omega)];refine S (i+1) _ _ ⟨rfl,f,⟨s',?_,?_⟩,n.get (w.get (o.get0 cr) (show ¬h'.size≤v.size by omega)) N,n.get (w.get (o.get0 J) (show ¬h'.size≤h.size by omega)) P,?_⟩ (by omega)
  ·rw[G];exact O
  ·rw[G];exact Y.upd n fun y b e=>by have b:h'.size≤y:=b;have e:y=k.size:=e;omega
  ·exact((R.tr o.wide).trans w fun y b=>.inr b).trans n fun y b=>.inl b
 ·have hi:i=d.cs.length:=by have:¬(i:Int)<(sc.len:Int):=D;omega
  rw[hi,bG]at H os;have H:g[k.size]? =some (.cells (ia (pY d x z)).toArray YU (0,0)):=H;have S2:Sl sg 5 (fun y=>y=v.size) g z d.cs:=os.sl fun y b _ e=>by have b:h'.size≤y:=b;have e:y=v.size:=e;omega
  have S1':=S1.upd R fun y b=>.inl (.inl b)
  refine xW H (dd (c:=ia (rS 0)) (vs:=ia (pY d x z)) cr rfl fun h7 O n=>xW O (hk h7 x z ?_ ?_ ?_))
  ·exact(S1'.upd n fun y b=>.inl (.inr (.inl b))).less fun _ h=>h.elim
  ·exact(S2.upd n fun y b=>.inl b).less fun _ h=>h.elim
  ·exact ku.trans n fun y b=>.inr (by have b:y=v.size:=b;omega)
end
def PQ(a:List UInt8)(d:OpD)(ok:Bool):Prop:=(ok=true∧iQ a=some d)∨(ok=false∧iQ a=none∧d=d0 0)
theorem PQ.uniq{a:List UInt8}{d d':OpD}{ok b:Bool}(h:PQ a d ok)(h':PQ a d' b):d'=d∧b=ok:=by
 rcases h with⟨rfl,h⟩|⟨rfl,h,rfl⟩<;>rcases h' with⟨rfl,h'⟩|⟨rfl,h',rfl⟩
 ·rw[h]at h';exact⟨(Option.some.inj h').symm,rfl⟩
 ·rw[h]at h';cases h'
 ·rw[h]at h';cases h'
 ·exact⟨rfl,rfl⟩
theorem PQ.small{a:List UInt8}(b:a.length≤10000){d:OpD}{ok:Bool}(h:PQ a d ok):d.ps.length≤1000000∧d.cs.length≤1000000∧(ok=true→SmallD d∧lP d=some a):=by
 rcases h with⟨rfl,h⟩|⟨rfl,h,rfl⟩
 ·have sm:=M7 (by omega) h
  exact⟨by have:=sm.ps.1;omega,by have:=sm.cs.1;omega,fun _=>⟨sm,Gn h⟩⟩
 ·exact⟨bc _,bc _,fun h=>by cases h⟩
theorem Qg{a:List UInt8}(hx:a.length≤10000){h:ad}(l:Laid h)(i:4≤h.size){K:xp×Bool→ad→Prop}(c:∀h' d sp b ok,PQ a d ok→Sl jz 2 No h' sp d.ps→Sl sg 5 No h' b d.cs→Upd No h h'→K (pY d sp b,ok) h'):
  HC PG mZ [.string (aG a)] [.agg [.int .i64,.str,.str,.str,.str,.int .u32,.int .u32,.int .i64,.int .i64,.bool,.str,.str,.bool,.slice,.slice],.c .bool] K h:=
 Lw (by omega) l i (fun h' d sp b e op f k=>c h' d sp b true (.inl ⟨rfl,e⟩) (op.sl fun _ _ _ h=>h) (f.sl fun _ _ _ h=>h) k) fun g h' k=>c h' (d0 0) eA eA false (.inr ⟨rfl,g,rfl⟩) (Sl.nil gy) (Sl.nil mC) k
theorem Sn{a:List UInt8}(hx:a.length≤10000){h:ad}{K:xp×Bool→ad→Prop}(c:∀h' d sp b ok,PQ a d ok→Sl jz 2 No h' sp d.ps→Sl sg 5 No h' b d.cs→Upd No h h'→K (pY d sp b,ok) h'):
  HC PG uv [.string (aG a)] [.agg [.int .i64,.str,.str,.str,.str,.int .u32,.int .u32,.int .i64,.int .i64,.bool,.str,.str,.bool,.slice,.slice],.c .bool] K h:=
 MX hx (fun h' d sp b e op f k=>c h' d sp b true (.inl ⟨rfl,e⟩) op f k) fun g h' k=>c h' (d0 0) eA eA false (.inr ⟨rfl,g,rfl⟩) (Sl.nil gy) (Sl.nil mC) k
theorem WN{h:ad}{b:Nat}{t:TypeId}{o:xp}(a:h[b]? =some (.cells (ia o).toArray t (0,0))):
  aD h (adr ⟨b,0,none⟩ 0)=some (.int .i64 o.1)∧aD h (adr ⟨b,0,none⟩ 1)=some (.string o.2.1)∧aD h (adr ⟨b,0,none⟩ 2)=some (.string o.2.2.1)∧aD h (adr ⟨b,0,none⟩ 3)=some (.string o.2.2.2.1)∧aD h (adr ⟨b,0,none⟩ 4)=some (.string o.2.2.2.2.1)∧aD h (adr ⟨b,0,none⟩ 5)=some (.int .u32 o.2.2.2.2.2.1)∧aD h (adr ⟨b,0,none⟩ 6)=some (.int .u32 o.2.2.2.2.2.2.1)∧aD h (adr ⟨b,0,none⟩ 7)=some (.int .i64 o.2.2.2.2.2.2.2.1)∧aD h (adr ⟨b,0,none⟩ 8)=some (.int .i64 o.2.2.2.2.2.2.2.2.1)∧aD h (adr ⟨b,0,none⟩ 9)=some (.bool o.2.2.2.2.2.2.2.2.2.1)∧aD h (adr ⟨b,0,none⟩ 10)=some (.string o.2.2.2.2.2.2.2.2.2.2.1)∧aD h (adr ⟨b,0,none⟩ 11)=some (.string o.2.2.2.2.2.2.2.2.2.2.2.1)∧aD h (adr ⟨b,0,none⟩ 12)=some (.bool o.2.2.2.2.2.2.2.2.2.2.2.2.1)∧aD h (adr ⟨b,0,none⟩ 13)=some (.slice o.2.2.2.2.2.2.2.2.2.2.2.2.2.1.a o.2.2.2.2.2.2.2.2.2.2.2.2.2.1.len o.2.2.2.2.2.2.2.2.2.2.2.2.2.1.cap)∧aD h (adr ⟨b,0,none⟩ 14)=some (.slice o.2.2.2.2.2.2.2.2.2.2.2.2.2.2.a o.2.2.2.2.2.2.2.2.2.2.2.2.2.2.len o.2.2.2.2.2.2.2.2.2.2.2.2.2.2.cap):=
 ⟨vc a 0,vc a 1,vc a 2,vc a 3,vc a 4,vc a 5,vc a 6,vc a 7,vc a 8,vc a 9,vc a 10,vc a 11,vc a 12,vc a 13,vc a 14⟩
theorem Sl.k0{α:Type}{f:α→List Value}{a:Nat}{h h':ad}{s:SliceV}{xs:List α}(b:Sl f a No h s xs)(k:Upd No h h'):Sl f a No h' s xs:=b.upd k fun _ h=>h.elim
set_option maxHeartbeats 1000000 in
theorem IB{s:ByteArray}{h:ad}(l:Laid h)(h4:4≤h.size){K:Bool→ad→Prop}(L:∀h',Upd No h h'→K true h'):HC PG wf [.string s] [.c .bool] K h:=by
 refine El s ?_;unfold wJ aj bJ ah aZ aL nv L8 DR O0 Sw;refine Qm l h4 fun h1 k1=>af.2 ⟨⟨by split<;>omega,by split<;>omega⟩,F6 ?_⟩
 have G:(s.extract 0 ((if 150<(s.size:Int)then 150 else(s.size:Int)).toNat)).size≤150:=bv (Vr _ _) (by split<;>omega)
 generalize s.extract 0 ((if 150<(s.size:Int)then 150 else(s.size:Int)).toNat)=x at G
 obtain⟨f,rfl⟩:∃f,x=aG f:=⟨x.data.toList,rfl⟩;rw[ci]at G;have X:=l.upd0 k1;have z1:=k1.size;refine Qg (by omega) X (by omega) fun h5 d sp O ok J ps cs R=>pe fun h6 Z k6=>dd (c:=ia (rS 0)) (vs:=ia (pY d sp O)) Z rfl fun W V U=>?_
 have w:Upd No h5 W:=k6.own U (au _);refine Sn (by omega) fun Y d' Q S u z D A F=>?_
 obtain⟨rfl,rfl⟩:=J.uniq z;obtain⟨I,H,B⟩:=J.small (by omega);refine pe fun N q o=>dd (c:=ia (rS 0)) (vs:=ia (pY d' Q S)) q rfl fun C m y=>?_
 have b:Upd No Y C:=o.own y (au _);have k:=(F.tr b).get0 V;have n:=(w.tr F).tr b;rw[beq_self_eq_true];refine aA.2 (xW k (xW m (UU I H (Sl.k0 ps n) (Sl.k0 cs n) fun P s3 c3 t p a=>⟨WN (a.get0 m),R9 I H t (Sl.k0 D (b.tr a)) p (Sl.k0 A (b.tr a)) fun E i=>aA.2 ?_⟩)))
 have g:=(((k1.tr R).tr n).tr a).tr i;refine CondP.intro (fun e=>L E g) fun e=>?_
 have e:u=true:=by simpa using e
 obtain⟨sm,T⟩:=B e;refine xW ((a.tr i).get0 k) (NT sm (Sl.k0 ps ((n.tr a).tr i)) (Sl.k0 cs ((n.tr a).tr i)) (l.upd0 g) fun j v=>?_)
 rw[T];show K ((aG f).toList==(aG f).toList) j
 rw[di,decide_eq_true rfl];exact L j (g.tr v)
end Go.Proofs
