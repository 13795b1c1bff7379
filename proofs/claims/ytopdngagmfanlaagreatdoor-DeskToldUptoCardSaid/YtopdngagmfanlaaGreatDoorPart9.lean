/- A part of the proof that the named laws of this program answer true, whatever the input. -/
import Derived.Test.YtopdngagmfanlaaGreatDoorPart8
import Derived.Test.YtopdngagmfanlaaGreatDoorPart4
import Derived.Test.YtopdngagmfanlaaGreatDoorPart7
open Array renaming size→aE
open ByteArray renaming size_extract→kF
open Go.IntKind renaming wrap→ac
open Int renaming toNat_natCast→ai
open List renaming mem_cons_self→aU,length_singleton→bw,mem_cons→aA,mem_singleton→aM,getElem?_eq_getElem→ag,length_cons→aG,length_nil→bU,length_append→ah,mem_append→bM,length_take→aL,mem_of_mem_take→ft
open List.Pairwise renaming nil→jo
open Nat renaming lt_of_lt_of_le→aF,le_refl→ax,le_trans→bH,zero_le→be
namespace Go.Proofs
open Go Go.Lift
theorem Qt{W0:Nat→Prop}{a:List UInt8}(hx:a.length≤1000000)(z:ol 32 a= [[111,112,101,110],[114,97,100,105,120],[48],[48],[48]]){h:ad}(m:∀y,W0 y→y<h.size){b:Nat}(hd:h[b]? =some (.cells #[.pointer none] gw (0,0))) (l:Laid h) (j:4≤b) {K:ByteArray→ad→Prop}
  (C:∀c h' sp g gp gm tm bm nm t sm pb e,VaultAt (fun y=>W0 y∨VS.M ⟨gp,gm,tm,bm,nm,1,⟨0,0,0⟩,t,[],1,[],[],[]⟩ y) c g ⟨gp,gm,tm,bm,nm,1,⟨0,0,0⟩,t,[],1,[],[],[]⟩→c[sp]? =some (.cells (M8 g (some sm) 0 (some ⟨pb,0,none⟩)).toArray dj (0,0))→
   (∀y,VS.M ⟨gp,gm,tm,bm,nm,1,⟨0,0,0⟩,t,[],1,[],[],[]⟩ y→h.size≤y∧y<e)→e<sp→Upd No h c→h'[b]? =some (.cells #[.pointer (some ⟨sp,0,none⟩)] gw (0,0))→Upd (· =b) c h'→K ⟨#[111,107]⟩ h'):
  HC PG gC [.pointer (some ⟨b,0,none⟩),.string (aW a)] [.c .str] K h:=by
 refine yo (some ⟨b,0,none⟩) (aW a) ?_;unfold tE bL dE ar cg aq bc aD nv kf Q5 UB MR gO CV MY;refine aj.2 (Fz (by rw[bq];exact hx) fun k E ow D=>qN fun i B p=>?_)
 rw[show(aW a).data.toList=a from by simp,z]at ow
 have f:=D.tr p;have A:=(ow.sl (W:=fun y=>k.size≤y) (fun y _ d=>by omega)).upd p fun _ h=>h.elim
 have n:=f.get0 hd;have s:=f.size;refine LoopP.ghost (fun(_:Unit) (t:Int) o=>t=0∧o=i) (fun _=>0) () ⟨rfl,rfl⟩ ?_
 rintro I _ t o ⟨e1,e2⟩ F;subst e1 e2;refine aB.2 ⟨⟨by decide,by decide⟩,_,rfl,_,vc B 0,HV.mk' (P1 (fun y d=>aF (m y d) s) n (l.upd0 f) j A fun c h' sp g gp gm tm bm nm t sm pb e w bs hM q v u x=>aB.2 ?_)⟩
 exact C c h' sp g gp gm tm bm nm t sm pb e w bs (fun y d=>⟨by have:=(hM y d).1;omega,(hM y d).2⟩) q (f.tr v) u x
theorem LX{c:UInt8}:∀{l:List UInt8},c∉l→Lib.indexByte l c= -1
 | [],_=>rfl
 |a::l,h=>by
  have d:(a==c)=false:=beq_eq_false_iff_ne.2 fun e=>h (by rw[e];exact aU ..)
  have b:=LX (l:=l) fun e=>h (List.mem_cons_of_mem _ e)
  simp only[Lib.indexByte,d,b];rfl
theorem Np{a:List UInt8}{h:ad}{fv:Value}{sb tb nb:Nat}(V:fv=.func (.func ja) #[] #[.pointer (some ⟨sb,0,none⟩),.pointer (some ⟨tb,0,none⟩),.pointer (some ⟨nb,0,none⟩)])(hs:h[sb]? =some (.cells #[.string ⟨#[10]⟩] cN (0,0))) (ht:h[tb]? =some (.cells #[.string (aW a)] cN (0,0))) (hn:h[nb]? =some (.cells #[.int .i64 0] tLq (0,0)))
  (q1:tb≠sb) (q2:tb≠nb) (hx:a.length≤1000000)
  {BODY:ByteArray→(Option Ex→ad→Prop)→ad→Prop} {N:ad→Prop} {X:Nat→ad→Prop} {R:ad→Prop} (Inv:Nat→ad→Prop) (M:Nat→Prop)
  (K:Inv 0 h) (d:∀k h1 h2,Inv k h1→h.size≤h1.size→Upd (fun b=>b=tb∨b=h.size∨b=h.size+1) h1 h2→Inv k h2)
  (hM:∀b,M b→b≠tb∧b≠sb∧b≠nb∧b≠h.size∧b≠h.size+1)
  (step:∀k w h1 (KK:Option Ex→ad→Prop),Inv k h1→h.size+2≤h1.size→(ol 10 a)[k]? =some w→(∀h2,Inv (k+1) h2→Upd M h1 h2→KK none h2)→BODY (aW w) KK h1)
  (Y:∀h1,Inv (ol 10 a).length h1→h1[h.size]? =some (.deferred (some []))→N h1):
  RangeP PG fv [.c .str] h (fun Im bz (x:ByteArray) k J=>(J[(aE h+1)]? =some Im∧At (Array.setIfInBounds J (aE h+1) bz) (fun h69=>BODY x k h69))) N X R:=by
 subst V;refine⟨fun lo hlo u=>⟨ja,#[],_,rfl,?_⟩⟩
 have zs:=bv hs;have zt:=bv ht;have zn:=bv hn;have k1:Upd No h ((h.push (.deferred (some []))).push (lo .ready none)):=(Upd.push No _ _).tr (Upd.push No _ _);have l2:((h.push (.deferred (some []))).push (lo .ready none))[h.size+1]? =some (lo .ready none):=by
  have:=oD (h.push (.deferred (some []))) (lo .ready none);rwa [Array.size_push]at this
 have l1:((h.push (.deferred (some []))).push (lo .ready none))[h.size]? =some (.deferred (some [])):=(Upd.push No _ _).get0 (oD h _);have i1:=d 0 _ _ K (ax _) k1.wide;generalize (h.push (.deferred (some []))).push (lo .ready none)=h1 at k1 l2 l1 i1;have s1:=k1.get0 hs;have t1:=k1.get0 ht;have E:=k1.get0 hn;refine AV (.func (.yield (h.size+1)) #[] #[]) ⟨sb,0,none⟩ ⟨tb,0,none⟩ ⟨nb,0,none⟩ ?_
 unfold pc kf;refine⟨_,aP s1,aj.2 ?_⟩;have round:∀(k:Nat) (w:List UInt8) (h':ad) (KK:Bool→ad→Prop),Inv k h'→(ol 10 a)[k]? =some w→h.size≤h'.size→h'[sb]? =some (.cells #[.string ⟨#[10]⟩] cN (0,0))→h'[nb]? =some (.cells #[.int .i64 0] tLq (0,0))→h'[h.size]? =some (.deferred (some []))→h'[h.size+1]? =some (lo .ready none)→∀v,h'[tb]? =some (.cells v cN (0,0))→
   (∀h2,Inv (k+1) h2→h.size≤h2.size→h2[sb]? =some (.cells #[.string ⟨#[10]⟩] cN (0,0))→h2[nb]? =some (.cells #[.int .i64 0] tLq (0,0))→h2[h.size]? =some (.deferred (some []))→h2[h.size+1]? =some (lo .ready none)→h2[tb]? =some (.cells v cN (0,0))→KK true h2)→HV PG (.func (.yield (h.size+1)) #[] #[]) [.string (aW w)] [.c .bool] KK h':=by
  intro k w h' KK hi hw Q sb' U t i v T S;refine u (aW w) h' KK i ⟨i,?_⟩;have A:Upd (· =h.size+1) h' (h'.setIfInBounds (h.size+1) (lo .busy none)):=Upd.set _ _ rfl
  have lb:=iB (o:=lo .busy none) i;have zb:=A.size;refine aY ?_;generalize h'.setIfInBounds (h.size+1) (lo .busy none)=h2 at A lb zb;refine step k w h2 _ (d k _ _ hi Q (A.mono fun b z=>.inl (.inr (.inr z)))) (by have:=bv lb;omega) hw fun h3 hi3 f=>?_
  have H:=f.get lb fun e=>(hM _ e).2.2.2.2 rfl
  refine⟨H,?_⟩;have s:Upd (· =h.size+1) h3 (h3.setIfInBounds (h.size+1) (lo .ready none)):=Upd.set _ _ rfl
  have F:=iB (o:=lo .ready none) H;have z3:=f.size;have D:=s.size;have E:sb≠h.size+1:=by omega
  have O:nb≠h.size+1:=by omega
  have n3:tb≠h.size+1:=by omega
  have n4:h.size≠h.size+1:=by omega
  simp only[Option.isNone_none,if_true];generalize h3.setIfInBounds (h.size+1) (lo .ready none)=G at s F D;exact S G (d (k+1) _ _ hi3 (by omega) (s.mono fun b z=>.inl (.inr (.inr z)))) (by omega) (s.get (f.get (A.get sb' E) fun e=>(hM _ e).2.1 rfl) E) (s.get (f.get (A.get U O) fun e=>(hM _ e).2.2.1 rfl) O) (s.get (f.get (A.get t n4) fun e=>(hM _ e).2.2.2.1 rfl) n4) F (s.get (f.get (A.get T n3) fun e=>(hM _ e).1 rfl) n3)
 refine LoopP.ghost (fun(g:Nat×List UInt8) (_:Unit) h'=>Inv g.1 h'∧(ol 10 a).drop g.1=ol 10 g.2∧g.2.length≤1000000∧h'[tb]? =some (.cells #[.string (aW g.2)] cN (0,0))∧h'[sb]? =some (.cells #[.string ⟨#[10]⟩] cN (0,0))∧h'[nb]? =some (.cells #[.int .i64 0] tLq (0,0))∧h'[h.size]? =some (.deferred (some []))∧h'[h.size+1]? =some (lo .ready none)∧h.size≤h'.size) (fun g=>g.2.length) (0,a) ⟨i1,rfl,hx,t1,s1,E,l1,l2,k1.size⟩ ?_
 rintro I ⟨k,r⟩ ⟨⟩ h' ⟨hi,c,hr,m,C,B,t,i,Q⟩ hI;simp only at hi c hr m;refine⟨_,aP m,_,aP C,IK ?_⟩;rw[show(aW r).data.toList=r from by simp]
 by_cases hm:(10:UInt8)∈r
 ·obtain⟨p,q,rfl,hp,n⟩:=F4 10 r hm
  rw[Gu hp]at c;have hk:(ol 10 a)[k]? =some p:=by
   have:=congrArg (fun l=>l[0]?) c
   simpa using this
  rw[n];refine aK (fun K=>absurd K (by omega)) fun _=>⟨_,aP m,0,aP B,?_⟩
  have L:(p++10::q).length=p.length+(q.length+1):=by simp
  have es:(aW (p++10::q)).size=p.length+(q.length+1):=by rw[bq,L]
  have e4:ac .i64 ((p.length:Int)+0)=(p.length:Int):=by rw[lz (by omega)];omega
  have e5:ac .i64 ((p.length:Int)+((⟨#[10]⟩:ByteArray).size:Int))=((p.length+1:Nat):Int):=by rw[show((⟨#[10]⟩:ByteArray).size:Int)=1 from rfl,lz (by omega)];omega
  rw[e4,es,ai,N6];refine⟨⟨by omega,by omega⟩,round k p h' _ hi hk Q C B t i _ m fun G y D s5 n5 Z F P=>aj.2 ⟨_,aP P,_,aP s5,?_⟩⟩
  rw[e5,es,ai];have er:(aW (p++10::q)).extract (p.length+1) (p.length+(q.length+1))=aW q:=by
   have:=N5 (p++ [10]) q (p.length+(q.length+1)) (by simp<;>omega)
   rw[List.append_assoc]at this;simpa using this
  rw[er];refine⟨⟨by omega,by omega⟩,GE ⟨ij P (by simp),wB P fun h6 W j=>?_⟩⟩
  have E:sb≠tb:=fun e=>q1 e.symm
  have O:nb≠tb:=fun e=>q2 e.symm
  refine hI (k+1,q) () h6 ⟨d _ _ _ y D (j.mono fun b z=>.inl (.inl z)),?_,by simp only;omega,W,j.get s5 E,j.get n5 O,j.get Z (show ¬h.size=tb by omega),j.get F (show ¬h.size+1=tb by omega),bH D j.size⟩ (by simp only;omega)
  have:=congrArg List.tail c;rw[List.tail_drop]at this;exact this
 ·rw[C9 hm]at c
  have hk:(ol 10 a)[k]? =some r:=by
   have:=congrArg (fun l=>l[0]?) c
   simpa using this
  have hl:(ol 10 a).length=k+1:=by
   have:=congrArg List.length c;simp only[List.length_drop,bw]at this;omega
  have n:Lib.indexByte r 10<0:=by rw[LX hm];decide
  refine aK (fun _=>⟨_,aP m,round k r h' _ hi hk Q C B t i _ m fun G y D s5 n5 Z F P=>?_⟩) fun K=>absurd n K
  have s:Upd (· =h.size+1) G (G.setIfInBounds (h.size+1) (lo .exhausted none)):=Upd.set _ _ rfl
  refine⟨.ready,none,by decide,F,?_⟩
  refine Y _ ?_ (s.get Z (show ¬h.size=h.size+1 by omega))
  rw[hl];exact d (k+1) _ _ y D (s.mono fun b z=>.inl (.inr (.inr z)))
end Go.Proofs
namespace Go.Proofs
open Go Go.Lift
theorem WR:uL [48]=some 0:=by
 have:uL (dW 0)=some 0:=FO (by omega);rw[sf (by omega)]at this;exact this
theorem WQ:uL [49]=some 1:=by
 have:uL (dW 1)=some 1:=FO (by omega);rw[sf (by omega)]at this;exact this
abbrev FU:List UInt8:= [109,97,105,110]
theorem FT:vo (aW FU)=true:=by decide+kernel
theorem OX:rg [54,49]=some [97]:=by decide+kernel
theorem TY:rg [51,49]=some [49]:=by decide+kernel
abbrev IC:List UInt8:= [99,114,101,97,116,101,32,109,97,105,110,32,48]
abbrev IA:List UInt8:= [112,117,116,32,109,97,105,110,32,54,49,32,51,49]
abbrev IB:List UInt8:= [103,101,116,32,49,32,54,49]
abbrev LQ:List UInt8:= [111,112,101,110,32,114,97,100,105,120,32,48,32,48,32,48]
theorem Qw:ol 32 LQ= [[111,112,101,110],[114,97,100,105,120],[48],[48],[48]]:=by decide+kernel
theorem Qy:ol 32 IC= [[99,114,101,97,116,101],FU,[48]]:=by decide+kernel
theorem Qv:ol 32 IA= [[112,117,116],FU,[54,49],[51,49]]:=by decide+kernel
theorem Qx:ol 32 IB= [[103,101,116],[49],[54,49]]:=by decide+kernel
theorem Mc:ol 10 (LQ++10::(IC++10::(IA++10::IB)))= [LQ,IC,IA,IB]:=by decide+kernel
theorem Nm:([98,105]:List UInt8).foldl (fun x p=>OZ p x) (([FU,[48]],true),Hm 0)=(([],true),Xr (Xs (Hm 0) (aW FU)) 0):=by
 simp[OZ,oC,j2,dP,WR,FT,IntKind.wrap_u32]
theorem Nk:([98,107,118]:List UInt8).foldl (fun x p=>OZ p x) (([FU,[54,49],[51,49]],true),Hm 4)=(([],true),XO (Xq (Xs (Hm 4) (aW FU)) (aW [97])) (aW [49])):=by
 simp[OZ,oC,rC,dP,OX,TY,FT]
theorem Nl:([105,107]:List UInt8).foldl (fun x p=>OZ p x) (([[49],[54,49]],true),Hm 10)=(([],true),Xq (Xr (Hm 10) 1) (aW [97])):=by
 simp[OZ,rC,j2,dP,OX,WQ,IntKind.wrap_u32]
theorem N3{k:Nat}{kd:Int}{w e:List UInt8}(b:formsL[k]? =some (kd,w,e)):∀j f,j<k→formsL[j]? =some f→f.2.1≠w:=by
 have key:∀i j:Fin 26,j.val<i.val→(formsL.getD j.val (0,[],[])).2.1≠(formsL.getD i.val (0,[],[])).2.1:=by decide+kernel
 intro j f c a;have d:k<26:=(List.getElem?_eq_some_iff.1 b).1;have:=key ⟨k,d⟩ ⟨j,by omega⟩ c
 rw[List.getD_eq_getElem?_getD,List.getD_eq_getElem?_getD,b,a]at this;exact this
end Go.Proofs
namespace Go.Proofs
open Go Go.Lift
theorem V4{W:Nat→Prop}{h:ad}{g sp j:Nat}{sm a:Option Addr}{last:Int}{s:VS}(v:VaultAt W h g s)(b:h[sp]? =some (.cells (M8 g (sm.map (·.block)) last a).toArray dj (0,0))) (e1:s.B= []) (e2:s.L= []) (hM:∀y,s.M y→y<h.size) (l:Laid h) (o:4≤h.size)
  (hd:h[j]? =some (.cells #[.pointer (some ⟨sp,0,none⟩)] gw (0,0))) {K:ByteArray→ad→Prop}
  (q:∀f c h',Upd No h f→Upd s.M f c→VaultAt W c g {s with B:= [(rj,0)]}→Upd No c h'→K ⟨#[111,107]⟩ h'):
  HC PG gC [.pointer (some ⟨j,0,none⟩),.string (aW IC)] [.c .str] K h:=by
 refine Gr (by decide) Qy (by decide) (by decide) (fun x hx=>by
   rcases aA.1 hx with rfl|hx
   ·decide
   rcases aA.1 hx with rfl|hx
   ·decide
   cases hx) (k:=0) rfl (N3 rfl) (fun p d=>by
   rcases aA.1 d with rfl|d
   ·exact .inl rfl
   rcases aA.1 d with rfl|d
   ·exact .inr (.inr (.inr (.inr (.inl rfl))))
   cases d) Nm l o hd fun f ob k1 w z u=>?_
 refine L9 (v.upd0 k1) (k1.get0 b) rfl fun c i t=>?_
 rw[e1,e2]at*;refine⟨vc (i.get u fun e=>by have:=hM _ e;omega) 0,Rq rfl fun m n=>q f c m k1 i t n⟩
end Go.Proofs
namespace Go.Proofs
open Go Go.Lift
theorem V2{W:Nat→Prop}{h:ad}{o sp s:Nat}{sm:Option Nat}{f:Option Addr}{last:Int}{gp gm tm bm nm:Nat}{kd:Int}{t:Tr}(v:VaultAt W h o ⟨gp,gm,tm,bm,nm,kd,⟨0,0,0⟩,t,[],1,[],[(rj,0)],[]⟩)(b:h[sp]? =some (.cells (M8 o sm last f).toArray dj (0,0))) (m:¬VS.M ⟨gp,gm,tm,bm,nm,kd,⟨0,0,0⟩,t,[],1,[],[(rj,0)],[]⟩ sp)
  (hM:∀y,VS.M ⟨gp,gm,tm,bm,nm,kd,⟨0,0,0⟩,t,[],1,[],[(rj,0)],[]⟩ y→y<h.size) (l:Laid h) (u:4≤h.size)
  (hd:h[s]? =some (.cells #[.pointer (some ⟨sp,0,none⟩)] gw (0,0))) {K:ByteArray→ad→Prop}
  (A:∀a,Upd (VS.M ⟨gp,gm,tm,bm,nm,kd,⟨0,0,0⟩,t,[],1,[],[(rj,0)],[]⟩) h a→Laid a)
  (E:∀g a h' i,Upd No h g→Upd (VS.M ⟨gp,gm,tm,bm,nm,kd,⟨0,0,0⟩,t,[],1,[],[(rj,0)],[]⟩) g a→VaultAt W a o ⟨gp,gm,tm,bm,nm,kd,⟨0,0,0⟩,t,[(1,[])],2,[(1,(i,[(⟨#[97]⟩,⟨#[49]⟩)]))],[(rj,1)],[]⟩→Upd No a h'→K (((⟨#[118,101,114,115,105,111,110,32]⟩:ByteArray)++aW (dW 1))++(⟨#[]⟩:ByteArray)) h'):
  HC PG gC [.pointer (some ⟨s,0,none⟩),.string (aW IA)] [.c .str] K h:=by
 refine Gr (by decide) Qv (by decide) (by decide) (fun x hx=>by
  rcases aA.1 hx with rfl|hx
  ·decide
  rcases aA.1 hx with rfl|hx
  ·decide
  rcases aA.1 hx with rfl|hx
  ·decide
  cases hx) (k:=4) rfl (N3 rfl) (fun p c=>by
  rcases aA.1 c with rfl|c
  ·exact .inl rfl
  rcases aA.1 c with rfl|c
  ·exact .inr (.inr (.inl rfl))
  rcases aA.1 c with rfl|c
  ·exact .inr (.inr (.inr (.inl rfl)))
  cases c) Nk l u hd fun g ob k1 G H F=>?_
 refine S4 (v.upd0 k1) (k1.get0 b) m rfl (hd:=0) rfl (.inl rfl) (N:=0) (by omega) (fun B d=>?_) (by decide) (by decide) (id:=1) (show(ly [] 1 (nz [0])).1=(1,0) by decide) fun a B i d j q=>?_
 ·rcases d with⟨_,rfl⟩|⟨d,_⟩
  ·exact⟨jo,ax _,fun _ h=>by cases h⟩
  ·exact absurd rfl d
 have w:B.2= []:=by
  rcases d with⟨_,rfl⟩|⟨d,_⟩
  ·rfl
  ·exact absurd rfl d
 rw[w]at q;have z:Laid a:=A a (k1.wide.tr j);exact⟨vc (j.get F fun e=>by have:=hM _ e;omega) 0,Rp (n:=1) rfl (by omega) rfl z fun C D=>E g a C i k1 j q D⟩
theorem V3{W:Nat→Prop}{h:ad}{g sp j:Nat}{sm:Option Nat}{c:Option Addr}{last:Int}{gp gm tm bm nm:Nat}{kd:Int}{t f:Tr}(v:VaultAt W h g ⟨gp,gm,tm,bm,nm,kd,⟨0,0,0⟩,t,[(1,[])],2,[(1,(f,[(⟨#[97]⟩,⟨#[49]⟩)]))],[(rj,1)],[]⟩)(b:h[sp]? =some (.cells (M8 g sm last c).toArray dj (0,0))) (l:Laid h) (n:4≤h.size)
  (hd:h[j]? =some (.cells #[.pointer (some ⟨sp,0,none⟩)] gw (0,0))) {K:ByteArray→ad→Prop}
  (q:∀h',Upd No h h'→K (((⟨#[105,115,32]⟩:ByteArray)++aW (mI [49]))++(⟨#[]⟩:ByteArray)) h'):
  HC PG gC [.pointer (some ⟨j,0,none⟩),.string (aW IB)] [.c .str] K h:=by
 refine Gr (by decide) Qx (by decide) (by decide) (fun x hx=>by
  rcases aA.1 hx with rfl|hx
  ·decide
  rcases aA.1 hx with rfl|hx
  ·decide
  cases hx) (k:=10) rfl (N3 rfl) (fun p e=>by
  rcases aA.1 e with rfl|e
  ·exact .inr (.inr (.inr (.inr (.inl rfl))))
  rcases aA.1 e with rfl|e
  ·exact .inr (.inr (.inl rfl))
  cases e) Nl l n hd fun u ob k1 w z s=>?_
 have d:∀B,BaseOf ⟨gp,gm,tm,bm,nm,kd,⟨0,0,0⟩,t,[(1,[])],2,[(1,(f,[(⟨#[97]⟩,⟨#[49]⟩)]))],[(rj,1)],[]⟩ 1 B→B.2= [(⟨#[97]⟩,⟨#[49]⟩)]:=fun B a=>by
  rcases a with⟨a,_⟩|⟨_,a⟩
  ·cases a
  ·cases a;rfl
 refine S6 (v.upd0 k1) (k1.get0 b) rfl (.inr (show(1:Int)∈ids [(1,[])] by decide)) (fun B a=>?_) fun y B a i=>?_
 ·rw[d B a];exact⟨List.pairwise_singleton _ _,by simp⟩
 rw[d B a];exact⟨vc (i.get0 s) 0,PF (v:=⟨#[49]⟩) rfl rfl rfl (by decide) fun m o=>q m ((k1.tr i).tr o)⟩
end Go.Proofs
namespace Go.Proofs
open Go Go.Lift
theorem S9(x:ByteArray)(n:Nat):(x.extract 0 n).size≤n:=by rw[kF];omega
theorem pF{x:ByteArray}{h:ad}{K:ByteArray→ad→Prop}(a:∀y:ByteArray,y.size≤30→K y h):HC PG kr [.string x] [.c .str] K h:=by
 refine Oz x ?_;unfold GY;refine⟨⟨by split<;>omega,by split<;>omega⟩,GE (a _ (bH (S9 _ _) ?_))⟩
 split<;>omega
end Go.Proofs
namespace Go.Proofs
open Go Go.Lift
theorem U9{h:ad}{b:Nat}{c c':Array Value}{t:TypeId}{v:Value}{k:ad→Prop}(d:h[b]? =some (.cells c t (0,0))) (hi:0<c.size) (e:c.setIfInBounds 0 v=c') (f:∀h',h'[b]? =some (.cells c' t (0,0))→Upd (· =b) h h'→k h'):Wr h ⟨b,0,none⟩∧At (hset h ⟨b,0,none⟩ v) k:=
 ⟨ij d hi,wB d fun h' a g=>f h' (e▸a) g⟩
abbrev RN(x:ByteArray):List Value:= [.string x]
theorem RM(x:ByteArray):(RN x).length=1∧0<1:=⟨rfl,Nat.one_pos⟩
def Jw(Z:Nat):Sp:=⟨(· <Z),fun _=>True,fun _ _ _=>trivial⟩
abbrev ans4:List ByteArray:= [⟨#[111,107]⟩,⟨#[111,107]⟩,⟨#[118,101,114,115,105,111,110,32,49]⟩,⟨#[105,115,32,51,49]⟩]
structure RunI(h0:ad)(db dv ov Z:Nat)(xs:List ByteArray)(h:ad)(sp vp:Nat)(s:VS)(sm:Option Nat)(pool:Option Addr)(so:SliceV):Prop where
 v:Vw [Jw Z,Af RN 1 cN so xs] h vp s
 b:h[sp]? =some (.cells (M8 vp sm 0 pool).toArray dj (0,0))
 d:h[db]? =some (.cells #[.pointer (some ⟨sp,0,none⟩)] gw (0,0))
 dv:h[dv]? =some (.cells #[.pointer (some ⟨db,0,none⟩)] uK (0,0))
 o:h[ov]? =some (.cells #[.slice so.a so.len so.cap] Jo (0,0))
 zs:Z≤sp
 sM:¬s.M sp
 nso:¬Go.Proofs.sb so sp
 zM:∀y,s.M y→Z≤y
 zo:∀y,Go.Proofs.sb so y→Z≤y
 k:Upd No h0 h
section
variable {h0 h h':ad} {db dv ov Z:Nat} {xs:List ByteArray} {sp vp:Nat} {s s':VS} {sm:Option Nat} {pool:Option Addr} {so:SliceV} {M:Nat→Prop}
theorem RunI.low(r:RunI h0 db dv ov Z xs h sp vp s sm pool so)(k:Upd M h h')(hM:∀y,M y→y<Z∧y≠db∧y≠dv∧y≠ov∧h0.size≤y):RunI h0 db dv ov Z xs h' sp vp s sm pool so:=
 ⟨r.v.set (i:=0) (p':=Jw Z) rfl k (fun y a=>.inl (hM y a).1) trivial fun y a=>⟨.inl a,aF (r.v.own.lt (Jw Z) (aU ..) y a) k.size⟩,
  k.get r.b fun e=>by have:=(hM _ e).1;have:=r.zs;omega,k.get r.d fun e=>(hM _ e).2.1 rfl,k.get r.dv fun e=>(hM _ e).2.2.1 rfl,k.get r.o fun e=>(hM _ e).2.2.2.1 rfl,r.zs,r.sM,r.nso,r.zM,r.zo,r.k.trans k fun y a=>.inr (hM y a).2.2.2.2⟩
theorem RunI.up0(r:RunI h0 db dv ov Z xs h sp vp s sm pool so)(k:Upd No h h'):RunI h0 db dv ov Z xs h' sp vp s sm pool so:=r.low k fun _ h=>h.elim
theorem RunI.ed(r:RunI h0 db dv ov Z xs h sp vp s sm pool so)(b:h0.size≤Z)(hd:db<Z)(c:dv<Z)(d:ov<Z)(k:Upd s.M h h')(v:VaultAt (fun y=>s.M y∨AL [Jw Z,Af RN 1 cN so xs] y) h' vp s')(e:s'.M=s.M):RunI h0 db dv ov Z xs h' sp vp s' sm pool so:=
 ⟨r.v.ed k v e,k.get r.b r.sM,k.get r.d fun e=>by have:=r.zM _ e;omega,k.get r.dv fun e=>by have:=r.zM _ e;omega,k.get r.o fun e=>by have:=r.zM _ e;omega,r.zs,by rw[e];exact r.sM,r.nso,fun y a=>r.zM y (by rw[←e];exact a),r.zo,r.k.trans k fun y a=>.inr (bH b (r.zM y a))⟩
theorem RunI.say(r:RunI h0 db dv ov Z xs h sp vp s sm pool so)(H:h0.size≤Z)(hd:db<Z)(F:dv<Z)(I:ov<Z)(K:ov≠db)(N:ov≠dv)(L:h0.size≤ov)(E:xs.length+1≤1000000){x:ByteArray}{k:ad→Prop}
  (J:∀h' s',RunI h0 db dv ov Z (xs++ [x]) h' sp vp s sm pool s'→Upd (fun y=>y=ov∨Z≤y) h h'→k h'):
  aC h ⟨ov,0,none⟩=some (.slice so.a so.len so.cap)∧At (hnew h [.string x] cN) (fun j=>(aC j ⟨ov,0,none⟩=some (.slice so.a so.len so.cap)∧∃xs21,SRow j (some (aJ h)) (1*1) xs21∧
   AppP (some [.string (⟨#[]⟩:ByteArray)]) 1 16 cN so.a so.len so.cap 1 xs21 j (fun m n=>(Wr n ⟨ov,0,none⟩∧At (hset n ⟨ov,0,none⟩ (.slice m.a m.len m.cap)) k)))):=by
 refine⟨aP r.o,qN fun j B g=>?_⟩
 have d:=r.up0 g;have G:=g.size;have D:∀y,y<Z→y<h.size:=fun y a=>r.v.own.lt (Jw Z) (aU ..) y a
 refine⟨aP d.o,Wf (f:=RN) (t:=x) (b:=h.size) (d.v.own.get (i:=1) rfl) B rfl rfl ⟨by decide,by decide⟩ E fun s' n os u C=>?_⟩
 have A:=d.v.slice (i:=1) rfl u os C;have v:∀y,sb s' y→Z≤y:=fun y a=>(C y a).1.elim (r.zo y) fun e=>by
  rcases Nat.lt_or_ge y Z with h|h
  ·have:=D y h;omega
  ·exact h
 have w:=u.get d.b r.nso;have low:∀{y:Nat},y<Z→¬sb so y:=fun a e=>by have:=r.zo _ e;omega
 have o:=u.get d.o (low I);refine U9 (c':= #[.slice s'.a s'.len s'.cap]) o (by simp) rfl fun q z c=>J q s' ⟨A.set (i:=0) (p:=Jw Z) (p':=Jw Z) rfl c (fun y a=>.inl (by have a:y=ov:=a;show y<Z;omega)) trivial fun y a=>⟨.inl a,?_⟩,c.get w (show ¬sp=ov by have:=r.zs;omega),c.get (u.get d.d (low hd)) (show ¬db=ov by omega),c.get (u.get d.dv (low F)) (show ¬dv=ov by omega),z,r.zs,r.sM,?_,r.zM,v,?_⟩ ?_
 ·have:=D y a
  have:=u.size;have:=c.size;omega
 ·intro e
  rcases(C sp e).1 with e|e
  ·exact r.nso e
  ·have:=bv r.b;omega
 ·exact((r.k.tr g).trans u fun y a=>.inr (bH H (r.zo y a))).trans c fun y a=>.inr (by have a:y=ov:=a;omega)
 ·exact(g.wide.trans u fun y a=>.inl (.inr (r.zo y a))).trans c fun y a=>.inl (.inl a)
end
def Inv24(b:ad)(a dv c Z:Nat)(n:Nat)(h:ad):Prop:=
 (n=0∧h[a]? =some (.cells #[.pointer none] gw (0,0))∧h[dv]? =some (.cells #[.pointer (some ⟨a,0,none⟩)] uK (0,0))∧h[c]? =some (.cells #[.slice none 0 0] Jo (0,0))∧Upd No b h)∨
  ∃sp vp gp gm tm bm nm t sm pool so,∃t':Tr,(n=1∧RunI b a dv c Z (ans4.take 1) h sp vp ⟨gp,gm,tm,bm,nm,1,⟨0,0,0⟩,t,[],1,[],[],[]⟩ sm pool so)∨
   (n=2∧RunI b a dv c Z (ans4.take 2) h sp vp ⟨gp,gm,tm,bm,nm,1,⟨0,0,0⟩,t,[],1,[],[(rj,0)],[]⟩ sm pool so)∨
   (n=3∧RunI b a dv c Z (ans4.take 3) h sp vp ⟨gp,gm,tm,bm,nm,1,⟨0,0,0⟩,t,[(1,[])],2,[(1,(t',[(⟨#[97]⟩,⟨#[49]⟩)]))],[(rj,1)],[]⟩ sm pool so)∨
   (n=4∧RunI b a dv c Z (ans4.take 4) h sp vp ⟨gp,gm,tm,bm,nm,1,⟨0,0,0⟩,t,[(1,[])],2,[(1,(t',[(⟨#[97]⟩,⟨#[49]⟩)]))],[(rj,1)],[]⟩ sm pool so)
theorem Inv24.low{g h h':ad}{m dv j Z n:Nat}{M:Nat→Prop}(i:Inv24 g m dv j Z n h)(k:Upd M h h')(hM:∀y,M y→y<Z∧y≠m∧y≠dv∧y≠j∧g.size≤y):Inv24 g m dv j Z n h':=by
 rcases i with⟨e,a,b,c,d⟩|⟨sp,p,gp,gm,tm,bm,nm,t,sm,f,q,o,i⟩
 ·exact .inl ⟨e,k.get a fun e=>(hM _ e).2.1 rfl,k.get b fun e=>(hM _ e).2.2.1 rfl,k.get c fun e=>(hM _ e).2.2.2.1 rfl,d.trans k fun y s=>.inr (hM y s).2.2.2.2⟩
 ·exact .inr ⟨sp,p,gp,gm,tm,bm,nm,t,sm,f,q,o,i.imp (fun e=>⟨e.1,e.2.low k hM⟩) fun i=>i.imp (fun e=>⟨e.1,e.2.low k hM⟩) fun i=>i.imp (fun e=>⟨e.1,e.2.low k hM⟩) fun e=>⟨e.1,e.2.low k hM⟩⟩
theorem XC:(((⟨#[118,101,114,115,105,111,110,32]⟩:ByteArray)++aW (dW 1))++(⟨#[]⟩:ByteArray))=⟨#[118,101,114,115,105,111,110,32,49]⟩:=by
 rw[sf (by omega)];decide+kernel
theorem X3:(((⟨#[105,115,32]⟩:ByteArray)++aW (mI [49]))++(⟨#[]⟩:ByteArray))=⟨#[105,115,32,51,49]⟩:=by decide+kernel
theorem Uj{D h:ad}{x dv v Z n:Nat}{w:List UInt8}(i:Inv24 D x dv v Z n h)(zh:Z≤h.size)(T:Laid D)(h04:4≤D.size)(J:D.size≤Z)(hd:x<Z)(I:dv<Z)(L:v<Z)(z:v≠x)(C:v≠dv)(B:D.size≤v)(ne4:D.size≤x)(R: [LQ,IC,IA,IB][n]? =some w) {k:ad→Prop}
  (U:∀h',Inv24 D x dv v Z (n+1) h'→Upd (fun y=>y=x∨y=v∨Z≤y) h h'→k h'):
  ∃v16:SliceV,aC h ⟨v,0,none⟩=some (.slice v16.a v16.len v16.cap)∧∃v17:Option Addr,aC h ⟨dv,0,none⟩=some (.pointer v17)∧
   HC PG gC [.pointer v17,.string (aW w)] [.c .str] (fun(X:ByteArray) G=>(aC G ⟨v,0,none⟩=some (.slice v16.a v16.len v16.cap)∧At (hnew G [.string X] cN) (fun H=>(aC H ⟨v,0,none⟩=some (.slice v16.a v16.len v16.cap)∧∃xs21,SRow H (some (aJ G)) (1*1) xs21∧
    AppP (some [.string (⟨#[]⟩:ByteArray)]) 1 16 cN v16.a v16.len v16.cap 1 xs21 H (fun E O=>(Wr O ⟨v,0,none⟩∧At (hset O ⟨v,0,none⟩ (.slice E.a E.len E.cap)) k)))))) h:=by
 rcases i with⟨rfl,a,b,c,d⟩|⟨sp,K,gp,gm,tm,bm,nm,t,sm,A,so,V,i⟩
 ·cases R
  refine⟨fP,aP c,_,aP b,Qt (W0:=(· <Z)) (by decide) Qw (fun y f=>aF f zh) a (T.upd0 d) (by omega) fun h2 h' sp K gp gm tm bm nm t sm pb cb va bs hM q P b6 F=>?_⟩
  have zM:∀y,VS.M ⟨gp,gm,tm,bm,nm,1,⟨0,0,0⟩,t,[],1,[],[],[]⟩ y→Z≤y:=fun y f=>bH zh (hM y f).1
  have zsp:Z≤sp:=by have:=(hM gp (.inl rfl));omega
  have z2:=P.size;have z6:=F.size;have r:RunI D x dv v Z [] h' sp K ⟨gp,gm,tm,bm,nm,1,⟨0,0,0⟩,t,[],1,[],[],[]⟩ (some sm) (some ⟨pb,0,none⟩) fP:=by
   have al:∀y,AL [Jw Z,Af RN 1 cN fP []] y→y<Z:=fun y ⟨a,s,f⟩=>by
    rcases aA.1 s with rfl|s
    ·exact f
    ·rw[aM.1 s]at f
     exact absurd f (Js y)
   refine⟨⟨⟨fun a s=>?_,fun a s y f=>?_,fun p j a b s hb Y y f hy'=>?_⟩,va.re F (fun y f=>.inl ⟨.inl (by have f:y=x:=f;show y<Z;omega),fun e=>by have:=zM y e;have f:y=x:=f;omega⟩) (fun y f=>?_) fun y f=>.inl f,fun y f e=>?_⟩,F.get bs (show ¬sp=x by omega),b6,F.get (P.get0 b) (show ¬dv=x from ?_),F.get (P.get0 c) z,zsp,fun e=>?_,Js sp,zM,fun y f=>absurd f (Js y),?_⟩
   ·rcases aA.1 s with rfl|s
    ·exact trivial
    ·rw[aM.1 s];exact OwnS.nil RM
   ·have:=al y ⟨a,s,f⟩;omega
   ·have e:∀{j:Nat} {a:Sp},[Jw Z,Af RN 1 cN fP []][j]? =some a→a.T y→j=0:=fun{j a} s f=>by
     rcases j with _|_|j
     ·rfl
     ·cases s;exact absurd f (Js y)
     ·cases s
    exact Y ((e s f).trans (e hb hy').symm)
   ·rcases f with f|f
    ·exact⟨.inl (.inr f),by have:=va.g.lt y (.inr f);omega⟩
    ·have:=al y f
     exact⟨.inl (.inl this),by omega⟩
   ·have:=zM y e;have:=al y f;omega
   ·intro e;subst e
    rw[a]at b;cases b
   ·have:=(hM sp e).2;omega
   ·exact(d.tr P).trans F fun y f=>.inr (by have f:y=x:=f;omega)
  refine r.say J hd I L z C B (by decide) fun g s' o m=>U g (.inr ⟨sp,K,gp,gm,tm,bm,nm,t,some sm,some ⟨pb,0,none⟩,s',CD,.inl ⟨rfl,o⟩⟩) ?_
  ·exact((P.wide.tr (F.mono fun y f=>.inl (.inl f)))).trans m fun y f=>.inl (.inr f)
 ·rcases i with⟨rfl,r⟩|⟨rfl,r⟩|⟨rfl,r⟩|⟨rfl,r⟩
  ·cases R
   have l:=T.upd0 r.k;refine⟨so,aP r.o,_,aP r.dv,V4 (sm:=sm.map fun b=>⟨b,0,none⟩) r.v.v (by cases sm<;>exact r.b) rfl rfl (fun y f=>r.v.lt y (.inl f)) l (by have:=r.k.size;omega) r.d fun h1' h2' h' k1 Q W S=>?_⟩
   have N:=((r.up0 k1).ed J hd I L Q W rfl).up0 S;refine N.say J hd I L z C B (by decide) fun g s' o m=>U g (.inr ⟨sp,K,gp,gm,tm,bm,nm,t,sm,A,s',CD,.inr (.inl ⟨rfl,o⟩)⟩) ?_
   ·exact(((k1.wide.tr (Q.mono fun y f=>.inl (.inr (.inr (r.zM y f))))).tr S.wide)).trans m fun y f=>.inl (.inr f)
  ·cases R
   have l:=T.upd0 r.k;refine⟨so,aP r.o,_,aP r.dv,V2 r.v.v r.b r.sM (fun y f=>r.v.lt y (.inl f)) l (by have:=r.k.size;omega) r.d (fun h2 u=>l.upd u fun y f=>by have:=r.zM y f;omega) fun h1' h2' h' V k1 Q W S=>?_⟩
   have N:=((r.up0 k1).ed J hd I L Q W rfl).up0 S;rw[XC];refine N.say J hd I L z C B (by decide) fun g s' o m=>U g (.inr ⟨sp,K,gp,gm,tm,bm,nm,t,sm,A,s',V,.inr (.inr (.inl ⟨rfl,o⟩))⟩) ?_
   ·exact(((k1.wide.tr (Q.mono fun y f=>.inl (.inr (.inr (r.zM y f))))).tr S.wide)).trans m fun y f=>.inl (.inr f)
  ·cases R
   have l:=T.upd0 r.k;refine⟨so,aP r.o,_,aP r.dv,V3 r.v.v r.b l (by have:=r.k.size;omega) r.d fun h' k1=>?_⟩
   have N:=r.up0 k1;rw[X3];refine N.say J hd I L z C B (by decide) fun g s' o m=>U g (.inr ⟨sp,K,gp,gm,tm,bm,nm,t,sm,A,s',V,.inr (.inr (.inr ⟨rfl,o⟩))⟩) ?_
   ·exact k1.wide.trans m fun y f=>.inl (.inr f)
  ·cases R
theorem Px{W:Nat→Prop}{h:ad}{s:SliceV}{xs:List ByteArray}(d:Sl RN 1 W h s xs){i:Nat}(hi:i<xs.length):∃a,s.a=some a∧aC h (adr a (i*1))=some (.string xs[i]):=by
 obtain⟨a,b,_,c⟩:=d.at0 (g:=fun w=>Value.string w) (ag hi)
 exact⟨a,b,c⟩
theorem SV{W W':Nat→Prop}{h:ad}{s s':SliceV}{xs:List ByteArray}(f:Sl RN 1 W h s xs)(g:Sl RN 1 W' h s' xs)(j:xs.length≤4611686018427387904){K:Bool→ad→Prop}(q:K true h):HC PG js [.slice s.a s.len s.cap,.slice s'.a s'.len s'.cap] [.c .bool] K h:=by
 refine uY s s' ?_;unfold ni bL dE;have k:=f.len;have n:=g.len;refine CondP.intro (fun e=>absurd e (by rw[k,n];simp)) fun _=>?_
 refine LoopP.ghost (fun(i:Nat) (t:Int) h'=>t=(i:Int)∧h'=h∧i≤xs.length) (fun i=>xs.length-i) 0 ⟨rfl,rfl,be _⟩ ?_
 rintro I i t h' ⟨rfl,rfl,hi⟩ o;refine aK (fun b=>?_) fun _=>q
 have b:i<xs.length:=by omega
 obtain⟨a,p,m⟩:=Px f b;obtain⟨a',d,c⟩:=Px g b;refine⟨⟨by omega,by omega⟩,a,p,_,m,⟨by omega,by omega⟩,a',d,_,c,?_⟩
 rw[eG,decide_eq_true rfl,dw b j];exact aj.2 (o (i+1) _ _ ⟨rfl,rfl,b⟩ (by omega))
theorem Oj{h:ad}{K:Bool→ad→Prop}(l:Laid h)(P:4≤h.size)(hk:∀h',Upd No h h'→K true h'):HC PG xR [] [.c .bool] K h:=by
 refine Mz ?_;unfold Ec vl4;have run:∀{K:SliceV→ad→Prop},(∀h' s,OwnS RN 1 cN (sb s) h' s ans4→Upd No h h'→K s h')→HC PG Aw [.string (aW (LQ++10::(IC++10::(IA++10::IB))))] [.c .slice] K h:=by
  intro K hK;refine OA _ ?_;unfold G0 kf iL;refine OB ?_;unfold G1;refine qN fun g b1 k1=>qN fun h3 b3 B=>?_
  refine U9 (c':= #[.pointer (some ⟨h.size,0,none⟩)]) b3 (by simp) rfl fun a b4 z=>qN fun N L J=>?_
  refine EB _ _ ?_;unfold wX Vx;refine Ez _ _ _ ?_;unfold wV;refine qN fun h6 D x=>qN fun h7 F o=>qN fun c I j=>?_
  have z1:=bv b1;have z3:=bv b3;have z5:=bv L;have z6:=bv D;have z7:=bv F;have z8:=bv I;have Q:=k1.size;have y3:=B.size;have y4:=z.size;have y5:=J.size;have y6:=x.size;have y7:=o.size;have y8:=j.size;have p:Upd No h a:=(k1.tr B).own z Q;have f:=((J.tr x).tr o).tr j;have A:=p.tr f;have T:=f.get0 (z.get (B.get0 b1) (show ¬h.size=g.size by omega))
  have V:=f.get0 b4;have R:=((x.tr o).tr j).get0 L;have t8:=(o.tr j).get0 D;have S:=j.get0 F;have low:∀b,(b=N.size∨b=c.size∨b=c.size+1)→b<c.size+2∧b≠h.size∧b≠g.size∧b≠a.size∧h.size≤b:=fun b G=>by
   rcases G with rfl|rfl|rfl<;>omega
  refine Np rfl S t8 I (by omega) (by omega) (by decide) (Inv24 h h.size g.size a.size (c.size+2)) (fun b=>b=h.size∨b=a.size∨c.size+2≤b) (.inl ⟨rfl,T,V,R,A⟩) (fun n d X i _ u=>i.low u low) (fun b G=>by omega) (fun n w d KK i U H q=>?_) fun d i Z=>?_
  ·rw[Mc]at H
   exact Uj i U l P (by omega) (by omega) (by omega) (by omega) (by omega) (by omega) (by omega) (by omega) H q
  ·rw[Mc]at i
   rcases i with⟨e,_⟩|⟨sp,vp,gp,gm,tm,bm,nm,t,sm,C,k,t',⟨e,_⟩|⟨e,_⟩|⟨e,_⟩|⟨_,r⟩⟩
   ·cases e
   ·cases e
   ·cases e
   ·cases e
   have u:=Upd.set (M:=(· =c.size)) d (b:=c.size) (.deferred none) rfl
   have zo:∀y,sb k y→¬y=c.size:=fun y m=>by have:=r.zo y m;omega
   refine⟨k,aP r.o,Z,aY (hK _ k ((r.v.own.get (i:=1) rfl:OwnS RN 1 cN (sb k) d k ans4).upd u zo) (r.k.trans u fun y m=>.inr (by have m:y=c.size:=m;omega)))⟩
 refine run fun g s os k1=>qN fun Y b2 E=>?_
 refine SV (W:=No) (W':=No) (s':=⟨some ⟨g.size,0,none⟩,4,4⟩) (xs:=ans4) ((os.upd E fun _ _ h=>h).sl fun _ _ _ h=>h) ?_ (by decide) (hk Y (k1.tr E))
 exact⟨rfl,RM,fun _=>⟨⟨g.size,0,none⟩,rfl,fun h=>h,qc b2 fun i v O=>by rw[Nat.zero_add,List.getElem?_toArray];exact O⟩⟩
end Go.Proofs
namespace Go.Proofs
open Go Go.Lift Go.RowKit
def e14(e:Int):Int:=ac .i64 (Int.tmod (ac .u64 e) 14)
theorem Xc(e:Int):0≤e14 e∧e14 e<14:=by
 have a:0≤ac .u64 e:=by rw[IntKind.wrap_u64];omega
 have b:=Int.tmod_nonneg 14 a;have c:=Int.tmod_lt_of_pos (ac .u64 e) (show(0:Int)<14 by decide)
 unfold e14;rw[lz (by omega)];omega
def rX(n:Int):Int:=if 0>n then 0 else n
theorem Sx{n:Int}(h:n≤9223372036854775807):0≤rX n∧rX n≤9223372036854775807:=by unfold rX;split<;>omega
theorem U2{h:ad}{b:Nat}{t:TypeId}{o:An}(a:h[b]? =some (.cells (AD o).toArray t (0,0))):
  aC h (adr ⟨b,0,none⟩ 0)=some (.int .i64 o.1)∧aC h (adr ⟨b,0,none⟩ 1)=some (.int .u32 o.2.1)∧aC h (adr ⟨b,0,none⟩ 2)=some (.int .i64 o.2.2.1)∧aC h (adr ⟨b,0,none⟩ 3)=some (.string o.2.2.2.1)∧aC h (adr ⟨b,0,none⟩ 4)=some (.bool o.2.2.2.2.1)∧aC h (adr ⟨b,0,none⟩ 5)=some (.int .i64 o.2.2.2.2.2.1)∧aC h (adr ⟨b,0,none⟩ 6)=some (.slice o.2.2.2.2.2.2.1.a o.2.2.2.2.2.2.1.len o.2.2.2.2.2.2.1.cap)∧aC h (adr ⟨b,0,none⟩ 7)=some (.slice o.2.2.2.2.2.2.2.1.a o.2.2.2.2.2.2.2.1.len o.2.2.2.2.2.2.2.1.cap)∧aC h (adr ⟨b,0,none⟩ 8)=some (.slice o.2.2.2.2.2.2.2.2.1.a o.2.2.2.2.2.2.2.2.1.len o.2.2.2.2.2.2.2.2.1.cap)∧aC h (adr ⟨b,0,none⟩ 9)=some (.slice o.2.2.2.2.2.2.2.2.2.1.a o.2.2.2.2.2.2.2.2.2.1.len o.2.2.2.2.2.2.2.2.2.1.cap)∧aC h (adr ⟨b,0,none⟩ 10)=some (.slice o.2.2.2.2.2.2.2.2.2.2.a o.2.2.2.2.2.2.2.2.2.2.len o.2.2.2.2.2.2.2.2.2.2.cap):=
 ⟨vc a 0,vc a 1,vc a 2,vc a 3,vc a 4,vc a 5,vc a 6,vc a 7,vc a 8,vc a 9,vc a 10⟩
theorem RQ{α:Type}{f:α→List Value}{a:Nat}{W:Nat→Prop}{h:ad}{s:SliceV}{xs:List α}(d:Sl f a W h s xs)(hc:s.len≤s.cap){j:Nat}(b:j≤s.len):Sl f a W h ⟨aN s.a 0 s.cap a,j-0,s.cap-0⟩ (xs.take j):=by
 have:=Sl.sub (c:=s.cap-0) d (be j) (by rw[←d.len];exact b) (bH b hc);exact this
set_option maxHeartbeats 2000000 in
theorem Ma{D:AnsD}{s1 V U j o:SliceV}{h:ad}{k:Int}(hid:0≤D.id∧D.id<4294967296)(nps:D.ps.length≤9223372036854775807)(ncs:D.cs.length≤9223372036854775807)(ncf:D.cf.length≤9223372036854775807)(hse:D.se≤9223372036854775807)(hct:D.ct≤9223372036854775807)(hids:∀x∈D.ids,0≤x∧x<4294967296)(hns:∀n∈D.ns,n.1.size≤1048576∧0≤n.2∧n.2<4294967296)(c4:j.len≤j.cap)(c5:o.len≤o.cap)(at_:AnsAt h D s1 V U j o)(l:Laid h)(h4:4≤h.size){K:Bool→ad→Prop}(hk:∀h',Upd No h h'→K true h'):
  HC PG xS [.int .i64 k,vy (lP D s1 V U j o)] [.c .bool] K h:=by
 refine GO k (lP D s1 V U j o) ?_;unfold yw dE ar cg aq bE cq bc aD ci nv xf rV kf H6 AZ TG TH QV Q5;have l1:=at_.ps.len;have l2:=at_.cs.len;have l3:=at_.cf.len;refine qN fun g1 b1 k1=>?_
 have zg1:=bv b1;refine Oj (l.upd0 k1) (by omega) fun g3 k3=>aj.2 ⟨D.e,vc (k3.get0 b1) 0,by decide,kI (c':=(AD (lP {D with e:=e14 D.e} s1 V U j o)).toArray) (k3.get0 b1) (by simp) rfl fun g5 b5 u5=>⟨D.v,vc b5 3,D.ct,vc b5 5,D.se,vc b5 2,pF fun y f=>⟨vc b5 2,vc b5 5,kI (c':=(AD (lP {D with e:=e14 D.e,v:=y} s1 V U j o)).toArray) b5 (by simp) rfl fun g6 b6 u6=>kI (c':=(AD (lP {D with e:=e14 D.e,v:=y,ct:=rX D.ct} s1 V U j o)).toArray) b6 (by simp) rfl fun g7 b7 u7=>kI (c':=(AD (lP {D with e:=e14 D.e,v:=y,ct:=rX D.ct,se:=rX D.se} s1 V U j o)).toArray) b7 (by simp) rfl fun g8 b8 u8=>⟨s1,vc b8 6,?_⟩⟩⟩⟩
 have u38:Upd (· =h.size) g3 g8:=((u5.tr u6).tr u7).tr u8
 have k08:Upd No h g8:=(k1.tr k3).trans u38 fun y f=>.inr (by have f:y=h.size:=f;omega)
 have z3:=k3.size;have z8:=u38.size;refine LoopP.ghost (fun(g:Nat×List Pr) (t:SliceV×Int) h'=>t.2=(g.1:Int)∧g.1≤D.ps.length∧g.2.length≤9∧(∀p∈g.2,p.1.size≤30∧p.2.size≤30)∧g.2.length≤g.1∧OwnS kK 2 au (fun y=>g8.size≤y) h' t.1 g.2∧Upd No g8 h') (fun g=>D.ps.length-g.1) (0,[]) ⟨rfl,be _,be _,(fun _ h=>by cases h),be _,OwnS.nil ko,Upd.refl _ _⟩ ?_
 rintro I ⟨i,z⟩ ⟨so,ti⟩ h' ⟨e1,hi,ha2,X,ha1,ho,ku⟩ hI;simp only at e1 hi ha2 X ha1 ho;subst e1;have zku:=ku.size;refine aK (fun d=>Join.plain ?_) fun hge=>?_
 ·have d:i<D.ps.length:=by have:(i:Int)<(s1.len:Int):=d;omega
  obtain⟨a,ha,_,G⟩:=(at_.ps.upd (k08.tr ku) fun _ h=>h.elim).at (ag d)
  generalize D.ps[i]=p at G;refine⟨⟨by simp only;omega,by simp only;omega⟩,a,ha,p.1,by simp only[ai];exact G 0 _ rfl,p.2,by simp only[ai];exact G 1 _ rfl,qN fun h2' b2' k2'=>cY (c:= [.string ⟨#[]⟩,.string ⟨#[]⟩]) (vs:=kK p) b2' rfl fun F s Z=>?_⟩
  have m:Upd No h' F:=k2'.own Z (ax _);have z3':=m.size;refine Join.intro (fun(t:Bool) g=>g=F∧(t=true→(i:Int)<9)) (fun R hR=>aK (fun e9=>CondP.intro (fun _=>hR _ _ ⟨rfl,fun _=>e9⟩) fun _=>hR _ _ ⟨rfl,fun _=>e9⟩) fun _=>hR _ _ ⟨rfl,fun e=>by cases e⟩) ?_
  rintro t g ⟨rfl,ht9⟩;refine CondP.intro (fun e=>⟨_,vc s 0,_,vc s 1,pF fun P Y=>⟨vc s 1,pF fun y2 hy2=>qN fun h5 b5' k5=>?_⟩⟩) fun e=>?_
  ·have e9:=ht9 e
   have o1:OwnS kK 2 au (fun _=>True) h5 ⟨some (aJ g),1,1⟩ [(P,y2)]:=⟨rfl,ko,ax _,.inr ⟨g.size,[],rfl,trivial,b5',rfl⟩⟩
   have z5:=k5.size;refine⟨_,(o1.sl (W:=No) fun _ _ _ h=>h).srow,AppP.own (ys:= [(P,y2)]) (ho.upd (m.tr k5) fun _ _ h=>h) rfl rfl rfl rfl (by omega) (by simp only[aG,bU];omega) (show g8.size≤h5.size by omega) fun s' h6 o6 u6=>?_⟩
   show I (s',ac .i64 ((i:Int)+1)) h6
   rw[pE d nps];refine hI (i+1,z++ [(P,y2)]) _ _ ⟨rfl,d,by simp only[ah,bw];omega,fun q J=>?_,by simp only[ah,bw];omega,o6,((ku.tr m).tr k5).trans u6 fun y f=>.inr f⟩ (by simp only;omega)
   rcases bM.1 J with J|J
   ·exact X q J
   ·rw[aM.1 J];exact⟨Y,hy2⟩
  ·show I (so,ac .i64 ((i:Int)+1)) g
   rw[pE d nps];exact hI (i+1,z) _ _ ⟨rfl,d,ha2,X,by simp only;omega,ho.upd m fun _ _ h=>h,ku.tr m⟩ (by simp only;omega)
 clear hI I;have S1:Sl kK 2 (fun y=>y=h.size∨h'.size≤y) h' so z:=ho.sl fun y f d e=>by have f:g8.size≤y:=f;omega
 have hlo:=ho.len;have k0':=k08.tr ku;refine Join.intro (fun(_:Unit) g=>∃B,(k=21→B=true→z.length=1)∧g[h.size]? =some (.cells (AD (lP {D with e:=e14 D.e,v:=y,ct:=rX D.ct,se:=rX D.se,is:=B} s1 V U j o)).toArray bN (0,0))∧Upd (· =h.size) h' g) (fun R hR=>CondP.intro (fun e=>kI (c':=(AD (lP {D with e:=e14 D.e,v:=y,ct:=rX D.ct,se:=rX D.se,is:=(((so.len:Nat):Int)==1)} s1 V U j o)).toArray) (ku.get0 b8) (by simp) rfl fun g b u=>hR _ _ ⟨_,?_,b,u⟩) fun e=>hR _ _ ⟨D.is,?_,ku.get0 b8,Upd.refl _ _⟩) ?_
 ·intro _ e2
  have:(so.len:Int)=1:=by simpa using e2
  omega
 ·intro e2
  rw[e2]at e;cases e
 rintro _ g9 ⟨B,his,b9,u9⟩;have z9:=u9.size;have k09:Upd No h g9:=k0'.trans u9 fun y f=>.inr (by have f:y=h.size:=f;omega)
 have S1:=S1.upd u9 fun y f=>.inl (.inl f)
 refine⟨V,vc b9 7,?_⟩;refine LoopP.ghost (fun(g:Nat×List Ch) (t:SliceV×Int) w=>t.2=(g.1:Int)∧g.1≤D.cs.length∧g.2.length≤9∧(∀c∈g.2,c.1.size≤30∧c.2.1.size≤30∧c.2.2.1.size≤30)∧g.2.length≤g.1∧OwnS zD 5 bX (fun y=>g9.size≤y) w t.1 g.2∧Upd No g9 w) (fun g=>D.cs.length-g.1) (0,[]) ⟨rfl,be _,be _,(fun _ h=>by cases h),be _,OwnS.nil Da,Upd.refl _ _⟩ ?_
 rintro I ⟨i,C⟩ ⟨N,ti⟩ w ⟨e1,hi,hb2,S,hb1,ho2,L⟩ hI;simp only at e1 hi hb2 S hb1 ho2;subst e1;have zku2:=L.size;refine aK (fun d=>Join.plain ?_) fun hge=>?_
 ·have d:i<D.cs.length:=by have:(i:Int)<(V.len:Int):=d;omega
  obtain⟨a,ha,_,G⟩:=(at_.cs.upd (k09.tr L) fun _ h=>h.elim).at (ag d)
  generalize D.cs[i]=c at G;refine⟨⟨by simp only;omega,by simp only;omega⟩,a,ha,c.1,by simp only[ai];exact G 0 _ rfl,c.2.1,by simp only[ai];exact G 1 _ rfl,c.2.2.1,by simp only[ai];exact G 2 _ rfl,c.2.2.2.1,by simp only[ai];exact G 3 _ rfl,c.2.2.2.2,by simp only[ai];exact G 4 _ rfl,qN fun h2' b2' k2'=>cY (c:= [.string ⟨#[]⟩,.string ⟨#[]⟩,.string ⟨#[]⟩,.bool false,.bool false]) (vs:=zD c) b2' rfl fun F s Z=>?_⟩
  have m:Upd No w F:=k2'.own Z (ax _);have z3':=m.size;refine aK (fun e9=>⟨_,vc s 0,_,vc s 1,_,vc s 2,pF fun P Y=>⟨vc s 2,vc s 1,pF fun y2 hy2=>⟨vc s 2,pF fun y3 hy3=>?_⟩⟩⟩) fun e9=>?_
  ·refine kI (c':=(zD (P,c.2.1,c.2.2.1,c.2.2.2.1,c.2.2.2.2)).toArray) s (by simp) rfl fun h4 b4 u4=>kI (c':=(zD (P,y2,c.2.2.1,c.2.2.2.1,c.2.2.2.2)).toArray) b4 (by simp) rfl fun h5 b5 u5=>kI (c':=(zD (P,y2,y3,c.2.2.2.1,c.2.2.2.2)).toArray) b5 (by simp) rfl fun h6 b6 u6=>?_
   have k36:Upd No w h6:=m.trans ((u4.tr u5).tr u6) fun y f=>.inr (by have f:y=w.size:=f;omega)
   refine⟨_,vc b6 0,_,vc b6 1,_,vc b6 2,_,vc b6 3,_,vc b6 4,qN fun h7 b7 k7=>?_⟩
   have O:=k36.tr k7;have z37:=O.size;have o1:OwnS zD 5 bX (fun _=>True) h7 ⟨some (aJ h6),1,1⟩ [(P,y2,y3,c.2.2.2.1,c.2.2.2.2)]:=⟨rfl,Da,ax _,.inr ⟨h6.size,[],rfl,trivial,b7,rfl⟩⟩
   refine⟨_,(o1.sl (W:=No) fun _ _ _ h=>h).srow,AppP.own (ys:= [(P,y2,y3,c.2.2.2.1,c.2.2.2.2)]) (ho2.upd O fun _ _ h=>h) rfl rfl rfl rfl (by omega) (by simp only[aG,bU];omega) (show g9.size≤h7.size by omega) fun s' h8 o8 u8=>?_⟩
   show I (s',ac .i64 ((i:Int)+1)) h8
   rw[pE d ncs];refine hI (i+1,C++ [(P,y2,y3,c.2.2.2.1,c.2.2.2.2)]) _ _ ⟨rfl,d,by have e9:(i:Int)<9:=e9;simp only[ah,bw];omega,fun q J=>?_,by simp only[ah,bw];omega,o8,(L.tr O).trans u8 fun y f=>.inr f⟩ (by simp only;omega)
   rcases bM.1 J with J|J
   ·exact S q J
   ·rw[aM.1 J];exact⟨Y,hy2,hy3⟩
  ·show I (N,ac .i64 ((i:Int)+1)) F
   rw[pE d ncs];exact hI (i+1,C) _ _ ⟨rfl,d,hb2,S,by simp only;omega,ho2.upd m fun _ _ h=>h,L.tr m⟩ (by simp only;omega)
 clear hI I;have S1:=S1.upd L fun _ h=>h.elim
 have S2:Sl zD 5 (fun y=>y=h.size∨w.size≤y) w N C:=ho2.sl fun y f d e=>by have f:g9.size≤y:=f;omega
 have k02:=k09.tr L;refine⟨U,vc (L.get0 b9) 8,?_⟩;refine LoopP.ghost (fun(g:Nat×List Cf) (t:SliceV×Int) e=>t.2=(g.1:Int)∧g.1≤D.cf.length∧g.2.length≤9∧(∀c∈g.2,c.1.size≤30)∧g.2.length≤g.1∧OwnS Mj 7 cO (fun y=>w.size≤y) e t.1 g.2∧Upd No w e) (fun g=>D.cf.length-g.1) (0,[]) ⟨rfl,be _,be _,(fun _ h=>by cases h),be _,OwnS.nil GA,Upd.refl _ _⟩ ?_
 rintro I ⟨i,E⟩ ⟨Q,ti⟩ e3 ⟨e1,hi,hc2,hc3,hc1,ho3,H⟩ hI;simp only at e1 hi hc2 hc3 hc1 ho3;subst e1;have zku3:=H.size;refine aK (fun d=>Join.plain ?_) fun hge=>?_
 ·have d:i<D.cf.length:=by have:(i:Int)<(U.len:Int):=d;omega
  obtain⟨a,ha,_,G⟩:=(at_.cf.upd (k02.tr H) fun _ h=>h.elim).at (ag d)
  generalize D.cf[i]=c at G;refine⟨⟨by simp only;omega,by simp only;omega⟩,a,ha,c.1,by simp only[ai];exact G 0 _ rfl,c.2.1.1,by simp only[ai];exact G 1 _ rfl,c.2.1.2,by simp only[ai];exact G 2 _ rfl,c.2.2.1.1,by simp only[ai];exact G 3 _ rfl,c.2.2.1.2,by simp only[ai];exact G 4 _ rfl,c.2.2.2.1,by simp only[ai];exact G 5 _ rfl,c.2.2.2.2,by simp only[ai];exact G 6 _ rfl,qN fun h2' b2' k2'=>cY (c:= [.string ⟨#[]⟩,.string ⟨#[]⟩,.bool false,.string ⟨#[]⟩,.bool false,.string ⟨#[]⟩,.bool false]) (vs:=Mj c) b2' rfl fun F s Z=>?_⟩
  have m:Upd No e3 F:=k2'.own Z (ax _);have z3':=m.size;refine aK (fun e9=>⟨_,vc s 0,pF fun P Y=>qN fun h7 b7 k7=>?_⟩) fun e9=>?_
  ·have O:=m.tr k7
   have z37:=O.size;have o1:OwnS Mj 7 cO (fun _=>True) h7 ⟨some (aJ F),1,1⟩ [(P,(⟨#[]⟩,false),(⟨#[]⟩,false),(⟨#[]⟩,false))]:=⟨rfl,GA,ax _,.inr ⟨F.size,[],rfl,trivial,b7,rfl⟩⟩
   refine⟨_,(o1.sl (W:=No) fun _ _ _ h=>h).srow,AppP.own (ys:= [(P,(⟨#[]⟩,false),(⟨#[]⟩,false),(⟨#[]⟩,false))]) (ho3.upd O fun _ _ h=>h) rfl rfl rfl rfl (by omega) (by simp only[aG,bU];omega) (show w.size≤h7.size by omega) fun s' h8 o8 u8=>?_⟩
   show I (s',ac .i64 ((i:Int)+1)) h8
   rw[pE d ncf];refine hI (i+1,E++ [(P,(⟨#[]⟩,false),(⟨#[]⟩,false),(⟨#[]⟩,false))]) _ _ ⟨rfl,d,by have e9:(i:Int)<9:=e9;simp only[ah,bw];omega,fun q J=>?_,by simp only[ah,bw];omega,o8,(H.tr O).trans u8 fun y f=>.inr f⟩ (by simp only;omega)
   rcases bM.1 J with J|J
   ·exact hc3 q J
   ·rw[aM.1 J];exact Y
  ·show I (Q,ac .i64 ((i:Int)+1)) F
   rw[pE d ncf];exact hI (i+1,E) _ _ ⟨rfl,d,hc2,hc3,by simp only;omega,ho3.upd m fun _ _ h=>h,H.tr m⟩ (by simp only;omega)
 clear hI I;have S1:=S1.upd H fun _ h=>h.elim
 have S2:=S2.upd H fun _ h=>h.elim
 have S3:Sl Mj 7 (fun y=>y=h.size) e3 Q E:=ho3.sl fun y f d e=>by have f:w.size≤y:=f;omega
 have k03:=k02.tr H;have bx:=H.get0 (L.get0 b9);refine⟨j,vc bx 9,j,vc bx 9,⟨by split<;>omega,by split<;>omega⟩,GE (GE (GE ⟨o,vc bx 10,o,vc bx 10,⟨by split<;>omega,by split<;>omega⟩,GE (GE (GE ?_))⟩))⟩
 have j4:(if 9<(j.len:Int)then 9 else(j.len:Int)).toNat≤9∧(if 9<(j.len:Int)then 9 else(j.len:Int)).toNat≤j.len:=by split<;>omega
 have j5:(if 9<(o.len:Int)then 9 else(o.len:Int)).toNat≤9∧(if 9<(o.len:Int)then 9 else(o.len:Int)).toNat≤o.len:=by split<;>omega
 generalize (if 9<(j.len:Int)then 9 else(j.len:Int)).toNat=n4 at j4
 generalize (if 9<(o.len:Int)then 9 else(o.len:Int)).toNat=n5 at j5
 refine kI (c':=(AD (lP {D with e:=e14 D.e,v:=y,ct:=rX D.ct,se:=rX D.se,is:=B,ps:=z,cs:=C,cf:=E,ids:=D.ids.take n4,ns:=D.ns.take n5} so V U j o)).toArray) bx (by simp) rfl fun f1 d1 v1=>kI (c':=(AD (lP {D with e:=e14 D.e,v:=y,ct:=rX D.ct,se:=rX D.se,is:=B,ps:=z,cs:=C,cf:=E,ids:=D.ids.take n4,ns:=D.ns.take n5} so N U j o)).toArray) d1 (by simp) rfl fun f2 d2 v2=>kI (c':=(AD (lP {D with e:=e14 D.e,v:=y,ct:=rX D.ct,se:=rX D.se,is:=B,ps:=z,cs:=C,cf:=E,ids:=D.ids.take n4,ns:=D.ns.take n5} so N Q j o)).toArray) d2 (by simp) rfl fun f3 d3 v3=>kI (c':=(AD (lP {D with e:=e14 D.e,v:=y,ct:=rX D.ct,se:=rX D.se,is:=B,ps:=z,cs:=C,cf:=E,ids:=D.ids.take n4,ns:=D.ns.take n5} so N Q ⟨aN j.a 0 j.cap 1,n4-0,j.cap-0⟩ o)).toArray) d3 (by simp) rfl fun f4 d4 v4=>kI (c':=(AD (lP {D with e:=e14 D.e,v:=y,ct:=rX D.ct,se:=rX D.se,is:=B,ps:=z,cs:=C,cf:=E,ids:=D.ids.take n4,ns:=D.ns.take n5} so N Q ⟨aN j.a 0 j.cap 1,n4-0,j.cap-0⟩ ⟨aN o.a 0 o.cap 2,n5-0,o.cap-0⟩)).toArray) d4 (by simp) rfl fun f5 A v5=>?_
 have vv:Upd (· =h.size) e3 f5:=(((v1.tr v2).tr v3).tr v4).tr v5
 have k05:Upd No h f5:=k03.trans vv fun y f=>.inr (by have f:y=h.size:=f;omega)
 have S4':=RQ (at_.ids.upd k05 fun _ h=>h.elim) c4 j4.2
 have S5':=RQ (at_.ns.upd k05 fun _ h=>h.elim) c5 j5.2
 have at5:AnsAt f5 {D with e:=e14 D.e,v:=y,ct:=rX D.ct,se:=rX D.se,is:=B,ps:=z,cs:=C,cf:=E,ids:=D.ids.take n4,ns:=D.ns.take n5} so N Q ⟨aN j.a 0 j.cap 1,n4-0,j.cap-0⟩ ⟨aN o.a 0 o.cap 2,n5-0,o.cap-0⟩:=⟨(S1.upd vv fun y f=>.inl (.inl f)).less fun _ h=>h.elim,(S2.upd vv fun y f=>.inl (.inl f)).less fun _ h=>h.elim,(S3.upd vv fun y f=>.inl f).less fun _ h=>h.elim,S4',S5'⟩
 have T:AnsOk {D with e:=e14 D.e,v:=y,ct:=rX D.ct,se:=rX D.se,is:=B,ps:=z,cs:=C,cf:=E,ids:=D.ids.take n4,ns:=D.ns.take n5}:=⟨Xc D.e,hid,Sx hse,bH f (by decide),Sx hct,⟨ha2,fun p hp=>⟨bH (X p hp).1 (by decide),bH (X p hp).2 (by decide)⟩⟩,⟨hb2,fun c hc=>⟨bH (S c hc).1 (by decide),bH (S c hc).2.1 (by decide),bH (S c hc).2.2 (by decide)⟩⟩,⟨hc2,fun c hc=>bH (hc3 c hc) (by decide)⟩,⟨by simp only[aL];omega,fun x hx=>hids x (ft hx)⟩,⟨by simp only[aL];omega,fun n hn=>hns n (ft hn)⟩⟩
 refine⟨_,vc A 0,_,vc A 1,_,vc A 2,_,vc A 3,_,vc A 4,_,vc A 5,_,vc A 6,_,vc A 7,_,vc A 8,_,vc A 9,_,vc A 10,_,vc A 0,_,vc A 1,_,vc A 2,_,vc A 3,_,vc A 4,_,vc A 5,_,vc A 6,_,vc A 7,_,vc A 8,_,vc A 9,_,vc A 10,T3 T at5 (l.upd0 k05) his fun f6 k6=>⟨U2 (k6.get0 A),QL T.ps.1 T.cs.1 T.cf.1 T.ns.1 (at5.k0 k6) fun f7 t1 t2 t3 t5 at7 k7=>Nx T at7 fun f8 k8=>?_⟩⟩
 rw[eG,decide_eq_true rfl];exact hk f8 (((k05.tr k6).tr k7).tr k8)
end Go.Proofs
namespace Go.Proofs
open Go Go.Lift Go.RowKit
section
variable {h0 h h':ad} {rb ob Z:Nat} {d d':OpD} {sp sc:SliceV} {M:Nat→Prop}
end
end Go.Proofs
namespace Go.Proofs
open Go Go.Lift Go.RowKit
section
variable {W:Nat→Prop} {h:ad} {b ob:Nat} {s:MQ} {d:OpD} {sp sc:SliceV}
end
end Go.Proofs
namespace Go.Proofs
open Go Go.Lift Go.RowKit
theorem neB(b:Bool):(!(b==b))=false:=by cases b<;>rfl
section
variable {d:OpD} {sp sc sp' sc':SliceV} {h:ad}
end
theorem Sl.k0{α:Type}{f:α→List Value}{a:Nat}{h h':ad}{s:SliceV}{xs:List α}(b:Sl f a No h s xs)(k:Upd No h h'):Sl f a No h' s xs:=b.upd k fun _ h=>h.elim
end Go.Proofs
namespace Go.Proofs
open Go Go.Lift Go.RowKit
end Go.Proofs
