/- A part of the proof that the named laws of this program answer true, whatever the input. -/
import Derived.Test.YtopdngagmfanlaaGreatDoorPart7
open List renaming mem_cons_self→aW,mem_cons→au,mem_singleton→aN
open Nat renaming lt_of_lt_of_le→aC,le_trans→bR
namespace Go.Proofs
open Go Go.Lift
theorem QO{h:ad}{b:Nat}{c c':Array Value}{t:TypeId}{v:Value}{k:ad→Prop}(d:h[b]? =some (.cells c t (0,0))) (hi:0<c.size) (e:c.setIfInBounds 0 v=c') (f:∀h',h'[b]? =some (.cells c' t (0,0))→Upd (· =b) h h'→k h'):Wr h ⟨b,0,none⟩∧At (hset h ⟨b,0,none⟩ v) k:=
 ⟨gI d hi,tO d fun h' a g=>f h' (e▸a) g⟩
abbrev N7(x:ByteArray):List Value:= [.string x]
theorem N6(x:ByteArray):(N7 x).length=1∧0<1:=⟨rfl,Nat.one_pos⟩
def F1(Z:Nat):Sp:=⟨(· <Z),fun _=>True,fun _ _ _=>trivial⟩
abbrev ans4:List ByteArray:= [⟨#[111,107]⟩,⟨#[111,107]⟩,⟨#[118,101,114,115,105,111,110,32,49]⟩,⟨#[105,115,32,51,49]⟩]
structure RunI(h0:ad)(db dv ov Z:Nat)(xs:List ByteArray)(h:ad)(sp vp:Nat)(s:VS)(sm:Option Nat)(pool:Option Addr)(so:SliceV):Prop where
 v:Vw [F1 Z,xb N7 1 eS so xs] h vp s
 b:h[sp]? =some (.cells (Jx vp sm 0 pool).toArray cO (0,0))
 d:h[db]? =some (.cells #[.pointer (some ⟨sp,0,none⟩)] fY (0,0))
 dv:h[dv]? =some (.cells #[.pointer (some ⟨db,0,none⟩)] rX (0,0))
 o:h[ov]? =some (.cells #[.slice so.a so.len so.cap] FS (0,0))
 zs:Z≤sp
 sM:¬s.M sp
 nso:¬Go.Proofs.sb so sp
 zM:∀y,s.M y→Z≤y
 zo:∀y,Go.Proofs.sb so y→Z≤y
 k:Upd No h0 h
section
variable {h0 h h':ad} {db dv ov Z:Nat} {xs:List ByteArray} {sp vp:Nat} {s s':VS} {sm:Option Nat} {pool:Option Addr} {so:SliceV} {M:Nat→Prop}
theorem RunI.low(r:RunI h0 db dv ov Z xs h sp vp s sm pool so)(k:Upd M h h')(hM:∀y,M y→y<Z∧y≠db∧y≠dv∧y≠ov∧h0.size≤y):RunI h0 db dv ov Z xs h' sp vp s sm pool so:=
 ⟨r.v.set (i:=0) (p':=F1 Z) rfl k (fun y a=>.inl (hM y a).1) trivial fun y a=>⟨.inl a,aC (r.v.own.lt (F1 Z) (aW ..) y a) k.size⟩,
  k.get r.b fun e=>by have:=(hM _ e).1;have:=r.zs;omega,k.get r.d fun e=>(hM _ e).2.1 rfl,k.get r.dv fun e=>(hM _ e).2.2.1 rfl,k.get r.o fun e=>(hM _ e).2.2.2.1 rfl,r.zs,r.sM,r.nso,r.zM,r.zo,r.k.trans k fun y a=>.inr (hM y a).2.2.2.2⟩
theorem RunI.up0(r:RunI h0 db dv ov Z xs h sp vp s sm pool so)(k:Upd No h h'):RunI h0 db dv ov Z xs h' sp vp s sm pool so:=r.low k fun _ h=>h.elim
theorem RunI.ed(r:RunI h0 db dv ov Z xs h sp vp s sm pool so)(b:h0.size≤Z)(hd:db<Z)(c:dv<Z)(d:ov<Z)(k:Upd s.M h h')(v:VaultAt (fun y=>s.M y∨AL [F1 Z,xb N7 1 eS so xs] y) h' vp s')(e:s'.M=s.M):RunI h0 db dv ov Z xs h' sp vp s' sm pool so:=
 ⟨r.v.ed k v e,k.get r.b r.sM,k.get r.d fun e=>by have:=r.zM _ e;omega,k.get r.dv fun e=>by have:=r.zM _ e;omega,k.get r.o fun e=>by have:=r.zM _ e;omega,r.zs,by rw[e];exact r.sM,r.nso,fun y a=>r.zM y (by rw[←e];exact a),r.zo,r.k.trans k fun y a=>.inr (bR b (r.zM y a))⟩
theorem RunI.say(r:RunI h0 db dv ov Z xs h sp vp s sm pool so)(H:h0.size≤Z)(hd:db<Z)(J:dv<Z)(F:ov<Z)(L:ov≠db)(N:ov≠dv)(K:h0.size≤ov)(I:xs.length+1≤1000000){x:ByteArray}{k:ad→Prop}
  (G:∀h' s',RunI h0 db dv ov Z (xs++ [x]) h' sp vp s sm pool s'→Upd (fun y=>y=ov∨Z≤y) h h'→k h'):
  aE h ⟨ov,0,none⟩=some (.slice so.a so.len so.cap)∧At (hnew h [.string x] eS) (fun j=>(aE j ⟨ov,0,none⟩=some (.slice so.a so.len so.cap)∧∃xs21,SRow j (some (aR h)) (1*1) xs21∧
   AppP (some [.string (⟨#[]⟩:ByteArray)]) 1 16 eS so.a so.len so.cap 1 xs21 j (fun m n=>(Wr n ⟨ov,0,none⟩∧At (hset n ⟨ov,0,none⟩ (.slice m.a m.len m.cap)) k)))):=by
 refine⟨aI r.o,KM fun j C g=>?_⟩
 have d:=r.up0 g;have E:=g.size;have D:∀y,y<Z→y<h.size:=fun y a=>r.v.own.lt (F1 Z) (aW ..) y a
 refine⟨aI d.o,RO (f:=N7) (t:=x) (b:=h.size) (d.v.own.get (i:=1) rfl) C rfl rfl ⟨by decide,by decide⟩ I fun s' n os u v=>?_⟩
 have q:=d.v.slice (i:=1) rfl u os v;have z:∀y,sb s' y→Z≤y:=fun y a=>(v y a).1.elim (r.zo y) fun e=>by
  rcases Nat.lt_or_ge y Z with h|h
  ·have:=D y h;omega
  ·exact h
 have B:=u.get d.b r.nso;have low:∀{y:Nat},y<Z→¬sb so y:=fun a e=>by have:=r.zo _ e;omega
 have o:=u.get d.o (low F);refine QO (c':= #[.slice s'.a s'.len s'.cap]) o (by simp) rfl fun w A c=>G w s' ⟨q.set (i:=0) (p:=F1 Z) (p':=F1 Z) rfl c (fun y a=>.inl (by have a:y=ov:=a;show y<Z;omega)) trivial fun y a=>⟨.inl a,?_⟩,c.get B (show ¬sp=ov by have:=r.zs;omega),c.get (u.get d.d (low hd)) (show ¬db=ov by omega),c.get (u.get d.dv (low J)) (show ¬dv=ov by omega),A,r.zs,r.sM,?_,r.zM,z,?_⟩ ?_
 ·have:=D y a
  have:=u.size;have:=c.size;omega
 ·intro e
  rcases(v sp e).1 with e|e
  ·exact r.nso e
  ·have:=bp r.b;omega
 ·exact((r.k.tr g).trans u fun y a=>.inr (bR H (r.zo y a))).trans c fun y a=>.inr (by have a:y=ov:=a;omega)
 ·exact(g.wide.trans u fun y a=>.inl (.inr (r.zo y a))).trans c fun y a=>.inl (.inl a)
end
def Inv24(b:ad)(a dv c Z:Nat)(n:Nat)(h:ad):Prop:=
 (n=0∧h[a]? =some (.cells #[.pointer none] fY (0,0))∧h[dv]? =some (.cells #[.pointer (some ⟨a,0,none⟩)] rX (0,0))∧h[c]? =some (.cells #[.slice none 0 0] FS (0,0))∧Upd No b h)∨
  ∃sp vp gp gm tm bm nm t sm pool so,∃t':Tr,(n=1∧RunI b a dv c Z (ans4.take 1) h sp vp ⟨gp,gm,tm,bm,nm,1,⟨0,0,0⟩,t,[],1,[],[],[]⟩ sm pool so)∨
   (n=2∧RunI b a dv c Z (ans4.take 2) h sp vp ⟨gp,gm,tm,bm,nm,1,⟨0,0,0⟩,t,[],1,[],[(pn,0)],[]⟩ sm pool so)∨
   (n=3∧RunI b a dv c Z (ans4.take 3) h sp vp ⟨gp,gm,tm,bm,nm,1,⟨0,0,0⟩,t,[(1,[])],2,[(1,(t',[(⟨#[97]⟩,⟨#[49]⟩)]))],[(pn,1)],[]⟩ sm pool so)∨
   (n=4∧RunI b a dv c Z (ans4.take 4) h sp vp ⟨gp,gm,tm,bm,nm,1,⟨0,0,0⟩,t,[(1,[])],2,[(1,(t',[(⟨#[97]⟩,⟨#[49]⟩)]))],[(pn,1)],[]⟩ sm pool so)
theorem Inv24.low{g h h':ad}{j dv m Z n:Nat}{M:Nat→Prop}(i:Inv24 g j dv m Z n h)(k:Upd M h h')(hM:∀y,M y→y<Z∧y≠j∧y≠dv∧y≠m∧g.size≤y):Inv24 g j dv m Z n h':=by
 rcases i with⟨e,a,b,c,d⟩|⟨sp,q,gp,gm,tm,bm,nm,t,sm,f,s,p,i⟩
 ·exact .inl ⟨e,k.get a fun e=>(hM _ e).2.1 rfl,k.get b fun e=>(hM _ e).2.2.1 rfl,k.get c fun e=>(hM _ e).2.2.2.1 rfl,d.trans k fun y o=>.inr (hM y o).2.2.2.2⟩
 ·exact .inr ⟨sp,q,gp,gm,tm,bm,nm,t,sm,f,s,p,i.imp (fun e=>⟨e.1,e.2.low k hM⟩) fun i=>i.imp (fun e=>⟨e.1,e.2.low k hM⟩) fun i=>i.imp (fun e=>⟨e.1,e.2.low k hM⟩) fun e=>⟨e.1,e.2.low k hM⟩⟩
theorem Te:(((⟨#[118,101,114,115,105,111,110,32]⟩:ByteArray)++bN (gM 1))++(⟨#[]⟩:ByteArray))=⟨#[118,101,114,115,105,111,110,32,49]⟩:=by
 rw[lV (by omega)];decide+kernel
theorem TF:(((⟨#[105,115,32]⟩:ByteArray)++bN (xm [49]))++(⟨#[]⟩:ByteArray))=⟨#[105,115,32,51,49]⟩:=by decide+kernel
theorem P7{D h:ad}{x dv v Z n:Nat}{w:List UInt8}(i:Inv24 D x dv v Z n h)(zh:Z≤h.size)(T:Laid D)(h04:4≤D.size)(J:D.size≤Z)(hd:x<Z)(K:dv<Z)(I:v<Z)(A:v≠x)(B:v≠dv)(C:D.size≤v)(ne4:D.size≤x)(O: [H5,E9,E7,E8][n]? =some w) {k:ad→Prop}
  (U:∀h',Inv24 D x dv v Z (n+1) h'→Upd (fun y=>y=x∨y=v∨Z≤y) h h'→k h'):
  ∃v16:SliceV,aE h ⟨v,0,none⟩=some (.slice v16.a v16.len v16.cap)∧∃v17:Option Addr,aE h ⟨dv,0,none⟩=some (.pointer v17)∧
   HC PG f7 [.pointer v17,.string (bN w)] [.c .str] (fun(e18:ByteArray) F=>(aE F ⟨v,0,none⟩=some (.slice v16.a v16.len v16.cap)∧At (hnew F [.string e18] eS) (fun G=>(aE G ⟨v,0,none⟩=some (.slice v16.a v16.len v16.cap)∧∃xs21,SRow G (some (aR F)) (1*1) xs21∧
    AppP (some [.string (⟨#[]⟩:ByteArray)]) 1 16 eS v16.a v16.len v16.cap 1 xs21 G (fun E R=>(Wr R ⟨v,0,none⟩∧At (hset R ⟨v,0,none⟩ (.slice E.a E.len E.cap)) k)))))) h:=by
 rcases i with⟨rfl,a,b,c,d⟩|⟨sp,L,gp,gm,tm,bm,nm,t,sm,z,W,t',i⟩
 ·cases O
  refine⟨gH,aI c,_,aI b,MQ (W0:=(· <Z)) (by decide) MU (fun y f=>aC f zh) a (T.upd0 d) (by omega) fun h2 h' sp L gp gm tm bm nm t sm pb cb va bs hM q S b6 H=>?_⟩
  have zM:∀y,VS.M ⟨gp,gm,tm,bm,nm,1,⟨0,0,0⟩,t,[],1,[],[],[]⟩ y→Z≤y:=fun y f=>bR zh (hM y f).1
  have Y:Z≤sp:=by have:=(hM gp (.inl rfl));omega
  have z2:=S.size;have z6:=H.size;have r:RunI D x dv v Z [] h' sp L ⟨gp,gm,tm,bm,nm,1,⟨0,0,0⟩,t,[],1,[],[],[]⟩ (some sm) (some ⟨pb,0,none⟩) gH:=by
   have al:∀y,AL [F1 Z,xb N7 1 eS gH []] y→y<Z:=fun y ⟨a,s,f⟩=>by
    rcases au.1 s with rfl|s
    ·exact f
    ·rw[aN.1 s]at f
     exact absurd f (FX y)
   refine⟨⟨⟨fun a s=>?_,fun a s y f=>?_,fun p j a b s hb X y f hy'=>?_⟩,va.re H (fun y f=>.inl ⟨.inl (by have f:y=x:=f;show y<Z;omega),fun e=>by have:=zM y e;have f:y=x:=f;omega⟩) (fun y f=>?_) fun y f=>.inl f,fun y f e=>?_⟩,H.get bs (show ¬sp=x by omega),b6,H.get (S.get0 b) (show ¬dv=x from ?_),H.get (S.get0 c) A,Y,fun e=>?_,FX sp,zM,fun y f=>absurd f (FX y),?_⟩
   ·rcases au.1 s with rfl|s
    ·exact trivial
    ·rw[aN.1 s];exact OwnS.nil N6
   ·have:=al y ⟨a,s,f⟩;omega
   ·have e:∀{j:Nat} {a:Sp},[F1 Z,xb N7 1 eS gH []][j]? =some a→a.T y→j=0:=fun{j a} s f=>by
     rcases j with _|_|j
     ·rfl
     ·cases s;exact absurd f (FX y)
     ·cases s
    exact X ((e s f).trans (e hb hy').symm)
   ·rcases f with f|f
    ·exact⟨.inl (.inr f),by have:=va.g.lt y (.inr f);omega⟩
    ·have:=al y f
     exact⟨.inl (.inl this),by omega⟩
   ·have:=zM y e;have:=al y f;omega
   ·intro e;subst e
    rw[a]at b;cases b
   ·have:=(hM sp e).2;omega
   ·exact(d.tr S).trans H fun y f=>.inr (by have f:y=x:=f;omega)
  refine r.say J hd K I A B C (by decide) fun o s' g m=>U o (.inr ⟨sp,L,gp,gm,tm,bm,nm,t,some sm,some ⟨pb,0,none⟩,s',zQ,.inl ⟨rfl,g⟩⟩) ?_
  ·exact((S.wide.tr (H.mono fun y f=>.inl (.inl f)))).trans m fun y f=>.inl (.inr f)
 ·rcases i with⟨rfl,r⟩|⟨rfl,r⟩|⟨rfl,r⟩|⟨rfl,r⟩
  ·cases O
   have l:=T.upd0 r.k;refine⟨W,aI r.o,_,aI r.dv,RH (sm:=sm.map fun b=>⟨b,0,none⟩) r.v.v (by cases sm<;>exact r.b) rfl rfl (fun y f=>r.v.lt y (.inl f)) l (by have:=r.k.size;omega) r.d fun h1' V h' k1 Q v2 P=>?_⟩
   have N:=((r.up0 k1).ed J hd K I Q v2 rfl).up0 P;refine N.say J hd K I A B C (by decide) fun o s' g m=>U o (.inr ⟨sp,L,gp,gm,tm,bm,nm,t,sm,z,s',zQ,.inr (.inl ⟨rfl,g⟩)⟩) ?_
   ·exact(((k1.wide.tr (Q.mono fun y f=>.inl (.inr (.inr (r.zM y f))))).tr P.wide)).trans m fun y f=>.inl (.inr f)
  ·cases O
   have l:=T.upd0 r.k;refine⟨W,aI r.o,_,aI r.dv,RF r.v.v r.b r.sM (fun y f=>r.v.lt y (.inl f)) l (by have:=r.k.size;omega) r.d (fun h2 u=>l.upd u fun y f=>by have:=r.zM y f;omega) fun h1' V h' t' k1 Q v2 P=>?_⟩
   have N:=((r.up0 k1).ed J hd K I Q v2 rfl).up0 P;rw[Te];refine N.say J hd K I A B C (by decide) fun o s' g m=>U o (.inr ⟨sp,L,gp,gm,tm,bm,nm,t,sm,z,s',t',.inr (.inr (.inl ⟨rfl,g⟩))⟩) ?_
   ·exact(((k1.wide.tr (Q.mono fun y f=>.inl (.inr (.inr (r.zM y f))))).tr P.wide)).trans m fun y f=>.inl (.inr f)
  ·cases O
   have l:=T.upd0 r.k;refine⟨W,aI r.o,_,aI r.dv,RG r.v.v r.b l (by have:=r.k.size;omega) r.d fun h' k1=>?_⟩
   have N:=r.up0 k1;rw[TF];refine N.say J hd K I A B C (by decide) fun o s' g m=>U o (.inr ⟨sp,L,gp,gm,tm,bm,nm,t,sm,z,s',t',.inr (.inr (.inr ⟨rfl,g⟩))⟩) ?_
   ·exact k1.wide.trans m fun y f=>.inl (.inr f)
  ·cases O
theorem LS{W:Nat→Prop}{h:ad}{s:SliceV}{xs:List ByteArray}(b:Sl N7 1 W h s xs){i:Nat}(hi:i<xs.length):∃a,s.a=some a∧aE h (adr a (i*1))=some (.string xs[i]):=by
 obtain⟨a,d,_,c⟩:=b.at0 (g:=fun w=>Value.string w) (List.getElem?_eq_getElem hi)
 exact⟨a,d,c⟩
theorem OY{W W':Nat→Prop}{h:ad}{s s':SliceV}{xs:List ByteArray}(f:Sl N7 1 W h s xs)(g:Sl N7 1 W' h s' xs)(n:xs.length≤4611686018427387904){K:Bool→ad→Prop}(j:K true h):HC PG iz [.slice s.a s.len s.cap,.slice s'.a s'.len s'.cap] [.c .bool] K h:=by
 refine su s s' ?_;unfold lL bA dU;have q:=f.len;have p:=g.len;refine CondP.intro (fun e=>absurd e (by rw[q,p];simp)) fun _=>?_
 refine LoopP.ghost (fun(i:Nat) (t:Int) h'=>t=(i:Int)∧h'=h∧i≤xs.length) (fun i=>xs.length-i) 0 ⟨rfl,rfl,Nat.zero_le _⟩ ?_
 rintro I i t h' ⟨rfl,rfl,hi⟩ k;refine aG (fun b=>?_) fun _=>j
 have b:i<xs.length:=by omega
 obtain⟨a,m,o⟩:=LS f b;obtain⟨a',c,d⟩:=LS g b;refine⟨⟨by omega,by omega⟩,a,m,_,o,⟨by omega,by omega⟩,a',c,_,d,?_⟩
 rw[f8,decide_eq_true rfl,eu b n];exact ag.2 (k (i+1) _ _ ⟨rfl,rfl,b⟩ (by omega))
theorem KJ{h:ad}{K:Bool→ad→Prop}(l:Laid h)(h4:4≤h.size)(X:∀h',Upd No h h'→K true h'):HC PG ri [] [.c .bool] K h:=by
 refine IV ?_;unfold BA vl1;have run:∀{K:SliceV→ad→Prop},(∀h' s,OwnS N7 1 eS (sb s) h' s ans4→Upd No h h'→K s h')→HC PG xt [.string (bN (H5++10::(E9++10::(E7++10::E8))))] [.c .slice] K h:=by
  intro K Y;refine K1 _ ?_;unfold DT eI lA;refine K2 ?_;unfold DU;refine KM fun g b1 k1=>KM fun h3 b3 x=>?_
  refine QO (c':= #[.pointer (some ⟨h.size,0,none⟩)]) b3 (by simp) rfl fun c Q A=>KM fun V L J=>?_
  refine BV _ _ ?_;unfold um Rb;refine BT _ _ _ ?_;unfold uk;refine KM fun h6 H p=>KM fun h7 E o=>KM fun a I k=>?_
  have z1:=bp b1;have z3:=bp b3;have z5:=bp L;have z6:=bp H;have z7:=bp E;have z8:=bp I;have P:=k1.size;have y3:=x.size;have y4:=A.size;have y5:=J.size;have y6:=p.size;have y7:=o.size;have y8:=k.size;have q:Upd No h c:=(k1.tr x).own A P;have f:=((J.tr p).tr o).tr k;have z:=q.tr f;have R:=f.get0 (A.get (x.get0 b1) (show ¬h.size=g.size by omega))
  have O:=f.get0 Q;have S:=((p.tr o).tr k).get0 L;have T:=(o.tr k).get0 H;have U:=k.get0 E;have low:∀b,(b=V.size∨b=a.size∨b=a.size+1)→b<a.size+2∧b≠h.size∧b≠g.size∧b≠c.size∧h.size≤b:=fun b C=>by
   rcases C with rfl|rfl|rfl<;>omega
  refine JL rfl U T I (by omega) (by omega) (by decide) (Inv24 h h.size g.size c.size (a.size+2)) (fun b=>b=h.size∨b=c.size∨a.size+2≤b) (.inl ⟨rfl,R,O,S,z⟩) (fun n d N i _ u=>i.low u low) (fun b C=>by omega) (fun n w d KK i Z D B=>?_) fun d i hD=>?_
  ·rw[Iw]at D
   exact P7 i Z l h4 (by omega) (by omega) (by omega) (by omega) (by omega) (by omega) (by omega) (by omega) D B
  ·rw[Iw]at i
   rcases i with⟨e,_⟩|⟨sp,vp,gp,gm,tm,bm,nm,t,sm,F,j,t',⟨e,_⟩|⟨e,_⟩|⟨e,_⟩|⟨_,r⟩⟩
   ·cases e
   ·cases e
   ·cases e
   ·cases e
   have u:=Upd.set (M:=(· =a.size)) d (b:=a.size) (.deferred none) rfl
   have zo:∀y,sb j y→¬y=a.size:=fun y m=>by have:=r.zo y m;omega
   refine⟨j,aI r.o,hD,aU (Y _ j ((r.v.own.get (i:=1) rfl:OwnS N7 1 eS (sb j) d j ans4).upd u zo) (r.k.trans u fun y m=>.inr (by have m:y=a.size:=m;omega)))⟩
 refine run fun g s os k1=>KM fun h2 b2 G=>?_
 refine OY (W:=No) (W':=No) (s':=⟨some ⟨g.size,0,none⟩,4,4⟩) (xs:=ans4) ((os.upd G fun _ _ h=>h).sl fun _ _ _ h=>h) ?_ (by decide) (X h2 (k1.tr G))
 exact⟨rfl,N6,fun _=>⟨⟨g.size,0,none⟩,rfl,fun h=>h,om b2 fun i v hv=>by rw[Nat.zero_add,List.getElem?_toArray];exact hv⟩⟩
theorem GF{w s:ByteArray}{n:Nat}(c:n<18446744073709551616){h:ad}(l:Laid h)(a:4≤h.size){K:Bool→ad→Prop}(b:∀h',Upd No h h'→K true h'):
  HC PG pu [.string w,.string s,.int .u64 (n:Int)] [.c .bool] K h:=
 GG (fun{_ _} l a b=>KJ l a b) c l a b
end Go.Proofs
