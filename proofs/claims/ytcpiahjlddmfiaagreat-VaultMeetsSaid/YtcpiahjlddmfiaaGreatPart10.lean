/- A part of the proof that the named laws of this program answer true, whatever the input. -/
import Derived.Test.YtcpiahjlddmfiaaGreatPart9
open Int renaming tmod→lq
open List.Pairwise renaming nil→db
open Nat renaming zero_le→bS,le_refl→al
namespace Go.Proofs
open Go Go.Lift
set_option maxHeartbeats 1000000 in
theorem Cg{W:Nat→Prop}{h:ac}{vp Q st:Nat}{xp:Option Addr}{s:VS}(v:VaultAt W h vp s)(o:h[Q]? =some (.cells #[.pointer (some ⟨st,0,none⟩)] yM (0,0))) (A:h[st]? =some (.cells #[.pointer (some ⟨vp,0,none⟩),.pointer xp] xd (0,0))) (ny:¬s.M Q) (n:ByteArray) {hd:Int} (hb:bQ s.B n=some hd) (hh:hd=0∨hd∈oY s.L)
  {sl:SliceV} {l:List Pr} (hs:Sl eJ 2 No h sl l) (hl:l.length≤9223372036854775807) {N:Nat} (hN:N≤900) (hF:∀B,Aa s hd B→Few N B.2) {K:vh []→ac→Prop} (hk:∀h' d,Few (N+8) d.2→Upd s.M h h'→VaultAt W h' vp (BO s n d (nz [hd])).2→K () h'):
  HC PG gC [.string n,.slice sl.a sl.len sl.cap,.pointer (some ⟨Q,0,none⟩)] [] K h:=by
 refine zX n sl ⟨Q,0,none⟩ ?_;unfold oQ cp ae eZ sx aA af dY nv ru w6 qH uB aF ay K7 rp m8 LS;refine⟨_,aL o,_,rfl,_,vc A 0,qF v n ?_⟩;rw[hb];refine⟨_,aL o,_,rfl,_,vc A 0,GI v hh fun B O q C=>?_⟩
 refine bi fun h11 b11 U=>cO (c:=jN vH) (vs:=jN B.1) b11 rfl fun G F u12=>?_
 have Tc:=C.size;have z12:=bo F;have x:Upd No h G:=(C.tr U).own u12 Tc;have fB:=hF B O;have hlt:∀y,W y→y<h.size:=v.g.lt;have iB:TreeIs (fun y=>W y∨y=q.size) G s.kind s.x B.1 B.2:=by
  have i:TreeIs W h s.kind s.x B.1 B.2:=by
   rcases O with⟨_,rfl⟩|⟨_,O⟩
   ·exact v.em
   ·exact(v.ts _ (mn O)).1
  exact i.re x (fun _ h=>h.elim) fun y o=>o.imp id fun e=>by omega
 have hsl:=hs.len;refine LoopP.ghost (fun(g:Nat×Tr×List Pr) (t:Int) h'=>t=(g.1:Int)∧g.1≤l.length∧TreeIs (fun y=>W y∨y=q.size) h' s.kind s.x g.2.1 g.2.2∧Few (N+min g.1 8) g.2.2∧h'[q.size]? =some (.cells (jN g.2.1).toArray aV (0,0))∧Upd No h h') (fun g=>l.length-g.1) (0,B.1,B.2) ⟨rfl,bS _,iB,fB,F,x⟩ ?_
 rintro I ⟨i,S,L⟩ t h15 ⟨rfl,hi,P,u,bt,b⟩ hI;simp only at hi P u bt hI⊢;have s15:=b.size;refine aD (fun k=>?_) fun _=>?_
 ·have k:i<l.length:=by omega
  obtain⟨a,ha,_,hv⟩:=(hs.upd b fun _ h=>h.elim).at (List.getElem?_eq_getElem k)
  refine Join.intro (fun _ h'=>∃w L',TreeIs (fun y=>W y∨y=q.size) h' s.kind s.x w L'∧Few (N+min (i+1) 8) L'∧h'[q.size]? =some (.cells (jN w).toArray aV (0,0))∧Upd No h h') (fun R hR=>⟨⟨by omega,by omega⟩,a,ha,l[i].1,hv 0 _ rfl,l[i].2,hv 1 _ rfl,?_⟩) ?_
  ·refine EZ (p:=l[i]) fun h21 D m=>aD (fun h8=>?_) fun h8=>?_
   ·have h8:i<8:=by omega
    have j:=m.get0 bt;refine⟨_,vc j 0,_,vc j 1,_,vc j 2,_,vc j 3,_,vc j 4,_,vc j 5,_,vc D 0,_,vc D 1,Qm fun h31 z=>?_⟩
    have f:=z.get0 j;refine⟨⟨vc f 0,vc f 1,vc f 2,vc f 3,vc f 4,vc f 5⟩,?_⟩;have q1:=Ft l[i].1;have q2:=Ft l[i].2;have z31:=bo f;have kk:=(b.tr m).tr z;have s31:=kk.size;refine Am (P.upd0 (m.tr z)) (fun y o=>o.elim (fun e=>by have:=hlt y e;omega) fun e=>by omega) u.up (by have:=u.len;omega) (Qx l[i]) (by unfold Qx;simp only;omega) (by unfold Qx;simp only;omega) fun h33 t' Z _ H=>?_
    refine cO (c:=jN S) (vs:=jN t') (H.get0 f) rfl fun h34 V J=>hR _ _ ⟨t',_,Z.updM J fun y o=>.inl (.inr o),?_,V,(kk.tr H).own J Tc⟩
    have:=u.ins (Qx l[i]) q1 q2;rw[Nat.min_eq_left (by omega)]at this⊢;exact this
   ·refine hR _ _ ⟨S,L,P.upd0 m,?_,m.get0 bt,b.tr m⟩
    rw[Nat.min_eq_right (by omega)]at u⊢;exact u
  ·rintro _ h36 ⟨w,L',T,Y,bt',X⟩
   rw[vJ k hl];exact hI (i+1,w,L') _ _ ⟨rfl,k,T,Y,bt',X⟩ (by simp only;omega)
 ·have f8:Few (N+8) L:=⟨u.up,by have:=u.len;omega,u.fit⟩
  refine⟨_,aL (b.get0 o),_,rfl,_,vc (b.get0 A) 0,_,vc bt 0,_,vc bt 1,_,vc bt 2,_,vc bt 3,_,vc bt 4,_,vc bt 5,?_⟩;refine zd (v.upd0 b) n hb (d:=(S,L)) (P.less fun y o=>.inl (.inl o)) f8.up f8.fits fun h47 E v47=>⟨aL (E.get (b.get0 o) ny),hk h47 (S,L) f8 (b.wide.tr E) v47⟩
end Go.Proofs
namespace Go.Proofs
open Go Go.Lift
theorem Vj{k:Int}(a:0≤k)(b:k≤255):0≤IntKind.wrap .i64 (1+IntKind.wrap .i64 (lq k 3))∧IntKind.wrap .i64 (1+IntKind.wrap .i64 (lq k 3))≤3∧IntKind.wrap .i64 (1+IntKind.wrap .i64 (lq k 3))≠0:=by
 obtain⟨n,rfl⟩:=Int.eq_ofNat_of_zero_le a;have e:lq (n:Int) 3=((n%3:Nat):Int):=by rw[Int.tmod_eq_emod_of_nonneg (by omega)];rfl
 have:=Nat.mod_lt n (show 0<3 by omega)
 rw[e,d8 (x:=((n%3:Nat):Int)) (by omega),d8 (by omega)];omega
set_option maxHeartbeats 2000000 in
theorem F8{h:ac}{k q:Int}{x:Hs}{sl sm sn:SliceV}{l m n:List Pr}(hl:Sl eJ 2 No h sl l)(hll:l.length≤9223372036854775807)(hm:Sl eJ 2 No h sm m)(hml:m.length≤9223372036854775807)(hn:Sl eJ 2 No h sn n)(hnl:n.length≤9223372036854775807)(hk0:0≤k)(hk1:k≤255)(hq0:0≤q)(hq1:q≤255):
  HC PG u4 [.int .u8 k,.agg #[.int .u64 x.k0,.int .u64 x.k1,.int .u64 x.mask],.slice sl.a sl.len sl.cap,.slice sm.a sm.len sm.cap,.slice sn.a sn.len sn.cap,.int .u8 q] [.c .bool] (fun b h'=>b=true∧Upd No h h') h:=by
 refine CJ k (x.k0,x.k1,x.mask) sl sm sn q ?_;unfold vD ae eZ D9 BN UR S0 SY sx;have hkk:=Ul hk0 hk1;generalize IntKind.wrap .i64 (lq k 2)=kind at hkk;obtain⟨q0,q1,q2⟩:=Vj hq0 hq1;generalize IntKind.wrap .i64 (1+IntKind.wrap .i64 (lq q 3))=pol at q0 q1 q2;refine bi fun h1 b1 k1=>My fun h3 k3=>ai.2 ⟨by decide,?_⟩
 have c3:=k3.get0 b1;refine⟨_,vc c3 0,_,vc c3 1,_,vc c3 2,?_⟩;refine Om (x:=x) hkk fun h8 vp gp gm tm bm nm e st xp v8 b8 zv nv zM k8=>?_
 have k38:=(k1.tr k3).tr k8;have s13:=(k1.tr k3).size;have c:∀y,VS.M ⟨gp,gm,tm,bm,nm,kind,x,e,[],1,[],[],[]⟩ y→h.size≤y∧st≠y∧h8.size≠y:=fun y g=>by
  have:=zM y g;have:=bo b8;omega
 refine bi fun h9 b9 k9=>⟨by have:=gn b9 (i:=0) (by simp);exact this,xP b9 fun h10 S u10=>?_⟩
 have o:Upd No h8 h10:=k9.own u10 (al _);have v10:=v8.upd0 o;have F:=o.get0 b8;have bn:VS.M ⟨gp,gm,tm,bm,nm,kind,x,e,[],1,[],[],[]⟩ bm:=.inr (.inr (.inr (.inl rfl)));refine Join.plain ⟨_,aL S,ai.2 ⟨_,aL S,_,rfl,_,vc F 0,vK v10 mY 0 fun h17 P v17=>?_⟩⟩
 have e1:zK [] [] mY 0 false=0:=by decide
 simp only[e1,if_true]at v17⊢;have b17:=P.get S fun e=>(c bm bn).2.2 e
 have H:=P.get F fun e=>(c bm bn).2.1 e
 have k17:Upd No h h17:=(k38.tr o).fresh P fun y g=>by rw[show y=bm from g];exact(c bm bn).1
 refine ai.2 (HV.mk' (Cg v17 b17 H (fun e=>(c _ e).2.2 rfl) mY (hd:=0) rfl (.inl rfl) (hl.upd k17 fun _ h=>h.elim) hll (N:=0) (by omega) (fun B f=>by
  rcases f with⟨_,rfl⟩|⟨f,_⟩
  ·exact⟨db,al _,fun _ h=>by cases h⟩
  ·exact absurd rfl f) fun h21 d1 w L v21=>?_))
 have v21:VaultAt _ h21 vp ⟨gp,gm,tm,bm,nm,kind,x,e,[(1,[])],2,[(1,d1)],[(mY,1)],[]⟩:=v21;have b21:=L.get b17 fun e=>(c _ e).2.2 rfl
 have D:=L.get H fun e=>(c _ e).2.1 rfl
 have k21:Upd No h h21:=k17.fresh L fun y g=>(c y g).1
 refine⟨_,aL b21,_,rfl,_,vc D 0,vK v21 qL 1 fun h26 V v=>?_⟩
 have e2:zK [(mY,1)] [(1,[])] qL 1 false=0:=by decide
 simp only[e2,if_true]at v;have v:VaultAt _ h26 vp ⟨gp,gm,tm,bm,nm,kind,x,e,[(1,[])],2,[(1,d1)],[(mY,1),(qL,1)],[]⟩:=v;have b26:=V.get b21 fun e=>(c bm bn).2.2 e
 have J:=V.get D fun e=>(c bm bn).2.1 e
 have k26:Upd No h h26:=k21.fresh V fun y g=>by rw[show y=bm from g];exact(c bm bn).1
 refine HV.mk' (Cg v b26 J (fun e=>(c _ e).2.2 rfl) mY (hd:=1) rfl (.inr (show(1:Int)∈oY [(1,[])] by decide)) (hm.upd k26 fun _ h=>h.elim) hml (N:=8) (by omega) (fun B f=>by
  rcases f with⟨f,_⟩|⟨_,f⟩
  ·cases f
  ·cases f;exact⟨w.up,by have:=w.len;omega,w.fit⟩) fun h28 W f2 u28 Y=>?_)
 have Y:VaultAt _ h28 vp ⟨gp,gm,tm,bm,nm,kind,x,e,[(1,[]),(2,[1])],3,[(1,d1),(2,W)],[(mY,2),(qL,1)],[]⟩:=Y;have b28:=u28.get b26 fun e=>(c _ e).2.2 rfl
 have C:=u28.get J fun e=>(c _ e).2.1 rfl
 have k28:Upd No h h28:=k26.fresh u28 fun y g=>(c y g).1
 refine HV.mk' (Cg Y b28 C (fun e=>(c _ e).2.2 rfl) qL (hd:=1) rfl (.inr (show(1:Int)∈oY [(1,[]),(2,[1])] by decide)) (hn.upd k28 fun _ h=>h.elim) hnl (N:=8) (by omega) (fun B f=>by
  rcases f with⟨f,_⟩|⟨_,f⟩
  ·cases f
  ·cases f;exact⟨w.up,by have:=w.len;omega,w.fit⟩) fun h30 U f3 Q z=>?_)
 have z:VaultAt _ h30 vp ⟨gp,gm,tm,bm,nm,kind,x,e,[(1,[]),(2,[1]),(3,[1])],4,[(1,d1),(2,W),(3,U)],[(mY,2),(qL,3)],[]⟩:=z;have I:=Q.get C fun e=>(c _ e).2.1 rfl
 have b30:=Q.get b28 fun e=>(c _ e).2.2 rfl
 have k30:Upd No h h30:=k28.fresh Q fun y g=>(c y g).1
 have gd:=z.inv.good;have hn1:¬((3:Int)=0∨UpG [(1,[]),(2,[1]),(3,[1])] 2 3):=fun hh=>hh.elim (fun e=>by cases e) fun e=>absurd (UpG.le gd e) (by decide)
 have hn2:¬((2:Int)=0∨UpG [(1,[]),(2,[1]),(3,[1])] 3 2):=fun hh=>hh.elim (fun e=>by cases e) fun e=>by
  cases e with
  |step _ h2 h3=>
   have h2:=List.mem_singleton.1 (show _∈[(1:Int)]from h2)
   subst h2;exact absurd (UpG.le gd h3) (by decide)
 have hF:∀d∈[((1:Int),d1),(2,W),(3,U)],Few 16 d.2.2:=fun d hd=>by
  simp only[List.mem_cons,List.not_mem_nil,or_false]at hd;rcases hd with rfl|rfl|rfl
  ·exact⟨w.up,by have:=w.len;simp only;omega,w.fit⟩
  ·exact⟨f2.up,by have:=f2.len;simp only;omega,f2.fit⟩
  ·exact⟨f3.up,by have:=f3.len;simp only;omega,f3.fit⟩
 refine⟨by decide,_,aL b30,_,rfl,_,vc I 0,?_⟩;refine Ll z (n:=mY) (m:=qL) (a:=2) (b:=3) rfl rfl q0 q1 hn1 hn2 (O:=W) (T:=U) rfl rfl (N:=16) (by omega) hF (fun best B _ f=>⟨VA (n:=16) (m:=16) ?_ (hF (3,U) (by simp)) (by omega) (by omega),fun _ _=>T8 _ _⟩) (fun _ _ _ _ e=>absurd e q2) fun best B _ f _ h35 t4 s4 _ K s=>?_
 ·rcases f with⟨_,rfl⟩|⟨_,f⟩
  ·exact⟨db,bS _,fun _ h=>by cases h⟩
  ·exact hF _ (mn f)
 generalize uF B.2 W.2 U.2 pol=l4 at s⊢;have s:VaultAt _ h35 vp ⟨gp,gm,tm,bm,nm,kind,x,e,[(1,[]),(2,[1]),(3,[1]),(4,[2,3])],5,[(1,d1),(2,W),(3,U),(4,(t4,l4))],[(mY,4),(qL,3)],[]⟩:=s;have G:=K.get I fun e=>(c _ e).2.1 rfl
 have b35:=K.get b30 fun e=>(c _ e).2.2 rfl
 have k35:Upd No h h35:=k30.fresh K fun y g=>(c y g).1
 have gd:=s.inv.good;have hu43:UpG [(1,[]),(2,[1]),(3,[1]),(4,[2,3])] 4 3:=.step (p:=3) (by decide) (by decide) (.refl (by decide));have A:UpG [(1,[]),(2,[1]),(3,[1]),(4,[2,3])] 4 4:=.refl (by decide);have hn3:¬((4:Int)=0∨UpG [(1,[]),(2,[1]),(3,[1]),(4,[2,3])] 3 4):=fun hh=>hh.elim (fun e=>by cases e) fun e=>absurd (UpG.le gd e) (by decide)
 have hp:((Ha pol).toList==(⟨#[]⟩:ByteArray).toList)=false:=by rw[fw,decide_eq_false (zt q0 q1)]
 refine⟨_,aL b35,_,rfl,_,vc G 0,za s (n:=qL) (m:=mY) (a:=3) (b:=4) rfl rfl hp (.inr (.inr hu43)) (fun e=>absurd e hn3) fun _ h40 X t=>?_⟩
 have t:VaultAt _ h40 vp ⟨gp,gm,tm,bm,nm,kind,x,e,[(1,[]),(2,[1]),(3,[1]),(4,[2,3])],5,[(1,d1),(2,W),(3,U),(4,(t4,l4))],[(mY,4),(qL,4)],[]⟩:=t;have E:=X.get G fun e=>(c _ e).2.1 rfl
 have b40:=X.get b35 fun e=>(c _ e).2.2 rfl
 have k40:Upd No h h40:=k35.fresh X fun y g=>(c y g).1
 refine⟨_,aL b40,_,rfl,_,vc E 0,za t (n:=mY) (m:=qL) (a:=4) (b:=4) rfl rfl hp (.inl (.inr A)) (fun _ h45 u=>?_) fun e=>absurd (.inr A) e⟩
 have R:=t.upd0 u;have j:=u.get0 E;have Z:=u.get0 b40;refine⟨_,aL Z,_,rfl,_,vc j 0,qF R mY ⟨_,aL Z,_,rfl,_,vc j 0,qF R qL ?_⟩⟩;refine ar.2 (ar.2 (ar.2 (ar.2 (ar.2 (ar.2 (ar.2 (ar.2 (CondP.intro (fun _=>?_) fun e=>absurd e (by decide)))))))))
 refine⟨_,aL Z,_,rfl,_,vc j 0,NW R fun h60 k60 gr=>Sg gr ⟨rfl,(k40.tr u).tr k60⟩⟩
end Go.Proofs
