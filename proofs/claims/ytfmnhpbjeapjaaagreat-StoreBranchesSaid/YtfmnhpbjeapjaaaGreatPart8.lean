/- A part of the proof that the named laws of this program answer true, whatever the input. -/
import Derived.Test.YtfmnhpbjeapjaaaGreatPart7
open List renaming getElem?_eq_getElem→ag,length_map→bd
open List.Pairwise renaming nil→dC
open Nat renaming le_refl→aq
namespace Go.Proofs
open Go Go.Lift
def B0(i:Nat):List (ByteArray×Int):=(List.range i).map fun(j:Nat)=>(br j,(0:Int))
theorem Na:∀i:Fin 3,tC (B0 i.val) [] (br i.val) 0 false=0∧ke (B0 i.val) (br i.val) 0=B0 (i.val+1):=by decide+kernel
theorem Nb:∀j:Fin 3,dh (B0 3) (br j.val)=some 0:=by decide+kernel
theorem OO{h:ac}{b:Nat}{t:TypeId}{f:Nat→Value}(a:h[b]? =some (.cells #[f 0,f 1,f 2] t (0,0))) {i:Nat} (hi:i<3):aF h (adr ⟨b,0,none⟩ ((i:Int).toNat*1))=some (f i):=by
 rw[show(i:Int).toNat*1=i by omega]
 have:=vc a i;rcases(by omega:i=0∨i=1∨i=2)with rfl|rfl|rfl<;>exact this
theorem OL{h:ac}{b:Nat}{t:TypeId}{f:Nat→Value}(c:h[b]? =some (.cells #[f 0,f 1,f 2] t (0,0))) {i:Nat} (hi:i<3) {v:Value} {k:ac→Prop} (a:∀h' (f':Nat→Value),(∀j,f' j=if j=i then v else f j)→h'[b]? =some (.cells #[f' 0,f' 1,f' 2] t (0,0))→Upd (· =b) h h'→k h'):
  Wr h (adr ⟨b,0,none⟩ ((i:Int).toNat*1))∧At (hset h (adr ⟨b,0,none⟩ ((i:Int).toNat*1)) v) k:=by
 rw[show(i:Int).toNat*1=i by omega]
 refine Ak (c':= #[if 0=i then v else f 0,if 1=i then v else f 1,if 2=i then v else f 2]) c (by simp;omega) ?_ fun h' b' u=>a h' (fun j=>if j=i then v else f j) (fun _=>rfl) b' u
 rcases(by omega:i=0∨i=1∨i=2)with rfl|rfl|rfl<;>rfl
set_option maxHeartbeats 4000000 in
theorem xJ{h:ac}{k:Int}{x:Hs}{sl so:SliceV}{l:List Pr}{os:List UInt8}(hs:Sl eA 2 No h sl l)(hl:l.length≤9223372036854775807)(ho:Sl Pv 1 No h so os)(hk0:0≤k)(hk1:k≤255):
  HC PG oH [.int .u8 k,.agg #[.int .u64 x.k0,.int .u64 x.k1,.int .u64 x.mask],.slice sl.a sl.len sl.cap,.slice so.a so.len so.cap] [.c .bool] (fun b h'=>b=true∧Upd No h h') h:=by
 refine un k (x.k0,x.k1,x.mask) sl so ?_;unfold oO bB dw av CO ae eC bD al aO eg dJ nv Gh Cy vl1 uR wb On nW kB Pk pf;have hkk:=O1 hk0 hk1;generalize IntKind.wrap .i64 (Int.tmod k 2)=kind at hkk;have hsl:=hs.len;have hso:=ho.len;refine bA fun h1 b1 k1=>Hx fun h3 k3=>ak.2 ⟨by decide,?_⟩
 have c3:=k3.get0 b1;refine⟨_,vc c3 0,_,vc c3 1,_,vc c3 2,?_⟩;refine EO hkk (x:=x) fun X sp Z gp gm tm bm nm e sm pb cb v8 b8 _ _ zM zc zc2 zc3 zc4 _ k8=>ak.2 ?_
 have k08:=(k1.tr k3).tr k8;have s8:=(k1.tr k3).size;have zsp:=aW b8;refine bA fun F b9 k9=>⟨by decide,bA fun n b10 k10=>⟨by decide,bA fun T b11 k11=>?_⟩⟩
 have V:=(k9.tr k10).tr k11;have s9:=k9.size;have s10:=k10.size;have z9:=aW b9;have z10:=aW b10;have z11:=aW b11;generalize hMe:VS.M ⟨gp,gm,tm,bm,nm,kind,x,e,[],1,[],[],[]⟩=M0 at zM v8;have nM:∀y,M0 y→h.size≤y∧y<X.size∧y≠sp∧y<sp:=fun y d=>by have:=zM y d;omega
 have v11:VaultAt (fun y=>M0 y∨y=F.size∨y=n.size) T Z ⟨gp,gm,tm,bm,nm,kind,x,e,[],1,[],[],[]⟩:=v8.re V (fun _ h=>h.elim) (fun y d=>by
  rcases d with d|d|d
  ·exact⟨.inl (.inr d),by have:=nM y d;omega⟩
  ·exact⟨.inr (by omega),by omega⟩
  ·exact⟨.inr (by omega),by omega⟩) fun y d=>.inl (hMe▸d)
 have n11:T[X.size]? =some (.cells #[.string (br 0),.string (br 1),.string (br 2)] ux (0,0)):=k11.get0 (k10.get0 b9);have w11:T[F.size]? =some (.cells #[.slice none 0 0,.slice none 0 0,.slice none 0 0] rI (0,0)):=k11.get0 b10;have hd11:T[n.size]? =some (.cells #[.int .u32 0,.int .u32 0,.int .u32 0] mD (0,0)):=b11;have k011:=k08.tr V;refine LoopP.ghost (fun(i:Nat) (t:Int) h'=>t=(i:Int)∧i≤3∧VaultAt (fun y=>M0 y∨y=F.size∨y=n.size) h' Z ⟨gp,gm,tm,bm,nm,kind,x,e,[],1,[],B0 i,[]⟩∧Upd M0 T h') (fun i=>3-i) 0 ⟨rfl,by omega,v11,Upd.refl _ _⟩ ?_
 rintro I i t h14 ⟨rfl,hi3,v14,H⟩ hI;have b14:=H.get (V.get0 b8) fun e=>(nM _ e).2.2.1 rfl
 have n14:=H.get n11 fun e=>by have:=nM _ e;omega
 refine aE (fun z=>?_) fun hge=>?_
 ·have z:i<3:=by omega
  obtain⟨e1,e2⟩:=Na ⟨i,z⟩;simp only at e1 e2;refine⟨⟨by omega,by omega⟩,_,rfl,_,OO (f:=fun j=>.string (br j)) n14 z,?_⟩
  refine y7 (o:=(0,br i,⟨#[]⟩,⟨#[]⟩,⟨#[]⟩,0,0,0,0,false,⟨#[]⟩,⟨#[]⟩,false,du,du)) v14 b14 rfl fun h18 u18 v18=>?_
  simp only[e1,if_true,e2]at v18;rw[ec z (by omega)];exact hI (i+1) _ _ ⟨rfl,z,v18,H.tr (hMe▸u18)⟩ (by omega)
 ·have hi3:i=3:=by omega
  subst hi3;have k014:Upd No h h14:=k011.fresh H fun y d=>(nM y d).1
  have g0:BrI h h14 sp Z X.size F.size n.size (some sm) (some ⟨pb,0,none⟩) 0 ⟨gp,gm,tm,bm,nm,kind,x,e,[],1,[],B0 3,[]⟩ (fun _=>0) (fun _=>(e,[])) (fun _=>du):=by
   refine⟨?_,b14,n14,H.get w11 fun e=>by have:=nM _ e;omega,H.get hd11 fun e=>by have:=nM _ e;omega,fun j u=>Nb ⟨j,u⟩,fun j _=>.inl ⟨rfl,rfl⟩,fun _ _=>.inl rfl,fun _ _=>⟨dC,aq _,fun _ h=>by cases h⟩,fun _ _=>Sl.nil ia,rfl,rfl,k014⟩
   rw[show VS.M ⟨gp,gm,tm,bm,nm,kind,x,e,[],1,[],B0 3,[]⟩=M0 from hMe]
   exact v14
  refine Join.intro (fun _ h'=>∃i s hd c w,BrI h h' sp Z X.size F.size n.size (some sm) (some ⟨pb,0,none⟩) i s hd c w∧s.M=M0∧i≤25) (fun R hR=>?_) ?_
  ·refine LoopP.ghost (fun(q:Nat×VS×(Nat→Int)×(Nat→TD)×(Nat→SliceV)) (t:Int) h'=>t=(q.1:Int)∧q.1≤l.length∧q.1≤25∧BrI h h' sp Z X.size F.size n.size (some sm) (some ⟨pb,0,none⟩) q.1 q.2.1 q.2.2.1 q.2.2.2.1 q.2.2.2.2∧q.2.1.M=M0) (fun q=>l.length-q.1) (0,⟨gp,gm,tm,bm,nm,kind,x,e,[],1,[],B0 3,[]⟩,(fun _=>0),(fun _=>(e,[])),fun _=>du) ⟨rfl,Nat.zero_le _,by simp,g0,hMe⟩ ?_
   rintro I ⟨i,s,hd,c,w⟩ t h22 ⟨rfl,hi,h25,g,eM⟩ hI;simp only at hi h25 g eM hI⊢;refine aE (fun z=>?_) fun _=>hR _ _ ⟨i,s,hd,c,w,g,eM,h25⟩
   have z:i<l.length:=by omega
   obtain⟨a,ha,_,hv⟩:=(hs.upd g.k fun _ h=>h.elim).at (ag z)
   refine⟨⟨by omega,by omega⟩,a,ha,l[i].1,hv 0 _ rfl,l[i].2,hv 1 _ rfl,uz (p:=l[i]) fun h27 b27 k27=>?_⟩
   refine Join.intro (fun t h'=>t=decide (i≥25∨i≥os.length)∧h'=h27) (fun R2 hR2=>aE (fun e=>hR2 _ _ ⟨(decide_eq_true (.inl (by omega))).symm,rfl⟩) fun e=>hR2 _ _ ⟨?_,rfl⟩) ?_
   ·rw[decide_eq_decide];omega
   ·rintro _ h30 ⟨rfl,rfl⟩
    refine aE (fun _=>hR _ _ ⟨i,s,hd,c,w,g.up0 k27,eM,h25⟩) fun hnot=>?_
    have i25:i<25:=by omega
    have io:i<os.length:=by omega
    obtain⟨ao,hao,_,hvo⟩:=(ho.upd (g.k.tr k27) fun _ h=>h.elim).at0 (g:=fun b:UInt8=>.int .u8 (b.toNat:Int)) (ag io)
    have hb255:os[i].toNat<256:=os[i].toNat_lt;generalize os[i]=bo at hvo hb255;refine⟨⟨by omega,by omega⟩,ao,hao,_,hvo,by decide,_,vc b27 0,_,vc b27 1,CA ⟨vc b27 1,CA ?_⟩⟩
    refine dW (c:= [.string l[i].1,.string l[i].2]) (vs:= [.string (wM l[i].1),.string (wM l[i].2)]) b27 rfl fun C A u39=>?_
    obtain⟨j,ej,u⟩:=PI (v:=(bo.toNat:Int)) (by omega) (by omega);rw[ej];have k39:Upd No h22 C:=k27.own u39 (aq _);have m:=g.up0 k39;have s22:h.size≤h22.size:=g.k.size;have s39:=k39.size;have z22:=aW g.hh;have z39:=aW A;have q1:=Bf l[i].1;have q2:=Bf l[i].2;generalize wM l[i].1=pk at q1 A;generalize wM l[i].2=pv at q2 A;have Q:∀y,s.M y→y<X.size∧y≠sp:=fun y d=>by rw[eM]at d;have:=nM y d;omega
    have hL:s.L.length<1024:=by rw[g.len];omega
    have hx:s.nx<2147483648:=by rw[g.nx];omega
    have hc:=g.D j u;refine Join.intro (fun(t:Addr) h'=>∃ab O,t=⟨ab,0,none⟩∧C.size≤ab∧h'[ab]? =some (.cells (Ey (0,s.nx,0,⟨#[]⟩,false,0,du,du,du,du,du)).toArray bS (0,0))∧Upd s.M C h'∧VaultAt (fun y=>s.M y∨y=F.size∨y=n.size) h' Z {s with L:=rg s.L s.nx (nz [hd j]),nx:=s.nx+1,D:=ke s.D s.nx (O,eX (pk,pv) (c j).2),B:=ke s.B (br j) s.nx}) (fun R3 hR3=>?_) ?_
    ·have bb:h22.size<C.size:=z39
     have no:∀{b:Nat},X.size≤b→¬s.M b:=fun hb e=>by have:=(Q _ e).1;omega
     have S:∀{h'},h'[X.size]? =some (.cells #[.string (br 0),.string (br 1),.string (br 2)] ux (0,0))→aF h' (adr ⟨X.size,0,none⟩ ((j:Int).toNat*1))=some (.string (br j)):=fun hb=>OO (f:=fun j=>.string (br j)) hb u
     have put:∀{W':Nat→Prop} {h':ac} {K:An→ac→Prop},VaultAt W' h' Z s→h'[sp]? =some (.cells (IY Z (some sm) 0 (some ⟨pb,0,none⟩)).toArray dB (0,0))→(∀h2 O,Upd s.M h' h2→VaultAt W' h2 Z {s with L:=rg s.L s.nx (nz [hd j]),nx:=s.nx+1,D:=ke s.D s.nx (O,eX (pk,pv) (c j).2),B:=ke s.B (br j) s.nx}→K (0,s.nx,0,⟨#[]⟩,false,0,du,du,du,du,du) h2)→HC PG cA [.pointer (some ⟨sp,0,none⟩),Kb (4,br j,⟨#[]⟩,pk,pv,0,0,0,0,false,⟨#[]⟩,⟨#[]⟩,false,du,du)] Eh K h':=fun v b hK=>by
      refine FJ (o:=(4,br j,⟨#[]⟩,pk,pv,0,0,0,0,false,⟨#[]⟩,⟨#[]⟩,false,du,du)) v b (fun e=>(Q _ e).2 rfl) rfl (g.B j u) (g.hi j u) (N:=i) (by omega) (fun B hB=>by rw[hB.uniq hc];exact g.few j u) q1 q2 (by rw[FT (g.hi j u) hL hx]) fun h2 B O hB u2 v2=>?_
      rw[hB.uniq hc,L7 (g.hi j u) hL hx]at v2;exact hK h2 O u2 v2
     refine⟨⟨by omega,by omega⟩,_,rfl,_,S m.n,_,vc A 0,_,vc A 1,put m.v m.b fun h62 O u62 v62=>?_,bA fun h65 b65 E=>⟨vc (E.get0 A) 1,vc (E.get0 A) 0,S (E.get0 m.n),put (m.v.pro E) (E.get0 m.b) fun h67 O Y v67=>?_⟩⟩
     ·have p62:=u62.get A (no (by omega))
      have n62:=u62.get m.n (no (aq _));refine⟨vc p62 1,vc p62 0,S n62,bA fun h63 b63 k63=>⟨vc (k63.get0 p62) 1,vc (k63.get0 p62) 0,S (k63.get0 n62),dW (c:=Ey Ei) (vs:=Ey (0,s.nx,0,⟨#[]⟩,false,0,du,du,du,du,du)) b63 rfl fun h64 b64 u64=>?_⟩⟩
      have k64:Upd No h62 h64:=k63.own u64 (aq _);exact hR3 _ _ ⟨h62.size,O,rfl,u62.size,b64,u62.tr k64.wide,v62.upd0 k64⟩
     ·have k6:=E.size
      have p67:=Y.get (E.get0 A) (no (by omega));have n67:=Y.get (E.get0 m.n) (no (aq _));refine⟨vc p67 1,vc p67 0,S n67,dW (c:=Ey Ei) (vs:=Ey (0,s.nx,0,⟨#[]⟩,false,0,du,du,du,du,du)) (Y.get b65 (no (by omega))) rfl fun h68 b68 u68=>?_⟩
      refine hR3 _ _ ⟨C.size,O,rfl,aq _,b68,(E.wide.tr Y).trans u68 fun y d=>.inr (by have d:y=C.size:=d;omega),?_⟩
      exact(v67.own (fun y d=>m.v.hM y d) u68 (aq _) (aW b65)).dn fun y d=>.inl d
    ·rintro _ h70 ⟨ab,O,rfl,hab,ba,G,v70⟩
     have no:∀{b:Nat},X.size≤b→¬s.M b:=fun hb e=>by have:=(Q _ e).1;omega
     refine Join.intro (fun t h'=>t=false∧h'=h70) (fun R4 hR4=>⟨_,vc ba 0,ak.2 ⟨_,vc ba 1,hR4 _ _ ⟨?_,rfl⟩⟩⟩) ?_
     ·rw[gi (by omega),show IntKind.wrap .u32 ((i:Int)+1)=(i:Int)+1 from Go.IntWalk.u32_in _ (by omega),g.nx]
      exact bne_self_eq_false _
     ·rintro _ h75 ⟨rfl,rfl⟩
      have w75:=G.get m.ww (no (by omega));have p75:=G.get A (no (by omega));have s75:=G.size;have zab:=aW ba;refine ak.2 ⟨⟨by omega,by omega⟩,_,rfl,w j,OO (f:=fun j=>.slice (w j).a (w j).len (w j).cap) w75 u,_,vc p75 0,_,vc p75 1,_,vc ba 1,?_⟩
      have hw70:∀y,s.M y→(s.M y∨y=F.size∨y=n.size)∨C.size≤y:=fun y d=>.inl (.inl d)
      have fw:=g.few j u;refine Mm ((m.sl j u).upd G hw70) fw.up (by have:=fw.len;omega) (pk,pv) (by simp only;omega) fun s82 h82 o82 J=>?_
      have ba82:=J.get0 ba;refine⟨vc ba82 1,⟨by omega,by omega⟩,_,rfl,?_⟩
      refine OL (f:=fun j=>.slice (w j).a (w j).len (w j).cap) (J.get0 w75) u fun h84 f84 ef84 b84 u84=>?_
      have ba84:=u84.oth ba82 (show ab≠F.size by omega)
      refine⟨vc ba84 1,⟨by omega,by omega⟩,_,rfl,?_⟩
      have hh82:=J.get0 (G.get m.hh (no (by omega)));refine OL (f:=fun j=>.int .u32 (hd j)) (u84.oth hh82 (show n.size≠F.size by omega)) u fun h86 f86 ef86 b86 u86=>?_
      rw[Ac z hl];have uW:Upd (fun y=>y=F.size∨y=n.size) h82 h86:=(u84.mono fun y d=>.inl (.inl d)).tr (u86.mono fun y d=>.inl (.inr d))
      have kk:Upd No C h86→True:=fun _=>trivial
      clear kk;have hu:Upd (fun y=>s.M y∨y=F.size∨y=n.size) C h86:=((G.mono fun y d=>.inl (.inl d)).tr J.wide).tr (uW.mono fun y d=>.inl (.inr d))
      have hg:∀{b:Nat} {ob:Obj},C[b]? =some ob→¬s.M b→b≠F.size→b≠n.size→h86[b]? =some ob:=fun hb n1 n2 n3=>hu.get hb fun e=>e.elim n1 fun e=>e.elim n2 n3
      have fpv:=fw.ins (pk,pv) q1 q2;have ltW:∀y,(s.M y∨y=F.size∨y=n.size)→y<h75.size:=fun y d=>by have:=m.v.g.lt y d;omega
      refine hI (i+1,{s with L:=rg s.L s.nx (nz [hd j]),nx:=s.nx+1,D:=ke s.D s.nx (O,eX (pk,pv) (c j).2),B:=ke s.B (br j) s.nx},(fun q=>if q=j then s.nx else hd q),(fun q=>if q=j then(O,eX (pk,pv) (c j).2)else c q),fun q=>if q=j then s82 else w q) _ _ ⟨rfl,z,i25,⟨?_,hg m.b (fun e=>(Q _ e).2 rfl) (by omega) (by omega),hg m.n (no (aq _)) (by omega) (by omega),?_,?_,fun q P=>?_,fun q P=>?_,fun q P=>?_,fun q P=>?_,fun q P=>?_,?_,?_,?_⟩,eM⟩ (by simp only;omega)
      ·exact(v70.upd0 J).upd uW fun y d=>.inl ⟨.inr d,fun e=>by have:=(Q y e).1;omega⟩
      ·have:=u86.oth b84 (show F.size≠n.size by omega)
       simp only[ef84]at this;rw[this];rcases(by omega:j=0∨j=1∨j=2)with rfl|rfl|rfl<;>rfl
      ·simp only[ef86]at b86
       rw[b86];rcases(by omega:j=0∨j=1∨j=2)with rfl|rfl|rfl<;>rfl
      ·simp only
       rw[uc];by_cases e:q=j
       ·subst e;rw[if_pos rfl,if_pos rfl]
       ·rw[if_neg fun ee=>e (congrArg Fin.val (Oe ⟨q,P⟩ ⟨j,u⟩ ee)),if_neg e];exact g.B q P
      ·simp only
       by_cases e:q=j
       ·rw[if_pos e,if_pos e];exact .inr ⟨by rw[g.nx];omega,by simp only;rw[uc,if_pos rfl]⟩
       ·rw[if_neg e,if_neg e]
        rcases g.D q P with⟨e1,e2⟩|⟨e1,e2⟩
        ·exact .inl ⟨e1,e2⟩
        ·refine .inr ⟨e1,?_⟩
         simp only;rw[uc,if_neg,e2];have:=(g.v.inv.pos _ ((g.hi q P).resolve_left e1)).2;omega
      ·simp only
       by_cases e:q=j
       ·rw[if_pos e];exact .inr (insV_ids.mem_iff.2 List.mem_cons_self)
       ·rw[if_neg e];exact(g.hi q P).imp id fun h=>insV_ids.mem_iff.2 (List.mem_cons_of_mem _ h)
      ·simp only
       by_cases e:q=j
       ·rw[if_pos e];exact fpv
       ·rw[if_neg e];have:=g.few q P;exact⟨this.up,Nat.le_succ_of_le this.len,this.fit⟩
      ·simp only
       have hwu:∀y,(y=F.size∨y=n.size)→(s.M y∨y=F.size∨y=n.size)∨h82.size≤y:=fun y d=>.inl (.inr d)
       by_cases e:q=j
       ·rw[if_pos e,if_pos e]
        exact(o82.sl (W:=fun y=>s.M y∨y=F.size∨y=n.size) fun y d _ hw=>by have:=ltW y hw;omega).upd uW hwu
       ·rw[if_neg e,if_neg e]
        exact(((m.sl q P).upd G hw70).upd J fun _ h=>h.elim).upd uW hwu
      ·simp only;rw[g.nx];omega
      ·show(rg s.L s.nx (nz [hd j])).length=i+1
       have:=(insV_ids (L:=s.L) (id:=s.nx) (ps:=nz [hd j])).length_eq;rw[List.length_cons,bd,bd,g.len]at this;exact this
      ·exact m.k.fresh hu fun y d=>by
        rcases d with d|d|d
        ·rw[eM]at d;exact(nM y d).1
        ·have:=k08.size;omega
        ·have:=k08.size;omega
  ·rintro _ h85 ⟨i,s,hd,c,w,g,eM,h25⟩
   refine LoopP.ghost (fun(j:Nat) (t:Int) h'=>t=(j:Int)∧j≤3∧Upd No h85 h') (fun j=>3-j) 0 ⟨rfl,by omega,Upd.refl _ _⟩ ?_
   rintro I j t h88 ⟨rfl,hj3,k88⟩ hI;have U:=g.up0 k88;refine aE (fun z=>?_) fun _=>⟨rfl,U.k⟩
   have u:j<3:=by omega
   have fw:=g.few j u;have hn:∀B,BaseOf s (hd j) B→di B.2∧Fit B.2∧B.2.length≤60000:=fun B hB=>by rw[hB.uniq (g.D j u)];exact⟨fw.up,fw.fits,by have:=fw.len;omega⟩
   refine⟨⟨by omega,by omega⟩,_,rfl,_,OO (f:=fun j=>.int .u32 (hd j)) U.hh u,?_⟩
   refine JB (o:=(11,⟨#[]⟩,⟨#[]⟩,⟨#[]⟩,⟨#[]⟩,hd j,0,0,0,false,⟨#[]⟩,⟨#[]⟩,false,du,du)) U.v U.b rfl (g.hi j u) hn fun h92 B s' hB hs' k92=>?_
   rw[hB.uniq (g.D j u)]at hs';refine bA fun h93 b93 k93=>dW (c:=Ey Ei) (vs:=Ey (0,0,0,⟨#[]⟩,false,(s'.len:Int),s',du,du,du,du)) b93 rfl fun h94 b94 u94=>?_
   have k94:Upd No h92 h94:=k93.own u94 (aq _);have g94:=(U.up0 k92).up0 k94;have hs94:=hs'.upd k94 fun _ h=>h.elim
   refine Join.intro (fun t h'=>t=false∧h'=h94) (fun R hR=>?_) ?_
   ·have rw94:=OO (f:=fun j=>.slice (w j).a (w j).len (w j).cap) g94.ww u
    refine⟨s',vc b94 6,⟨by omega,by omega⟩,_,rfl,w j,rw94,GZ hs94 (g94.sl j u) (by have:=fw.len;omega) (ak.2 ⟨_,vc b94 5,⟨by omega,by omega⟩,_,rfl,w j,rw94,hR _ _ ⟨?_,rfl⟩⟩)⟩
    rw[hs94.len,(g94.sl j u).len];exact bne_self_eq_false _
   ·rintro _ h105 ⟨rfl,rfl⟩
    rw[ec u (by omega)];exact ak.2 (hI (j+1) _ _ ⟨rfl,u,(k88.tr k92).tr k94⟩ (by omega))
end Go.Proofs
