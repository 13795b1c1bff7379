/- A part of the proof that the named laws of this program answer true, whatever the input. -/
import Derived.Test.YtncppacbfagpgaaGreatDoorPart10
open Int renaming tmod→cn
open List renaming map_append→bR,mem_singleton→ax,getElem?_eq_getElem→af,getElem_mem→aU,length_map→bv,getElem?_map→gf
open List.Pairwise renaming nil→cN
open Nat renaming le_refl→al,le_trans→aY,zero_le→aP
namespace Go.Proofs
open Go Go.Lift
abbrev Ac:=Int×ByteArray×ByteArray×Int×Int×Int
abbrev Rc(a:Ac):List Value:= [.int .u8 a.1,.string a.2.1,.string a.2.2.1,.int .u8 a.2.2.2.1,.int .u16 a.2.2.2.2.1,.int .u16 a.2.2.2.2.2]
abbrev zAc:Ac:=(0,⟨#[]⟩,⟨#[]⟩,0,0,0)
theorem UL{h:ad}{t:TypeId}{a:Ac}{k:ad→Prop}(hk:∀h',h'[h.size]? =some (.cells (Rc a).toArray t (0,0))→Upd No h h'→k h'):
  At (hnew h (Rc zAc) t) fun h8=>rP h8 (some (aA h)) 0 (Rc a)∧At (g8 h8 (aA h) 0 (Rc a)) k:=
 aL fun _ b1 k1=>db (c:=Rc zAc) (vs:=Rc a) b1 rfl fun h2 b2 hu2=>hk h2 b2 (k1.own hu2 (al _))
def Va(a:Ac):Prop:=(0≤a.1∧a.1≤255)∧(0≤a.2.2.2.1∧a.2.2.2.1≤255)∧(0≤a.2.2.2.2.1∧a.2.2.2.2.1≤65535)∧(0≤a.2.2.2.2.2∧a.2.2.2.2.2≤65535)
def VrW(W:Nat→Prop)(h:ad)(kind:Int)(x:Hs)(n:Nat)(z:Vr):Prop:=TreeIs W h kind x z.1 z.2.2∧RefIs W h kind x z.2.1 z.2.2∧cl z.2.2∧Fit z.2.2∧z.2.2.length≤n
theorem VrW.updM{W M:Nat→Prop}{h h':ad}(k:Upd M h h')(hm:∀b,M b→W b∨h.size≤b){kind:Int}{x:Hs}{n:Nat}{z:Vr}(v:VrW W h kind x n z):VrW W h' kind x n z:=⟨v.1.updM k hm,v.2.1.updM k hm,v.2.2⟩
theorem VrW.mono{W:Nat→Prop}{h:ad}{kind:Int}{x:Hs}{n m:Nat}{z:Vr}(v:VrW W h kind x n z)(hm:n≤m):VrW W h kind x m z:=⟨v.1,v.2.1,v.2.2.1,v.2.2.2.1,aY v.2.2.2.2 hm⟩
theorem PD{l:List Pr}{p:Pr}{n:Nat}(hr:cl l)(hf:Fit l)(hn:l.length≤n)(hp:p.1.size≤5030∧p.2.size≤5030):cl (yQ l p)∧Fit (yQ l p)∧(yQ l p).length≤n+1:=by
 unfold yQ;split
 ·refine⟨AK p hr,fun q hq=>?_,aY (Gg p) (by omega)⟩
  rcases zi hq with rfl|hq
  ·exact⟨by omega,by omega⟩
  ·exact hf q hq
 ·exact⟨hr,hf,by omega⟩
theorem Qz{l:List Pr}{k:ByteArray}{n:Nat}(hr:cl l)(hf:Fit l)(hn:l.length≤n):cl (zr l k)∧Fit (zr l k)∧(zr l k).length≤n+1:=by
 unfold zr;split
 ·exact⟨hr,hf,by omega⟩
 ·exact⟨On hr,fun q hq=>hf q (Hn.1 hq).1,aY QN (by omega)⟩
end Go.Proofs
namespace Go.Proofs
open Go Go.Lift
theorem UE{W:Nat→Prop}{h:ad}:RefIs W h 0 ⟨0,0,0⟩ Lh []:=⟨⟨none,0,0⟩,by simp[hx],Sl.nil ig,al _⟩
def StV(b8 b17 lo:Nat)(kind:Int)(x:Hs)(n:Nat)(h:ad)(lv mv:SliceV)(zs:List Vr)(S1 S2:Nat→Prop):Prop:=
 OwnS nR 6 bF S1 h lv (zs.map (·.1))∧OwnS tf 5 cY S2 h mv (zs.map (·.2.1))∧(∀y,S1 y→lo≤y∧y<h.size∧¬S2 y)∧(∀y,S2 y→lo≤y∧y<h.size)∧
 (∀z∈zs,VrW (fun y=>y=b8∨y=b17∨S1 y∨S2 y) h kind x n z)∧0<zs.length∧zs.length≤n+1
theorem Ux(a b:Nat):cn (a:Int) (b:Int)=((a%b:Nat):Int):=by
 rw[Int.tmod_eq_emod_of_nonneg (by omega)];rfl
theorem VrW.less{W W':Nat→Prop}{h:ad}(hm:∀b,W' b→W b∨h.size≤b){kind:Int}{x:Hs}{n:Nat}{z:Vr}(v:VrW W h kind x n z):VrW W' h kind x n z:=⟨v.1.less hm,v.2.1.less hm,v.2.2⟩
theorem StV.upd0{b8 b17 lo n:Nat}{kind:Int}{x:Hs}{h h':ad}{lv mv:SliceV}{zs:List Vr}{S1 S2:Nat→Prop}(st:StV b8 b17 lo kind x n h lv mv zs S1 S2)(k:Upd (fun y=>y=b8∨y=b17) h h')(hb:b8<lo∧b17<lo):StV b8 b17 lo kind x n h' lv mv zs S1 S2:=by
 obtain⟨h1,h2,h3,h4,h5,h6⟩:=st;have z:=k.size;refine⟨h1.upd k fun y hy e=>?_,h2.upd k fun y hy e=>?_,fun y hy=>⟨(h3 y hy).1,by have:=(h3 y hy).2.1;omega,(h3 y hy).2.2⟩,fun y hy=>⟨(h4 y hy).1,by have:=(h4 y hy).2;omega⟩,fun z hz=>(h5 z hz).updM k fun y hy=>.inl (hy.imp id .inl),h6⟩
 ·have:=(h3 y hy).1;omega
 ·have:=(h4 y hy).1;omega
theorem StV.push{b8 b17 lo n:Nat}{kind:Int}{x:Hs}{h h':ad}{lv mv s1 s2:SliceV}{zs:List Vr}{z:Vr}{S1 S2 S1' S2':Nat→Prop}(st:StV b8 b17 lo kind x n h lv mv zs S1 S2)(hz:VrW (fun y=>y=b8∨y=b17∨S1 y∨S2 y) h kind x (n+1) z)(k:Upd (fun y=>S1 y∨S2 y) h h')(hlo:lo≤h.size)
  (o1:OwnS nR 6 bF S1' h' s1 (zs.map (·.1)++ [z.1]))(o2:OwnS tf 5 cY S2' h' s2 (zs.map (·.2.1)++ [z.2.1]))(e1:∀y,S1' y→(S1 y∨h.size≤y)∧y<h'.size∧¬S2' y)(e2:∀y,S2' y→(S2 y∨h.size≤y)∧y<h'.size):StV b8 b17 lo kind x (n+1) h' s1 s2 (zs++ [z]) S1' S2':=by
 obtain⟨h1,h2,h3,h4,h5,h6,h7⟩:=st;have hm:∀y,(y=b8∨y=b17∨S1' y∨S2' y)→(y=b8∨y=b17∨S1 y∨S2 y)∨h.size≤y:=fun y hy=>by
  rcases hy with e|e|e|e
  ·exact .inl (.inl e)
  ·exact .inl (.inr (.inl e))
  ·exact(e1 y e).1.imp (fun h=>.inr (.inr (.inl h))) id
  ·exact(e2 y e).1.imp (fun h=>.inr (.inr (.inr h))) id
 have up:∀{z},VrW (fun y=>y=b8∨y=b17∨S1 y∨S2 y) h kind x (n+1) z→VrW (fun y=>y=b8∨y=b17∨S1' y∨S2' y) h' kind x (n+1) z:=fun v=>
  ((v.less (W':=fun y=>(y=b8∨y=b17∨S1 y∨S2 y)∨h.size≤y) fun _ h=>h).updM k fun y hy=>.inl (.inl (.inr (.inr hy)))).less fun y hy=>.inl (hm y hy)
 refine⟨by rw[bR];exact o1,by rw[bR];exact o2,fun y hy=>⟨?_,(e1 y hy).2⟩,fun y hy=>⟨?_,(e2 y hy).2⟩,fun w hw=>?_,by simp,by simp;omega⟩
 ·rcases(e1 y hy).1 with h|h
  ·exact(h3 y h).1
  ·omega
 ·rcases(e2 y hy).1 with h|h
  ·exact(h4 y h).1
  ·omega
 ·rcases List.mem_append.1 hw with hw|hw
  ·exact up ((h5 w hw).mono (Nat.le_succ _))
  ·rw[ax.1 hw];exact up hz
set_option maxRecDepth 100000 in
set_option maxHeartbeats 4000000 in
theorem GU{h:ad}{kind:Int}{x:Hs}{s:SliceV}{l:List Ac}(tb:Tab h)(hs:Sl Rc 6 No h s l)(hl:l.length≤9223372036854775807)(hb:∀a∈l,Va a):
  HC PG vf [.int .i64 kind,.agg #[.int .u64 x.k0,.int .u64 x.k1,.int .u64 x.mask],.slice s.a s.len s.cap] [.c .bool] (fun b h'=>b=true∧Upd No h h') h:=by
 refine Cu kind (x.k0,x.k1,x.mask) s ?_;unfold vr bl cD bj P8 ao cP P9 Lm aI re aQ dI bC fj nv yM tK Aw qY Jj Ik OD As Tu zl3 vl3 yR FH M4 pn Tl jN gZ AU Hq E3 kq;refine aL fun h1 b1 k1=>Mi fun h3 k3=>ag.2 ?_
 have z1:=bh b1;have c3:=k3.get0 b1;have k03:=k1.tr k3;refine⟨_,vc c3 0,_,vc c3 1,_,vc c3 2,?_⟩;by_cases hkd:kind=0∨kind=1
 ·refine M9 (W:=No) (x:=x) (fun _ h=>h.elim) hkd fun h8 t i8 k8=>Qo (t:=t) fun h10 b10 k10=>?_
  have c10:=(k8.tr k10).get0 c3;refine⟨_,vc c10 0,_,vc c10 1,_,vc c10 2,Ho fun h15 k15=>?_⟩
  refine Se (W:=fun y=>h8.size≤y) (x:=x) hkd fun h17 r j17 k17=>Ta (r:=r) fun h19 b19 k19=>?_
  rw[show((0:Int) !=0)=false from rfl]
  refine ag.2 (ag.2 ?_);have z10:=bh b10;have z19:=bh b19;have s8:=(k03.tr k8).size;have s17:=(k10.tr (k15.tr k17)).size;have t19:=(k15.tr (k17.tr k19)).get0 b10;have k019:=(k03.tr k8).tr ((k10.tr k15).tr (k17.tr k19));have f0:cl ([]:List Pr)∧Fit ([]:List Pr)∧([]:List Pr).length≤0:=⟨cN,fun p hp=>(by cases hp),al _⟩
  have i19:=i8.upd0 (k10.tr (k15.tr (k17.tr k19)));have j19:=j17.upd0 k19;have hk2:∀h',Upd No h h'→(true=true∧Upd No h h'):=fun h' k=>⟨rfl,k⟩
  refine Join.intro (fun t' h'=>∃zs S1 S2,StV h8.size h17.size h19.size kind x 0 h' t'.1 t'.2 zs S1 S2∧Upd No h19 h') (fun R hR=>?_) ?_
  ·refine⟨_,vc t19 0,_,vc t19 1,_,vc t19 2,_,vc t19 3,_,vc t19 4,_,vc t19 5,_,vc b19 0,_,vc b19 1,_,vc b19 2,_,vc b19 3,r.2.2.2.2,vc b19 4,?_,?_⟩
   ·refine aL fun h45 b45 k45=>⟨⟨vc (k45.get0 b19) 0,vc (k45.get0 b19) 1,vc (k45.get0 b19) 2,vc (k45.get0 b19) 3,vc (k45.get0 b19) 4⟩,aL fun h46 b46 k46=>?_⟩
    have y1:=bh b45;have y2:=bh b46;refine hR _ _ ⟨[(t,r,[])],(· =h19.size),(· =h45.size),⟨⟨rfl,KV,al _,.inr ⟨h19.size,[],rfl,rfl,by simpa using k46.get0 b45,rfl⟩⟩,⟨rfl,Lg,al _,.inr ⟨h45.size,[],rfl,rfl,by simpa using b46,rfl⟩⟩,fun y hy=>by have hy:y=h19.size:=hy;exact⟨by omega,by omega,fun e=>by have e:y=h45.size:=e;omega⟩,fun y hy=>by have hy:y=h45.size:=hy;omega,?_,by simp,by simp⟩,k45.tr k46⟩
    ·refine fun z hz=>?_
     rw[ax.1 hz];refine⟨((i8.less (W':=fun y=>h8.size≤y) fun _ h=>.inr h).upd0 (((k10.tr (k15.tr (k17.tr k19))).tr k45).tr k46)).less fun y hy=>.inl ?_,(j19.upd0 (k45.tr k46)).less fun y hy=>.inl ?_,f0⟩<;>(simp only at hy;omega)
   ·refine aL fun h47 b47 k47=>⟨⟨vc (k47.get0 t19) 0,vc (k47.get0 t19) 1,vc (k47.get0 t19) 2,vc (k47.get0 t19) 3,vc (k47.get0 t19) 4,vc (k47.get0 t19) 5⟩,aL fun h48 b48 k48=>?_⟩
    have y1:=bh b47;have y2:=bh b48;refine hR _ _ ⟨[(t,r,[])],(· =h47.size),(· =h19.size),⟨⟨rfl,KV,al _,.inr ⟨h47.size,[],rfl,rfl,by simpa using b48,rfl⟩⟩,⟨rfl,Lg,al _,.inr ⟨h19.size,[],rfl,rfl,by simpa using k48.get0 b47,rfl⟩⟩,fun y hy=>by have hy:y=h47.size:=hy;exact⟨by omega,by omega,fun e=>by have e:y=h19.size:=e;omega⟩,fun y hy=>by have hy:y=h19.size:=hy;omega,?_,by simp,by simp⟩,k47.tr k48⟩
    refine fun z hz=>?_
    rw[ax.1 hz];refine⟨((i8.less (W':=fun y=>h8.size≤y) fun _ h=>.inr h).upd0 (((k10.tr (k15.tr (k17.tr k19))).tr k47).tr k48)).less fun y hy=>.inl ?_,(j19.upd0 (k47.tr k48)).less fun y hy=>.inl ?_,f0⟩<;>(simp only at hy;omega)
  rintro⟨lv,mv⟩ h50 ⟨zs,S1,S2,st,k50⟩;have n817:h8.size<h17.size:=by have:=(k15.tr k17).size;omega
  have hlo:h8.size<h19.size∧h17.size<h19.size:=⟨by have:=k19.size;omega,z19⟩;refine Join.intro (fun t' h'=>∃n zs S1 S2,n≤25∧StV h8.size h17.size h19.size kind x n h' t'.1 t'.2 zs S1 S2∧Upd (fun y=>y=h8.size∨y=h17.size) h19 h') (fun R hR=>?_) ?_
  ·refine LoopP.ghost (fun(g:Nat×List Vr×(Nat→Prop)×(Nat→Prop)) (t':SliceV×SliceV×Int) h'=>t'.2.2=(g.1:Int)∧g.1≤l.length∧g.1≤25∧StV h8.size h17.size h19.size kind x g.1 h' t'.1 t'.2.1 g.2.1 g.2.2.1 g.2.2.2∧(∃u:Tr,h'[h8.size]? =some (.cells (nR u).toArray bF (0,0)))∧(∃u:Rt,h'[h17.size]? =some (.cells (tf u).toArray cY (0,0)))∧Upd (fun y=>y=h8.size∨y=h17.size) h19 h') (fun g=>l.length-g.1) (0,zs,S1,S2)
    ⟨rfl,aP _,aP _,st,⟨_,k50.get0 t19⟩,⟨_,k50.get0 b19⟩,k50.wide⟩ ?_
   rintro I ⟨i,zs,S1,S2⟩ ⟨lv,mv,ti⟩ h54 ⟨e,hil,hi25,st,⟨u0,bt⟩,⟨u1,br⟩,hu⟩ hI;simp only at e hil hi25 st;subst e;have k054:Upd No h h54:=k019.trans hu fun y hy=>.inr (by omega)
   refine ay (fun hlt=>?_) fun hge=>?_
   ·have hlt:i<l.length:=by simp only at hlt;have:=hs.len;omega
    refine Join.intro (fun t' h'=>∃zs S1 S2,i<25∧StV h8.size h17.size h19.size kind x (i+1) h' t'.1 t'.2 zs S1 S2∧(∃u:Tr,h'[h8.size]? =some (.cells (nR u).toArray bF (0,0)))∧(∃u:Rt,h'[h17.size]? =some (.cells (tf u).toArray cY (0,0)))∧Upd (fun y=>y=h8.size∨y=h17.size) h19 h') (fun R2 hR2=>?_) ?_
    ·obtain⟨a,ha,_,hv⟩:=(hs.upd k054 fun _ h=>h.elim).at (af hlt)
     obtain⟨_,hav,_,_⟩:=hb _ (aU hlt);refine⟨⟨by simp only;omega,by simp only;have:=hs.len;omega⟩,a,ha,_,hv 0 _ rfl,_,hv 1 _ rfl,_,hv 2 _ rfl,_,hv 3 _ rfl,_,hv 4 _ rfl,_,hv 5 _ rfl,UL (a:=l[i]) fun h64 b64 k64=>?_⟩
     generalize l[i]=ac at b64 hav;have st64:=st.upd0 k64.wide hlo;have s64:h19.size≤h64.size:=(hu.tr k64.wide).size;refine ay (fun _=>hR _ _ ⟨i,zs,S1,S2,hi25,st64,hu.tr k64.wide⟩) fun h25=>?_
     have hi:i<25:=by simp only at h25;omega
     have l1:lv.len=zs.length:=by have:=st64.1.len;rw[bv]at this;exact this
     have l2:mv.len=zs.length:=by have:=st64.2.1.len;rw[bv]at this;exact this
     have hz1:0<zs.length:=st64.2.2.2.2.2.1;have hz2:zs.length≤i+1:=st64.2.2.2.2.2.2;have hm1:=Int.tmod_lt_of_pos (IntKind.wrap .i64 ac.2.2.2.2.1) (show(0:Int)<300 by decide)
     have hm2:=Int.tmod_lt_of_pos (IntKind.wrap .i64 ac.2.2.2.2.2) (show(0:Int)<4200 by decide)
     have n1:cn (IntKind.wrap .i64 ac.2.2.2.2.1) 300≤5000:=by omega
     have n2:cn (IntKind.wrap .i64 ac.2.2.2.2.2) 4200≤5000:=by omega
     refine⟨_,vc b64 3,by simp only;omega,Join.intro (fun t' h'=>∃b p,t'=⟨b,0,none⟩∧h'[b]? =some (.cells (eJ p).toArray aj (0,0))∧p.1.size≤5030∧p.2.size≤5030∧h64.size≤b∧Upd No h64 h') (fun R3 hR3=>?_) ?_⟩
     ·refine⟨_,mP b64 1 0,_,vc b64 4,by decide,_,mP b64 1 1,_,vc b64 5,by decide,?_,?_⟩
      ·refine vI n1 fun s1 h104 z1 k104=>?_
       have b104:=k104.get0 b64;have y104:=k104.size;refine⟨vc b104 5,mP b104 1 1,vc b104 4,?_,?_⟩
       ·refine vI n2 fun s2 h106 z2 k106=>?_
        have b106:=k106.get0 b104;have y106:=k106.size;refine⟨vc b106 5,vc b106 4,aL fun h107 b107 k107=>?_⟩
        have c107:=k107.get0 b106;refine⟨vc c107 5,vc c107 4,db (c:=eJ GJ) (vs:=eJ (s1,s2)) b107 rfl fun h108 b108 hu108=>hR3 _ _ ⟨h106.size,(s1,s2),rfl,b108,z1,z2,by omega,((k104.tr k106).tr k107).own hu108 (by omega)⟩⟩
       ·refine aL fun h109 b109 k109=>?_
        have c109:=k109.get0 b104;have y109:=bh b109;refine⟨vc c109 5,mP c109 1 1,vc c109 4,vI n2 fun s2 h111 z2 k111=>?_⟩
        have c111:=k111.get0 c109;refine⟨vc c111 5,vc c111 4,db (c:=eJ GJ) (vs:=eJ (s1,s2)) (k111.get0 b109) rfl fun h108 b108 hu108=>hR3 _ _ ⟨h104.size,(s1,s2),rfl,b108,z1,z2,by omega,((k104.tr k109).tr k111).own hu108 (by omega)⟩⟩
      ·refine aL fun h113 b113 k113=>?_
       have c113:=k113.get0 b64;refine⟨vc c113 5,mP c113 1 1,vc c113 4,mP c113 1 0,vI n1 fun s1 h115 z1 k115=>?_⟩
       have c115:=k115.get0 c113;refine⟨vc c115 5,mP c115 1 1,vc c115 4,vI n2 fun s2 h117 z2 k117=>?_⟩
       have c117:=k117.get0 c115;refine⟨vc c117 5,vc c117 4,db (c:=eJ GJ) (vs:=eJ (s1,s2)) (k117.get0 (k115.get0 b113)) rfl fun h108 b108 hu108=>hR3 _ _ ⟨h64.size,(s1,s2),rfl,b108,z1,z2,al _,((k113.tr k115).tr k117).own hu108 (al _)⟩⟩
     rintro _ h120 ⟨bp,p,rfl,bp120,p1z,p2z,hbp,k120⟩;have s120:=k120.size;have st120:=st64.upd0 k120.wide hlo;have b120:=k120.get0 b64;have ek:cn (IntKind.wrap .i64 ac.2.2.2.1) (lv.len:Int)=((ac.2.2.2.1.toNat%zs.length:Nat):Int):=by
      rw[gr (by omega),l1,←Ux,Int.toNat_of_nonneg hav.1]
     have hkx:=Nat.mod_lt ac.2.2.2.1.toNat hz1;rw[ek];generalize ac.2.2.2.1.toNat%zs.length=kx at hkx;clear ek;have rd1:∀{h':ad},Upd (fun y=>y=h8.size∨y=h17.size) h120 h'→∃a:Addr,lv.a=some a∧∀j v,(nR zs[kx].1)[j]? =some v→aE h' (adr (adr a (kx*6)) j)=some v:=fun k=>by
      obtain⟨a,ha,_,hv⟩:=((st120.upd0 k hlo).1.sl (W:=No) fun _ _ _ h=>h).at (i:=kx) (x:=zs[kx].1) (by rw[gf,af hkx];rfl)
      exact⟨a,ha,fun j v hj=>hv j v hj⟩
     have rd2:∀{h':ad},Upd (fun y=>y=h8.size∨y=h17.size) h120 h'→∃a:Addr,mv.a=some a∧∀j v,(tf zs[kx].2.1)[j]? =some v→aE h' (adr (adr a (kx*5)) j)=some v:=fun k=>by
      obtain⟨a,ha,_,hv⟩:=((st120.upd0 k hlo).2.1.sl (W:=No) fun _ _ _ h=>h).at (i:=kx) (x:=zs[kx].2.1) (by rw[gf,af hkx];rfl)
      exact⟨a,ha,fun j v hj=>hv j v hj⟩
     have vz:=st120.2.2.2.2.1 _ (aU hkx);have fit1:∀{h':ad},h120.size≤h'.size→∀y,(y=h8.size∨y=h17.size∨S1 y∨S2 y)→y<h'.size:=fun hz y hy=>by
      have:=s64;rcases hy with h|h|h|h
      ·omega
      ·omega
      ·have:=(st120.2.2.1 y h).2.1;omega
      ·have:=(st120.2.2.2.1 y h).2;omega
     have bt120:=(k64.tr k120).get0 bt;have br120:=(k64.tr k120).get0 br;have nv:zs[kx].2.2.length≤1000000:=by have:=vz.2.2.2.2;omega
     obtain⟨a1,ha1,hr1⟩:=rd1 (Upd.refl _ _);refine Join.intro (fun t' h'=>∃(z':Vr) (er:Int),h'[h8.size]? =some (.cells (nR z'.1).toArray bF (0,0))∧h'[h17.size]? =some (.cells (tf z'.2.1).toArray cY (0,0))∧VrW (fun y=>y=h8.size∨y=h17.size∨S1 y∨S2 y) h' kind x (i+1) z'∧t'=(er,er)∧(er≠0→z'.1=zs[kx].1)∧Upd (fun y=>y=h8.size∨y=h17.size) h120 h') (fun R4 hR4=>?_) ?_
     ·refine⟨_,vc b120 0,by decide,?_⟩
      refine CondP.intro (fun _=>?_) fun _=>?_
      ·refine⟨⟨by omega,by simp only;omega⟩,a1,ha1,_,hr1 0 _ rfl,_,hr1 1 _ rfl,_,hr1 2 _ rfl,_,hr1 3 _ rfl,_,hr1 4 _ rfl,_,hr1 5 _ rfl,p.1,vc bp120 0,?_⟩
       refine GX vz.1 (fit1 (al _)) vz.2.2.1 vz.2.2.2.1 nv p.1 fun h132 t' i' same k132=>?_
       have z132:=k132.size;refine db (c:=nR u0) (vs:=nR t') (k132.get0 bt120) rfl fun h133 b133 hu133=>?_
       have u133:Upd (fun y=>y=h8.size∨y=h17.size) h120 h133:=k132.wide.tr (hu133.mono fun y e=>.inl (.inl e))
       have z133:=hu133.size;have vz2:=vz.updM u133 fun y hy=>.inl (hy.imp id .inl)
       obtain⟨a2,ha2,hr2⟩:=rd2 u133;have np:bp≠h8.size:=by omega
       have bp133:=hu133.get (k132.get0 bp120) np;refine⟨⟨by omega,by simp only;omega⟩,a2,ha2,_,hr2 0 _ rfl,_,hr2 1 _ rfl,_,hr2 2 _ rfl,_,hr2 3 _ rfl,zs[kx].2.1.2.2.2.2,hr2 4 _ rfl,p.1,vc bp133 0,?_⟩
       refine G9 vz2.2.1 (fit1 (by omega)) vz.2.2.1 vz.2.2.2.1 nv p.1 fun h142 r' j' k142=>?_
       have br142:=k142.get0 (hu133.get (k132.get0 br120) (show ¬h17.size=h8.size by omega))
       refine db (c:=tf u1) (vs:=tf r') br142 rfl fun h143 b143 hu143=>?_
       have u2:Upd (fun y=>y=h8.size∨y=h17.size) h132 h143:=(hu133.mono fun y e=>.inl (.inl e)).tr (k142.wide.tr (hu143.mono fun y e=>.inl (.inr e)))
       exact hR4 _ _ ⟨(t',r',zr zs[kx].2.2 p.1),OW zs[kx].2.2 p.1,hu143.get (k142.get0 b133) (show ¬h8.size=h17.size by omega),b143,⟨i'.updM u2 fun y hy=>.inl (hy.imp id .inl),j'.updM hu143 fun y e=>.inl (.inr (.inl e)),Qz vz.2.2.1 vz.2.2.2.1 vz.2.2.2.2⟩,rfl,same,k132.wide.tr u2⟩
      ·refine⟨⟨by omega,by simp only;omega⟩,a1,ha1,_,hr1 0 _ rfl,_,hr1 1 _ rfl,_,hr1 2 _ rfl,_,hr1 3 _ rfl,_,hr1 4 _ rfl,_,hr1 5 _ rfl,p.1,vc bp120 0,p.2,vc bp120 1,?_⟩
       refine N6 vz.1 (fit1 (al _)) vz.2.2.1 nv p fun h132 t' i' same k132=>?_
       have z132:=k132.size;refine db (c:=nR u0) (vs:=nR t') (k132.get0 bt120) rfl fun h133 b133 hu133=>?_
       have u133:Upd (fun y=>y=h8.size∨y=h17.size) h120 h133:=k132.wide.tr (hu133.mono fun y e=>.inl (.inl e))
       have z133:=hu133.size;have vz2:=vz.updM u133 fun y hy=>.inl (hy.imp id .inl)
       obtain⟨a2,ha2,hr2⟩:=rd2 u133;have np:bp≠h8.size:=by omega
       have bp133:=hu133.get (k132.get0 bp120) np;refine⟨⟨by omega,by simp only;omega⟩,a2,ha2,_,hr2 0 _ rfl,_,hr2 1 _ rfl,_,hr2 2 _ rfl,_,hr2 3 _ rfl,zs[kx].2.1.2.2.2.2,hr2 4 _ rfl,p.1,vc bp133 0,p.2,vc bp133 1,?_⟩
       refine Ou vz2.2.1 (fit1 (by omega)) vz.2.2.1 nv p fun h142 r' j' k142=>?_
       have br142:=k142.get0 (hu133.get (k132.get0 br120) (show ¬h17.size=h8.size by omega))
       refine db (c:=tf u1) (vs:=tf r') br142 rfl fun h143 b143 hu143=>?_
       have u2:Upd (fun y=>y=h8.size∨y=h17.size) h132 h143:=(hu133.mono fun y e=>.inl (.inl e)).tr (k142.wide.tr (hu143.mono fun y e=>.inl (.inr e)))
       exact hR4 _ _ ⟨(t',r',yQ zs[kx].2.2 p),KG p,hu143.get (k142.get0 b133) (show ¬h8.size=h17.size by omega),b143,⟨i'.updM u2 fun y hy=>.inl (hy.imp id .inl),j'.updM hu143 fun y e=>.inl (.inr (.inl e)),PD vz.2.2.1 vz.2.2.2.1 vz.2.2.2.2 ⟨p1z,p2z⟩⟩,rfl,same,k132.wide.tr u2⟩
     rintro _ h168 ⟨z',er,bt168,br168,vz',rfl,same,k168⟩;have z168:=k168.size;have bp168:=k168.get bp120 (show ¬(bp=h8.size∨bp=h17.size) by omega)
     have nv':z'.2.2.length≤1000000:=by have:=vz'.2.2.2.2;omega
     refine⟨_,vc bt168 0,_,vc bt168 1,_,vc bt168 2,_,vc bt168 3,_,vc bt168 4,_,vc bt168 5,p.1,vc bp168 0,?_⟩;refine RS vz'.1 (fit1 z168) vz'.2.2.1 nv' p.1 fun h177 k177=>?_
     have bt177:=k177.get0 bt168;have br177:=k177.get0 br168;obtain⟨sr,esr,hsr,_⟩:=vz'.2.1;have esr4:z'.2.1.2.2.2.2=sr:=by rw[esr]
     refine⟨z'.2.1.2.2.2.2,vc br177 4,p.1,vc (k177.get0 bp168) 0,?_⟩;rw[esr4];refine Ng (hsr.upd k177 fun _ h=>h.elim) vz'.2.2.1 vz'.2.2.2.1 nv' p.1 fun v q1 q2=>?_
     have hl:=Nu vz'.2.2.1 q1 q2;have hl1:=congrArg Prod.fst hl;have hl2:=congrArg Prod.snd hl;simp only at hl1 hl2;refine Join.intro (fun t' h'=>t'=false∧Upd No h177 h') (fun R5 hR5=>?_) ?_
     ·refine CondP.intro (fun e=>absurd e (by simp)) fun _=>CondP.intro (fun e=>absurd e (by simp[hl2])) fun _=>CondP.intro (fun e=>absurd e (by simp[hl1])) fun _=>CondP.intro (fun e=>?_) fun _=>hR5 _ _ ⟨rfl,Upd.refl _ _⟩
      have u177:Upd (fun y=>y=h8.size∨y=h17.size) h120 h177:=k168.tr k177.wide
      obtain⟨a3,ha3,hr3⟩:=rd1 u177;refine⟨_,vc bt177 0,_,vc bt177 1,_,vc bt177 2,_,vc bt177 3,_,vc bt177 4,_,vc bt177 5,⟨by omega,by simp only;omega⟩,a3,ha3,_,hr3 0 _ rfl,_,hr3 1 _ rfl,_,hr3 2 _ rfl,_,hr3 3 _ rfl,_,hr3 4 _ rfl,_,hr3 5 _ rfl,?_⟩
      refine RQ (vz'.1.upd0 k177) (vz.1.updM u177 fun y hy=>.inl (hy.imp id .inl)) fun h197 k197=>hR5 _ _ ⟨?_,k197⟩
      rw[decide_eq_true (same (by simpa using e))];rfl
     rintro _ h199 ⟨rfl,k199⟩;have k177':=k177.tr k199;have u199:Upd (fun y=>y=h8.size∨y=h17.size) h120 h199:=k168.tr k177'.wide
     have s199:h64.size≤h199.size:=by have:=u199.size;omega
     have bt199:=k199.get0 bt177;have br199:=k199.get0 br177;have st199:=st120.upd0 u199 hlo;have vz199:=vz'.updM k177' fun _ h=>h.elim
     have u19:Upd (fun y=>y=h8.size∨y=h17.size) h19 h199:=((hu.tr k64.wide).tr k120.wide).tr u199
     obtain⟨o1,o2,q1,q2,q3⟩:=st199;have d12:∀y,S2 y→¬S1 y:=fun y h2 h1=>(q1 y h1).2.2 h2
     have oR:∀{hT hU hV:ad},Upd No h199 hT→Upd (fun y=>S1 y∨hT.size≤y) hT hU→Upd No hU hV→OwnS tf 5 cY S2 hV mv (zs.map (·.2.1)):=fun ka kb kc=>
      ((o2.upd ka fun _ _ h=>h).upd kb fun y hy e=>e.elim (d12 y hy) fun e=>by have:=(q2 y hy).2;have:=ka.size;omega).upd kc fun _ _ h=>h
     have two:∀{hT hU hV hW:ad} {s1 s2:SliceV},Upd No h199 hT→OwnS nR 6 bF (fun y=>S1 y∨hT.size≤y) hU s1 (zs.map (·.1)++ [z'.1])→Upd (fun y=>S1 y∨hT.size≤y) hT hU→Upd No hU hV→OwnS tf 5 cY (fun y=>S2 y∨hV.size≤y) hW s2 (zs.map (·.2.1)++ [z'.2.1])→Upd (fun y=>S2 y∨hV.size≤y) hV hW→R2 (s1,s2) hW:=fun{hT hU hV hW s1 s2} ka oa kb kc ob kd=>by
      have za:=ka.size;have zb:=kb.size;have zc:=kc.size;have zd:=kd.size;have kall:Upd (fun y=>S1 y∨S2 y) h199 hW:=((ka.wide.trans kb fun y hy=>hy.imp .inl fun h=>by omega).tr kc.wide).trans kd fun y hy=>hy.imp .inr fun h=>by omega
      have nb:∀{y:Nat},y<h19.size→¬(S1 y∨S2 y):=fun hy h=>h.elim (fun h=>by have:=(q1 _ h).1;omega) fun h=>by have:=(q2 _ h).1;omega
      refine hR2 _ _ ⟨zs++ [z'],fun y=>(S1 y∨hT.size≤y)∧y<hU.size,fun y=>(S2 y∨hV.size≤y)∧y<hW.size,hi,StV.push ⟨o1,o2,q1,q2,q3⟩ vz199 kall (by omega) ((oa.within.upd kc fun _ _ h=>h).upd kd fun y hy e=>?_) ob.within (fun y hy=>⟨hy.1.imp id fun h=>by omega,by omega,fun h=>?_⟩) fun y hy=>⟨hy.1.imp id fun h=>by omega,hy.2⟩,⟨_,kall.get bt199 (nb hlo.1)⟩,⟨_,kall.get br199 (nb hlo.2)⟩,u19.trans kall fun y hy=>.inr ?_⟩
      ·rcases hy.1 with h|h<;>rcases e with e|e
       ·exact(q1 y h).2.2 e
       ·have:=(q1 y h).2.1;omega
       ·have:=(q2 y e).2;omega
       ·omega
      ·rcases hy.1 with g|g<;>rcases h.1 with e|e
       ·exact(q1 y g).2.2 e
       ·have:=(q1 y g).2.1;omega
       ·have:=(q2 y e).2;omega
       ·omega
      ·exact hy.elim (fun h=>(q1 y h).1) fun h=>(q2 y h).1
     have zl:zs.length+1≤1000000:=by omega
     have Aw:(zs.map (·.1)).length+1≤1000000:=by rw[bv];exact zl
     have Ik:(zs.map (·.2.1)).length+1≤1000000:=by rw[bv];exact zl
     refine ag.2 ⟨_,vc bt199 0,_,vc bt199 1,_,vc bt199 2,_,vc bt199 3,_,vc bt199 4,_,vc bt199 5,_,vc br199 0,_,vc br199 1,_,vc br199 2,_,vc br199 3,z'.2.1.2.2.2.2,vc br199 4,?_,?_⟩
     ·refine aL fun h211 b211 k211=>?_
      have br211:=k211.get0 br199;refine⟨⟨vc br211 0,vc br211 1,vc br211 2,vc br211 3,vc br211 4⟩,?_,?_⟩
      ·refine Ec (t:=z'.1) (so:=lv) (M:=fun y=>S1 y∨h211.size≤y) ((o1.upd k211 fun _ _ h=>h).more fun _ h=>.inl h) b211 (fun _ h=>.inr h) Aw fun s213 h214 ho hu214=>?_
       have br214:=hu214.get br211 (fun e=>e.elim (fun h=>by have:=(q1 _ h).1;omega) fun h=>by have:=k211.size;omega)
       refine⟨⟨vc br214 0,vc br214 1,vc br214 2,vc br214 3,vc br214 4⟩,aL fun h215 b215 k215=>?_⟩
       exact Ed (t:=z'.2.1) (so:=mv) (M:=fun y=>S2 y∨h215.size≤y) ((oR k211 hu214 k215).more fun _ h=>.inl h) b215 (fun _ h=>.inr h) Ik fun s217 h218 ho2 hu218=>two k211 ho hu214 k215 ho2 hu218
      ·refine aL fun h219 b219 k219=>?_
       refine Ec (t:=z'.1) (so:=lv) (M:=fun y=>S1 y∨h219.size≤y) ((o1.upd (k211.tr k219) fun _ _ h=>h).more fun _ h=>.inl h) (k219.get0 b211) (fun _ h=>.inr h) Aw fun s221 h222 ho hu222=>?_
       refine Ed (t:=z'.2.1) (so:=mv) (M:=fun y=>S2 y∨h222.size≤y) ((oR (k211.tr k219) hu222 (Upd.refl _ _)).more fun _ h=>.inl h) (hu222.get b219 fun e=>?_) (fun _ h=>.inr h) Ik fun s224 h225 ho2 hu225=>two (k211.tr k219) ho hu222 (Upd.refl _ _) ho2 hu225
       have:=k211.size;have:=bh b219;rcases e with h|h
       ·have:=(q1 _ h).2.1;omega
       ·omega
     ·refine aL fun h226 b226 k226=>?_
      have bt226:=k226.get0 bt199;refine⟨⟨vc bt226 0,vc bt226 1,vc bt226 2,vc bt226 3,vc bt226 4,vc bt226 5⟩,aL fun h227 b227 k227=>?_⟩
      refine Ec (t:=z'.1) (so:=lv) (M:=fun y=>S1 y∨h227.size≤y) ((o1.upd (k226.tr k227) fun _ _ h=>h).more fun _ h=>.inl h) b227 (fun _ h=>.inr h) Aw fun s229 h230 ho hu230=>?_
      refine Ed (t:=z'.2.1) (so:=mv) (M:=fun y=>S2 y∨h230.size≤y) ((oR (k226.tr k227) hu230 (Upd.refl _ _)).more fun _ h=>.inl h) (hu230.get (k227.get0 b226) fun e=>?_) (fun _ h=>.inr h) Ik fun s232 h233 ho2 hu233=>two (k226.tr k227) ho hu230 (Upd.refl _ _) ho2 hu233
      have:=bh b226;have:=k227.size;rcases e with h|h
      ·have:=(q1 _ h).2.1;omega
      ·omega
    ·rintro⟨lv',mv'⟩ h' ⟨zs',S1',S2',h25,st',bt',br',hu'⟩
     simp only;rw[xL hlt (by omega)];exact hI (i+1,zs',S1',S2') _ _ ⟨rfl,hlt,h25,st',bt',br',hu'⟩ (by show l.length-(i+1)<l.length-i;omega)
   ·exact hR _ _ ⟨i,zs,S1,S2,hi25,st,hu⟩
  ·rintro⟨lv',mv'⟩ h' ⟨n,zs,S1,S2,hn25,st,hu⟩
   obtain⟨o1,o2,e1,e2,hv,hz1,hz2⟩:=st;have tb':Tab h':=tb.upd (k019.trans hu fun y hy=>.inr (by omega)) id
   have k0':Upd No h h':=k019.trans hu fun y hy=>.inr (by omega)
   have sl1:Sl nR 6 No h' lv' (zs.map (·.1)):=o1.sl fun _ _ _ h=>h
   have sl2:Sl tf 5 No h' mv' (zs.map (·.2.1)):=o2.sl fun _ _ _ h=>h
   have l1:=sl1.len;have l2:=sl2.len;rw[bv]at l1 l2;refine LoopP.ghost (fun(i:Nat) (t':Int) h2=>t'=(i:Int)∧i≤zs.length∧Upd No h' h2) (fun i=>zs.length-i) 0 ⟨rfl,aP _,Upd.refl _ _⟩ ?_
   rintro I i ti h2 ⟨rfl,hi,hu2⟩ hI;refine ay (fun hlt=>?_) fun hge=>hk2 h2 (k0'.tr hu2)
   have hlt:i<zs.length:=by simp only at hlt;omega
   obtain⟨a,ha,_,hv1⟩:=(sl1.upd hu2 fun _ h=>h.elim).at (i:=i) (x:=zs[i].1) (by rw[gf,af hlt];rfl)
   obtain⟨a',ha',_,hv2⟩:=(sl2.upd hu2 fun _ h=>h.elim).at (i:=i) (x:=zs[i].2.1) (by rw[gf,af hlt];rfl)
   refine⟨⟨by omega,by simp only;omega⟩,a,ha,_,hv1 0 _ rfl,_,hv1 1 _ rfl,_,hv1 2 _ rfl,_,hv1 3 _ rfl,_,hv1 4 _ rfl,_,hv1 5 _ rfl,⟨by omega,by simp only;omega⟩,a',ha',_,hv2 0 _ rfl,_,hv2 1 _ rfl,_,hv2 2 _ rfl,_,hv2 3 _ rfl,zs[i].2.1.2.2.2.2,hv2 4 _ rfl,?_⟩
   have vz:=(hv _ (aU hlt)).updM hu2 fun _ h=>h.elim
   refine OO (tb'.upd hu2 id) vz.1 vz.2.1 vz.2.2.1 vz.2.2.2.1 (by have:=vz.2.2.2.2;omega) fun h3 k3=>ag.2 ?_
   rw[co hlt (by omega)];exact hI (i+1) _ _ ⟨rfl,hlt,hu2.tr k3⟩ (by omega)
 ·refine KY (fun e=>hkd (.inl e)) (fun e=>hkd (.inr e)) fun h8 k8=>Qo (t:=yL) fun h10 b10 k10=>?_
  have c10:=(k8.tr k10).get0 c3;refine⟨_,vc c10 0,_,vc c10 1,_,vc c10 2,Ho fun h15 k15=>?_⟩
  refine Lo (x:=x) (fun e=>hkd (.inl e)) (fun e=>hkd (.inr e)) fun h17 k17=>Ta (r:=Lh) fun h19 b19 k19=>?_
  have k019:=(k03.tr k8).tr ((k10.tr k15).tr (k17.tr k19));have t19:=(k15.tr (k17.tr k19)).get0 b10;refine ag.2 (au.2 ⟨_,vc t19 0,_,vc t19 1,_,vc t19 2,_,vc t19 3,_,vc t19 4,_,vc t19 5,_,vc b19 0,_,vc b19 1,_,vc b19 2,_,vc b19 3,⟨none,0,0⟩,vc b19 4,?_⟩);exact DC (W':=No) (KU (tb.upd k019 id)) UE cN (fun p hp=>by cases hp) (by simp) fun h' k=>⟨rfl,k019.tr k⟩
end Go.Proofs
