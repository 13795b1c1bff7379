/- A part of the proof that the named laws of this program answer true, whatever the input. -/
import Derived.Test.YtopdngagmfanlaaGreatDoorPart9
import Derived.Test.YtopdngagmfanlaaGreatDoorPart8
open Bool renaming and_eq_true→aJ,or_eq_true→fq
open Go.IntKind renaming wrap→ac
open Int renaming toNat_natCast→ak
open List renaming replicate→bF,cons_append→fA,getElem?_cons_succ→iJ,getD_eq_getElem?_getD→fh,getElem?_append_left→dF,getElem?_eq_getElem→ah,getElem?_eq_some_iff→aZ,drop_eq_getElem_cons→cF,length_drop→aS,mem_cons_of_mem→aK,length_cons→ay,mem_of_getElem?→bf,take_add_one→iI,mem_append→bD,mem_singleton→aO,length_append→aj,append_assoc→aM,append_nil→cE,length_nil→bN,length_eq_zero_iff→bp,mem_cons→ar,not_mem_nil→bX,mem_cons_self→aP
open Nat renaming zero_le→aV,le_refl→av,le_trans→aU
open Option renaming some→bq
namespace Go.Proofs
open Go Go.Lift Go.RowKit
theorem Vs{w:List UInt8}{ws:List (List UInt8)}{m:Nat}(h:4≤ws.length+1+m){j:Nat}(a:j<3):((w::ws)++bF m [])[j+1]? =some (ws.getD j []):=by
 rw[fA,iJ,fh];by_cases e:j<ws.length
 ·rw[dF e,ah e];rfl
 ·rw[List.getElem?_append_right (by omega),List.getElem?_replicate,if_pos (by omega),List.getElem?_eq_none (l:=ws) (by omega)];rfl
theorem Kf{w:List UInt8}{ws:List (List UInt8)}{m j:Nat}{x:List UInt8}(h:ws[j]? =some x):((w::ws)++bF m [])[j+1]? =some x:=by
 rw[fA,iJ,dF (aZ.1 h).1,h]
theorem LL{ws:List (List UInt8)}{j:Nat}{a b:List UInt8}(d:ws[j]? =some a) (c:ws[j+1]? =some b):jy (ws.drop j)=(dz a,dz b)::jy (ws.drop (j+2)):=by
 have f:=(aZ.1 d);have e:=(aZ.1 c);obtain⟨i,rfl⟩:=f;obtain⟨g,rfl⟩:=e;rw[cF i,cF g,jy]
theorem N0{ws:List (List UInt8)}{j:Nat}(h:ws.length≤j+1):jy (ws.drop j)= []:=by
 have:(ws.drop j).length≤1:=by rw[aS];omega
 match ws.drop j,this with
 | [],_=>rfl
 | [_],_=>rfl
theorem LM{ws:List (List UInt8)}{j:Nat}{a b c:List UInt8}(e:ws[j]? =some a) (d:ws[j+1]? =some b) (g:ws[j+2]? =some c):jT (ws.drop j)=(dz a,dz b,dz c, !decide (b= [46]), !decide (c= [46]))::jT (ws.drop (j+3)):=by
 obtain⟨k,rfl⟩:=(aZ.1 e);obtain⟨i,rfl⟩:=(aZ.1 d);obtain⟨f,rfl⟩:=(aZ.1 g);rw[cF k,cF i,cF f,jT]
theorem N1{ws:List (List UInt8)}{j:Nat}(h:ws.length≤j+2):jT (ws.drop j)= []:=by
 have:(ws.drop j).length≤2:=by rw[aS];omega
 match ws.drop j,this with
 | [],_=>rfl
 | [_],_=>rfl
 | [_,_],_=>rfl
abbrev ZJ:TypeId:=pv
structure MkO(h0:ad)(rb ob Z:Nat)(h:ad)(d:OpD)(sp sc:SliceV):Prop where
 o:h[ob]? =some (.cells (gn (mo d sp sc)).toArray ZJ (0,0))
 r:h[rb]? =some (.cells (gn (rT 0)).toArray ZJ (0,0))
 ps:OwnS iZ 2 ln (fun y=>Z≤y) h sp d.ps
 cs:OwnS oX 5 ie (fun y=>Z≤y) h sc d.cs
 k:Upd No h0 h
section
variable {h0 h h':ad} {rb ob Z:Nat} {d d':OpD} {sp sc:SliceV} {M:Nat→Prop}
theorem MkO.up0(m:MkO h0 rb ob Z h d sp sc)(k:Upd No h h'):MkO h0 rb ob Z h' d sp sc:=⟨k.get0 m.o,k.get0 m.r,m.ps.upd k fun _ _ h=>h,m.cs.upd k fun _ _ h=>h,m.k.tr k⟩
theorem MkO.set(m:MkO h0 rb ob Z h d sp sc)(c:rb≠ob)(f:h0.size≤ob)(g:ob<Z){i:Nat}{v:Value}(hi:i<15)(e:(gn (mo d sp sc)).toArray.setIfInBounds i v=(gn (mo d' sp sc)).toArray)(e1:d'.ps=d.ps)(e2:d'.cs=d.cs){k:ad→Prop}(b:∀h',MkO h0 rb ob Z h' d' sp sc→Upd (· =ob) h h'→k h'):
  Wr h (adr ⟨ob,0,none⟩ i)∧At (hset h (adr ⟨ob,0,none⟩ i) v) k:=
 kP m.o hi e fun h' b' u=>b h' ⟨b',u.get m.r c,by rw[e1];exact m.ps.upd u fun y a e=>by have a:Z≤y:=a;have e:y=ob:=e;omega,by rw[e2];exact m.cs.upd u fun y a e=>by have a:Z≤y:=a;have e:y=ob:=e;omega,m.k.trans u fun y a=>.inr (by have a:y=ob:=a;omega)⟩ u
end
theorem Nc(a b:List UInt8):((aG a).toList==(aG b).toList)=decide (a=b):=by
 rw[di,decide_eq_decide];exact⟨fun e=>yQ e,fun e=>by rw[e]⟩
set_option maxHeartbeats 4000000 in
theorem NB{F:List UInt8}(hx:F.length≤10000){h:ad}{K:xm×Bool→ad→Prop}(hk:∀h' d sp sc,iq F=some d→Sl iZ 2 No h' sp d.ps→Sl oX 5 No h' sc d.cs→Upd No h h'→K (mo d sp sc,true) h')(hk0:iq F=none→∀h',Upd No h h'→K (rT 0,false) h'):
  HC PG uJ [.string (aG F)] [.agg [.int .i64,.str,.str,.str,.str,.int .u32,.int .u32,.int .i64,.int .i64,.bool,.str,.str,.bool,.slice,.slice],.c .bool] K h:=by
 refine OZ (aG F) ?_;unfold FG bi cU ao bC ag aX aI eX nv MM JI bM ic eu rO my W9;refine nP fun h1 b1 k1=>Nz (by rw[cu];omega) fun O e2 ow k3=>?_
 rw[show(aG F).data.toList=F from by simp]at ow
 have z1:=bB b1;have z3:=k3.size;have hcl:=C7 32 F;obtain⟨w,ws,hcut⟩:∃w ws,ix 32 F=w::ws:=by
  cases e:ix 32 F with
  |nil=>exact absurd e (GB 32 F)
  |cons w ws=>exact⟨w,ws,rfl⟩
 rw[hcut]at ow hcl;have hwl:∀x∈ws,x.length≤10000:=fun x hx'=>by have:=hcl.2 x (aK _ hx');omega
 have hwn:ws.length≤10000:=by have:=hcl.1;simp only[ay]at this;omega
 have hlen:e2.len=ws.length+1:=ow.len;have g:∀j,(ws.getD j []).length≤10000:=fun j=>by
  rw[fh];cases e:ws[j]? with
  |none=>exact aV _
  |some x=>exact hwl x (bf e)
 refine nP fun h4 b4 k4=>cS (c:=gn (rT 0)) (vs:=gn (rT (-1))) b4 rfl fun h5 b5 u5=>Hl fun h7 ns hns hnl k7=>?_
 have k35:Upd No O h5:=k4.own u5 (av _);have B:h.size≤O.size:=by have:=k1.size;omega
 have z:h.size≠O.size:=by omega
 have z5:=bB b5;have owM:OwnS Cm 1 bR (fun y=>h1.size≤y∧y≠O.size) h7 e2 (w::ws):=((ow.its.more fun y A=>⟨(ow.sub y A).1,by have:=(ow.sub y A).2;omega⟩).upd k35 fun _ _ h=>h).upd k7 fun _ _ h=>h
 have m7:MkO h h.size O.size (O.size+1) h7 (d0 (-1)) eH eH:=⟨k7.get0 b5,(k35.tr k7).get0 (k3.get0 b1),OwnS.nil fR,OwnS.nil kH,(((k1.tr k3).tr k35).tr k7)⟩;refine LoopP.ghost (fun(Y:Nat×Int) (t:Int) h'=>t=(Y.1:Int)∧Y.1≤26∧((Y.2= -1∧∀f∈formsL.take Y.1,f.2.1≠w)∨∃f∈formsL,f.2.1=w∧Y.2=f.1)∧MkO h h.size O.size (O.size+1) h' (d0 Y.2) eH eH∧Upd (· =O.size) h7 h') (fun Y=>26-Y.1) (0,-1) ⟨rfl,aV _,.inl ⟨rfl,fun f hf=>by cases hf⟩,m7,Upd.refl _ _⟩ ?_
 rintro I ⟨n,p⟩ t h10 ⟨rfl,hn,hkk,m10,u10⟩ hI;simp only at hn hkk m10;refine aF (fun hlt=>Join.plain ?_) fun hge=>?_
 ·have hlt:n<26:=by have:(n:Int)<(ns.len:Int):=hlt;omega
  obtain⟨f,hfi,hfk,hnm,hfm⟩:=Oj ⟨n,hlt⟩;simp only at hfi hfk hnm;obtain⟨a,N,_,hv⟩:=(hns.upd u10 fun y A=>.inl (by have A:y=O.size:=A;show y<h5.size;omega)).at0 (g:=fun w=>Value.string (aG w)) hnm
  obtain⟨a2,ha2,_,hv2⟩:=((owM.upd u10 fun y A e=>A.2 e).sl (W:=No) fun _ _ _ h=>h).at0 (g:=fun w=>Value.string (aG w)) (i:=0) (x:=w) rfl
  have next:∀h' kk',((kk'= -1∧∀f∈formsL.take (n+1),f.2.1≠w)∨∃f∈formsL,f.2.1=w∧kk'=f.1)→MkO h h.size O.size (O.size+1) h' (d0 kk') eH eH→Upd (· =O.size) h7 h'→I (ac .i64 ((n:Int)+1)) h':=fun h' kk' q m u=>by
   rw[cM hlt (by omega)];exact hI (n+1,kk') _ _ ⟨rfl,hlt,q,m,u⟩ (by simp only;omega)
  refine⟨⟨by omega,by omega⟩,a,N,_,by rw[ak];exact hv,⟨by omega,by omega⟩,a2,ha2,_,hv2,?_⟩
  rw[Nc];refine aF (fun e=>m10.set z B (Nat.lt_succ_self _) (d':=d0 f.1) (by decide) (by rw[hfk];rfl) rfl rfl fun h11 m11 u11=>next h11 f.1 (.inr ⟨f,hfm,e,rfl⟩) m11 (u10.tr u11)) fun e=>next h10 p (hkk.imp (fun q=>⟨q.1,fun g' hg=>?_⟩) id) m10 u10
  have htk:formsL.take (n+1)=formsL.take n++ [f]:=by rw[iI,hfi];rfl
  rw[htk]at hg;rcases bD.1 hg with hg|hg
  ·exact q.2 g' hg
  ·rw[aO.1 hg];exact e
 have hn:n=26:=by have:¬(n:Int)<(ns.len:Int):=hge;omega
 subst hn;have hkk:(p= -1∧∀f∈formsL,f.2.1≠w)∨∃f∈formsL,f.2.1=w∧p=f.1:=hkk;clear hI I;have ow10:=owM.upd u10 fun y A e=>A.2 e
 have z10:=u10.size;refine LoopP.ghost (fun(m:Nat) (t:SliceV) h'=>(m=0∨ws.length+1+m≤4)∧OwnS Cm 1 bR (fun y=>h1.size≤y∧y≠O.size) h' t ((w::ws)++bF m [])∧MkO h h.size O.size (O.size+1) h' (d0 p) eH eH∧h10.size≤h'.size) (fun m=>4-(ws.length+1+m)) 0 ⟨.inl rfl,by simpa using ow10,m10,av _⟩ ?_
 rintro I m t20 C ⟨hm,o20,G,z21⟩ hI;have ht20:=o20.len;simp only[aj,ay,List.length_replicate]at ht20;refine aF (fun hlt=>?_) fun hge=>?_
 ·have hlt:ws.length+1+m<4:=by have:(t20.len:Int)<4:=hlt;omega
  have z57:=k7.size;refine Ig (w:= []) rfl o20 (fun y A=>by omega) (by simp only[aj,ay,List.length_replicate];omega) fun s' h' o u=>hI (m+1) s' h' ⟨.inr (by omega),?_,?_,aU z21 u.size⟩ (by omega)
  ·rw[List.replicate_succ',←aM];exact o
  ·exact⟨u.get G.o fun e=>e.2 rfl,u.get G.r fun e=>by have:=e.1;omega,OwnS.nil fR,OwnS.nil kH,G.k.trans u fun y A=>.inr (by have:=A.1;omega)⟩
 have Q:O.size<C.size:=bB G.o;have G:MkO h h.size O.size C.size C (d0 p) eH eH:=⟨G.o,G.r,OwnS.nil fR,OwnS.nil kH,G.k⟩;have h4m:4≤ws.length+1+m:=by have:¬(t20.len:Int)<4:=hge;omega
 have hl4:4≤t20.len:=by omega
 clear hI I;obtain⟨a,N,hw0⟩:∃a,t20.a=some a∧∀h',Upd (fun y=>y=O.size∨C.size≤y) C h'→∀j x,((w::ws)++bF m [])[j]? =some x→aD h' (adr a (j*1))=some (.string (aG x)):=by
  have hs:=o20.sl (W:=fun y=>y=O.size∨C.size≤y) fun y A hlt e=>by
   rcases e with e|e
   ·exact A.2 e
   ·omega
  obtain⟨a,N,_,_⟩:=hs.row (by simp);refine⟨a,N,fun h' u j x hj=>?_⟩
  obtain⟨a',ha',_,hv⟩:=(hs.upd u fun y A=>.inl A).at0 (g:=fun w=>Value.string (aG w)) hj
  rw[N]at ha';cases ha';exact hv
 have p1:=Vs (w:=w) h4m (j:=0) (by omega);have p2:=Vs (w:=w) h4m (j:=1) (by omega);have p3:=Vs (w:=w) h4m (j:=2) (by omega);have g1:=g 0;have g2:=g 1;have g3:=g 2;generalize hv1:ws.getD 0 []=x1 at p1 g1;generalize hv2:ws.getD 1 []=x2 at p2 g2;generalize hv3:ws.getD 2 []=x3 at p3 g3;have k:∀{h'},Upd (fun y=>y=O.size∨C.size≤y) C h'→∀j x,((w::ws)++bF m [])[j]? =some x→aD h' (adr a (j*1))=some (.string (aG x)):=fun u=>hw0 _ u
 refine Join.intro (fun(_:Unit) h'=>∃sp sc,MkO h h.size O.size C.size h' (cB p ws) sp sc) (fun J hJ=>?_) ?_
 rotate_left
 ·rintro _ h' ⟨sp,sc,mm⟩
  refine Join.intro (fun(t:Bool) h''=>MkO h h.size O.size C.size h'' (cB p ws) sp sc∧t= !(iq F).isSome∧(t=false→iq F=some (cB p ws))) (fun R hR=>⟨_,vc mm.o 0,?_⟩) ?_
  rotate_left
  ·rintro t h'' ⟨m2,ht,hs⟩
   have m2':=m2;refine CondP.intro (fun e=>?_) fun e=>?_
   ·refine cS (c:=gn (rT 0)) (vs:=gn (rT 0)) m2.r rfl fun h3' b3' u3'=>tA b3' (hk0 ?_ h3' ?_)
    ·rw[e]at ht
     cases e2:iq F with
     |none=>rfl
     |some d=>rw[e2]at ht;cases ht
    ·exact m2.k.trans u3' fun y A=>.inr (by have A:y=h.size:=A;omega)
   ·refine tA m2.o (cS (c:=gn (rT 0)) (vs:=gn (mo (cB p ws) sp sc)) m2.r rfl fun h3' b3' u3'=>tA b3' (hk h3' _ sp sc (hs e) ?_ ?_ ?_))
    ·exact(m2.ps.sl (W:=fun y=>y=h.size) fun y A _ e=>by have A:C.size≤y:=A;have e:y=h.size:=e;omega).upd u3' (fun y A=>.inl A)|>.less fun _ h=>h.elim
    ·exact(m2.cs.sl (W:=fun y=>y=h.size) fun y A _ e=>by have A:C.size≤y:=A;have e:y=h.size:=e;omega).upd u3' (fun y A=>.inl A)|>.less fun _ h=>h.elim
    ·exact m2.k.trans u3' fun y A=>.inr (by have A:y=h.size:=A;omega)
  ·rcases hkk with⟨rfl,hno⟩|⟨f,hfm,hfw,hfk⟩
   ·have hlk:(cB (-1) ws).k= -1:=rfl
    refine aF (fun e=>hR _ _ ⟨mm,?_,fun e=>by cases e⟩) fun e=>absurd (show(mo (cB (-1) ws) sp sc).1<0 by show(cB (-1) ws).k<0;rw[hlk];decide) e
    have:iq F=none:=by
     unfold iq;rw[hcut];simp only;rw[List.find?_eq_none.2 fun f hf=>by simpa using hno f hf]
    rw[this];rfl
   ·have hlk:(cB p ws).k=p:=XJ p ws
    have h0:0≤p:=by
     have h26:∀f∈formsL,0≤f.1:=by decide+kernel
     rw[hfk];exact h26 f hfm
    refine aF (fun e=>absurd e (show ¬(cB p ws).k<0 by rw[hlk];omega)) fun _=>tA mm.o ?_
    have sm:=Fc p (ws:=ws) (fun x hx'=>by have:=hwl x hx';omega) (by omega)
    refine He (d:=cB p ws) sm (mm.ps.sl (W:=No) fun _ _ _ h=>h) (mm.cs.sl (W:=No) fun _ _ _ h=>h) fun h8 k8=>hR _ _ ⟨mm.up0 k8,?_⟩
    have hpR:iq F=if jQ (cB p ws)=some F then some (cB p ws)else none:=by
     rw[←Tk];unfold LB;rw[hcut];simp only;rw[←hfw,LZ hfm];simp only;rw[hfk]
    have hne:F≠[]:=fun e=>by
     rw[e]at hcut;have:w= []:=by cases hcut;rfl
     have:=(Ew f hfm).2.2;rw[hfw]at this;contradiction
    rw[Nc,hpR];by_cases ht:jQ (cB p ws)=some F
    ·rw[ht,if_pos rfl];exact⟨by simp,fun _=>rfl⟩
    ·rw[if_neg ht]
     have:¬((jQ (cB p ws)).getD []=F):=fun e=>by
      cases e2:jQ (cB p ws)with
      |none=>rw[e2]at e;exact hne e.symm
      |some l=>rw[e2]at e ht;exact ht (by rw[←e];rfl)
     rw[decide_eq_false this];exact⟨rfl,fun e=>by cases e⟩
 have P:∀{h':ad} {D:OpD} {sp sc:SliceV},cB p ws=D→MkO h h.size O.size C.size h' D sp sc→J () h':=fun{h' D sp sc} X mm=>hJ _ _ ⟨sp,sc,by rw[X];exact mm⟩
 clear hJ;refine⟨p,vc G.o 0,aae ((CondP.intro (fun e0=>?_) fun e0=>N7 ((CondP.intro (fun e1=>?_) fun e1=>CondP.intro (fun e4=>?_) fun e4=>CondP.intro (fun e5=>?_) fun e5=>CondP.intro (fun e6=>?_) fun e6=>CondP.intro (fun e8=>?_) fun e8=>CondP.intro (fun e10=>?_) fun e10=>N7 ((CondP.intro (fun e11=>?_) fun e11=>CondP.intro (fun e12=>?_) fun e12=>CondP.intro (fun e13=>?_) fun e13=>CondP.intro (fun e15=>?_) fun e15=>N7 ((CondP.intro (fun e16=>?_) fun e16=>N7 ((CondP.intro (fun e18=>?_) fun e18=>CondP.intro (fun e19=>?_) fun e19=>CondP.intro (fun e21=>?_) fun e21=>CondP.intro (fun e22=>?_) fun e22=>?_))))))))))⟩
 ·have X:cB p ws={d0 p with b:=aG x1,i:=ac .u32 (fu x2)}:=by
   rcases(by simpa using e0:p=0∨p=2∨p=7)with q|q|q<;>(rw[q,←hv1,←hv2];rfl)
  refine⟨⟨by omega,by omega⟩,a,N,aG x1,k (Upd.refl _ _) 1 x1 p1,⟨⟨by omega,by omega⟩,a,N,aG x2,k (Upd.refl _ _) 2 x2 p2,jh (by omega) (⟨k (Upd.refl _ _) 1 x1 p1,G.set z B Q (d':={d0 p with b:=aG x1}) (by decide) rfl rfl rfl fun V T u31=>T.set z B Q (d':={d0 p with b:=aG x1,i:=ac .u32 (fu x2)}) (by decide) rfl rfl rfl fun U H u32=>P X H⟩)⟩⟩
 ·have X:cB p ws={d0 p with b:=aG x1}:=by
   rcases(by simpa using e1:p=1∨p=3)with q|q<;>(rw[q,←hv1];rfl)
  refine⟨⟨by omega,by omega⟩,a,N,aG x1,k (Upd.refl _ _) 1 x1 p1,G.set z B Q (d':={d0 p with b:=aG x1}) (by decide) rfl rfl rfl fun V T u31=>P X T⟩
 ·have X:cB p ws={d0 p with b:=aG x1,key:=dz x2,v:=dz x3}:=by
   have q:p=4:=by simpa using e4
   rw[q,←hv1,←hv2,←hv3];rfl
  refine⟨⟨by omega,by omega⟩,a,N,aG x1,k (Upd.refl _ _) 1 x1 p1,⟨⟨by omega,by omega⟩,a,N,aG x2,k (Upd.refl _ _) 2 x2 p2,⟨⟨by omega,by omega⟩,a,N,aG x3,k (Upd.refl _ _) 3 x3 p3,gU (by omega) fun V E=>⟨k (E.wide) 3 x3 p3,⟨k (E.wide) 1 x1 p1,gU (by omega) fun U k32=>⟨k ((E.wide).tr k32.wide) 1 x1 p1,((G.up0 E).up0 k32).set z B Q (d':={d0 p with b:=aG x1}) (by decide) rfl rfl rfl fun Z L u33=>L.set z B Q (d':={d0 p with b:=aG x1,key:=dz x2}) (by decide) rfl rfl rfl fun h34 S u34=>S.set z B Q (d':={d0 p with b:=aG x1,key:=dz x2,v:=dz x3}) (by decide) rfl rfl rfl fun h35 m35 u35=>P X m35⟩⟩⟩⟩⟩⟩
 ·have X:cB p ws={d0 p with b:=aG x1,key:=dz x2}:=by
   have q:p=5:=by simpa using e5
   rw[q,←hv1,←hv2];rfl
  refine⟨⟨by omega,by omega⟩,a,N,aG x1,k (Upd.refl _ _) 1 x1 p1,⟨⟨by omega,by omega⟩,a,N,aG x2,k (Upd.refl _ _) 2 x2 p2,gU (by omega) fun V E=>⟨k (E.wide) 1 x1 p1,(G.up0 E).set z B Q (d':={d0 p with b:=aG x1}) (by decide) rfl rfl rfl fun U H u32=>H.set z B Q (d':={d0 p with b:=aG x1,key:=dz x2}) (by decide) rfl rfl rfl fun Z L u33=>P X L⟩⟩⟩
 ·have q:p=6:=by simpa using e6
  refine⟨⟨by omega,by omega⟩,a,N,aG x1,k (Upd.refl _ _) 1 x1 p1,G.set z B Q (d':={d0 p with b:=aG x1}) (by decide) rfl rfl rfl fun h30 m30 u30=>?_⟩
  have z30:=u30.size;rw[show ac .i64 ((e2.len:Int)-1)=(ws.length:Int)from by rw[hlen,kO (by omega)];omega]
  refine LoopP.ghost (fun(Y:Nat×List Pr) (t:Int) h'=>t=((2+2*Y.1:Nat):Int)∧Y.2.length=Y.1∧2*Y.1≤ws.length∧Y.2++jy (ws.drop (1+2*Y.1))=jy (ws.drop 1)∧(∃sp,MkO h h.size O.size C.size h' {d0 p with b:=aG x1,ps:=Y.2} sp eH)∧Upd (fun y=>y=O.size∨C.size≤y) C h') (fun Y=>ws.length-2*Y.1) (0,[]) ⟨rfl,rfl,aV _,rfl,⟨eH,m30⟩,u30.mono fun y A=>.inl (.inl A)⟩ ?_
  rintro I ⟨n,acc⟩ t h' ⟨rfl,hacc,h2n,hap,⟨sp,mm⟩,uu⟩ hI;simp only at hacc h2n hap mm;have ew:ac .i64 (((2+2*n:Nat):Int)+1)=((2+2*n+1:Nat):Int):=by rw[kO (by omega)];omega
  rw[ew];refine aF (fun hlt=>Join.plain ?_) fun hge=>?_
  ·have hlt:2+2*n+1≤ws.length:=by omega
   obtain⟨a1,q1⟩:∃x,ws[1+2*n]? =some x:=⟨_,ah (by omega)⟩;obtain⟨a2,q2⟩:∃x,ws[1+2*n+1]? =some x:=⟨_,ah (by omega)⟩;have l1:=hwl _ (bf q1);have l2:=hwl _ (bf q2);have w1:=Kf (w:=w) (m:=m) q1;have w2:=Kf (w:=w) (m:=m) q2;rw[show 1+2*n+1=2+2*n by omega]at w1
   rw[show 1+2*n+1+1=2+2*n+1 by omega]at w2
   simp only[ak];refine⟨sp,vc mm.o 13,⟨by omega,by omega⟩,a,N,aG a1,k uu _ _ w1,⟨by omega,by omega⟩,a,N,aG a2,k uu _ _ w2,gU (by omega) fun V E=>⟨k (uu.tr E.wide) _ _ w2,vc (E.get0 mm.o) 13,gU (by omega) fun U k32=>?_⟩⟩
   have H:=(mm.up0 E).up0 k32;have z32:=bB H.o;refine⟨vc H.o 13,nP fun Z b33 k33=>⟨vc (k33.get0 H.o) 13,?_⟩⟩
   have L:=H.up0 k33;have z33:=k33.size;have zz:=uu.size;have z31:=E.size;have z32':=k32.size;have o1:OwnS iZ 2 ln (fun _=>True) Z ⟨some (aH U),1,1⟩ [(dz a1,dz a2)]:=⟨rfl,fR,av _,.inr ⟨U.size,[],rfl,trivial,b33,rfl⟩⟩
   refine⟨_,(o1.sl (W:=No) fun _ _ _ h=>h).srow,AppP.own (ys:= [(dz a1,dz a2)]) L.ps rfl rfl rfl rfl (by omega) (by show(acc.length+1)*32≤_;omega) (show C.size≤Z.size by omega) fun s' h34 o34 u34=>?_⟩
   have c34:=u34.get L.o (show ¬C.size≤O.size by omega)
   refine kP (c':=(gn (mo {d0 p with b:=aG x1,ps:=acc++ [(dz a1,dz a2)]} s' eH)).toArray) c34 (by simp) rfl fun h35 b35 u35=>?_
   show I (ac .i64 (((2+2*n:Nat):Int)+2)) h35
   rw[show ac .i64 (((2+2*n:Nat):Int)+2)=((2+2*(n+1):Nat):Int)from by rw[kO (by omega)];omega]
   refine hI (n+1,acc++ [(dz a1,dz a2)]) _ _ ⟨rfl,by simp[hacc],by simp only;omega,?_,⟨s',⟨b35,u35.get (u34.get L.r (show ¬C.size≤h.size by omega)) z,o34.upd u35 fun y A e=>by have A:C.size≤y:=A;have e:y=O.size:=e;omega,OwnS.nil kH,(L.k.trans u34 fun y A=>.inr (by have A:C.size≤y:=A;omega)).trans u35 fun y A=>.inr (by have A:y=O.size:=A;omega)⟩⟩,?_⟩ (by simp only;omega)
   ·rw[aM,←hap]
    have:=LL q1 q2;rw[show 1+2*n+2=1+2*(n+1) by omega]at this
    rw[this];rfl
   ·exact((((uu.tr E.wide).tr k32.wide).tr k33.wide).tr (u34.mono fun y A=>.inl (.inr A))).tr (u35.mono fun y A=>.inl (.inl A))
  ·have hge:ws.length≤1+2*n+1:=by omega
   rw[N0 hge,cE]at hap;refine P (D:={d0 p with b:=aG x1,ps:=acc}) ?_ mm;rw[hap,←hv1,q];rfl
 ·have X:cB p ws={d0 p with b:=aG x1,o:=aG x2,w:=ac .i64 (fu x3)}:=by
   have q:p=8:=by simpa using e8
   rw[q,←hv1,←hv2,←hv3];rfl
  refine⟨⟨by omega,by omega⟩,a,N,aG x1,k (Upd.refl _ _) 1 x1 p1,⟨⟨by omega,by omega⟩,a,N,aG x2,k (Upd.refl _ _) 2 x2 p2,⟨⟨by omega,by omega⟩,a,N,aG x3,k (Upd.refl _ _) 3 x3 p3,jh (by omega) (⟨k (Upd.refl _ _) 2 x2 p2,⟨k (Upd.refl _ _) 1 x1 p1,G.set z B Q (d':={d0 p with b:=aG x1}) (by decide) rfl rfl rfl fun V T u31=>⟨k ((u31.mono fun y A=>.inl (.inl A))) 2 x2 p2,T.set z B Q (d':={d0 p with b:=aG x1,o:=aG x2}) (by decide) rfl rfl rfl fun U H u32=>H.set z B Q (d':={d0 p with b:=aG x1,o:=aG x2,w:=ac .i64 (fu x3)}) (by decide) rfl rfl rfl fun Z L u33=>P X L⟩⟩⟩)⟩⟩⟩
 ·have X:cB p ws={d0 p with i:=ac .u32 (fu x1),key:=dz x2}:=by
   have q:p=10:=by simpa using e10
   rw[q,←hv1,←hv2];rfl
  refine⟨⟨by omega,by omega⟩,a,N,aG x1,k (Upd.refl _ _) 1 x1 p1,⟨⟨by omega,by omega⟩,a,N,aG x2,k (Upd.refl _ _) 2 x2 p2,jh (by omega) (⟨k (Upd.refl _ _) 2 x2 p2,gU (by omega) fun V E=>(G.up0 E).set z B Q (d':={d0 p with i:=ac .u32 (fu x1)}) (by decide) rfl rfl rfl fun U H u32=>H.set z B Q (d':={d0 p with i:=ac .u32 (fu x1),key:=dz x2}) (by decide) rfl rfl rfl fun Z L u33=>P X L⟩)⟩⟩
 ·have X:cB p ws={d0 p with i:=ac .u32 (fu x1)}:=by
   rcases(by simpa using e11:p=11∨p=14)with q|q<;>(rw[q,←hv1];rfl)
  refine⟨⟨by omega,by omega⟩,a,N,aG x1,k (Upd.refl _ _) 1 x1 p1,jh (by omega) (G.set z B Q (d':={d0 p with i:=ac .u32 (fu x1)}) (by decide) rfl rfl rfl fun V T u31=>P X T)⟩
 ·have X:cB p ws={d0 p with i:=ac .u32 (fu x1),t:=ac .u32 (fu x2)}:=by
   have q:p=12:=by simpa using e12
   rw[q,←hv1,←hv2];rfl
  refine⟨⟨by omega,by omega⟩,a,N,aG x1,k (Upd.refl _ _) 1 x1 p1,⟨⟨by omega,by omega⟩,a,N,aG x2,k (Upd.refl _ _) 2 x2 p2,jh (by omega) (⟨k (Upd.refl _ _) 2 x2 p2,jh (by omega) (G.set z B Q (d':={d0 p with i:=ac .u32 (fu x1)}) (by decide) rfl rfl rfl fun V T u31=>T.set z B Q (d':={d0 p with i:=ac .u32 (fu x1),t:=ac .u32 (fu x2)}) (by decide) rfl rfl rfl fun U H u32=>P X H)⟩)⟩⟩
 ·have q:p=13:=by simpa using e13
  refine⟨⟨by omega,by omega⟩,a,N,aG x1,k (Upd.refl _ _) 1 x1 p1,G.set z B Q (d':={d0 p with b:=aG x1}) (by decide) rfl rfl rfl fun h30 m30 u30=>?_⟩
  have z30:=u30.size;rw[show ac .i64 ((e2.len:Int)-1)=(ws.length:Int)from by rw[hlen,kO (by omega)];omega]
  refine LoopP.ghost (fun(Y:Nat×List Ch) (t:Int) h'=>t=((2+3*Y.1:Nat):Int)∧Y.2.length=Y.1∧3*Y.1≤ws.length∧Y.2++jT (ws.drop (1+3*Y.1))=jT (ws.drop 1)∧(∃sc,MkO h h.size O.size C.size h' {d0 p with b:=aG x1,cs:=Y.2} eH sc)∧Upd (fun y=>y=O.size∨C.size≤y) C h') (fun Y=>ws.length-3*Y.1) (0,[]) ⟨rfl,rfl,aV _,rfl,⟨eH,m30⟩,u30.mono fun y A=>.inl (.inl A)⟩ ?_
  rintro I ⟨n,acc⟩ t h' ⟨rfl,hacc,h2n,hap,⟨sc,mm⟩,uu⟩ hI;simp only at hacc h2n hap mm;have ew:ac .i64 (((2+3*n:Nat):Int)+1)=((2+3*n+1:Nat):Int):=by rw[kO (by omega)];omega
  have ew2:ac .i64 (((2+3*n:Nat):Int)+2)=((2+3*n+2:Nat):Int):=by rw[kO (by omega)];omega
  rw[ew,ew2];refine aF (fun hlt=>Join.plain ?_) fun hge=>?_
  ·have hlt:2+3*n+2≤ws.length:=by omega
   obtain⟨a1,q1⟩:∃x,ws[1+3*n]? =some x:=⟨_,ah (by omega)⟩;obtain⟨a2,q2⟩:∃x,ws[1+3*n+1]? =some x:=⟨_,ah (by omega)⟩;obtain⟨a3,q3⟩:∃x,ws[1+3*n+2]? =some x:=⟨_,ah (by omega)⟩;have l1:=hwl _ (bf q1);have l2:=hwl _ (bf q2);have l3:=hwl _ (bf q3);have w1:=Kf (w:=w) (m:=m) q1;have w2:=Kf (w:=w) (m:=m) q2
   have w3:=Kf (w:=w) (m:=m) q3;rw[show 1+3*n+1=2+3*n by omega]at w1
   rw[show 1+3*n+1+1=2+3*n+1 by omega]at w2
   rw[show 1+3*n+2+1=2+3*n+2 by omega]at w3
   simp only[ak];have zz:=uu.size;refine⟨sc,vc mm.o 14,⟨by omega,by omega⟩,a,N,aG a1,k uu _ _ w1,⟨by omega,by omega⟩,a,N,aG a2,k uu _ _ w2,⟨by omega,by omega⟩,a,N,aG a3,k uu _ _ w3,⟨by omega,by omega⟩,a,N,aG a2,k uu _ _ w2,⟨by omega,by omega⟩,a,N,aG a3,k uu _ _ w3,gU (by omega) fun V E=>?_⟩
   have v31:=uu.tr E.wide;have T:=mm.up0 E;have z31:=E.size;refine⟨k v31 _ _ w3,k v31 _ _ w2,k v31 _ _ w3,k v31 _ _ w2,vc T.o 14,gU (by omega) fun U k32=>?_⟩
   have v32:=v31.tr k32.wide;have H:=T.up0 k32;have z32:=k32.size;refine⟨k v32 _ _ w3,k v32 _ _ w2,k v32 _ _ w3,vc H.o 14,gU (by omega) fun Z k33=>?_⟩
   have v33:=v32.tr k33.wide;have L:=H.up0 k33;have z33:=k33.size;refine⟨k v33 _ _ w3,k v33 _ _ w2,vc L.o 14,nP fun h34 b34 k34=>?_⟩
   have v34:=v33.tr k34.wide;have S:=L.up0 k34;have z34:=k34.size;have eB:∀x:List UInt8,(!((aG x).toList==(⟨#[46]⟩:ByteArray).toList))= !decide (x= [46]):=fun x=>by rw[show(⟨#[46]⟩:ByteArray)=aG [46]from rfl,Nc]
   rw[eB,eB]at b34;have o1:OwnS oX 5 ie (fun _=>True) h34 ⟨some (aH Z),1,1⟩ [(dz a1,dz a2,dz a3, !decide (a2= [46]), !decide (a3= [46]))]:=⟨rfl,kH,av _,.inr ⟨Z.size,[],rfl,trivial,b34,rfl⟩⟩
   refine⟨k v34 _ _ w3,k v34 _ _ w2,vc S.o 14,_,(o1.sl (W:=No) fun _ _ _ h=>h).srow,AppP.own (ys:= [(dz a1,dz a2,dz a3, !decide (a2= [46]), !decide (a3= [46]))]) S.cs rfl rfl rfl rfl (by omega) (by show(acc.length+1)*56≤_;omega) (show C.size≤h34.size by omega) fun s' h35 o35 u35=>?_⟩
   have c35:=u35.get S.o (show ¬C.size≤O.size by omega)
   have v35:=v34.tr (u35.mono fun y A=>.inl (.inr A))
   refine⟨k v35 _ _ w3,k v35 _ _ w2,kP (c':=(gn (mo {d0 p with b:=aG x1,cs:=acc++ [(dz a1,dz a2,dz a3, !decide (a2= [46]), !decide (a3= [46]))]} eH s')).toArray) c35 (by simp) rfl fun h36 b36 u36=>?_⟩
   show I (ac .i64 (((2+3*n:Nat):Int)+3)) h36
   rw[show ac .i64 (((2+3*n:Nat):Int)+3)=((2+3*(n+1):Nat):Int)from by rw[kO (by omega)];omega]
   refine hI (n+1,acc++ [(dz a1,dz a2,dz a3, !decide (a2= [46]), !decide (a3= [46]))]) _ _ ⟨rfl,by simp[hacc],by simp only;omega,?_,⟨s',⟨b36,u36.get (u35.get S.r (show ¬C.size≤h.size by omega)) z,OwnS.nil fR,o35.upd u36 fun y A e=>by have A:C.size≤y:=A;have e:y=O.size:=e;omega,(S.k.trans u35 fun y A=>.inr (by have A:C.size≤y:=A;omega)).trans u36 fun y A=>.inr (by have A:y=O.size:=A;omega)⟩⟩,v35.tr (u36.mono fun y A=>.inl (.inl A))⟩ (by simp only;omega)
   rw[aM,←hap];have:=LM q1 q2 q3;rw[show 1+3*n+3=1+3*(n+1) by omega]at this
   rw[this];rfl
  ·have hge:ws.length≤1+3*n+2:=by omega
   rw[N1 hge,cE]at hap;refine P (D:={d0 p with b:=aG x1,cs:=acc}) ?_ mm;rw[hap,←hv1,q];rfl
 ·have X:cB p ws={d0 p with s:=ac .i64 (fu x1),key:=dz x2,v:=dz x3}:=by
   have q:p=15:=by simpa using e15
   rw[q,←hv1,←hv2,←hv3];rfl
  refine⟨⟨by omega,by omega⟩,a,N,aG x1,k (Upd.refl _ _) 1 x1 p1,⟨⟨by omega,by omega⟩,a,N,aG x2,k (Upd.refl _ _) 2 x2 p2,⟨⟨by omega,by omega⟩,a,N,aG x3,k (Upd.refl _ _) 3 x3 p3,jh (by omega) (⟨k (Upd.refl _ _) 3 x3 p3,⟨k (Upd.refl _ _) 2 x2 p2,gU (by omega) fun V E=>⟨k (E.wide) 3 x3 p3,gU (by omega) fun U k32=>((G.up0 E).up0 k32).set z B Q (d':={d0 p with s:=ac .i64 (fu x1)}) (by decide) rfl rfl rfl fun Z L u33=>L.set z B Q (d':={d0 p with s:=ac .i64 (fu x1),key:=dz x2}) (by decide) rfl rfl rfl fun h34 S u34=>S.set z B Q (d':={d0 p with s:=ac .i64 (fu x1),key:=dz x2,v:=dz x3}) (by decide) rfl rfl rfl fun h35 m35 u35=>P X m35⟩⟩⟩)⟩⟩⟩
 ·have X:cB p ws={d0 p with s:=ac .i64 (fu x1),key:=dz x2}:=by
   rcases(by simpa using e16:p=16∨p=17)with q|q<;>(rw[q,←hv1,←hv2];rfl)
  refine⟨⟨by omega,by omega⟩,a,N,aG x1,k (Upd.refl _ _) 1 x1 p1,⟨⟨by omega,by omega⟩,a,N,aG x2,k (Upd.refl _ _) 2 x2 p2,jh (by omega) (⟨k (Upd.refl _ _) 2 x2 p2,gU (by omega) fun V E=>(G.up0 E).set z B Q (d':={d0 p with s:=ac .i64 (fu x1)}) (by decide) rfl rfl rfl fun U H u32=>H.set z B Q (d':={d0 p with s:=ac .i64 (fu x1),key:=dz x2}) (by decide) rfl rfl rfl fun Z L u33=>P X L⟩)⟩⟩
 ·have X:cB p ws={d0 p with s:=ac .i64 (fu x1)}:=by
   rcases(by simpa using e18:p=18∨p=20)with q|q<;>(rw[q,←hv1];rfl)
  refine⟨⟨by omega,by omega⟩,a,N,aG x1,k (Upd.refl _ _) 1 x1 p1,jh (by omega) (G.set z B Q (d':={d0 p with s:=ac .i64 (fu x1)}) (by decide) rfl rfl rfl fun V T u31=>P X T)⟩
 ·have X:cB p ws={d0 p with s:=ac .i64 (fu x1),b:=aG x2}:=by
   have q:p=19:=by simpa using e19
   rw[q,←hv1,←hv2];rfl
  refine⟨⟨by omega,by omega⟩,a,N,aG x1,k (Upd.refl _ _) 1 x1 p1,⟨⟨by omega,by omega⟩,a,N,aG x2,k (Upd.refl _ _) 2 x2 p2,jh (by omega) (⟨k (Upd.refl _ _) 2 x2 p2,G.set z B Q (d':={d0 p with s:=ac .i64 (fu x1)}) (by decide) rfl rfl rfl fun V T u31=>⟨k ((u31.mono fun y A=>.inl (.inl A))) 2 x2 p2,T.set z B Q (d':={d0 p with s:=ac .i64 (fu x1),b:=aG x2}) (by decide) rfl rfl rfl fun U H u32=>P X H⟩⟩)⟩⟩
 ·have X:cB p ws={d0 p with i:=ac .u32 (fu x1),key:=dz x2,w:=ac .i64 (fu x3)}:=by
   have q:p=21:=by simpa using e21
   rw[q,←hv1,←hv2,←hv3];rfl
  refine⟨⟨by omega,by omega⟩,a,N,aG x1,k (Upd.refl _ _) 1 x1 p1,⟨⟨by omega,by omega⟩,a,N,aG x2,k (Upd.refl _ _) 2 x2 p2,⟨⟨by omega,by omega⟩,a,N,aG x3,k (Upd.refl _ _) 3 x3 p3,jh (by omega) (⟨k (Upd.refl _ _) 3 x3 p3,⟨k (Upd.refl _ _) 2 x2 p2,gU (by omega) fun V E=>⟨k (E.wide) 3 x3 p3,jh (by omega) ((G.up0 E).set z B Q (d':={d0 p with i:=ac .u32 (fu x1)}) (by decide) rfl rfl rfl fun U H u32=>H.set z B Q (d':={d0 p with i:=ac .u32 (fu x1),key:=dz x2}) (by decide) rfl rfl rfl fun Z L u33=>L.set z B Q (d':={d0 p with i:=ac .u32 (fu x1),key:=dz x2,w:=ac .i64 (fu x3)}) (by decide) rfl rfl rfl fun h34 S u34=>P X S)⟩⟩⟩)⟩⟩⟩
 ·have q:p=22:=by simpa using e22
  refine⟨⟨by omega,by omega⟩,a,N,aG x1,k (Upd.refl _ _) 1 x1 p1,⟨by omega,by omega⟩,a,N,aG x2,k (Upd.refl _ _) 2 x2 p2,⟨by omega,by omega⟩,a,N,aG x3,k (Upd.refl _ _) 3 x3 p3,jh (by omega) ⟨k (Upd.refl _ _) 3 x3 p3,k (Upd.refl _ _) 2 x2 p2,gU (by omega) fun V E=>⟨k E.wide 3 x3 p3,(G.up0 E).set z B Q (d':={d0 p with i:=ac .u32 (fu x1)}) (by decide) rfl rfl rfl fun U H u32=>?_⟩⟩⟩
  have v32:Upd (fun y=>y=O.size∨C.size≤y) C U:=E.wide.tr (u32.mono fun y A=>.inl (.inl A))
  refine⟨k v32 3 x3 p3,H.set z B Q (d':={d0 p with i:=ac .u32 (fu x1),fr:=dz x2}) (by decide) rfl rfl rfl fun Z L u33=>?_⟩
  have v33:=v32.tr (u33.mono fun y A=>.inl (.inl A))
  have eS:((aG x3).toList==(⟨#[42]⟩:ByteArray).toList)=decide (x3= [42]):=Nc x3 [42];have eD:∀x:List UInt8,((aG x).toList==(⟨#[100,111,119,110]⟩:ByteArray).toList)=decide (x=iw):=fun x=>Nc x iw
  rw[eS];refine⟨k v33 3 x3 p3,L.set z B Q (d':={d0 p with i:=ac .u32 (fu x1),fr:=dz x2,op:=decide (x3= [42])}) (by decide) rfl rfl rfl fun h34 S u34=>?_⟩
  have v34:=v33.tr (u34.mono fun y A=>.inl (.inl A))
  have hwc:ac .i64 ((e2.len:Int)-1)=(ws.length:Int):=by rw[hlen,kO (by omega)];omega
  rw[hwc];refine Join.intro (fun(_:Unit) h'=>MkO h h.size O.size C.size h' {d0 p with i:=ac .u32 (fu x1),fr:=dz x2,op:=decide (x3= [42]),up:=(if x3= [42]then⟨#[]⟩else dz x3)} eH eH∧Upd (fun y=>y=O.size∨C.size≤y) C h') (fun R hR=>⟨decide (x3= [42]),vc S.o 12,?_⟩) ?_
  ·by_cases e:x3= [42]
   ·rw[decide_eq_true e]at S⊢
    rw[if_pos e,decide_eq_true e]at hR;exact af.2 (hR _ _ ⟨S,v34⟩)
   ·rw[decide_eq_false e]at S⊢
    rw[if_neg e,decide_eq_false e]at hR;refine aA.2 ⟨⟨by omega,by omega⟩,a,N,aG x3,k v34 3 x3 p3,gU (by omega) fun h35 k35=>(S.up0 k35).set z B Q (d':={d0 p with i:=ac .u32 (fu x1),fr:=dz x2,op:=false,up:=dz x3}) (by decide) rfl rfl rfl fun h36 m36 u36=>hR _ _ ⟨m36,(v34.tr k35.wide).tr (u36.mono fun y A=>.inl (.inl A))⟩⟩
  ·rintro _ h37 ⟨m37,v37⟩
   have X:∀bk:Bool,bk=(decide (ws.length=4)&&decide (ws.getD 3 []=iw))→cB p ws={d0 p with i:=ac .u32 (fu x1),fr:=dz x2,op:=decide (x3= [42]),up:=(if x3= [42]then⟨#[]⟩else dz x3),back:=bk}:=fun bk e=>by
    rw[e,q,←hv1,←hv2,←hv3];rfl
   refine CondP.intro (fun e=>?_) fun e=>?_
   ·have e:ws.length=4:=by
     have e:(ws.length:Int)=4:=by simpa using e
     omega
    obtain⟨x4,q4⟩:∃x,ws[3]? =some x:=⟨_,ah (by omega)⟩;have e4:ws.getD 3 []=x4:=by rw[fh,q4];rfl
    refine⟨⟨by omega,by omega⟩,a,N,aG x4,k v37 4 x4 (Kf q4),?_⟩
    rw[eD];exact m37.set z B Q (d':={d0 p with i:=ac .u32 (fu x1),fr:=dz x2,op:=decide (x3= [42]),up:=(if x3= [42]then⟨#[]⟩else dz x3),back:=decide (x4=iw)}) (by decide) rfl rfl rfl fun h38 m38 _=>P (X _ (by rw[e,e4];rfl)) m38
   ·have e:¬ws.length=4:=by
     intro e2;rw[e2]at e;cases e
    exact m37.set z B Q (d':={d0 p with i:=ac .u32 (fu x1),fr:=dz x2,op:=decide (x3= [42]),up:=(if x3= [42]then⟨#[]⟩else dz x3),back:=false}) (by decide) rfl rfl rfl fun h38 m38 _=>P (X _ (by rw[decide_eq_false e];rfl)) m38
 ·refine P ?_ G
  have q:¬(p=0∨p=2∨p=7)∧¬(p=1∨p=3)∧¬p=4∧¬p=5∧¬p=6∧¬p=8∧¬p=10∧¬(p=11∨p=14)∧¬p=12∧¬p=13∧¬p=15∧¬(p=16∨p=17)∧¬(p=18∨p=20)∧¬p=19∧¬p=21∧¬p=22:=by
   simp only[Bool.or_eq_false_iff,beq_eq_false_iff_ne]at e0 e1 e4 e5 e6 e8 e10 e11 e12 e13 e15 e16 e18 e19 e21 e22;omega
  obtain⟨q0,q1,q2,q3,q4,q5,q6,q7,q8,q9,q10,q11,q12,q13,q14,q15⟩:=q;unfold cB;rw[if_neg q0,if_neg q1,if_neg q2,if_neg q3,if_neg q4,if_neg q5,if_neg q6,if_neg q7,if_neg q8,if_neg q9,if_neg q10,if_neg q11,if_neg q12,if_neg q13,if_neg q14,if_neg q15]
end Go.Proofs
namespace Go.Proofs
open Go Go.Lift Go.RowKit
section
variable {W:Nat→Prop} {h:ad} {b ob:Nat} {s:rB} {d:OpD} {sp sc:SliceV}
theorem RU{b:Nat}(r:RdAt W h b s)(c:UInt8){J:Bool→ad→Prop}(k:J (decide (s.1.head? =some [c])) h):
  ∃a7:Addr,(some ⟨b,0,none⟩:Option Addr)=some a7∧∃v8:SliceV,aD h (adr a7 0)=some (.slice v8.a v8.len v8.cap)∧
    CondP (decide ((v8.len:Int)>(0:Int))) (
     ∃a9:Addr,(some ⟨b,0,none⟩:Option Addr)=some a9∧∃v10:SliceV,aD h (adr a9 0)=some (.slice v10.a v10.len v10.cap)∧
     (((0:Int)≤(0:Int)∧(0:Int)<((v10.len:Nat):Int))∧∃a11:Addr,v10.a=some a11∧
      ∃v12:ByteArray,aD h (adr a11 ((0:Int).toNat*1))=some (.string v12)∧
      J (v12.toList==(⟨#[c]⟩:ByteArray).toList) h)) (
     J false h):=by
 obtain⟨q,hc,j,n⟩:=r.ex;have d:=j.len;refine⟨_,rfl,q,vc hc 0,aF (fun e=>⟨_,rfl,q,vc hc 0,⟨by omega,by omega⟩,?_⟩) fun e=>?_⟩
 ·obtain⟨ws,ok⟩:=s
  cases ws with
  |nil=>simp only[bN]at d;omega
  |cons w rr=>
   obtain⟨a,m,_,f⟩:=j.at0 (g:=fun w=>Value.string (aG w)) (i:=0) (x:=w) rfl
   refine⟨a,m,aG w,f,?_⟩;rw[di,show decide (aG w=(⟨#[c]⟩:ByteArray))=decide ((w::rr).head? =some [c])from by
     rw[decide_eq_decide]
     exact⟨fun e=>congrArg some (yQ (a:=w) (b:= [c]) e),fun e=>by rw[bq.inj e]⟩]
   exact k
 ·obtain⟨ws,ok⟩:=s
  cases ws with
  |nil=>exact k
  |cons w r=>simp only[ay]at d;omega
theorem Nh(r:RdAt W h b s){K:ByteArray×Bool→ad→Prop}(a:∀h',RdAt W h' b (dH s).2→Upd (· =b) h h'→K (aG (dH s).1.1,(dH s).1.2) h'):HC PG lu [.pointer (some ⟨b,0,none⟩)] [.c .str,.c .bool] K h:=by
 refine Ca (some ⟨b,0,none⟩) ?_;unfold uk bi cU bW;unfold dH at a;refine Join.intro (fun(t:Bool) h'=>h'=h∧t=decide (s.1.head? =some [46])) (fun R g=>RU r 46 (J:=R) (g _ _ ⟨rfl,rfl⟩)) ?_
 rintro t h' ⟨rfl,rfl⟩;by_cases e:s.1.head? =some [46]
 ·rw[if_pos e]at a
  rw[decide_eq_true e];exact aA.2 (th r fun c _ d f=>a c d f)
 ·rw[if_neg e]at a
  rw[decide_eq_false e];exact af.2 (uD r fun c d f=>a c d f)
theorem MU{h:ad}{b i j:Nat}{c c':Array Value}{t:TypeId}{v:Value}{k:ad→Prop}(d:h[b]? =some (.cells c t (0,0))) (hi:i+j<c.size) (e:c.setIfInBounds (i+j) v=c') (f:∀h',h'[b]? =some (.cells c' t (0,0))→Upd (· =b) h h'→k h'):Wr h (adr (adr ⟨b,0,none⟩ i) j)∧At (hset h (adr (adr ⟨b,0,none⟩ i) j) v) k:=by
 rw[ci,ci,Nat.zero_add];exact⟨i5 d hi,vS d fun h' a g=>f h' (e▸a) g⟩
theorem UQ(r:RdAt W h b s)(A:h[ob]? =some (.cells (gn (mo d sp sc)).toArray aL (0,0))) (c:ob≠b) (n:W ob) {K:Unit→ad→Prop}
  (m:∀h',RdAt W h' b (uw 114 (s,d)).1→h'[ob]? =some (.cells (gn (mo (uw 114 (s,d)).2 sp sc)).toArray aL (0,0))→Upd (fun y=>y=b∨y=ob) h h'→K () h'):HC PG ce [.pointer (some ⟨b,0,none⟩),.pointer (some ⟨ob,0,none⟩),.int .i32 114] [] K h:=by
 refine dx (some ⟨b,0,none⟩) (some ⟨ob,0,none⟩) 114 ?_;unfold dd ag aX nv cI bM ic eu rO my bW wr jf;refine CondP.intro (fun e=>absurd e (by decide)) fun _=>CondP.intro (fun e=>absurd e (by decide)) fun _=>CondP.intro (fun e=>absurd e (by decide)) fun _=>CondP.intro (fun e=>absurd e (by decide)) fun _=>CondP.intro (fun e=>absurd e (by decide)) fun _=>CondP.intro (fun e=>absurd e (by decide)) fun _=>CondP.intro (fun e=>absurd e (by decide)) fun _=>CondP.intro (fun e=>absurd e (by decide)) fun _=>CondP.intro (fun _=>?_) fun e=>absurd e (by decide)
 refine B9 (some ⟨b,0,none⟩) (some ⟨ob,0,none⟩) ?_;unfold uj bi cU cI bM bW;have m:∀h',RdAt W h' b (wA (jS (bw s).2).2).2→h'[ob]? =some (.cells (gn (mo {d with fr:=aG (bw s).1,up:=(if(jS (bw s).2).1.2 then d.up else(jS (bw s).2).1.1),op:=(if(jS (bw s).2).1.2 then true else d.op),back:=(wA (jS (bw s).2).2).1} sp sc)).toArray aL (0,0))→Upd (fun y=>y=b∨y=ob) h h'→K () h':=m
 refine uD r fun h1 U N=>⟨_,rfl,MU (N.get A c) (by simp) rfl fun O b2 H=>?_⟩
 have w:=U.updO H c n;have D:=ya N H;generalize bw s=x1 at*;refine Join.intro (fun(_:Unit) h'=>RdAt W h' b (jS x1.2).2∧h'[ob]? =some (.cells (gn (mo {d with fr:=aG x1.1,up:=(if(jS x1.2).1.2 then d.up else(jS x1.2).1.1),op:=(if(jS x1.2).1.2 then true else d.op)} sp sc)).toArray aL (0,0))∧Upd (fun y=>y=b∨y=ob) h h') (fun R g=>Join.intro (fun(t:Bool) h'=>h'=O∧t=decide (x1.2.1.head? =some [42])) (fun R2 u=>RU w 42 (J:=R2) (u _ _ ⟨rfl,rfl⟩)) ?_) ?_
 ·rintro t h' ⟨rfl,rfl⟩
  unfold jS at g;by_cases e:x1.2.1.head? =some [42]
  ·rw[if_pos e]at g
   rw[decide_eq_true e];exact aA.2 (th w fun V _ p i=>⟨_,rfl,MU (i.get b2 c) (by simp) rfl fun h4 v j=>g _ _ ⟨p.updO j c n,v,D.tr (ya i j)⟩⟩)
  ·rw[if_neg e]at g
   rw[decide_eq_false e];exact af.2 (uD w fun V p i=>⟨_,rfl,MU (i.get b2 c) (by simp) rfl fun h4 v j=>g _ _ ⟨p.updO j c n,v,D.tr (ya i j)⟩⟩)
 ·rintro _ h5 ⟨r5,S,X⟩
  generalize jS x1.2=x2 at*;unfold wA at m;refine th r5 fun h6 _ Q L=>⟨_,rfl,kP (L.get S c) (by simp) rfl fun F Y E=>?_⟩
  have G:=Q.updO E c n;have T:=X.tr (ya L E);have I:∀l:List UInt8,((aG (cd x2.2).1).toList==(aG l).toList)=decide ((cd x2.2).1=l):=fun l=>by
   rw[di,decide_eq_decide];exact⟨fun e=>yQ e,fun e=>by rw[e]⟩
  have k:=I iw;have x:=I Gk;obtain⟨q,hc,_⟩:=G.ex;refine⟨_,rfl,_,vc hc 1,?_⟩;have f:∀o B:Bool,o=B→B=((cd x2.2).2.2&&(decide ((cd x2.2).1=Gk)||decide ((cd x2.2).1=iw)))→∃a,(some ⟨b,0,none⟩:Option Addr)=some a∧(Wr F (adr a 1)∧At (hset F (adr a 1) (.bool o)) (fun z=>K () z)):=fun o B e e2=>
   ⟨_,rfl,G.setOk e fun h8 r8 C=>m h8 (by rw[←e2];exact r8) (by
    have:=C.get Y c
    rw[this]
    have P:((aG (cd x2.2).1).toList==(aG iw).toList)=decide ((cd x2.2).1=iw):=k
    show some (Obj.cells (gn (mo {d with fr:=aG x1.1,up:=_,op:=_,back:=((aG (cd x2.2).1).toList==(aG iw).toList)} sp sc)).toArray aL (0,0))=_
    rw[P]) (T.trans C fun y Z=>.inl (.inl Z))⟩
  refine CondP.intro (fun e=>?_) fun e=>f _ _ rfl ?_
  ·show CondP ((aG (cd x2.2).1).toList==(aG Gk).toList) _ _
   rw[x];refine aF (fun e2=>f _ _ rfl ?_) fun e2=>f _ _ k ?_
   ·rw[e,decide_eq_true e2];rfl
   ·rw[e,decide_eq_false e2];rfl
  ·rw[e];rfl
theorem qr(s:rB):(cd s).2.1.length≤s.1.length-1:=by
 obtain⟨ws,ok⟩:=s;cases ws<;>simp[cd]
theorem wB(s:rB):(bw s).2.1.length≤s.1.length-1:=qr s
theorem G9(s:rB):(dH s).2.1.length≤s.1.length-1:=by
 unfold dH;split
 ·exact qr s
 ·exact wB s
theorem R0(r:RdAt W h b s){J:Bool→ad→Prop}(c:J (decide (s.1≠[]∧s.2=true)) h):
  ∃a39:Addr,(some ⟨b,0,none⟩:Option Addr)=some a39∧∃v40:SliceV,aD h (adr a39 0)=some (.slice v40.a v40.len v40.cap)∧
   CondP (decide ((v40.len:Int)>(0:Int))) (
    ∃a41:Addr,(some ⟨b,0,none⟩:Option Addr)=some a41∧∃v42:Bool,aD h (adr a41 1)=some (.bool v42)∧J v42 h) (
    J false h):=by
 obtain⟨q,hc,d,_⟩:=r.ex;have a:=d.len;refine⟨_,rfl,q,vc hc 0,aF (fun e=>⟨_,rfl,s.2,vc hc 1,?_⟩) fun e=>?_⟩
 ·have:s.1≠[]:=fun e2=>by rw[e2]at a;simp at a;omega
  cases e2:s.2 with
  |true=>rw[decide_eq_true ⟨this,e2⟩]at c;exact c
  |false=>rw[decide_eq_false (fun h=>by rw[e2]at h;cases h.2)]at c;exact c
 ·have:s.1= []:=bp.1 (by omega)
  rw[decide_eq_false (fun h=>h.1 this)]at c;exact c
theorem SQ(r:RdAt W h b s)(p:h[ob]? =some (.cells (gn (mo d eH eH)).toArray aL (0,0))) (o:d.ps= []) (i:ob≠b) (hW:W ob) (L:∀y,h.size≤y→W y) (hn:s.1.length≤1000000) {K:Unit→ad→Prop}
  (w:∀h' sp,RdAt W h' b (uw 112 (s,d)).1→h'[ob]? =some (.cells (gn (mo (uw 112 (s,d)).2 sp eH)).toArray aL (0,0))→OwnS iZ 2 ax (fun y=>h.size≤y) h' sp (uw 112 (s,d)).2.ps→Upd (fun y=>y=b∨y=ob) h h'→K () h'):HC PG ce [.pointer (some ⟨b,0,none⟩),.pointer (some ⟨ob,0,none⟩),.int .i32 112] [] K h:=by
 refine dx (some ⟨b,0,none⟩) (some ⟨ob,0,none⟩) 112 ?_;unfold dd ag aX nv cI bM ic eu rO my bW wr jf;refine CondP.intro (fun e=>absurd e (by decide)) fun _=>CondP.intro (fun e=>absurd e (by decide)) fun _=>CondP.intro (fun e=>absurd e (by decide)) fun _=>CondP.intro (fun e=>absurd e (by decide)) fun _=>CondP.intro (fun e=>absurd e (by decide)) fun _=>CondP.intro (fun e=>absurd e (by decide)) fun _=>CondP.intro (fun e=>absurd e (by decide)) fun _=>CondP.intro (fun e=>absurd e (by decide)) fun _=>CondP.intro (fun e=>absurd e (by decide)) fun _=>CondP.intro (fun _=>?_) fun e=>absurd e (by decide)
 have w:∀h' sp,RdAt W h' b (gl s.1.length s d.ps).1→h'[ob]? =some (.cells (gn (mo {d with ps:=(gl s.1.length s d.ps).2} sp eH)).toArray aL (0,0))→OwnS iZ 2 ax (fun y=>h.size≤y) h' sp (gl s.1.length s d.ps).2→Upd (fun y=>y=b∨y=ob) h h'→K () h':=w
 have zb:=r.lt;have zo:=bB p;refine LoopP.ghost (fun(g:Nat×rB×List Pr) (_:Unit) h'=>gl g.1 g.2.1 g.2.2=gl s.1.length s d.ps∧g.2.1.1.length≤g.1∧g.2.2.length+g.1≤1000000∧RdAt W h' b g.2.1∧(∃sp,h'[ob]? =some (.cells (gn (mo {d with ps:=g.2.2} sp eH)).toArray aL (0,0))∧OwnS iZ 2 ax (fun y=>h.size≤y) h' sp g.2.2)∧Upd (fun y=>y=b∨y=ob∨h.size≤y) h h') (fun g=>g.1) (s.1.length,s,d.ps) ⟨rfl,av _,by rw[o];simpa using hn,r,⟨eH,p,by rw[o];exact OwnS.nil fR⟩,Upd.refl _ _⟩ ?_
 rintro I ⟨n,q,f⟩ _ h' ⟨z,T,ha,x,⟨sp,c,B⟩,u⟩ S;simp only at z T ha x c B;refine Join.intro (fun(t:Bool) j=>j=h'∧t=decide (q.1≠[]∧q.2=true)) (fun R O=>R0 x (J:=R) (O _ _ ⟨rfl,rfl⟩)) ?_
 rintro t j ⟨rfl,rfl⟩;by_cases hm:q.1≠[]∧q.2=true
 ·rw[decide_eq_true hm]
  have hl:1≤q.1.length:=by
   rcases Nat.eq_zero_or_pos q.1.length with D|D
   ·exact absurd (bp.1 D) hm.1
   ·exact D
  obtain⟨m,rfl⟩:∃m,n=m+1:=⟨n-1,by omega⟩
  rw[gl,if_pos hm]at z;have hn1:=wB q;have Q:=wB (bw q).2;refine aA.2 ⟨_,rfl,sp,vc c 13,uD x fun h1 Y A=>?_⟩
  have b1:=A.get c i;have zz:=u.size;have no:∀y,h.size≤y→¬y=b:=fun y a e=>by omega
  have H:∀y,h.size≤y→¬y=ob:=fun y a e=>by omega
  have C:=B.upd A fun y a=>no y a
  refine⟨vc b1 13,uD Y fun N r2 v=>?_⟩
  have b2:=v.get b1 i;have F:=C.upd v fun y a=>no y a
  refine⟨vc b2 13,nP fun h3 b3 k=>⟨vc (k.get0 b2) 13,?_⟩⟩
  have z2:=v.size;have z1:=A.size;have o3:OwnS iZ 2 ax (fun _=>True) h3 ⟨some (aH N),1,1⟩ [(aG (bw q).1,aG (bw (bw q).2).1)]:=⟨rfl,fR,av _,.inr ⟨N.size,[],rfl,trivial,b3,rfl⟩⟩
  refine⟨_,(o3.sl (W:=No) fun _ _ _ h=>h).srow,AppP.own (ys:= [(aG (bw q).1,aG (bw (bw q).2).1)]) (F.upd k fun _ _ h=>h) rfl rfl rfl rfl (by omega) (by simp only[ay,bN];omega) (by have:=k.size;omega) fun s' h4 P G=>⟨_,rfl,?_⟩⟩
  have Z:=G.get (k.get0 b2) (show ¬h.size≤ob by omega)
  refine kP (c':=(gn (mo {d with ps:=f++ [(aG (bw q).1,aG (bw (bw q).2).1)]} s' eH)).toArray) Z (by simp) rfl fun h5 X E=>?_
  have U:=r2.upd0 k;have V:=U.upd G (show ¬h.size≤b by omega) fun y a=>.inl (L y a)
  refine S (m,(bw (bw q).2).2,f++ [(aG (bw q).1,aG (bw (bw q).2).1)]) () h5 ⟨z,by simp only;omega,by simp only[aj,ay,bN];omega,V.updO E i hW,⟨s',X,P.upd E fun y a e=>H y a e⟩,?_⟩ (by simp only;omega)
  exact((((u.trans A fun y a=>.inl (.inl a)).trans v fun y a=>.inl (.inl a)).trans k fun _ h=>h.elim).trans G fun y a=>.inl (.inr (.inr a))).trans E fun y a=>.inl (.inr (.inl a))
 ·rw[decide_eq_false hm]
  have e:gl n q f=(q,f):=by
   cases n with
   |zero=>rfl
   |succ n=>rw[gl,if_neg hm]
  rw[←z,e]at w;exact af.2 (w j sp x c B (u.mono fun y a=>a.elim (fun e=>.inl (.inl e)) fun a=>a.elim (fun e=>.inl (.inr e)) fun e=>.inr e))
theorem Vk(s:rB):(BE s).2.1.length≤s.1.length-1:=by
 have a:=wB s;have b:=G9 (bw s).2;have c:=G9 (dH (bw s).2).2;show(dH (dH (bw s).2).2).2.1.length≤_
 omega
theorem SR(r:RdAt W h b s)(G:h[ob]? =some (.cells (gn (mo d eH eH)).toArray aL (0,0))) (H:d.cs= []) (p:ob≠b) (hW:W ob) (L:∀y,h.size≤y→W y) (hn:s.1.length≤1000000) {K:Unit→ad→Prop}
  (O:∀h' sc,RdAt W h' b (uw 99 (s,d)).1→h'[ob]? =some (.cells (gn (mo (uw 99 (s,d)).2 eH sc)).toArray aL (0,0))→OwnS oX 5 bE (fun y=>h.size≤y) h' sc (uw 99 (s,d)).2.cs→Upd (fun y=>y=b∨y=ob) h h'→K () h'):HC PG ce [.pointer (some ⟨b,0,none⟩),.pointer (some ⟨ob,0,none⟩),.int .i32 99] [] K h:=by
 refine dx (some ⟨b,0,none⟩) (some ⟨ob,0,none⟩) 99 ?_;unfold dd ag aX nv cI bM ic eu rO my bW wr jf;refine CondP.intro (fun e=>absurd e (by decide)) fun _=>CondP.intro (fun e=>absurd e (by decide)) fun _=>CondP.intro (fun e=>absurd e (by decide)) fun _=>CondP.intro (fun e=>absurd e (by decide)) fun _=>CondP.intro (fun e=>absurd e (by decide)) fun _=>CondP.intro (fun e=>absurd e (by decide)) fun _=>CondP.intro (fun e=>absurd e (by decide)) fun _=>CondP.intro (fun e=>absurd e (by decide)) fun _=>CondP.intro (fun e=>absurd e (by decide)) fun _=>CondP.intro (fun e=>absurd e (by decide)) fun _=>CondP.intro (fun _=>?_) fun e=>absurd e (by decide)
 have O:∀h' sc,RdAt W h' b (oe s.1.length s d.cs).1→h'[ob]? =some (.cells (gn (mo {d with cs:=(oe s.1.length s d.cs).2} eH sc)).toArray aL (0,0))→OwnS oX 5 bE (fun y=>h.size≤y) h' sc (oe s.1.length s d.cs).2→Upd (fun y=>y=b∨y=ob) h h'→K () h':=O
 have zb:=r.lt;have zo:=bB G;refine LoopP.ghost (fun(g:Nat×rB×List Ch) (_:Unit) h'=>oe g.1 g.2.1 g.2.2=oe s.1.length s d.cs∧g.2.1.1.length≤g.1∧g.2.2.length+g.1≤1000000∧RdAt W h' b g.2.1∧(∃sc,h'[ob]? =some (.cells (gn (mo {d with cs:=g.2.2} eH sc)).toArray aL (0,0))∧OwnS oX 5 bE (fun y=>h.size≤y) h' sc g.2.2)∧Upd (fun y=>y=b∨y=ob∨h.size≤y) h h') (fun g=>g.1) (s.1.length,s,d.cs) ⟨rfl,av _,by rw[H];simpa using hn,r,⟨eH,G,by rw[H];exact OwnS.nil kH⟩,Upd.refl _ _⟩ ?_
 rintro I ⟨n,q,k⟩ _ h' ⟨N,hq,ha,P,⟨sc,j,F⟩,u⟩ hI;simp only at N hq ha P j F;refine Join.intro (fun(t:Bool) v=>v=h'∧t=decide (q.1≠[]∧q.2=true)) (fun R hR=>R0 P (J:=R) (hR _ _ ⟨rfl,rfl⟩)) ?_
 rintro t v ⟨rfl,rfl⟩;by_cases hm:q.1≠[]∧q.2=true
 ·rw[decide_eq_true hm]
  have hl:1≤q.1.length:=by
   rcases Nat.eq_zero_or_pos q.1.length with h0|h0
   ·exact absurd (bp.1 h0) hm.1
   ·exact h0
  obtain⟨m,rfl⟩:∃m,n=m+1:=⟨n-1,by omega⟩
  rw[oe,if_pos hm]at N;have hn1:=Vk q;have hec:(BE q).1=(aG (bw q).1,aG (dH (bw q).2).1.1,aG (dH (dH (bw q).2).2).1.1,(dH (bw q).2).1.2,(dH (dH (bw q).2).2).1.2):=rfl;have her:(BE q).2=(dH (dH (bw q).2).2).2:=rfl;have zz:=u.size;have no:∀y,h.size≤y→¬y=b:=fun y a e=>by omega
  have S:∀y,h.size≤y→¬y=ob:=fun y a e=>by omega
  refine aA.2 (uD P fun o r1 E=>nP fun h2 b2 k2=>cS (c:= [.string ⟨#[]⟩,.string ⟨#[]⟩,.string ⟨#[]⟩,.bool false,.bool false]) (vs:=oX (aG (bw q).1,⟨#[]⟩,⟨#[]⟩,false,false)) b2 rfl fun h3 b3 u3=>?_)
  have z1:=E.size;have zc:h.size≤o.size:=by omega
  have C:Upd No o h3:=k2.own u3 (av _);have z3:=bB b3;have o1:=E.get j p;have o3:=C.get0 o1;have ho3:=(F.upd E fun y a=>no y a).upd C fun _ _ h=>h
  have r3:=r1.upd0 C;have f:o.size≠b:=by omega
  have hco:o.size≠ob:=by omega
  have Wc:=L o.size zc;refine Nh r3 fun h4 r4 u4=>kP (c':=(oX (aG (bw q).1,aG (dH (bw q).2).1.1,⟨#[]⟩,false,false)).toArray) (u4.get b3 f) (by simp) rfl fun h5 b5 Y=>kP (c':=(oX (aG (bw q).1,aG (dH (bw q).2).1.1,⟨#[]⟩,(dH (bw q).2).1.2,false)).toArray) b5 (by simp) rfl fun h6 b6 Q=>?_
  have r6:=(r4.updO Y f Wc).updO Q f Wc;have o6:=Q.get (Y.get (u4.get o3 p) (show ¬ob=o.size by omega)) (show ¬ob=o.size by omega)
  refine Nh r6 fun h7 r7 u7=>kP (c':=(oX (aG (bw q).1,aG (dH (bw q).2).1.1,aG (dH (dH (bw q).2).2).1.1,(dH (bw q).2).1.2,false)).toArray) (u7.get b6 f) (by simp) rfl fun h8 b8 U=>kP (c':=(oX (BE q).1).toArray) b8 (by simp) rfl fun B D Z=>?_
  have r9:=(r7.updO U f Wc).updO Z f Wc;have X:=Z.get (U.get (u7.get o6 p) (show ¬ob=o.size by omega)) (show ¬ob=o.size by omega)
  have w:Upd (fun y=>y=b∨y=o.size) h3 B:=((((u4.mono fun y a=>.inl (.inl a)).tr (Y.mono fun y a=>.inl (.inr a))).tr (Q.mono fun y a=>.inl (.inr a))).tr (u7.mono fun y a=>.inl (.inl a))).tr ((U.mono fun y a=>.inl (.inr a)).tr (Z.mono fun y a=>.inl (.inr a)))
  have z:=F.sub;have ho9:OwnS oX 5 bE (sb sc) B sc k:=((F.its.upd E fun y a e=>no y (z y a).1 e).upd C fun _ _ h=>h).upd w fun y a e=>by
   have:=z y a;rcases e with e|e<;>omega
  have z39:=w.size;generalize (BE q).1=c9 at*;refine⟨_,rfl,sc,vc X 14,c9.1,vc D 0,c9.2.1,vc D 1,c9.2.2.1,vc D 2,c9.2.2.2.1,vc D 3,c9.2.2.2.2,vc D 4,nP fun V T i=>⟨vc (i.get0 X) 14,?_⟩⟩
  have z10:=i.size;have oc:OwnS oX 5 bE (fun _=>True) V ⟨some (aH B),1,1⟩ [c9]:=⟨rfl,kH,av _,.inr ⟨B.size,[],rfl,trivial,T,rfl⟩⟩
  refine⟨_,(oc.sl (W:=No) fun _ _ _ h=>h).srow,AppP.own (M:=fun y=>sb sc y∨B.size≤y) (ys:= [c9]) ((ho9.upd i fun _ _ h=>h).more fun y a=>.inl a) rfl rfl rfl rfl (by omega) (by simp only[ay,bN];omega) (.inr z10) fun s' h11 o11 A=>⟨_,rfl,?_⟩⟩
  have nb:∀y,(sb sc y∨B.size≤y)→h.size≤y:=fun y a=>a.elim (fun e=>(z y e).1) fun e=>by omega
  have b11:=A.get (i.get0 X) fun e=>by have:=nb _ e;omega
  refine kP (c':=(gn (mo {d with cs:=k++ [c9]} eH s')).toArray) b11 (by simp) rfl fun h12 b12 x=>?_
  have r11:=(r9.upd0 i).upd A (fun e=>by have:=nb _ e;omega) fun y a=>.inl (L y (nb y a))
  refine hI (m,(BE q).2,k++ [c9]) () h12 ⟨N,by simp only;omega,by simp only[aj,ay,bN];omega,r11.updO x p hW,⟨s',b12,(o11.upd x fun y a e=>S y (nb y a) e).more nb⟩,?_⟩ (by simp only;omega)
  exact(((((u.trans E fun y a=>.inl (.inl a)).trans C fun _ h=>h.elim).trans w fun y a=>a.elim (fun e=>.inl (.inl e)) fun e=>.inl (.inr (.inr (by omega)))).trans i fun _ h=>h.elim).trans A fun y a=>.inl (.inr (.inr (nb y a)))).trans x fun y a=>.inl (.inr (.inl a))
 ·rw[decide_eq_false hm]
  have e:oe n q k=(q,k):=by
   cases n with
   |zero=>rfl
   |succ n=>rw[oe,if_neg hm]
  rw[←N,e]at O;exact af.2 (O v sc P j F (u.mono fun y a=>a.elim (fun e=>.inl (.inl e)) fun a=>a.elim (fun e=>.inl (.inr e)) fun e=>.inr e))
end
end Go.Proofs
namespace Go.Proofs
open Go Go.Lift Go.RowKit
abbrev W1:List UInt8:= [98,111,107,118,105,116,115,119,114]
section
variable {W:Nat→Prop} {h:ad} {b ob:Nat} {s:rB} {d:OpD} {sp sc:SliceV}
theorem US{p:UInt8}(i:p∈W1)(l:Laid h)(g:4≤b)(r:RdAt W h b s)(a:h[ob]? =some (.cells (gn (mo d sp sc)).toArray aL (0,0))) (c:ob≠b) (f:W ob) {K:Unit→ad→Prop}
  (e:∀h',RdAt W h' b (uw p (s,d)).1→h'[ob]? =some (.cells (gn (mo (uw p (s,d)).2 sp sc)).toArray aL (0,0))→Upd (fun y=>y=b∨y=ob) h h'→K () h'):HC PG ce [.pointer (some ⟨b,0,none⟩),.pointer (some ⟨ob,0,none⟩),.int .i32 (p.toNat:Int)] [] K h:=by
 simp only[ar,bX,or_false]at i;rcases i with rfl|rfl|rfl|rfl|rfl|rfl|rfl|rfl|rfl
 ·exact M7 r a c f e
 ·exact M4 r a c f e
 ·exact M5 r a c f e
 ·exact M1 r a c f e
 ·exact M6 l g r a c f e
 ·exact M2 l g r a c f e
 ·exact M3 l g r a c f e
 ·exact M0 l g r a c f e
 ·exact UQ r a c f e
theorem J0{p:UInt8}(a:p∈W1)(s:rB)(d:OpD):(uw p (s,d)).2.ps=d.ps∧(uw p (s,d)).2.cs=d.cs:=by
 simp only[ar,bX,or_false]at a;rcases a with rfl|rfl|rfl|rfl|rfl|rfl|rfl|rfl|rfl<;>exact⟨rfl,rfl⟩
theorem G7:∀(pt:List UInt8),(∀p∈pt,p∈W1)→∀(x:rB×OpD),(fV pt x).2.ps=x.2.ps∧(fV pt x).2.cs=x.2.cs
 | [],_,_=>⟨rfl,rfl⟩
 |p::pt,h,x=>by
  have a:=G7 pt (fun q c=>h q (aK _ c)) (uw p x)
  have b:=J0 (h p (aP ..)) x.1 x.2;exact⟨a.1.trans b.1,a.2.trans b.2⟩
theorem Xs{p:UInt8}(a:p∈W1)(s:rB)(d:OpD):(uw p (s,d)).1.1.length≤s.1.length:=by
 have c:=qr s;have b:(bw s).2.1.length≤s.1.length-1:=qr s;simp only[ar,bX,or_false]at a;rcases a with rfl|rfl|rfl|rfl|rfl|rfl|rfl|rfl|rfl
 ·show(cd s).2.1.length≤_;omega
 ·show(cd s).2.1.length≤_;omega
 ·show(cd s).2.1.length≤_;omega
 ·show(cd s).2.1.length≤_;omega
 ·show(cd s).2.1.length≤_;omega
 ·show(cd s).2.1.length≤_;omega
 ·show(cd s).2.1.length≤_;omega
 ·show(cd s).2.1.length≤_;omega
 ·have e:(jS (bw s).2).2.1.length≤(bw s).2.1.length-1:=by
   unfold jS;split
   ·exact qr _
   ·exact wB _
  have f:=qr (jS (bw s).2).2;show(cd (jS (bw s).2).2).2.1.length≤_
  omega
theorem Nt:∀(pt:List UInt8),(∀p∈pt,p∈W1)→∀(x:rB×OpD),(fV pt x).1.1.length≤x.1.1.length
 | [],_,_=>av _
 |p::pt,h,x=>aU (Nt pt (fun q a=>h q (aK _ a)) (uw p x)) (Xs (h p (aP ..)) x.1 x.2)
theorem S4(a:List UInt8)(p:UInt8)(x:rB×OpD):fV (a++ [p]) x=uw p (fV a x):=by unfold fV;rw[List.foldl_append];rfl
theorem NQ:∀{pt:List UInt8} {n:Nat} {p:UInt8},NR pt=true→pt[n]? =some p→(∀q∈pt.take n,q∈W1)∧(p∉W1→n+1=pt.length)
 | [],n,p,_,h=>by simp at h
 |q::pt,0,p,ho,h=>by
  cases h;refine⟨(fun q a=>by cases a),fun b=>?_⟩
  rw[NR,aJ,fq]at ho;rcases ho.1 with e|e
  ·exact absurd (by simpa using e) b
  ·have e:pt= []:=by simpa using e
   rw[e];rfl
 |q::pt,n+1,p,ho,h=>by
  have h:pt[n]? =some p:=by simpa using h
  rw[NR,aJ,fq]at ho;obtain⟨d,c⟩:=NQ ho.2 h;have a:q∈W1:=by
   rcases ho.1 with e|e
   ·simpa using e
   ·have e:pt= []:=by simpa using e
    rw[e]at h;cases h
  refine⟨fun x hx=>?_,fun b=>by have:=c b;simp only[ay];omega⟩
  rcases ar.1 hx with rfl|hx
  ·exact a
  ·exact d x hx
theorem VE{p:UInt8}(a:p∈kp):p∈W1∨p=112∨p=99:=by
 simp only[ar,bX,or_false]at a⊢;rcases a with h|h|h|h|h|h|h|h|h|h|h<;>simp[h]
def abL(Z:Nat)(h:ad)(ob:Nat)(d:OpD)(a:List UInt8):Prop:=∃sp sc,h[ob]? =some (.cells (gn (mo d sp sc)).toArray aL (0,0))∧OwnS iZ 2 ax (fun y=>Z≤y) h sp d.ps∧OwnS oX 5 bE (fun y=>Z≤y) h sc d.cs∧((∀p∈a,p∈W1)→sp=eH∧sc=eH)
theorem Tf{a:List UInt8}(hp:∀p∈a,p∈kp)(ho:NR a=true){ws:List (List UInt8)}{ok:Bool}{k:Int}{i:Nat}(l:Laid h)(hb4:4≤b)(ho4:4≤ob)(hi4:4≤i)(r:RdAt W h b (ws,ok))(R:h[ob]? =some (.cells (gn (mo (d0 k) eH eH)).toArray aL (0,0))) (w:ob≠b) (hW:W ob) (S:i≠b) (P:i≠ob) (hWi:W i) (hWn:∀y,h.size≤y→W y) (hn:ws.length≤1000000)
  (H:h[i]? =some (.stringIter (aG a) 0)) {Kend:ad→Prop}
  (K:∀h',RdAt W h' b (fV a ((ws,ok),d0 k)).1→abL h.size h' ob (fV a ((ws,ok),d0 k)).2 a→Upd (fun y=>y=b∨y=ob∨y=i) h h'→Kend h'):
  LoopP (fun(I:Unit→ad→Prop) (_:Unit) T=>NextS ⟨i,0,none⟩ T (Kend T) (fun _ b29 Y=>HC PG ce [.pointer (some ⟨b,0,none⟩),.pointer (some ⟨ob,0,none⟩),.int .i32 (b29.toNat:Int)] [] (fun(_:Unit) h72=>I () h72) Y)) () h:=by
 have zb:=r.lt;have zo:=bB R;have zi:=bB H;refine LoopP.ghost (fun(n:Nat) (_:Unit) E=>n≤a.length∧RdAt W E b (fV (a.take n) ((ws,ok),d0 k)).1∧abL h.size E ob (fV (a.take n) ((ws,ok),d0 k)).2 (a.take n)∧E[i]? =some (.stringIter (aG a) n)∧Upd (fun y=>y=b∨y=ob∨y=i) h E) (fun n=>a.length-n) 0 ⟨aV _,r,⟨eH,eH,R,OwnS.nil fR,OwnS.nil kH,fun _=>⟨rfl,rfl⟩⟩,H,Upd.refl _ _⟩ ?_
 rintro I n _ E ⟨hnl,r2,m,u,u2⟩ hI;by_cases L:n<a.length
 ·obtain⟨p,q⟩:∃p,a[n]? =some p:=⟨_,ah L⟩
  have A:=hp p (bf q);obtain⟨j,hlast⟩:=NQ ho q;have D:p.toNat<128:=by
   simp only[ar,bX,or_false]at A;rcases A with rfl|rfl|rfl|rfl|rfl|rfl|rfl|rfl|rfl|rfl|rfl<;>decide
  refine NextS.go u (by rw[Oh];simpa using q) D fun X k3 O=>?_
  have e:a.take (n+1)=a.take n++ [p]:=by rw[iI,q];rfl
  have Z:Upd (fun y=>y=b∨y=ob∨y=i) h X:=u2.tr (k3.mono fun y d=>.inl (.inr (.inr d)))
  have z3:=Z.size;have l3:Laid X:=l.upd Z fun y d=>by rcases d with rfl|rfl|rfl<;>assumption
  have V:=r2.upd k3 (fun e=>S (by have e:b=i:=e;exact e.symm)) fun y d=>.inl (by have d:y=i:=d;rw[d];exact hWi)
  obtain⟨sp,sc,c2,op2,oc2,hN⟩:=m;obtain⟨rfl,rfl⟩:=hN j;have U:=k3.get c2 fun e=>P (by have e:ob=i:=e;exact e.symm)
  have F:=Nt _ j ((ws,ok),d0 k);have c:=G7 _ j ((ws,ok),d0 k);have B:=S4 (a.take n) p ((ws,ok),d0 k);rw[←e]at B;have s:∀y,X.size≤y→W y:=fun y d=>hWn y (by omega)
  have o:∀f,RdAt W f b (uw p (fV (a.take n) ((ws,ok),d0 k))).1→abL h.size f ob (uw p (fV (a.take n) ((ws,ok),d0 k))).2 (a.take (n+1))→Upd (fun y=>y=b∨y=ob) X f→I () f:=fun f z G t=>
   hI (n+1) () f ⟨L,by rw[B];exact z,by rw[B];exact G,t.get O (by rintro(e|e);exact S e;exact P e),Z.tr (t.mono fun y d=>.inl (d.imp id .inl))⟩ (by omega)
  generalize fV (a.take n) ((ws,ok),d0 k)=x at*;obtain⟨xs,Q⟩:=x;simp only at V U F c o op2 oc2;have C:Q.ps= []:=c.1;have v:Q.cs= []:=c.2;rcases VE A with h9|rfl|rfl
  ·have J:=J0 h9 xs Q
   refine US h9 l3 hb4 V U w hW fun f z N t=>o f z ⟨eH,eH,N,by rw[J.1,C];exact OwnS.nil fR,by rw[J.2,v];exact OwnS.nil kH,fun _=>⟨rfl,rfl⟩⟩ t
  ·refine SQ V U C w hW s (by omega) fun f sp z N G t=>o f z ⟨sp,eH,N,G.more fun y d=>aU z3 d,by show OwnS oX 5 _ _ f eH Q.cs;rw[v];exact OwnS.nil kH,fun g=>absurd (g 112 (by rw[e];simp)) (by decide)⟩ t
  ·refine SR V U v w hW s (by omega) fun f sc z N G t=>o f z ⟨eH,sc,N,by show OwnS iZ 2 _ _ f eH Q.ps;rw[C];exact OwnS.nil fR,G.more fun y d=>aU z3 d,fun g=>absurd (g 99 (by rw[e];simp)) (by decide)⟩ t
 ·have hn:n=a.length:=by omega
  rw[hn,List.take_length]at r2 m;exact NextS.stop u (by rw[cu];omega) (K E r2 m u2)
end
set_option maxHeartbeats 1000000 in
theorem L8{j:List UInt8}(hx:j.length≤100000){h:ad}(l:Laid h)(h4:4≤h.size){K:xm×Bool→ad→Prop}(hk:∀h' d sp sc,iq j=some d→OwnS iZ 2 ax (fun y=>h.size≤y) h' sp d.ps→OwnS oX 5 bE (fun y=>h.size≤y) h' sc d.cs→Upd No h h'→K (mo d sp sc,true) h')(hk0:iq j=none→∀h',Upd No h h'→K (rT 0,false) h'):
  HC PG np [.string (aG j)] [.agg [.int .i64,.str,.str,.str,.str,.int .u32,.int .u32,.int .i64,.int .i64,.bool,.str,.str,.bool,.slice,.slice],.c .bool] K h:=by
 refine Dz (aG j) ?_;unfold xU bi cU ao bC ag aX aI eX nv JI bL cI eu W9 wz Us UG bW W8;have b1:=bI h (gn (rT 0)) aL;have k1:=Upd.hnew No h (gn (rT 0)) aL;have z1:=eT h (gn (rT 0)) aL;refine bj ?_;show HC PG ng _ _ _ (hnew h (gn (rT 0)) aL)
 generalize hnew h (gn (rT 0)) aL=h1 at b1 k1 z1;refine Cx (by rw[cu];omega) fun P k ow k3=>CY fun h5 of k5=>?_
 rw[show(aG j).data.toList=j from by simp]at ow
 obtain⟨w,ws,hw⟩:∃w ws,ix 32 j=w::ws:=by
  cases e:ix 32 j with
  |nil=>exact absurd e (GB 32 j)
  |cons w ws=>exact⟨w,ws,rfl⟩
 have N:=C7 32 j;rw[hw]at ow N;have hwsn:ws.length≤1000000:=by have:=N.1;simp only[ay]at this;omega
 have hwl:∀x∈ws,x.length≤1000000:=fun x hx'=>by have:=N.2 x (aK _ hx');omega
 have hsw:=ow.sl (W:=fun y=>P.size≤y) (fun y _ v=>by omega)
 have hcap:=ow.cap;have hsf:=of.sl (W:=fun y=>h5.size≤y) (fun y _ v=>by omega)
 have z3:=k3.size;have z5:=k5.size;have kk:=(k1.tr k3).tr k5;have b5:=(k3.tr k5).get0 b1;refine LoopP.ghost (fun(n:Nat) (t:Int) H=>t=(n:Int)∧n≤26∧(∀f∈formsL.take n,f.2.1≠w∨¬((fV f.2.2 ((ws,true),d0 f.1)).1.2=true∧(fV f.2.2 ((ws,true),d0 f.1)).1.1= []))∧H[h.size]? =some (.cells (gn (rT 0)).toArray aL (0,0))∧Upd No h5 H) (fun n=>26-n) 0 ⟨rfl,aV _,(fun f hf=>by cases hf),b5,Upd.refl _ _⟩ ?_
 rintro I n t H ⟨rfl,hn,hno,b8,R⟩ hI;refine aF (fun C=>Join.plain ?_) fun hge=>?_
 ·have C:n<formsL.length:=by have:(n:Int)<((26:Nat):Int):=C;show n<26;omega
  have h26:n<26:=C;have Q:=ah C;have htk:=E0 C;generalize formsL[n]=f at Q htk;have X:=bf Q;obtain⟨a,ha,_,U⟩:=(hsf.upd R fun _ h=>h.elim).at Q
  have ha:a=⟨P.size,0,none⟩:=(bq.inj ha).symm;have z8:=R.size;rw[ak];refine⟨⟨by omega,show((n:Int)<((26:Nat):Int)) by omega⟩,a,by rw[ha],f.1,U 0 _ rfl,aG f.2.1,U 1 _ rfl,aG f.2.2,U 2 _ rfl,bj ?_⟩
  have b14:=bI H [.int .i64 0,.string ⟨#[]⟩,.string ⟨#[]⟩] ep;have k14:=Upd.hnew No H [.int .i64 0,.string ⟨#[]⟩,.string ⟨#[]⟩] ep;have z14:=eT H [.int .i64 0,.string ⟨#[]⟩,.string ⟨#[]⟩] ep;generalize hnew H [.int .i64 0,.string ⟨#[]⟩,.string ⟨#[]⟩] ep=h14 at b14 k14 z14;refine cS (c:= [.int .i64 0,.string ⟨#[]⟩,.string ⟨#[]⟩]) (vs:=Jj f) b14 rfl fun o T u15=>?_
  have s:Upd No H o:=k14.own u15 (av _);have z15:=s.size;have D:=hsw.upd ((k5.tr R).tr s) fun _ h=>h.elim
  obtain⟨aw,haw,_,hwc⟩:=D.at0 (g:=fun w=>Value.string (aG w)) (i:=0) (x:=w) rfl
  have hlw:=hsw.len;simp only[ay]at hlw;have next:∀h',h'[h.size]? =some (.cells (gn (rT 0)).toArray aL (0,0))→Upd No h5 h'→(f.2.1≠w∨¬((fV f.2.2 ((ws,true),d0 f.1)).1.2=true∧(fV f.2.2 ((ws,true),d0 f.1)).1.1= []))→I (ac .i64 ((n:Int)+1)) h':=fun h' bh kh hf=>by
   rw[cM h26 (by omega)];refine hI (n+1) _ _ ⟨rfl,h26,fun g Z=>?_,bh,kh⟩ (by omega)
   rw[htk]at Z;rcases bD.1 Z with Z|Z
   ·exact hno g Z
   ·rw[aO.1 Z];exact hf
  refine⟨aG f.2.1,vc T 1,⟨by omega,by omega⟩,aw,haw,aG w,hwc,?_⟩
  rw[di];by_cases he:f.2.1=w
  rotate_left
  ·rw[decide_eq_false (fun e=>he (yQ e))]
   exact aA.2 (next o (s.get0 b8) (R.tr s) (.inl he))
  rw[he,decide_eq_true rfl];refine af.2 ⟨f.1,vc T 0,bj ?_⟩;have b20:=bI o (gn (rT 0)) aL;have k20:=Upd.hnew No o (gn (rT 0)) aL;have z20:=eT o (gn (rT 0)) aL;generalize hnew o (gn (rT 0)) aL=h20 at b20 k20 z20;refine cS (c:=gn (rT 0)) (vs:=gn (rT f.1)) b20 rfl fun p b21 u21=>⟨⟨by omega,by omega⟩,bj ?_⟩
  have z:Upd No o p:=k20.own u21 (av _);have z21:=z.size;have S:=D.upd z fun _ h=>h.elim
  rw[show(1:Int).toNat=1 from rfl]
  have b22:=bI p [.slice (aY k.a 1 k.cap 1) (k.len-1) (k.cap-1),.bool true] gj;have u:=Upd.hnew No p [.slice (aY k.a 1 k.cap 1) (k.len-1) (k.cap-1),.bool true] gj;have z22:=eT p [.slice (aY k.a 1 k.cap 1) (k.len-1) (k.cap-1),.bool true] gj;generalize hnew p [.slice (aY k.a 1 k.cap 1) (k.len-1) (k.cap-1),.bool true] gj=h22 at b22 u z22
  refine⟨aG f.2.2,vc ((z.tr u).get0 T) 2,bj ?_⟩;have q:=Upd.push No h22 (.stringIter (aG f.2.2) 0);have b24:=mF h22 (.stringIter (aG f.2.2) 0);have z24:(h22.push (.stringIter (aG f.2.2) 0)).size=h22.size+1:=by simp
  generalize h22.push (.stringIter (aG f.2.2) 0)=h24 at q b24 z24;have G:=(S.sub (l:=1) (hi:=k.len) (m:=k.cap) (c:=k.cap-1) (by omega) (by simp only[ay];omega) hcap).upd (u.tr q) fun _ h=>h.elim
  have e3:((w::ws).drop 1).take (k.len-1)=ws:=by show ws.take _=_;exact List.take_of_length_le (by omega)
  rw[e3]at G;have r24:RdAt (fun y=>P.size≤y) h24 p.size (ws,true):=⟨⟨⟨aY k.a 1 k.cap 1,k.len-1,k.cap-1⟩,q.get0 b22,G,by show k.len-1≤k.cap-1;omega⟩,by show P.size≤p.size;omega,hwl⟩
  have zb:=u21.size;have kA:Upd No h h24:=((((kk.tr R).tr s).tr z).tr u).tr q;refine Tf (b:=p.size) (ob:=o.size) (i:=h22.size) (tH f X).1 (Ew f X).1 (l.upd0 kA) (by omega) (by omega) (by omega) r24 ((u.tr q).get0 b21) (by omega) (by show P.size≤o.size;omega) (by omega) (by omega) (by show P.size≤h22.size;omega) (fun y v=>by show P.size≤y;omega) hwsn b24 fun F r39 o39 L=>?_
  have kB:Upd No h F:=kA.trans L fun y v=>.inr (by omega)
  have k5B:Upd No h5 F:=((((R.tr s).tr z).tr u).tr q).trans L fun y v=>.inr (by omega)
  have Y:=L.get (((((s.tr z).tr u).tr q)).get0 b8) (show ¬(h.size=p.size∨h.size=o.size∨h.size=h22.size) by omega)
  obtain⟨sp,hc,hs,hl⟩:=r39.ex;have B:=hs.len;generalize hx:fV f.2.2 ((ws,true),d0 f.1)=x at*;refine Join.plain ⟨_,rfl,x.1.2,vc hc 1,CondP.intro (fun eo=>⟨_,rfl,sp,vc hc 0,CondP.intro (fun el=>?_) fun el=>?_⟩) fun eo=>?_⟩
  ·have hsl:sp.len=0:=by simpa using el
   have hxl:x.1.1= []:=bp.1 (by omega);have E:iq j=some x.2:=by
    unfold iq;rw[hw];simp only;rw[←he,LZ X];simp only;rw[hx,if_pos ⟨eo,hxl⟩]
   obtain⟨s1,s2,c39,op,oc,_⟩:=o39;refine tA c39 (cS (c:=gn (rT 0)) (vs:=gn (mo x.2 s1 s2)) Y rfl fun J V A=>tA V (hk J x.2 s1 s2 E ((op.upd A fun y v e=>by have e:y=h.size:=e;omega).more fun y v=>by omega) ((oc.upd A fun y v e=>by have e:y=h.size:=e;omega).more fun y v=>by omega) ?_))
   exact kB.trans A fun y v=>.inr (by have v:y=h.size:=v;omega)
  ·refine next F Y k5B (.inr fun hh=>?_)
   have:sp.len≠0:=by simpa using el
   rw[hh.2]at B;exact this B
  ·exact af.2 (next F Y k5B (.inr fun hh=>by rw[eo]at hh;cases hh.1))
 ·have hn:n=26:=by have:¬(n:Int)<((26:Nat):Int):=hge;omega
  subst hn;have O:iq j=none:=by
   unfold iq;rw[hw];simp only;split
   ·rfl
   ·rename_i f hf
    have hm:=List.mem_of_find?_eq_some hf;have h1:f.2.1=w:=by simpa using List.find?_some hf
    have:=hno f hm;rw[if_neg (this.resolve_left fun e=>e h1)]
  refine cS (c:=gn (rT 0)) (vs:=gn (rT 0)) b8 rfl fun J V A=>tA V (hk0 O J ?_)
  exact(kk.tr R).trans A fun y v=>.inr (by have v:y=h.size:=v;omega)
end Go.Proofs
namespace Go.Proofs
open Go Go.Lift
theorem H2{a w:List UInt8}{ws:List (List UInt8)}(hx:a.length≤1000000)(O:ix 32 a=w::ws)(h5:ws.length≠4)(A:ws.length≠1)(m:∀x∈ws,x.length≤1000000){k:Nat}{kd:Int}{J:List UInt8}(Y:formsL[k]? =some (kd,w,J)) (hu:∀j f,j<k→formsL[j]? =some f→f.2.1≠w)
  (W:∀p∈J,Hg p) {i:xm} (R:J.foldl (fun x p=>RL p x) ((ws,true),rT kd)=(([],true),i)) {h:ad} (l:Laid h) (h4:4≤h.size) {F sp:Nat} (hd:h[F]? =some (.cells #[.pointer (some ⟨sp,0,none⟩)] il (0,0))) {K:ByteArray→ad→Prop}
  (hk:∀h1 ob,Upd No h h1→h.size≤ob→ob<h1.size→h1[ob]? =some (.cells (gn i).toArray aL (0,0))→HC PG gX [.pointer (some ⟨sp,0,none⟩),LG i] Q5 (fun e A=>aD A (adr ⟨ob,0,none⟩ 0)=some (.int .i64 i.1)∧HC PG pj [.int .i64 i.1,OJ e] [.c .str] K A) h1):
  HC PG iv [.pointer (some ⟨F,0,none⟩),.string (aG a)] [.c .str] K h:=by
 refine Ab (some ⟨F,0,none⟩) (aG a) ?_;unfold un bi cU ao bC ag aX aI nv BI MM JI ZT XO eu iQ;refine af.2 (Cx (by rw[cu];exact hx) fun U H ow S=>nP fun C T Z=>?_)
 rw[show(aG a).data.toList=a from by simp,O]at ow
 have X:H.len=ws.length+1:=ow.len;have y:=S.tr Z;refine LoopP.ghost (fun(n:Nat) (t:Int) Q=>t=(n:Int)∧n≤2∧Upd No C Q) (fun n=>2-n) 0 ⟨rfl,aV _,Upd.refl _ _⟩ ?_
 rintro I n t Q ⟨rfl,hn,g⟩ L;refine aF (fun u=>?_) fun V=>?_
 ·have u:n<2:=by have:(n:Int)<2:=u;omega
  have N:=g.get0 T;rcases(show n=0∨n=1 by omega)with rfl|rfl
  ·refine⟨⟨by decide,by decide⟩,_,rfl,_,vc N 0,HV.mk' (Vx (s:=H) (by omega) fun h9 k9=>af.2 ?_)⟩
   exact L 1 _ _ ⟨rfl,by omega,g.tr k9⟩ (by omega)
  ·refine⟨⟨by decide,by decide⟩,_,rfl,_,vc N 1,HV.mk' (PF (s:=H) (by omega) (af.2 ?_))⟩
   exact L 2 _ _ ⟨rfl,by omega,g⟩ (by omega)
 ·refine Tj hx O m Y hu W R (l.upd0 (y.tr g)) (by have:=(y.tr g).size;omega) fun v o=>nP fun h15 B z=>?_
  refine cS (c:=gn (rT 0)) (vs:=gn i) B rfl fun q b D=>?_
  have E:Upd No v q:=z.own D (av _);have P:=((y.tr g).tr o).tr E;have d:=P.get0 hd;have G:=((y.tr g).tr o).size;refine Join.plain (af.2 (af.2 ⟨_,rfl,_,vc d 0,af.2 (af.2 ⟨i.1,vc b 0,_,rfl,_,vc d 0,tA b ?_⟩)⟩));exact hk q v.size P G (bB b) b
end Go.Proofs
