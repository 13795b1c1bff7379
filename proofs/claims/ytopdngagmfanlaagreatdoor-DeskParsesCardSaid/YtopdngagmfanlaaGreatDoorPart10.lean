/- A part of the proof that the named laws of this program answer true, whatever the input. -/
import Derived.Test.YtopdngagmfanlaaGreatDoorPart9
import Derived.Test.YtopdngagmfanlaaGreatDoorPart8
open Bool renaming and_eq_true→aJ,or_eq_true→fh
open Go.IntKind renaming wrap→ac
open Int renaming toNat_natCast→ak
open List renaming replicate→bC,cons_append→fw,getElem?_cons_succ→ix,getD_eq_getElem?_getD→fa,getElem?_append_left→ef,getElem?_eq_getElem→ax,getElem?_eq_some_iff→bd,drop_eq_getElem_cons→cF,length_drop→aS,mem_cons_of_mem→aI,length_cons→ay,mem_of_getElem?→be,take_add_one→iw,mem_append→bL,mem_singleton→aQ,length_append→ai,append_assoc→aK,append_nil→cE,length_nil→bN,length_eq_zero_iff→bj,mem_cons→ar,not_mem_nil→bU,mem_cons_self→aN
open Nat renaming zero_le→bc,le_refl→au,le_trans→bv
open Option renaming some→bp
namespace Go.Proofs
open Go Go.Lift Go.RowKit
theorem UJ{w:List UInt8}{ws:List (List UInt8)}{m:Nat}(h:4≤ws.length+1+m){j:Nat}(a:j<3):((w::ws)++bC m [])[j+1]? =some (ws.getD j []):=by
 rw[fw,ix,fa];by_cases e:j<ws.length
 ·rw[ef e,ax e];rfl
 ·rw[List.getElem?_append_right (by omega),List.getElem?_replicate,if_pos (by omega),List.getElem?_eq_none (l:=ws) (by omega)];rfl
theorem Jx{w:List UInt8}{ws:List (List UInt8)}{m j:Nat}{x:List UInt8}(h:ws[j]? =some x):((w::ws)++bC m [])[j+1]? =some x:=by
 rw[fw,ix,ef (bd.1 h).1,h]
theorem K9{ws:List (List UInt8)}{j:Nat}{a b:List UInt8}(c:ws[j]? =some a) (d:ws[j+1]? =some b):jp (ws.drop j)=(dz a,dz b)::jp (ws.drop (j+2)):=by
 have e:=(bd.1 c);have g:=(bd.1 d);obtain⟨i,rfl⟩:=e;obtain⟨f,rfl⟩:=g;rw[cF i,cF f,jp]
theorem Nm{ws:List (List UInt8)}{j:Nat}(h:ws.length≤j+1):jp (ws.drop j)= []:=by
 have:(ws.drop j).length≤1:=by rw[aS];omega
 match ws.drop j,this with
 | [],_=>rfl
 | [_],_=>rfl
theorem La{ws:List (List UInt8)}{j:Nat}{a b c:List UInt8}(e:ws[j]? =some a) (f:ws[j+1]? =some b) (g:ws[j+2]? =some c):jK (ws.drop j)=(dz a,dz b,dz c, !decide (b= [46]), !decide (c= [46]))::jK (ws.drop (j+3)):=by
 obtain⟨k,rfl⟩:=(bd.1 e);obtain⟨i,rfl⟩:=(bd.1 f);obtain⟨d,rfl⟩:=(bd.1 g);rw[cF k,cF i,cF d,jK]
theorem Nn{ws:List (List UInt8)}{j:Nat}(h:ws.length≤j+2):jK (ws.drop j)= []:=by
 have:(ws.drop j).length≤2:=by rw[aS];omega
 match ws.drop j,this with
 | [],_=>rfl
 | [_],_=>rfl
 | [_,_],_=>rfl
abbrev YU:TypeId:=pg
structure MkO(h0:ad)(rb ob Z:Nat)(h:ad)(d:OpD)(sp sc:SliceV):Prop where
 o:h[ob]? =some (.cells (ia (pY d sp sc)).toArray YU (0,0))
 r:h[rb]? =some (.cells (ia (rS 0)).toArray YU (0,0))
 ps:OwnS jz 2 kV (fun y=>Z≤y) h sp d.ps
 cs:OwnS sg 5 gU (fun y=>Z≤y) h sc d.cs
 k:Upd No h0 h
section
variable {h0 h h':ad} {rb ob Z:Nat} {d d':OpD} {sp sc:SliceV} {M:Nat→Prop}
theorem MkO.up0(m:MkO h0 rb ob Z h d sp sc)(k:Upd No h h'):MkO h0 rb ob Z h' d sp sc:=⟨k.get0 m.o,k.get0 m.r,m.ps.upd k fun _ _ h=>h,m.cs.upd k fun _ _ h=>h,m.k.tr k⟩
theorem MkO.set(m:MkO h0 rb ob Z h d sp sc)(b:rb≠ob)(f:h0.size≤ob)(g:ob<Z){i:Nat}{v:Value}(hi:i<15)(e:(ia (pY d sp sc)).toArray.setIfInBounds i v=(ia (pY d' sp sc)).toArray)(e1:d'.ps=d.ps)(e2:d'.cs=d.cs){k:ad→Prop}(c:∀h',MkO h0 rb ob Z h' d' sp sc→Upd (· =ob) h h'→k h'):
  Wr h (adr ⟨ob,0,none⟩ i)∧At (hset h (adr ⟨ob,0,none⟩ i) v) k:=
 oz m.o hi e fun h' b' u=>c h' ⟨b',u.get m.r b,by rw[e1];exact m.ps.upd u fun y a e=>by have a:Z≤y:=a;have e:y=ob:=e;omega,by rw[e2];exact m.cs.upd u fun y a e=>by have a:Z≤y:=a;have e:y=ob:=e;omega,m.k.trans u fun y a=>.inr (by have a:y=ob:=a;omega)⟩ u
end
theorem Mz(a b:List UInt8):((aG a).toList==(aG b).toList)=decide (a=b):=by
 rw[di,decide_eq_decide];exact⟨fun e=>yj e,fun e=>by rw[e]⟩
set_option maxHeartbeats 4000000 in
theorem MX{F:List UInt8}(hx:F.length≤10000){h:ad}{K:xp×Bool→ad→Prop}(hk:∀h' d sp sc,iQ F=some d→Sl jz 2 No h' sp d.ps→Sl sg 5 No h' sc d.cs→Upd No h h'→K (pY d sp sc,true) h')(hk0:iQ F=none→∀h',Upd No h h'→K (rS 0,false) h'):
  HC PG uv [.string (aG F)] [.agg [.int .i64,.str,.str,.str,.str,.int .u32,.int .u32,.int .i64,.int .i64,.bool,.str,.str,.bool,.slice,.slice],.c .bool] K h:=by
 refine Oi (aG F) ?_;unfold E4 bf cU aj bJ ah aZ aL fx nv L8 O0 iA ez uf nO bM XV;refine pe fun h1 b1 k1=>MV (by rw[ci];omega) fun P e2 ow k3=>?_
 rw[show(aG F).data.toList=F from by simp]at ow
 have z1:=bB b1;have z3:=k3.size;have hcl:=CE 32 F;obtain⟨w,ws,hcut⟩:∃w ws,im 32 F=w::ws:=by
  cases e:im 32 F with
  |nil=>exact absurd e (F4 32 F)
  |cons w ws=>exact⟨w,ws,rfl⟩
 rw[hcut]at ow hcl;have hwl:∀x∈ws,x.length≤10000:=fun x hx'=>by have:=hcl.2 x (aI _ hx');omega
 have hwn:ws.length≤10000:=by have:=hcl.1;simp only[ay]at this;omega
 have hlen:e2.len=ws.length+1:=ow.len;have g:∀j,(ws.getD j []).length≤10000:=fun j=>by
  rw[fa];cases e:ws[j]? with
  |none=>exact bc _
  |some x=>exact hwl x (be e)
 refine pe fun h4 b4 k4=>dd (c:=ia (rS 0)) (vs:=ia (rS (-1))) b4 rfl fun h5 b5 u5=>GP fun h7 ns hns hnl k7=>?_
 have k35:Upd No P h5:=k4.own u5 (au _);have B:h.size≤P.size:=by have:=k1.size;omega
 have z:h.size≠P.size:=by omega
 have z5:=bB b5;have owM:OwnS BT 1 cn (fun y=>h1.size≤y∧y≠P.size) h7 e2 (w::ws):=((ow.its.more fun y A=>⟨(ow.sub y A).1,by have:=(ow.sub y A).2;omega⟩).upd k35 fun _ _ h=>h).upd k7 fun _ _ h=>h
 have m7:MkO h h.size P.size (P.size+1) h7 (d0 (-1)) eA eA:=⟨k7.get0 b5,(k35.tr k7).get0 (k3.get0 b1),OwnS.nil gy,OwnS.nil mC,(((k1.tr k3).tr k35).tr k7)⟩;refine LoopP.ghost (fun(Y:Nat×Int) (t:Int) h'=>t=(Y.1:Int)∧Y.1≤26∧((Y.2= -1∧∀f∈formsL.take Y.1,f.2.1≠w)∨∃f∈formsL,f.2.1=w∧Y.2=f.1)∧MkO h h.size P.size (P.size+1) h' (d0 Y.2) eA eA∧Upd (· =P.size) h7 h') (fun Y=>26-Y.1) (0,-1) ⟨rfl,bc _,.inl ⟨rfl,fun f hf=>by cases hf⟩,m7,Upd.refl _ _⟩ ?_
 rintro I ⟨n,p⟩ t h10 ⟨rfl,hn,hkk,m10,u10⟩ hI;simp only at hn hkk m10;refine aF (fun Z=>Join.plain ?_) fun hge=>?_
 ·have Z:n<26:=by have:(n:Int)<(ns.len:Int):=Z;omega
  obtain⟨f,hfi,hfk,hnm,hfm⟩:=NI ⟨n,Z⟩;simp only at hfi hfk hnm;obtain⟨a,N,_,hv⟩:=(hns.upd u10 fun y A=>.inl (by have A:y=P.size:=A;show y<h5.size;omega)).at0 (g:=fun w=>Value.string (aG w)) hnm
  obtain⟨a2,ha2,_,hv2⟩:=((owM.upd u10 fun y A e=>A.2 e).sl (W:=No) fun _ _ _ h=>h).at0 (g:=fun w=>Value.string (aG w)) (i:=0) (x:=w) rfl
  have next:∀h' kk',((kk'= -1∧∀f∈formsL.take (n+1),f.2.1≠w)∨∃f∈formsL,f.2.1=w∧kk'=f.1)→MkO h h.size P.size (P.size+1) h' (d0 kk') eA eA→Upd (· =P.size) h7 h'→I (ac .i64 ((n:Int)+1)) h':=fun h' kk' q m u=>by
   rw[cM Z (by omega)];exact hI (n+1,kk') _ _ ⟨rfl,Z,q,m,u⟩ (by simp only;omega)
  refine⟨⟨by omega,by omega⟩,a,N,_,by rw[ak];exact hv,⟨by omega,by omega⟩,a2,ha2,_,hv2,?_⟩
  rw[Mz];refine aF (fun e=>m10.set z B (Nat.lt_succ_self _) (d':=d0 f.1) (by decide) (by rw[hfk];rfl) rfl rfl fun h11 m11 u11=>next h11 f.1 (.inr ⟨f,hfm,e,rfl⟩) m11 (u10.tr u11)) fun e=>next h10 p (hkk.imp (fun q=>⟨q.1,fun g' hg=>?_⟩) id) m10 u10
  have htk:formsL.take (n+1)=formsL.take n++ [f]:=by rw[iw,hfi];rfl
  rw[htk]at hg;rcases bL.1 hg with hg|hg
  ·exact q.2 g' hg
  ·rw[aQ.1 hg];exact e
 have hn:n=26:=by have:¬(n:Int)<(ns.len:Int):=hge;omega
 subst hn;have hkk:(p= -1∧∀f∈formsL,f.2.1≠w)∨∃f∈formsL,f.2.1=w∧p=f.1:=hkk;clear hI I;have ow10:=owM.upd u10 fun y A e=>A.2 e
 have z10:=u10.size;refine LoopP.ghost (fun(m:Nat) (t:SliceV) h'=>(m=0∨ws.length+1+m≤4)∧OwnS BT 1 cn (fun y=>h1.size≤y∧y≠P.size) h' t ((w::ws)++bC m [])∧MkO h h.size P.size (P.size+1) h' (d0 p) eA eA∧h10.size≤h'.size) (fun m=>4-(ws.length+1+m)) 0 ⟨.inl rfl,by simpa using ow10,m10,au _⟩ ?_
 rintro I m t20 C ⟨hm,o20,G,z21⟩ hI;have ht20:=o20.len;simp only[ai,ay,List.length_replicate]at ht20;refine aF (fun Z=>?_) fun hge=>?_
 ·have Z:ws.length+1+m<4:=by have:(t20.len:Int)<4:=Z;omega
  have z57:=k7.size;refine HF (w:= []) rfl o20 (fun y A=>by omega) (by simp only[ai,ay,List.length_replicate];omega) fun s' h' o u=>hI (m+1) s' h' ⟨.inr (by omega),?_,?_,bv z21 u.size⟩ (by omega)
  ·rw[List.replicate_succ',←aK];exact o
  ·exact⟨u.get G.o fun e=>e.2 rfl,u.get G.r fun e=>by have:=e.1;omega,OwnS.nil gy,OwnS.nil mC,G.k.trans u fun y A=>.inr (by have:=A.1;omega)⟩
 have S:P.size<C.size:=bB G.o;have G:MkO h h.size P.size C.size C (d0 p) eA eA:=⟨G.o,G.r,OwnS.nil gy,OwnS.nil mC,G.k⟩;have h4m:4≤ws.length+1+m:=by have:¬(t20.len:Int)<4:=hge;omega
 have hl4:4≤t20.len:=by omega
 clear hI I;obtain⟨a,N,hw0⟩:∃a,t20.a=some a∧∀h',Upd (fun y=>y=P.size∨C.size≤y) C h'→∀j x,((w::ws)++bC m [])[j]? =some x→aD h' (adr a (j*1))=some (.string (aG x)):=by
  have hs:=o20.sl (W:=fun y=>y=P.size∨C.size≤y) fun y A Z e=>by
   rcases e with e|e
   ·exact A.2 e
   ·omega
  obtain⟨a,N,_,_⟩:=hs.row (by simp);refine⟨a,N,fun h' u j x hj=>?_⟩
  obtain⟨a',ha',_,hv⟩:=(hs.upd u fun y A=>.inl A).at0 (g:=fun w=>Value.string (aG w)) hj
  rw[N]at ha';cases ha';exact hv
 have p1:=UJ (w:=w) h4m (j:=0) (by omega);have p2:=UJ (w:=w) h4m (j:=1) (by omega);have p3:=UJ (w:=w) h4m (j:=2) (by omega);have g1:=g 0;have g2:=g 1;have g3:=g 2;generalize hv1:ws.getD 0 []=x1 at p1 g1;generalize hv2:ws.getD 1 []=x2 at p2 g2;generalize hv3:ws.getD 2 []=x3 at p3 g3;have k:∀{h'},Upd (fun y=>y=P.size∨C.size≤y) C h'→∀j x,((w::ws)++bC m [])[j]? =some x→aD h' (adr a (j*1))=some (.string (aG x)):=fun u=>hw0 _ u
 refine Join.intro (fun(_:Unit) h'=>∃sp sc,MkO h h.size P.size C.size h' (cB p ws) sp sc) (fun J hJ=>?_) ?_
 rotate_left
 ·rintro _ h' ⟨sp,sc,mm⟩
  refine Join.intro (fun(t:Bool) h''=>MkO h h.size P.size C.size h'' (cB p ws) sp sc∧t= !(iQ F).isSome∧(t=false→iQ F=some (cB p ws))) (fun R hR=>⟨_,vc mm.o 0,?_⟩) ?_
  rotate_left
  ·rintro t h'' ⟨m2,ht,hs⟩
   have m2':=m2;refine CondP.intro (fun e=>?_) fun e=>?_
   ·refine dd (c:=ia (rS 0)) (vs:=ia (rS 0)) m2.r rfl fun h3' b3' u3'=>xW b3' (hk0 ?_ h3' ?_)
    ·rw[e]at ht
     cases e2:iQ F with
     |none=>rfl
     |some d=>rw[e2]at ht;cases ht
    ·exact m2.k.trans u3' fun y A=>.inr (by have A:y=h.size:=A;omega)
   ·refine xW m2.o (dd (c:=ia (rS 0)) (vs:=ia (pY (cB p ws) sp sc)) m2.r rfl fun h3' b3' u3'=>xW b3' (hk h3' _ sp sc (hs e) ?_ ?_ ?_))
    ·exact(m2.ps.sl (W:=fun y=>y=h.size) fun y A _ e=>by have A:C.size≤y:=A;have e:y=h.size:=e;omega).upd u3' (fun y A=>.inl A)|>.less fun _ h=>h.elim
    ·exact(m2.cs.sl (W:=fun y=>y=h.size) fun y A _ e=>by have A:C.size≤y:=A;have e:y=h.size:=e;omega).upd u3' (fun y A=>.inl A)|>.less fun _ h=>h.elim
    ·exact m2.k.trans u3' fun y A=>.inr (by have A:y=h.size:=A;omega)
  ·rcases hkk with⟨rfl,hno⟩|⟨f,hfm,hfw,hfk⟩
   ·have hlk:(cB (-1) ws).k= -1:=rfl
    refine aF (fun e=>hR _ _ ⟨mm,?_,fun e=>by cases e⟩) fun e=>absurd (show(pY (cB (-1) ws) sp sc).1<0 by show(cB (-1) ws).k<0;rw[hlk];decide) e
    have:iQ F=none:=by
     unfold iQ;rw[hcut];simp only;rw[List.find?_eq_none.2 fun f hf=>by simpa using hno f hf]
    rw[this];rfl
   ·have hlk:(cB p ws).k=p:=WV p ws
    have h0:0≤p:=by
     have h26:∀f∈formsL,0≤f.1:=by decide+kernel
     rw[hfk];exact h26 f hfm
    refine aF (fun e=>absurd e (show ¬(cB p ws).k<0 by rw[hlk];omega)) fun _=>xW mm.o ?_
    have sm:=EH p (ws:=ws) (fun x hx'=>by have:=hwl x hx';omega) (by omega)
    refine Py (d:=cB p ws) sm (mm.ps.sl (W:=No) fun _ _ _ h=>h) (mm.cs.sl (W:=No) fun _ _ _ h=>h) fun h8 k8=>hR _ _ ⟨mm.up0 k8,?_⟩
    have hpR:iQ F=if lP (cB p ws)=some F then some (cB p ws)else none:=by
     rw[←SC];unfold K1;rw[hcut];simp only;rw[←hfw,Ln hfm];simp only;rw[hfk]
    have hne:F≠[]:=fun e=>by
     rw[e]at hcut;have:w= []:=by cases hcut;rfl
     have:=(D2 f hfm).2.2;rw[hfw]at this;contradiction
    rw[Mz,hpR];by_cases ht:lP (cB p ws)=some F
    ·rw[ht,if_pos rfl];exact⟨by simp,fun _=>rfl⟩
    ·rw[if_neg ht]
     have:¬((lP (cB p ws)).getD []=F):=fun e=>by
      cases e2:lP (cB p ws)with
      |none=>rw[e2]at e;exact hne e.symm
      |some l=>rw[e2]at e ht;exact ht (by rw[←e];rfl)
     rw[decide_eq_false this];exact⟨rfl,fun e=>by cases e⟩
 have O:∀{h':ad} {D:OpD} {sp sc:SliceV},cB p ws=D→MkO h h.size P.size C.size h' D sp sc→J () h':=fun{h' D sp sc} X mm=>hJ _ _ ⟨sp,sc,by rw[X];exact mm⟩
 clear hJ;refine⟨p,vc G.o 0,Zn ((CondP.intro (fun e0=>?_) fun e0=>Nt ((CondP.intro (fun e1=>?_) fun e1=>CondP.intro (fun e4=>?_) fun e4=>CondP.intro (fun e5=>?_) fun e5=>CondP.intro (fun e6=>?_) fun e6=>CondP.intro (fun e8=>?_) fun e8=>CondP.intro (fun e10=>?_) fun e10=>Nt ((CondP.intro (fun e11=>?_) fun e11=>CondP.intro (fun e12=>?_) fun e12=>CondP.intro (fun e13=>?_) fun e13=>CondP.intro (fun e15=>?_) fun e15=>Nt ((CondP.intro (fun e16=>?_) fun e16=>Nt ((CondP.intro (fun e18=>?_) fun e18=>CondP.intro (fun e19=>?_) fun e19=>CondP.intro (fun e21=>?_) fun e21=>CondP.intro (fun e22=>?_) fun e22=>?_))))))))))⟩
 ·have X:cB p ws={d0 p with b:=aG x1,i:=ac .u32 (fl x2)}:=by
   rcases(by simpa using e0:p=0∨p=2∨p=7)with q|q|q<;>(rw[q,←hv1,←hv2];rfl)
  refine⟨⟨by omega,by omega⟩,a,N,aG x1,k (Upd.refl _ _) 1 x1 p1,⟨⟨by omega,by omega⟩,a,N,aG x2,k (Upd.refl _ _) 2 x2 p2,i5 (by omega) (⟨k (Upd.refl _ _) 1 x1 p1,G.set z B S (d':={d0 p with b:=aG x1}) (by decide) rfl rfl rfl fun V T u31=>T.set z B S (d':={d0 p with b:=aG x1,i:=ac .u32 (fl x2)}) (by decide) rfl rfl rfl fun U H u32=>O X H⟩)⟩⟩
 ·have X:cB p ws={d0 p with b:=aG x1}:=by
   rcases(by simpa using e1:p=1∨p=3)with q|q<;>(rw[q,←hv1];rfl)
  refine⟨⟨by omega,by omega⟩,a,N,aG x1,k (Upd.refl _ _) 1 x1 p1,G.set z B S (d':={d0 p with b:=aG x1}) (by decide) rfl rfl rfl fun V T u31=>O X T⟩
 ·have X:cB p ws={d0 p with b:=aG x1,key:=dz x2,v:=dz x3}:=by
   have q:p=4:=by simpa using e4
   rw[q,←hv1,←hv2,←hv3];rfl
  refine⟨⟨by omega,by omega⟩,a,N,aG x1,k (Upd.refl _ _) 1 x1 p1,⟨⟨by omega,by omega⟩,a,N,aG x2,k (Upd.refl _ _) 2 x2 p2,⟨⟨by omega,by omega⟩,a,N,aG x3,k (Upd.refl _ _) 3 x3 p3,gK (by omega) fun V E=>⟨k (E.wide) 3 x3 p3,⟨k (E.wide) 1 x1 p1,gK (by omega) fun U k32=>⟨k ((E.wide).tr k32.wide) 1 x1 p1,((G.up0 E).up0 k32).set z B S (d':={d0 p with b:=aG x1}) (by decide) rfl rfl rfl fun h33 L u33=>L.set z B S (d':={d0 p with b:=aG x1,key:=dz x2}) (by decide) rfl rfl rfl fun h34 Q u34=>Q.set z B S (d':={d0 p with b:=aG x1,key:=dz x2,v:=dz x3}) (by decide) rfl rfl rfl fun h35 m35 u35=>O X m35⟩⟩⟩⟩⟩⟩
 ·have X:cB p ws={d0 p with b:=aG x1,key:=dz x2}:=by
   have q:p=5:=by simpa using e5
   rw[q,←hv1,←hv2];rfl
  refine⟨⟨by omega,by omega⟩,a,N,aG x1,k (Upd.refl _ _) 1 x1 p1,⟨⟨by omega,by omega⟩,a,N,aG x2,k (Upd.refl _ _) 2 x2 p2,gK (by omega) fun V E=>⟨k (E.wide) 1 x1 p1,(G.up0 E).set z B S (d':={d0 p with b:=aG x1}) (by decide) rfl rfl rfl fun U H u32=>H.set z B S (d':={d0 p with b:=aG x1,key:=dz x2}) (by decide) rfl rfl rfl fun h33 L u33=>O X L⟩⟩⟩
 ·have q:p=6:=by simpa using e6
  refine⟨⟨by omega,by omega⟩,a,N,aG x1,k (Upd.refl _ _) 1 x1 p1,G.set z B S (d':={d0 p with b:=aG x1}) (by decide) rfl rfl rfl fun h30 m30 u30=>?_⟩
  have z30:=u30.size;rw[show ac .i64 ((e2.len:Int)-1)=(ws.length:Int)from by rw[hlen,kD (by omega)];omega]
  refine LoopP.ghost (fun(Y:Nat×List Pr) (t:Int) h'=>t=((2+2*Y.1:Nat):Int)∧Y.2.length=Y.1∧2*Y.1≤ws.length∧Y.2++jp (ws.drop (1+2*Y.1))=jp (ws.drop 1)∧(∃sp,MkO h h.size P.size C.size h' {d0 p with b:=aG x1,ps:=Y.2} sp eA)∧Upd (fun y=>y=P.size∨C.size≤y) C h') (fun Y=>ws.length-2*Y.1) (0,[]) ⟨rfl,rfl,bc _,rfl,⟨eA,m30⟩,u30.mono fun y A=>.inl (.inl A)⟩ ?_
  rintro I ⟨n,acc⟩ t h' ⟨rfl,hacc,h2n,hap,⟨sp,mm⟩,uu⟩ hI;simp only at hacc h2n hap mm;have ew:ac .i64 (((2+2*n:Nat):Int)+1)=((2+2*n+1:Nat):Int):=by rw[kD (by omega)];omega
  rw[ew];refine aF (fun Z=>Join.plain ?_) fun hge=>?_
  ·have Z:2+2*n+1≤ws.length:=by omega
   obtain⟨a1,q1⟩:∃x,ws[1+2*n]? =some x:=⟨_,ax (by omega)⟩;obtain⟨a2,q2⟩:∃x,ws[1+2*n+1]? =some x:=⟨_,ax (by omega)⟩;have l1:=hwl _ (be q1);have l2:=hwl _ (be q2);have w1:=Jx (w:=w) (m:=m) q1;have w2:=Jx (w:=w) (m:=m) q2;rw[show 1+2*n+1=2+2*n by omega]at w1
   rw[show 1+2*n+1+1=2+2*n+1 by omega]at w2
   simp only[ak];refine⟨sp,vc mm.o 13,⟨by omega,by omega⟩,a,N,aG a1,k uu _ _ w1,⟨by omega,by omega⟩,a,N,aG a2,k uu _ _ w2,gK (by omega) fun V E=>⟨k (uu.tr E.wide) _ _ w2,vc (E.get0 mm.o) 13,gK (by omega) fun U k32=>?_⟩⟩
   have H:=(mm.up0 E).up0 k32;have z32:=bB H.o;refine⟨vc H.o 13,pe fun h33 b33 k33=>⟨vc (k33.get0 H.o) 13,?_⟩⟩
   have L:=H.up0 k33;have z33:=k33.size;have zz:=uu.size;have z31:=E.size;have z32':=k32.size;have o1:OwnS jz 2 kV (fun _=>True) h33 ⟨some (aH U),1,1⟩ [(dz a1,dz a2)]:=⟨rfl,gy,au _,.inr ⟨U.size,[],rfl,trivial,b33,rfl⟩⟩
   refine⟨_,(o1.sl (W:=No) fun _ _ _ h=>h).srow,AppP.own (ys:= [(dz a1,dz a2)]) L.ps rfl rfl rfl rfl (by omega) (by show(acc.length+1)*32≤_;omega) (show C.size≤h33.size by omega) fun s' h34 o34 u34=>?_⟩
   have c34:=u34.get L.o (show ¬C.size≤P.size by omega)
   refine oz (c':=(ia (pY {d0 p with b:=aG x1,ps:=acc++ [(dz a1,dz a2)]} s' eA)).toArray) c34 (by simp) rfl fun h35 b35 u35=>?_
   show I (ac .i64 (((2+2*n:Nat):Int)+2)) h35
   rw[show ac .i64 (((2+2*n:Nat):Int)+2)=((2+2*(n+1):Nat):Int)from by rw[kD (by omega)];omega]
   refine hI (n+1,acc++ [(dz a1,dz a2)]) _ _ ⟨rfl,by simp[hacc],by simp only;omega,?_,⟨s',⟨b35,u35.get (u34.get L.r (show ¬C.size≤h.size by omega)) z,o34.upd u35 fun y A e=>by have A:C.size≤y:=A;have e:y=P.size:=e;omega,OwnS.nil mC,(L.k.trans u34 fun y A=>.inr (by have A:C.size≤y:=A;omega)).trans u35 fun y A=>.inr (by have A:y=P.size:=A;omega)⟩⟩,?_⟩ (by simp only;omega)
   ·rw[aK,←hap]
    have:=K9 q1 q2;rw[show 1+2*n+2=1+2*(n+1) by omega]at this
    rw[this];rfl
   ·exact((((uu.tr E.wide).tr k32.wide).tr k33.wide).tr (u34.mono fun y A=>.inl (.inr A))).tr (u35.mono fun y A=>.inl (.inl A))
  ·have hge:ws.length≤1+2*n+1:=by omega
   rw[Nm hge,cE]at hap;refine O (D:={d0 p with b:=aG x1,ps:=acc}) ?_ mm;rw[hap,←hv1,q];rfl
 ·have X:cB p ws={d0 p with b:=aG x1,o:=aG x2,w:=ac .i64 (fl x3)}:=by
   have q:p=8:=by simpa using e8
   rw[q,←hv1,←hv2,←hv3];rfl
  refine⟨⟨by omega,by omega⟩,a,N,aG x1,k (Upd.refl _ _) 1 x1 p1,⟨⟨by omega,by omega⟩,a,N,aG x2,k (Upd.refl _ _) 2 x2 p2,⟨⟨by omega,by omega⟩,a,N,aG x3,k (Upd.refl _ _) 3 x3 p3,i5 (by omega) (⟨k (Upd.refl _ _) 2 x2 p2,⟨k (Upd.refl _ _) 1 x1 p1,G.set z B S (d':={d0 p with b:=aG x1}) (by decide) rfl rfl rfl fun V T u31=>⟨k ((u31.mono fun y A=>.inl (.inl A))) 2 x2 p2,T.set z B S (d':={d0 p with b:=aG x1,o:=aG x2}) (by decide) rfl rfl rfl fun U H u32=>H.set z B S (d':={d0 p with b:=aG x1,o:=aG x2,w:=ac .i64 (fl x3)}) (by decide) rfl rfl rfl fun h33 L u33=>O X L⟩⟩⟩)⟩⟩⟩
 ·have X:cB p ws={d0 p with i:=ac .u32 (fl x1),key:=dz x2}:=by
   have q:p=10:=by simpa using e10
   rw[q,←hv1,←hv2];rfl
  refine⟨⟨by omega,by omega⟩,a,N,aG x1,k (Upd.refl _ _) 1 x1 p1,⟨⟨by omega,by omega⟩,a,N,aG x2,k (Upd.refl _ _) 2 x2 p2,i5 (by omega) (⟨k (Upd.refl _ _) 2 x2 p2,gK (by omega) fun V E=>(G.up0 E).set z B S (d':={d0 p with i:=ac .u32 (fl x1)}) (by decide) rfl rfl rfl fun U H u32=>H.set z B S (d':={d0 p with i:=ac .u32 (fl x1),key:=dz x2}) (by decide) rfl rfl rfl fun h33 L u33=>O X L⟩)⟩⟩
 ·have X:cB p ws={d0 p with i:=ac .u32 (fl x1)}:=by
   rcases(by simpa using e11:p=11∨p=14)with q|q<;>(rw[q,←hv1];rfl)
  refine⟨⟨by omega,by omega⟩,a,N,aG x1,k (Upd.refl _ _) 1 x1 p1,i5 (by omega) (G.set z B S (d':={d0 p with i:=ac .u32 (fl x1)}) (by decide) rfl rfl rfl fun V T u31=>O X T)⟩
 ·have X:cB p ws={d0 p with i:=ac .u32 (fl x1),t:=ac .u32 (fl x2)}:=by
   have q:p=12:=by simpa using e12
   rw[q,←hv1,←hv2];rfl
  refine⟨⟨by omega,by omega⟩,a,N,aG x1,k (Upd.refl _ _) 1 x1 p1,⟨⟨by omega,by omega⟩,a,N,aG x2,k (Upd.refl _ _) 2 x2 p2,i5 (by omega) (⟨k (Upd.refl _ _) 2 x2 p2,i5 (by omega) (G.set z B S (d':={d0 p with i:=ac .u32 (fl x1)}) (by decide) rfl rfl rfl fun V T u31=>T.set z B S (d':={d0 p with i:=ac .u32 (fl x1),t:=ac .u32 (fl x2)}) (by decide) rfl rfl rfl fun U H u32=>O X H)⟩)⟩⟩
 ·have q:p=13:=by simpa using e13
  refine⟨⟨by omega,by omega⟩,a,N,aG x1,k (Upd.refl _ _) 1 x1 p1,G.set z B S (d':={d0 p with b:=aG x1}) (by decide) rfl rfl rfl fun h30 m30 u30=>?_⟩
  have z30:=u30.size;rw[show ac .i64 ((e2.len:Int)-1)=(ws.length:Int)from by rw[hlen,kD (by omega)];omega]
  refine LoopP.ghost (fun(Y:Nat×List Ch) (t:Int) h'=>t=((2+3*Y.1:Nat):Int)∧Y.2.length=Y.1∧3*Y.1≤ws.length∧Y.2++jK (ws.drop (1+3*Y.1))=jK (ws.drop 1)∧(∃sc,MkO h h.size P.size C.size h' {d0 p with b:=aG x1,cs:=Y.2} eA sc)∧Upd (fun y=>y=P.size∨C.size≤y) C h') (fun Y=>ws.length-3*Y.1) (0,[]) ⟨rfl,rfl,bc _,rfl,⟨eA,m30⟩,u30.mono fun y A=>.inl (.inl A)⟩ ?_
  rintro I ⟨n,acc⟩ t h' ⟨rfl,hacc,h2n,hap,⟨sc,mm⟩,uu⟩ hI;simp only at hacc h2n hap mm;have ew:ac .i64 (((2+3*n:Nat):Int)+1)=((2+3*n+1:Nat):Int):=by rw[kD (by omega)];omega
  have ew2:ac .i64 (((2+3*n:Nat):Int)+2)=((2+3*n+2:Nat):Int):=by rw[kD (by omega)];omega
  rw[ew,ew2];refine aF (fun Z=>Join.plain ?_) fun hge=>?_
  ·have Z:2+3*n+2≤ws.length:=by omega
   obtain⟨a1,q1⟩:∃x,ws[1+3*n]? =some x:=⟨_,ax (by omega)⟩;obtain⟨a2,q2⟩:∃x,ws[1+3*n+1]? =some x:=⟨_,ax (by omega)⟩;obtain⟨a3,q3⟩:∃x,ws[1+3*n+2]? =some x:=⟨_,ax (by omega)⟩;have l1:=hwl _ (be q1);have l2:=hwl _ (be q2);have l3:=hwl _ (be q3);have w1:=Jx (w:=w) (m:=m) q1;have w2:=Jx (w:=w) (m:=m) q2
   have w3:=Jx (w:=w) (m:=m) q3;rw[show 1+3*n+1=2+3*n by omega]at w1
   rw[show 1+3*n+1+1=2+3*n+1 by omega]at w2
   rw[show 1+3*n+2+1=2+3*n+2 by omega]at w3
   simp only[ak];have zz:=uu.size;refine⟨sc,vc mm.o 14,⟨by omega,by omega⟩,a,N,aG a1,k uu _ _ w1,⟨by omega,by omega⟩,a,N,aG a2,k uu _ _ w2,⟨by omega,by omega⟩,a,N,aG a3,k uu _ _ w3,⟨by omega,by omega⟩,a,N,aG a2,k uu _ _ w2,⟨by omega,by omega⟩,a,N,aG a3,k uu _ _ w3,gK (by omega) fun V E=>?_⟩
   have v31:=uu.tr E.wide;have T:=mm.up0 E;have z31:=E.size;refine⟨k v31 _ _ w3,k v31 _ _ w2,k v31 _ _ w3,k v31 _ _ w2,vc T.o 14,gK (by omega) fun U k32=>?_⟩
   have v32:=v31.tr k32.wide;have H:=T.up0 k32;have z32:=k32.size;refine⟨k v32 _ _ w3,k v32 _ _ w2,k v32 _ _ w3,vc H.o 14,gK (by omega) fun h33 k33=>?_⟩
   have v33:=v32.tr k33.wide;have L:=H.up0 k33;have z33:=k33.size;refine⟨k v33 _ _ w3,k v33 _ _ w2,vc L.o 14,pe fun h34 b34 k34=>?_⟩
   have v34:=v33.tr k34.wide;have Q:=L.up0 k34;have z34:=k34.size;have eB:∀x:List UInt8,(!((aG x).toList==(⟨#[46]⟩:ByteArray).toList))= !decide (x= [46]):=fun x=>by rw[show(⟨#[46]⟩:ByteArray)=aG [46]from rfl,Mz]
   rw[eB,eB]at b34;have o1:OwnS sg 5 gU (fun _=>True) h34 ⟨some (aH h33),1,1⟩ [(dz a1,dz a2,dz a3, !decide (a2= [46]), !decide (a3= [46]))]:=⟨rfl,mC,au _,.inr ⟨h33.size,[],rfl,trivial,b34,rfl⟩⟩
   refine⟨k v34 _ _ w3,k v34 _ _ w2,vc Q.o 14,_,(o1.sl (W:=No) fun _ _ _ h=>h).srow,AppP.own (ys:= [(dz a1,dz a2,dz a3, !decide (a2= [46]), !decide (a3= [46]))]) Q.cs rfl rfl rfl rfl (by omega) (by show(acc.length+1)*56≤_;omega) (show C.size≤h34.size by omega) fun s' h35 o35 u35=>?_⟩
   have c35:=u35.get Q.o (show ¬C.size≤P.size by omega)
   have v35:=v34.tr (u35.mono fun y A=>.inl (.inr A))
   refine⟨k v35 _ _ w3,k v35 _ _ w2,oz (c':=(ia (pY {d0 p with b:=aG x1,cs:=acc++ [(dz a1,dz a2,dz a3, !decide (a2= [46]), !decide (a3= [46]))]} eA s')).toArray) c35 (by simp) rfl fun h36 b36 u36=>?_⟩
   show I (ac .i64 (((2+3*n:Nat):Int)+3)) h36
   rw[show ac .i64 (((2+3*n:Nat):Int)+3)=((2+3*(n+1):Nat):Int)from by rw[kD (by omega)];omega]
   refine hI (n+1,acc++ [(dz a1,dz a2,dz a3, !decide (a2= [46]), !decide (a3= [46]))]) _ _ ⟨rfl,by simp[hacc],by simp only;omega,?_,⟨s',⟨b36,u36.get (u35.get Q.r (show ¬C.size≤h.size by omega)) z,OwnS.nil gy,o35.upd u36 fun y A e=>by have A:C.size≤y:=A;have e:y=P.size:=e;omega,(Q.k.trans u35 fun y A=>.inr (by have A:C.size≤y:=A;omega)).trans u36 fun y A=>.inr (by have A:y=P.size:=A;omega)⟩⟩,v35.tr (u36.mono fun y A=>.inl (.inl A))⟩ (by simp only;omega)
   rw[aK,←hap];have:=La q1 q2 q3;rw[show 1+3*n+3=1+3*(n+1) by omega]at this
   rw[this];rfl
  ·have hge:ws.length≤1+3*n+2:=by omega
   rw[Nn hge,cE]at hap;refine O (D:={d0 p with b:=aG x1,cs:=acc}) ?_ mm;rw[hap,←hv1,q];rfl
 ·have X:cB p ws={d0 p with s:=ac .i64 (fl x1),key:=dz x2,v:=dz x3}:=by
   have q:p=15:=by simpa using e15
   rw[q,←hv1,←hv2,←hv3];rfl
  refine⟨⟨by omega,by omega⟩,a,N,aG x1,k (Upd.refl _ _) 1 x1 p1,⟨⟨by omega,by omega⟩,a,N,aG x2,k (Upd.refl _ _) 2 x2 p2,⟨⟨by omega,by omega⟩,a,N,aG x3,k (Upd.refl _ _) 3 x3 p3,i5 (by omega) (⟨k (Upd.refl _ _) 3 x3 p3,⟨k (Upd.refl _ _) 2 x2 p2,gK (by omega) fun V E=>⟨k (E.wide) 3 x3 p3,gK (by omega) fun U k32=>((G.up0 E).up0 k32).set z B S (d':={d0 p with s:=ac .i64 (fl x1)}) (by decide) rfl rfl rfl fun h33 L u33=>L.set z B S (d':={d0 p with s:=ac .i64 (fl x1),key:=dz x2}) (by decide) rfl rfl rfl fun h34 Q u34=>Q.set z B S (d':={d0 p with s:=ac .i64 (fl x1),key:=dz x2,v:=dz x3}) (by decide) rfl rfl rfl fun h35 m35 u35=>O X m35⟩⟩⟩)⟩⟩⟩
 ·have X:cB p ws={d0 p with s:=ac .i64 (fl x1),key:=dz x2}:=by
   rcases(by simpa using e16:p=16∨p=17)with q|q<;>(rw[q,←hv1,←hv2];rfl)
  refine⟨⟨by omega,by omega⟩,a,N,aG x1,k (Upd.refl _ _) 1 x1 p1,⟨⟨by omega,by omega⟩,a,N,aG x2,k (Upd.refl _ _) 2 x2 p2,i5 (by omega) (⟨k (Upd.refl _ _) 2 x2 p2,gK (by omega) fun V E=>(G.up0 E).set z B S (d':={d0 p with s:=ac .i64 (fl x1)}) (by decide) rfl rfl rfl fun U H u32=>H.set z B S (d':={d0 p with s:=ac .i64 (fl x1),key:=dz x2}) (by decide) rfl rfl rfl fun h33 L u33=>O X L⟩)⟩⟩
 ·have X:cB p ws={d0 p with s:=ac .i64 (fl x1)}:=by
   rcases(by simpa using e18:p=18∨p=20)with q|q<;>(rw[q,←hv1];rfl)
  refine⟨⟨by omega,by omega⟩,a,N,aG x1,k (Upd.refl _ _) 1 x1 p1,i5 (by omega) (G.set z B S (d':={d0 p with s:=ac .i64 (fl x1)}) (by decide) rfl rfl rfl fun V T u31=>O X T)⟩
 ·have X:cB p ws={d0 p with s:=ac .i64 (fl x1),b:=aG x2}:=by
   have q:p=19:=by simpa using e19
   rw[q,←hv1,←hv2];rfl
  refine⟨⟨by omega,by omega⟩,a,N,aG x1,k (Upd.refl _ _) 1 x1 p1,⟨⟨by omega,by omega⟩,a,N,aG x2,k (Upd.refl _ _) 2 x2 p2,i5 (by omega) (⟨k (Upd.refl _ _) 2 x2 p2,G.set z B S (d':={d0 p with s:=ac .i64 (fl x1)}) (by decide) rfl rfl rfl fun V T u31=>⟨k ((u31.mono fun y A=>.inl (.inl A))) 2 x2 p2,T.set z B S (d':={d0 p with s:=ac .i64 (fl x1),b:=aG x2}) (by decide) rfl rfl rfl fun U H u32=>O X H⟩⟩)⟩⟩
 ·have X:cB p ws={d0 p with i:=ac .u32 (fl x1),key:=dz x2,w:=ac .i64 (fl x3)}:=by
   have q:p=21:=by simpa using e21
   rw[q,←hv1,←hv2,←hv3];rfl
  refine⟨⟨by omega,by omega⟩,a,N,aG x1,k (Upd.refl _ _) 1 x1 p1,⟨⟨by omega,by omega⟩,a,N,aG x2,k (Upd.refl _ _) 2 x2 p2,⟨⟨by omega,by omega⟩,a,N,aG x3,k (Upd.refl _ _) 3 x3 p3,i5 (by omega) (⟨k (Upd.refl _ _) 3 x3 p3,⟨k (Upd.refl _ _) 2 x2 p2,gK (by omega) fun V E=>⟨k (E.wide) 3 x3 p3,i5 (by omega) ((G.up0 E).set z B S (d':={d0 p with i:=ac .u32 (fl x1)}) (by decide) rfl rfl rfl fun U H u32=>H.set z B S (d':={d0 p with i:=ac .u32 (fl x1),key:=dz x2}) (by decide) rfl rfl rfl fun h33 L u33=>L.set z B S (d':={d0 p with i:=ac .u32 (fl x1),key:=dz x2,w:=ac .i64 (fl x3)}) (by decide) rfl rfl rfl fun h34 Q u34=>O X Q)⟩⟩⟩)⟩⟩⟩
 ·have q:p=22:=by simpa using e22
  refine⟨⟨by omega,by omega⟩,a,N,aG x1,k (Upd.refl _ _) 1 x1 p1,⟨by omega,by omega⟩,a,N,aG x2,k (Upd.refl _ _) 2 x2 p2,⟨by omega,by omega⟩,a,N,aG x3,k (Upd.refl _ _) 3 x3 p3,i5 (by omega) ⟨k (Upd.refl _ _) 3 x3 p3,k (Upd.refl _ _) 2 x2 p2,gK (by omega) fun V E=>⟨k E.wide 3 x3 p3,(G.up0 E).set z B S (d':={d0 p with i:=ac .u32 (fl x1)}) (by decide) rfl rfl rfl fun U H u32=>?_⟩⟩⟩
  have v32:Upd (fun y=>y=P.size∨C.size≤y) C U:=E.wide.tr (u32.mono fun y A=>.inl (.inl A))
  refine⟨k v32 3 x3 p3,H.set z B S (d':={d0 p with i:=ac .u32 (fl x1),fr:=dz x2}) (by decide) rfl rfl rfl fun h33 L u33=>?_⟩
  have v33:=v32.tr (u33.mono fun y A=>.inl (.inl A))
  have eS:((aG x3).toList==(⟨#[42]⟩:ByteArray).toList)=decide (x3= [42]):=Mz x3 [42];have eD:∀x:List UInt8,((aG x).toList==(⟨#[100,111,119,110]⟩:ByteArray).toList)=decide (x=ig):=fun x=>Mz x ig
  rw[eS];refine⟨k v33 3 x3 p3,L.set z B S (d':={d0 p with i:=ac .u32 (fl x1),fr:=dz x2,op:=decide (x3= [42])}) (by decide) rfl rfl rfl fun h34 Q u34=>?_⟩
  have v34:=v33.tr (u34.mono fun y A=>.inl (.inl A))
  have hwc:ac .i64 ((e2.len:Int)-1)=(ws.length:Int):=by rw[hlen,kD (by omega)];omega
  rw[hwc];refine Join.intro (fun(_:Unit) h'=>MkO h h.size P.size C.size h' {d0 p with i:=ac .u32 (fl x1),fr:=dz x2,op:=decide (x3= [42]),up:=(if x3= [42]then⟨#[]⟩else dz x3)} eA eA∧Upd (fun y=>y=P.size∨C.size≤y) C h') (fun R hR=>⟨decide (x3= [42]),vc Q.o 12,?_⟩) ?_
  ·by_cases e:x3= [42]
   ·rw[decide_eq_true e]at Q⊢
    rw[if_pos e,decide_eq_true e]at hR;exact af.2 (hR _ _ ⟨Q,v34⟩)
   ·rw[decide_eq_false e]at Q⊢
    rw[if_neg e,decide_eq_false e]at hR;refine aA.2 ⟨⟨by omega,by omega⟩,a,N,aG x3,k v34 3 x3 p3,gK (by omega) fun h35 k35=>(Q.up0 k35).set z B S (d':={d0 p with i:=ac .u32 (fl x1),fr:=dz x2,op:=false,up:=dz x3}) (by decide) rfl rfl rfl fun h36 m36 u36=>hR _ _ ⟨m36,(v34.tr k35.wide).tr (u36.mono fun y A=>.inl (.inl A))⟩⟩
  ·rintro _ h37 ⟨m37,v37⟩
   have X:∀bk:Bool,bk=(decide (ws.length=4)&&decide (ws.getD 3 []=ig))→cB p ws={d0 p with i:=ac .u32 (fl x1),fr:=dz x2,op:=decide (x3= [42]),up:=(if x3= [42]then⟨#[]⟩else dz x3),back:=bk}:=fun bk e=>by
    rw[e,q,←hv1,←hv2,←hv3];rfl
   refine CondP.intro (fun e=>?_) fun e=>?_
   ·have e:ws.length=4:=by
     have e:(ws.length:Int)=4:=by simpa using e
     omega
    obtain⟨x4,q4⟩:∃x,ws[3]? =some x:=⟨_,ax (by omega)⟩;have e4:ws.getD 3 []=x4:=by rw[fa,q4];rfl
    refine⟨⟨by omega,by omega⟩,a,N,aG x4,k v37 4 x4 (Jx q4),?_⟩
    rw[eD];exact m37.set z B S (d':={d0 p with i:=ac .u32 (fl x1),fr:=dz x2,op:=decide (x3= [42]),up:=(if x3= [42]then⟨#[]⟩else dz x3),back:=decide (x4=ig)}) (by decide) rfl rfl rfl fun h38 m38 _=>O (X _ (by rw[e,e4];rfl)) m38
   ·have e:¬ws.length=4:=by
     intro e2;rw[e2]at e;cases e
    exact m37.set z B S (d':={d0 p with i:=ac .u32 (fl x1),fr:=dz x2,op:=decide (x3= [42]),up:=(if x3= [42]then⟨#[]⟩else dz x3),back:=false}) (by decide) rfl rfl rfl fun h38 m38 _=>O (X _ (by rw[decide_eq_false e];rfl)) m38
 ·refine O ?_ G
  have q:¬(p=0∨p=2∨p=7)∧¬(p=1∨p=3)∧¬p=4∧¬p=5∧¬p=6∧¬p=8∧¬p=10∧¬(p=11∨p=14)∧¬p=12∧¬p=13∧¬p=15∧¬(p=16∨p=17)∧¬(p=18∨p=20)∧¬p=19∧¬p=21∧¬p=22:=by
   simp only[Bool.or_eq_false_iff,beq_eq_false_iff_ne]at e0 e1 e4 e5 e6 e8 e10 e11 e12 e13 e15 e16 e18 e19 e21 e22;omega
  obtain⟨q0,q1,q2,q3,q4,q5,q6,q7,q8,q9,q10,q11,q12,q13,q14,q15⟩:=q;unfold cB;rw[if_neg q0,if_neg q1,if_neg q2,if_neg q3,if_neg q4,if_neg q5,if_neg q6,if_neg q7,if_neg q8,if_neg q9,if_neg q10,if_neg q11,if_neg q12,if_neg q13,if_neg q14,if_neg q15]
end Go.Proofs
namespace Go.Proofs
open Go Go.Lift Go.RowKit
section
variable {W:Nat→Prop} {h:ad} {b ob:Nat} {s:rj} {d:OpD} {sp sc:SliceV}
theorem Re{b:Nat}(r:RdAt W h b s)(c:UInt8){J:Bool→ad→Prop}(j:J (decide (s.1.head? =some [c])) h):
  ∃a7:Addr,(some ⟨b,0,none⟩:Option Addr)=some a7∧∃v8:SliceV,aD h (adr a7 0)=some (.slice v8.a v8.len v8.cap)∧
    CondP (decide ((v8.len:Int)>(0:Int))) (
     ∃a9:Addr,(some ⟨b,0,none⟩:Option Addr)=some a9∧∃v10:SliceV,aD h (adr a9 0)=some (.slice v10.a v10.len v10.cap)∧
     (((0:Int)≤(0:Int)∧(0:Int)<((v10.len:Nat):Int))∧∃a11:Addr,v10.a=some a11∧
      ∃v12:ByteArray,aD h (adr a11 ((0:Int).toNat*1))=some (.string v12)∧
      J (v12.toList==(⟨#[c]⟩:ByteArray).toList) h)) (
     J false h):=by
 obtain⟨q,hc,k,n⟩:=r.ex;have d:=k.len;refine⟨_,rfl,q,vc hc 0,aF (fun e=>⟨_,rfl,q,vc hc 0,⟨by omega,by omega⟩,?_⟩) fun e=>?_⟩
 ·obtain⟨ws,ok⟩:=s
  cases ws with
  |nil=>simp only[bN]at d;omega
  |cons w rr=>
   obtain⟨a,m,_,f⟩:=k.at0 (g:=fun w=>Value.string (aG w)) (i:=0) (x:=w) rfl
   refine⟨a,m,aG w,f,?_⟩;rw[di,show decide (aG w=(⟨#[c]⟩:ByteArray))=decide ((w::rr).head? =some [c])from by
     rw[decide_eq_decide]
     exact⟨fun e=>congrArg some (yj (a:=w) (b:= [c]) e),fun e=>by rw[bp.inj e]⟩]
   exact j
 ·obtain⟨ws,ok⟩:=s
  cases ws with
  |nil=>exact j
  |cons w r=>simp only[ay]at d;omega
theorem MD(r:RdAt W h b s){K:ByteArray×Bool→ad→Prop}(a:∀h',RdAt W h' b (dG s).2→Upd (· =b) h h'→K (aG (dG s).1.1,(dG s).1.2) h'):HC PG kY [.pointer (some ⟨b,0,none⟩)] [.c .str,.c .bool] K h:=by
 refine BH (some ⟨b,0,none⟩) ?_;unfold tV bf cU bT;unfold dG at a;refine Join.intro (fun(t:Bool) h'=>h'=h∧t=decide (s.1.head? =some [46])) (fun R g=>Re r 46 (J:=R) (g _ _ ⟨rfl,rfl⟩)) ?_
 rintro t h' ⟨rfl,rfl⟩;by_cases e:s.1.head? =some [46]
 ·rw[if_pos e]at a
  rw[decide_eq_true e];exact aA.2 (sR r fun f _ c d=>a f c d)
 ·rw[if_neg e]at a
  rw[decide_eq_false e];exact af.2 (um r fun f c d=>a f c d)
theorem TW{h:ad}{b i j:Nat}{c c':Array Value}{t:TypeId}{v:Value}{k:ad→Prop}(d:h[b]? =some (.cells c t (0,0))) (hi:i+j<c.size) (e:c.setIfInBounds (i+j) v=c') (g:∀h',h'[b]? =some (.cells c' t (0,0))→Upd (· =b) h h'→k h'):Wr h (adr (adr ⟨b,0,none⟩ i) j)∧At (hset h (adr (adr ⟨b,0,none⟩ i) j) v) k:=by
 rw[ce,ce,Nat.zero_add];exact⟨iM d hi,vC d fun h' a f=>g h' (e▸a) f⟩
theorem T7(r:RdAt W h b s)(B:h[ob]? =some (.cells (ia (pY d sp sc)).toArray aR (0,0))) (c:ob≠b) (n:W ob) {K:Unit→ad→Prop}
  (m:∀h',RdAt W h' b (ue 114 (s,d)).1→h'[ob]? =some (.cells (ia (pY (ue 114 (s,d)).2 sp sc)).toArray aR (0,0))→Upd (fun y=>y=b∨y=ob) h h'→K () h'):HC PG bZ [.pointer (some ⟨b,0,none⟩),.pointer (some ⟨ob,0,none⟩),.int .i32 114] [] K h:=by
 refine dx (some ⟨b,0,none⟩) (some ⟨ob,0,none⟩) 114 ?_;unfold cZ ah aZ nv cJ iA ez uf nO bM bT vS iY;refine CondP.intro (fun e=>absurd e (by decide)) fun _=>CondP.intro (fun e=>absurd e (by decide)) fun _=>CondP.intro (fun e=>absurd e (by decide)) fun _=>CondP.intro (fun e=>absurd e (by decide)) fun _=>CondP.intro (fun e=>absurd e (by decide)) fun _=>CondP.intro (fun e=>absurd e (by decide)) fun _=>CondP.intro (fun e=>absurd e (by decide)) fun _=>CondP.intro (fun e=>absurd e (by decide)) fun _=>CondP.intro (fun _=>?_) fun e=>absurd e (by decide)
 refine BG (some ⟨b,0,none⟩) (some ⟨ob,0,none⟩) ?_;unfold tU bf cU cJ bM bT;have m:∀h',RdAt W h' b (vX (jJ (bw s).2).2).2→h'[ob]? =some (.cells (ia (pY {d with fr:=aG (bw s).1,up:=(if(jJ (bw s).2).1.2 then d.up else(jJ (bw s).2).1.1),op:=(if(jJ (bw s).2).1.2 then true else d.op),back:=(vX (jJ (bw s).2).2).1} sp sc)).toArray aR (0,0))→Upd (fun y=>y=b∨y=ob) h h'→K () h':=m
 refine um r fun h1 U N=>⟨_,rfl,TW (N.get B c) (by simp) rfl fun Y b2 D=>?_⟩
 have x:=U.updO D c n;have L:=xA N D;generalize bw s=x1 at*;refine Join.intro (fun(_:Unit) h'=>RdAt W h' b (jJ x1.2).2∧h'[ob]? =some (.cells (ia (pY {d with fr:=aG x1.1,up:=(if(jJ x1.2).1.2 then d.up else(jJ x1.2).1.1),op:=(if(jJ x1.2).1.2 then true else d.op)} sp sc)).toArray aR (0,0))∧Upd (fun y=>y=b∨y=ob) h h') (fun R k=>Join.intro (fun(t:Bool) h'=>h'=Y∧t=decide (x1.2.1.head? =some [42])) (fun S A=>Re x 42 (J:=S) (A _ _ ⟨rfl,rfl⟩)) ?_) ?_
 ·rintro t h' ⟨rfl,rfl⟩
  unfold jJ at k;by_cases e:x1.2.1.head? =some [42]
  ·rw[if_pos e]at k
   rw[decide_eq_true e];exact aA.2 (sR x fun Z _ w g=>⟨_,rfl,TW (g.get b2 c) (by simp) rfl fun h4 v i=>k _ _ ⟨w.updO i c n,v,L.tr (xA g i)⟩⟩)
  ·rw[if_neg e]at k
   rw[decide_eq_false e];exact af.2 (um x fun Z w g=>⟨_,rfl,TW (g.get b2 c) (by simp) rfl fun h4 v i=>k _ _ ⟨w.updO i c n,v,L.tr (xA g i)⟩⟩)
 ·rintro _ h5 ⟨O,b5,Q⟩
  generalize jJ x1.2=x2 at*;unfold vX at m;refine sR O fun h6 _ r6 E=>⟨_,rfl,oz (E.get b5 c) (by simp) rfl fun I T C=>?_⟩
  have G:=r6.updO C c n;have V:=Q.tr (xA E C);have F:∀l:List UInt8,((aG (bX x2.2).1).toList==(aG l).toList)=decide ((bX x2.2).1=l):=fun l=>by
   rw[di,decide_eq_decide];exact⟨fun e=>yj e,fun e=>by rw[e]⟩
  have j:=F ig;have p:=F FL;obtain⟨q,hc,_⟩:=G.ex;refine⟨_,rfl,_,vc hc 1,?_⟩;have f:∀o z:Bool,o=z→z=((bX x2.2).2.2&&(decide ((bX x2.2).1=FL)||decide ((bX x2.2).1=ig)))→∃a,(some ⟨b,0,none⟩:Option Addr)=some a∧(Wr I (adr a 1)∧At (hset I (adr a 1) (.bool o)) (fun u=>K () u)):=fun o z e e2=>
   ⟨_,rfl,G.setOk e fun P X H=>m P (by rw[←e2];exact X) (by
    have:=H.get T c
    rw[this]
    have e3:((aG (bX x2.2).1).toList==(aG ig).toList)=decide ((bX x2.2).1=ig):=j
    show some (Obj.cells (ia (pY {d with fr:=aG x1.1,up:=_,op:=_,back:=((aG (bX x2.2).1).toList==(aG ig).toList)} sp sc)).toArray aR (0,0))=_
    rw[e3]) (V.trans H fun y hy=>.inl (.inl hy))⟩
  refine CondP.intro (fun e=>?_) fun e=>f _ _ rfl ?_
  ·show CondP ((aG (bX x2.2).1).toList==(aG FL).toList) _ _
   rw[p];refine aF (fun e2=>f _ _ rfl ?_) fun e2=>f _ _ j ?_
   ·rw[e,decide_eq_true e2];rfl
   ·rw[e,decide_eq_false e2];rfl
  ·rw[e];rfl
theorem qf(s:rj):(bX s).2.1.length≤s.1.length-1:=by
 obtain⟨ws,ok⟩:=s;cases ws<;>simp[bX]
theorem vY(s:rj):(bw s).2.1.length≤s.1.length-1:=qf s
theorem GF(s:rj):(dG s).2.1.length≤s.1.length-1:=by
 unfold dG;split
 ·exact qf s
 ·exact vY s
theorem Rk(r:RdAt W h b s){J:Bool→ad→Prop}(c:J (decide (s.1≠[]∧s.2=true)) h):
  ∃a39:Addr,(some ⟨b,0,none⟩:Option Addr)=some a39∧∃v40:SliceV,aD h (adr a39 0)=some (.slice v40.a v40.len v40.cap)∧
   CondP (decide ((v40.len:Int)>(0:Int))) (
    ∃a41:Addr,(some ⟨b,0,none⟩:Option Addr)=some a41∧∃v42:Bool,aD h (adr a41 1)=some (.bool v42)∧J v42 h) (
    J false h):=by
 obtain⟨q,hc,d,_⟩:=r.ex;have a:=d.len;refine⟨_,rfl,q,vc hc 0,aF (fun e=>⟨_,rfl,s.2,vc hc 1,?_⟩) fun e=>?_⟩
 ·have:s.1≠[]:=fun e2=>by rw[e2]at a;simp at a;omega
  cases e2:s.2 with
  |true=>rw[decide_eq_true ⟨this,e2⟩]at c;exact c
  |false=>rw[decide_eq_false (fun h=>by rw[e2]at h;cases h.2)]at c;exact c
 ·have:s.1= []:=bj.1 (by omega)
  rw[decide_eq_false (fun h=>h.1 this)]at c;exact c
theorem RY(r:RdAt W h b s)(p:h[ob]? =some (.cells (ia (pY d eA eA)).toArray aR (0,0))) (o:d.ps= []) (j:ob≠b) (X:W ob) (B:∀y,h.size≤y→W y) (hn:s.1.length≤1000000) {K:Unit→ad→Prop}
  (x:∀h' sp,RdAt W h' b (ue 112 (s,d)).1→h'[ob]? =some (.cells (ia (pY (ue 112 (s,d)).2 sp eA)).toArray aR (0,0))→OwnS jz 2 az (fun y=>h.size≤y) h' sp (ue 112 (s,d)).2.ps→Upd (fun y=>y=b∨y=ob) h h'→K () h'):HC PG bZ [.pointer (some ⟨b,0,none⟩),.pointer (some ⟨ob,0,none⟩),.int .i32 112] [] K h:=by
 refine dx (some ⟨b,0,none⟩) (some ⟨ob,0,none⟩) 112 ?_;unfold cZ ah aZ nv cJ iA ez uf nO bM bT vS iY;refine CondP.intro (fun e=>absurd e (by decide)) fun _=>CondP.intro (fun e=>absurd e (by decide)) fun _=>CondP.intro (fun e=>absurd e (by decide)) fun _=>CondP.intro (fun e=>absurd e (by decide)) fun _=>CondP.intro (fun e=>absurd e (by decide)) fun _=>CondP.intro (fun e=>absurd e (by decide)) fun _=>CondP.intro (fun e=>absurd e (by decide)) fun _=>CondP.intro (fun e=>absurd e (by decide)) fun _=>CondP.intro (fun e=>absurd e (by decide)) fun _=>CondP.intro (fun _=>?_) fun e=>absurd e (by decide)
 have x:∀h' sp,RdAt W h' b (ga s.1.length s d.ps).1→h'[ob]? =some (.cells (ia (pY {d with ps:=(ga s.1.length s d.ps).2} sp eA)).toArray aR (0,0))→OwnS jz 2 az (fun y=>h.size≤y) h' sp (ga s.1.length s d.ps).2→Upd (fun y=>y=b∨y=ob) h h'→K () h':=x
 have zb:=r.lt;have zo:=bB p;refine LoopP.ghost (fun(g:Nat×rj×List Pr) (_:Unit) h'=>ga g.1 g.2.1 g.2.2=ga s.1.length s d.ps∧g.2.1.1.length≤g.1∧g.2.2.length+g.1≤1000000∧RdAt W h' b g.2.1∧(∃sp,h'[ob]? =some (.cells (ia (pY {d with ps:=g.2.2} sp eA)).toArray aR (0,0))∧OwnS jz 2 az (fun y=>h.size≤y) h' sp g.2.2)∧Upd (fun y=>y=b∨y=ob∨h.size≤y) h h') (fun g=>g.1) (s.1.length,s,d.ps) ⟨rfl,au _,by rw[o];simpa using hn,r,⟨eA,p,by rw[o];exact OwnS.nil gy⟩,Upd.refl _ _⟩ ?_
 rintro I ⟨n,q,f⟩ _ h' ⟨z,Z,S,w,⟨sp,c,L⟩,u⟩ hI;simp only at z Z S w c L;refine Join.intro (fun(t:Bool) i=>i=h'∧t=decide (q.1≠[]∧q.2=true)) (fun R hR=>Rk w (J:=R) (hR _ _ ⟨rfl,rfl⟩)) ?_
 rintro t i ⟨rfl,rfl⟩;by_cases hm:q.1≠[]∧q.2=true
 ·rw[decide_eq_true hm]
  have hl:1≤q.1.length:=by
   rcases Nat.eq_zero_or_pos q.1.length with C|C
   ·exact absurd (bj.1 C) hm.1
   ·exact C
  obtain⟨m,rfl⟩:∃m,n=m+1:=⟨n-1,by omega⟩
  rw[ga,if_pos hm]at z;have O:=vY q;have hn2:=vY (bw q).2;refine aA.2 ⟨_,rfl,sp,vc c 13,um w fun h1 r1 A=>?_⟩
  have b1:=A.get c j;have zz:=u.size;have no:∀y,h.size≤y→¬y=b:=fun y a e=>by omega
  have E:∀y,h.size≤y→¬y=ob:=fun y a e=>by omega
  have G:=L.upd A fun y a=>no y a
  refine⟨vc b1 13,um r1 fun N U v=>?_⟩
  have b2:=v.get b1 j;have D:=G.upd v fun y a=>no y a
  refine⟨vc b2 13,pe fun h3 b3 k=>⟨vc (k.get0 b2) 13,?_⟩⟩
  have z2:=v.size;have z1:=A.size;have P:OwnS jz 2 az (fun _=>True) h3 ⟨some (aH N),1,1⟩ [(aG (bw q).1,aG (bw (bw q).2).1)]:=⟨rfl,gy,au _,.inr ⟨N.size,[],rfl,trivial,b3,rfl⟩⟩
  refine⟨_,(P.sl (W:=No) fun _ _ _ h=>h).srow,AppP.own (ys:= [(aG (bw q).1,aG (bw (bw q).2).1)]) (D.upd k fun _ _ h=>h) rfl rfl rfl rfl (by omega) (by simp only[ay,bN];omega) (by have:=k.size;omega) fun s' h4 V F=>⟨_,rfl,?_⟩⟩
  have Q:=F.get (k.get0 b2) (show ¬h.size≤ob by omega)
  refine oz (c':=(ia (pY {d with ps:=f++ [(aG (bw q).1,aG (bw (bw q).2).1)]} s' eA)).toArray) Q (by simp) rfl fun h5 b5 H=>?_
  have T:=U.upd0 k;have Y:=T.upd F (show ¬h.size≤b by omega) fun y a=>.inl (B y a)
  refine hI (m,(bw (bw q).2).2,f++ [(aG (bw q).1,aG (bw (bw q).2).1)]) () h5 ⟨z,by simp only;omega,by simp only[ai,ay,bN];omega,Y.updO H j X,⟨s',b5,V.upd H fun y a e=>E y a e⟩,?_⟩ (by simp only;omega)
  exact((((u.trans A fun y a=>.inl (.inl a)).trans v fun y a=>.inl (.inl a)).trans k fun _ h=>h.elim).trans F fun y a=>.inl (.inr (.inr a))).trans H fun y a=>.inl (.inr (.inl a))
 ·rw[decide_eq_false hm]
  have e:ga n q f=(q,f):=by
   cases n with
   |zero=>rfl
   |succ n=>rw[ga,if_neg hm]
  rw[←z,e]at x;exact af.2 (x i sp w c L (u.mono fun y a=>a.elim (fun e=>.inl (.inl e)) fun a=>a.elim (fun e=>.inl (.inr e)) fun e=>.inr e))
theorem UB(s:rj):(A8 s).2.1.length≤s.1.length-1:=by
 have c:=vY s;have a:=GF (bw s).2;have b:=GF (dG (bw s).2).2;show(dG (dG (bw s).2).2).2.1.length≤_
 omega
theorem RZ(r:RdAt W h b s)(L:h[ob]? =some (.cells (ia (pY d eA eA)).toArray aR (0,0))) (G:d.cs= []) (p:ob≠b) (hW:W ob) (E:∀y,h.size≤y→W y) (hn:s.1.length≤1000000) {K:Unit→ad→Prop}
  (N:∀h' sc,RdAt W h' b (ue 99 (s,d)).1→h'[ob]? =some (.cells (ia (pY (ue 99 (s,d)).2 eA sc)).toArray aR (0,0))→OwnS sg 5 cx (fun y=>h.size≤y) h' sc (ue 99 (s,d)).2.cs→Upd (fun y=>y=b∨y=ob) h h'→K () h'):HC PG bZ [.pointer (some ⟨b,0,none⟩),.pointer (some ⟨ob,0,none⟩),.int .i32 99] [] K h:=by
 refine dx (some ⟨b,0,none⟩) (some ⟨ob,0,none⟩) 99 ?_;unfold cZ ah aZ nv cJ iA ez uf nO bM bT vS iY;refine CondP.intro (fun e=>absurd e (by decide)) fun _=>CondP.intro (fun e=>absurd e (by decide)) fun _=>CondP.intro (fun e=>absurd e (by decide)) fun _=>CondP.intro (fun e=>absurd e (by decide)) fun _=>CondP.intro (fun e=>absurd e (by decide)) fun _=>CondP.intro (fun e=>absurd e (by decide)) fun _=>CondP.intro (fun e=>absurd e (by decide)) fun _=>CondP.intro (fun e=>absurd e (by decide)) fun _=>CondP.intro (fun e=>absurd e (by decide)) fun _=>CondP.intro (fun e=>absurd e (by decide)) fun _=>CondP.intro (fun _=>?_) fun e=>absurd e (by decide)
 have N:∀h' sc,RdAt W h' b (nQ s.1.length s d.cs).1→h'[ob]? =some (.cells (ia (pY {d with cs:=(nQ s.1.length s d.cs).2} eA sc)).toArray aR (0,0))→OwnS sg 5 cx (fun y=>h.size≤y) h' sc (nQ s.1.length s d.cs).2→Upd (fun y=>y=b∨y=ob) h h'→K () h':=N
 have zb:=r.lt;have zo:=bB L;refine LoopP.ghost (fun(g:Nat×rj×List Ch) (_:Unit) h'=>nQ g.1 g.2.1 g.2.2=nQ s.1.length s d.cs∧g.2.1.1.length≤g.1∧g.2.2.length+g.1≤1000000∧RdAt W h' b g.2.1∧(∃sc,h'[ob]? =some (.cells (ia (pY {d with cs:=g.2.2} eA sc)).toArray aR (0,0))∧OwnS sg 5 cx (fun y=>h.size≤y) h' sc g.2.2)∧Upd (fun y=>y=b∨y=ob∨h.size≤y) h h') (fun g=>g.1) (s.1.length,s,d.cs) ⟨rfl,au _,by rw[G];simpa using hn,r,⟨eA,L,by rw[G];exact OwnS.nil mC⟩,Upd.refl _ _⟩ ?_
 rintro I ⟨n,q,j⟩ _ h' ⟨O,hq,ha,P,⟨sc,k,H⟩,u⟩ hI;simp only at O hq ha P k H;refine Join.intro (fun(t:Bool) x=>x=h'∧t=decide (q.1≠[]∧q.2=true)) (fun R hR=>Rk P (J:=R) (hR _ _ ⟨rfl,rfl⟩)) ?_
 rintro t x ⟨rfl,rfl⟩;by_cases hm:q.1≠[]∧q.2=true
 ·rw[decide_eq_true hm]
  have hl:1≤q.1.length:=by
   rcases Nat.eq_zero_or_pos q.1.length with h0|h0
   ·exact absurd (bj.1 h0) hm.1
   ·exact h0
  obtain⟨m,rfl⟩:∃m,n=m+1:=⟨n-1,by omega⟩
  rw[nQ,if_pos hm]at O;have hn1:=UB q;have hec:(A8 q).1=(aG (bw q).1,aG (dG (bw q).2).1.1,aG (dG (dG (bw q).2).2).1.1,(dG (bw q).2).1.2,(dG (dG (bw q).2).2).1.2):=rfl;have her:(A8 q).2=(dG (dG (bw q).2).2).2:=rfl;have zz:=u.size;have no:∀y,h.size≤y→¬y=b:=fun y a e=>by omega
  have Y:∀y,h.size≤y→¬y=ob:=fun y a e=>by omega
  refine aA.2 (um P fun o r1 D=>pe fun h2 b2 k2=>dd (c:= [.string ⟨#[]⟩,.string ⟨#[]⟩,.string ⟨#[]⟩,.bool false,.bool false]) (vs:=sg (aG (bw q).1,⟨#[]⟩,⟨#[]⟩,false,false)) b2 rfl fun h3 b3 u3=>?_)
  have z1:=D.size;have zc:h.size≤o.size:=by omega
  have C:Upd No o h3:=k2.own u3 (au _);have z3:=bB b3;have o1:=D.get k p;have o3:=C.get0 o1;have ho3:=(H.upd D fun y a=>no y a).upd C fun _ _ h=>h
  have r3:=r1.upd0 C;have i:o.size≠b:=by omega
  have hco:o.size≠ob:=by omega
  have Wc:=E o.size zc;refine MD r3 fun h4 r4 T=>oz (c':=(sg (aG (bw q).1,aG (dG (bw q).2).1.1,⟨#[]⟩,false,false)).toArray) (T.get b3 i) (by simp) rfl fun h5 b5 u5=>oz (c':=(sg (aG (bw q).1,aG (dG (bw q).2).1.1,⟨#[]⟩,(dG (bw q).2).1.2,false)).toArray) b5 (by simp) rfl fun h6 b6 S=>?_
  have r6:=(r4.updO u5 i Wc).updO S i Wc;have o6:=S.get (u5.get (T.get o3 p) (show ¬ob=o.size by omega)) (show ¬ob=o.size by omega)
  refine MD r6 fun h7 r7 Z=>oz (c':=(sg (aG (bw q).1,aG (dG (bw q).2).1.1,aG (dG (dG (bw q).2).2).1.1,(dG (bw q).2).1.2,false)).toArray) (Z.get b6 i) (by simp) rfl fun h8 b8 u8=>oz (c':=(sg (A8 q).1).toArray) b8 (by simp) rfl fun B F u9=>?_
  have r9:=(r7.updO u8 i Wc).updO u9 i Wc;have V:=u9.get (u8.get (Z.get o6 p) (show ¬ob=o.size by omega)) (show ¬ob=o.size by omega)
  have v:Upd (fun y=>y=b∨y=o.size) h3 B:=((((T.mono fun y a=>.inl (.inl a)).tr (u5.mono fun y a=>.inl (.inr a))).tr (S.mono fun y a=>.inl (.inr a))).tr (Z.mono fun y a=>.inl (.inl a))).tr ((u8.mono fun y a=>.inl (.inr a)).tr (u9.mono fun y a=>.inl (.inr a)))
  have A:=H.sub;have ho9:OwnS sg 5 cx (sb sc) B sc j:=((H.its.upd D fun y a e=>no y (A y a).1 e).upd C fun _ _ h=>h).upd v fun y a e=>by
   have:=A y a;rcases e with e|e<;>omega
  have z39:=v.size;generalize (A8 q).1=c9 at*;refine⟨_,rfl,sc,vc V 14,c9.1,vc F 0,c9.2.1,vc F 1,c9.2.2.1,vc F 2,c9.2.2.2.1,vc F 3,c9.2.2.2.2,vc F 4,pe fun h10 b10 f=>⟨vc (f.get0 V) 14,?_⟩⟩
  have U:=f.size;have oc:OwnS sg 5 cx (fun _=>True) h10 ⟨some (aH B),1,1⟩ [c9]:=⟨rfl,mC,au _,.inr ⟨B.size,[],rfl,trivial,b10,rfl⟩⟩
  refine⟨_,(oc.sl (W:=No) fun _ _ _ h=>h).srow,AppP.own (M:=fun y=>sb sc y∨B.size≤y) (ys:= [c9]) ((ho9.upd f fun _ _ h=>h).more fun y a=>.inl a) rfl rfl rfl rfl (by omega) (by simp only[ay,bN];omega) (.inr U) fun s' h11 X z=>⟨_,rfl,?_⟩⟩
  have nb:∀y,(sb sc y∨B.size≤y)→h.size≤y:=fun y a=>a.elim (fun e=>(A y e).1) fun e=>by omega
  have b11:=z.get (f.get0 V) fun e=>by have:=nb _ e;omega
  refine oz (c':=(ia (pY {d with cs:=j++ [c9]} eA s')).toArray) b11 (by simp) rfl fun h12 b12 w=>?_
  have Q:=(r9.upd0 f).upd z (fun e=>by have:=nb _ e;omega) fun y a=>.inl (E y (nb y a))
  refine hI (m,(A8 q).2,j++ [c9]) () h12 ⟨O,by simp only;omega,by simp only[ai,ay,bN];omega,Q.updO w p hW,⟨s',b12,(X.upd w fun y a e=>Y y (nb y a) e).more nb⟩,?_⟩ (by simp only;omega)
  exact(((((u.trans D fun y a=>.inl (.inl a)).trans C fun _ h=>h.elim).trans v fun y a=>a.elim (fun e=>.inl (.inl e)) fun e=>.inl (.inr (.inr (by omega)))).trans f fun _ h=>h.elim).trans z fun y a=>.inl (.inr (.inr (nb y a)))).trans w fun y a=>.inl (.inr (.inl a))
 ·rw[decide_eq_false hm]
  have e:nQ n q j=(q,j):=by
   cases n with
   |zero=>rfl
   |succ n=>rw[nQ,if_neg hm]
  rw[←O,e]at N;exact af.2 (N x sc P k H (u.mono fun y a=>a.elim (fun e=>.inl (.inl e)) fun a=>a.elim (fun e=>.inl (.inr e)) fun e=>.inr e))
end
end Go.Proofs
namespace Go.Proofs
open Go Go.Lift Go.RowKit
abbrev Wb:List UInt8:= [98,111,107,118,105,116,115,119,114]
section
variable {W:Nat→Prop} {h:ad} {b ob:Nat} {s:rj} {d:OpD} {sp sc:SliceV}
theorem T9{p:UInt8}(i:p∈Wb)(l:Laid h)(e:4≤b)(r:RdAt W h b s)(a:h[ob]? =some (.cells (ia (pY d sp sc)).toArray aR (0,0))) (c:ob≠b) (g:W ob) {K:Unit→ad→Prop}
  (f:∀h',RdAt W h' b (ue p (s,d)).1→h'[ob]? =some (.cells (ia (pY (ue p (s,d)).2 sp sc)).toArray aR (0,0))→Upd (fun y=>y=b∨y=ob) h h'→K () h'):HC PG bZ [.pointer (some ⟨b,0,none⟩),.pointer (some ⟨ob,0,none⟩),.int .i32 (p.toNat:Int)] [] K h:=by
 simp only[ar,bU,or_false]at i;rcases i with rfl|rfl|rfl|rfl|rfl|rfl|rfl|rfl|rfl
 ·exact Ms r a c g f
 ·exact Mp r a c g f
 ·exact Mq r a c g f
 ·exact Mm r a c g f
 ·exact Mr l e r a c g f
 ·exact Mn l e r a c g f
 ·exact Mo l e r a c g f
 ·exact Ml l e r a c g f
 ·exact T7 r a c g f
theorem Js{p:UInt8}(a:p∈Wb)(s:rj)(d:OpD):(ue p (s,d)).2.ps=d.ps∧(ue p (s,d)).2.cs=d.cs:=by
 simp only[ar,bU,or_false]at a;rcases a with rfl|rfl|rfl|rfl|rfl|rfl|rfl|rfl|rfl<;>exact⟨rfl,rfl⟩
theorem GD:∀(pt:List UInt8),(∀p∈pt,p∈Wb)→∀(x:rj×OpD),(fS pt x).2.ps=x.2.ps∧(fS pt x).2.cs=x.2.cs
 | [],_,_=>⟨rfl,rfl⟩
 |p::pt,h,x=>by
  have b:=GD pt (fun q c=>h q (aI _ c)) (ue p x)
  have a:=Js (h p (aN ..)) x.1 x.2;exact⟨b.1.trans a.1,b.2.trans a.2⟩
theorem WE{p:UInt8}(a:p∈Wb)(s:rj)(d:OpD):(ue p (s,d)).1.1.length≤s.1.length:=by
 have b:=qf s;have c:(bw s).2.1.length≤s.1.length-1:=qf s;simp only[ar,bU,or_false]at a;rcases a with rfl|rfl|rfl|rfl|rfl|rfl|rfl|rfl|rfl
 ·show(bX s).2.1.length≤_;omega
 ·show(bX s).2.1.length≤_;omega
 ·show(bX s).2.1.length≤_;omega
 ·show(bX s).2.1.length≤_;omega
 ·show(bX s).2.1.length≤_;omega
 ·show(bX s).2.1.length≤_;omega
 ·show(bX s).2.1.length≤_;omega
 ·show(bX s).2.1.length≤_;omega
 ·have e:(jJ (bw s).2).2.1.length≤(bw s).2.1.length-1:=by
   unfold jJ;split
   ·exact qf _
   ·exact vY _
  have f:=qf (jJ (bw s).2).2;show(bX (jJ (bw s).2).2).2.1.length≤_
  omega
theorem MO:∀(pt:List UInt8),(∀p∈pt,p∈Wb)→∀(x:rj×OpD),(fS pt x).1.1.length≤x.1.1.length
 | [],_,x=>au _
 |p::pt,h,x=>bv (MO pt (fun q a=>h q (aI _ a)) (ue p x)) (WE (h p (aN ..)) x.1 x.2)
theorem Sh(a:List UInt8)(p:UInt8)(x:rj×OpD):fS (a++ [p]) x=ue p (fS a x):=by unfold fS;rw[List.foldl_append];rfl
theorem Nb:∀{pt:List UInt8} {n:Nat} {p:UInt8},Nc pt=true→pt[n]? =some p→(∀q∈pt.take n,q∈Wb)∧(p∉Wb→n+1=pt.length)
 | [],n,p,_,h=>by simp at h
 |q::pt,0,p,ho,h=>by
  cases h;refine⟨(fun q b=>by cases b),fun a=>?_⟩
  rw[Nc,aJ,fh]at ho;rcases ho.1 with e|e
  ·exact absurd (by simpa using e) a
  ·have e:pt= []:=by simpa using e
   rw[e];rfl
 |q::pt,n+1,p,ho,h=>by
  have h:pt[n]? =some p:=by simpa using h
  rw[Nc,aJ,fh]at ho;obtain⟨d,c⟩:=Nb ho.2 h;have b:q∈Wb:=by
   rcases ho.1 with e|e
   ·simpa using e
   ·have e:pt= []:=by simpa using e
    rw[e]at h;cases h
  refine⟨fun x hx=>?_,fun a=>by have:=c a;simp only[ay];omega⟩
  rcases ar.1 hx with rfl|hx
  ·exact b
  ·exact d x hx
theorem UV{p:UInt8}(a:p∈kp):p∈Wb∨p=112∨p=99:=by
 simp only[ar,bU,or_false]at a⊢;rcases a with h|h|h|h|h|h|h|h|h|h|h<;>simp[h]
def aaP(Z:Nat)(h:ad)(ob:Nat)(d:OpD)(a:List UInt8):Prop:=∃sp sc,h[ob]? =some (.cells (ia (pY d sp sc)).toArray aR (0,0))∧OwnS jz 2 az (fun y=>Z≤y) h sp d.ps∧OwnS sg 5 cx (fun y=>Z≤y) h sc d.cs∧((∀p∈a,p∈Wb)→sp=eA∧sc=eA)
theorem Sx{a:List UInt8}(hp:∀p∈a,p∈kp)(ho:Nc a=true){ws:List (List UInt8)}{ok:Bool}{k:Int}{i:Nat}(l:Laid h)(hb4:4≤b)(ho4:4≤ob)(hi4:4≤i)(r:RdAt W h b (ws,ok))(P:h[ob]? =some (.cells (ia (pY (d0 k) eA eA)).toArray aR (0,0))) (w:ob≠b) (hW:W ob) (N:i≠b) (R:i≠ob) (Y:W i) (hWn:∀y,h.size≤y→W y) (hn:ws.length≤1000000)
  (G:h[i]? =some (.stringIter (aG a) 0)) {Kend:ad→Prop}
  (K:∀h',RdAt W h' b (fS a ((ws,ok),d0 k)).1→aaP h.size h' ob (fS a ((ws,ok),d0 k)).2 a→Upd (fun y=>y=b∨y=ob∨y=i) h h'→Kend h'):
  LoopP (fun(I:Unit→ad→Prop) (_:Unit) O=>NextS ⟨i,0,none⟩ O (Kend O) (fun i28 b29 Z=>HC PG bZ [.pointer (some ⟨b,0,none⟩),.pointer (some ⟨ob,0,none⟩),.int .i32 (b29.toNat:Int)] [] (fun(e71:Unit) h72=>I () h72) Z)) () h:=by
 have zb:=r.lt;have zo:=bB P;have zi:=bB G;refine LoopP.ghost (fun(n:Nat) (_:Unit) E=>n≤a.length∧RdAt W E b (fS (a.take n) ((ws,ok),d0 k)).1∧aaP h.size E ob (fS (a.take n) ((ws,ok),d0 k)).2 (a.take n)∧E[i]? =some (.stringIter (aG a) n)∧Upd (fun y=>y=b∨y=ob∨y=i) h E) (fun n=>a.length-n) 0 ⟨bc _,r,⟨eA,eA,P,OwnS.nil gy,OwnS.nil mC,fun _=>⟨rfl,rfl⟩⟩,G,Upd.refl _ _⟩ ?_
 rintro I n _ E ⟨hnl,r2,j,s,u2⟩ hI;by_cases L:n<a.length
 ·obtain⟨p,q⟩:∃p,a[n]? =some p:=⟨_,ax L⟩
  have D:=hp p (be q);obtain⟨m,hlast⟩:=Nb ho q;have B:p.toNat<128:=by
   simp only[ar,bU,or_false]at D;rcases D with rfl|rfl|rfl|rfl|rfl|rfl|rfl|rfl|rfl|rfl|rfl<;>decide
  refine NextS.go s (by rw[NF];simpa using q) B fun X k3 Q=>?_
  have e:a.take (n+1)=a.take n++ [p]:=by rw[iw,q];rfl
  have u3:Upd (fun y=>y=b∨y=ob∨y=i) h X:=u2.tr (k3.mono fun y f=>.inl (.inr (.inr f)))
  have z3:=u3.size;have l3:Laid X:=l.upd u3 fun y f=>by rcases f with rfl|rfl|rfl<;>assumption
  have V:=r2.upd k3 (fun e=>N (by have e:b=i:=e;exact e.symm)) fun y f=>.inl (by have f:y=i:=f;rw[f];exact Y)
  obtain⟨sp,sc,c2,op2,oc2,hN⟩:=j;obtain⟨rfl,rfl⟩:=hN m;have U:=k3.get c2 fun e=>R (by have e:ob=i:=e;exact e.symm)
  have S:=MO _ m ((ws,ok),d0 k);have c:=GD _ m ((ws,ok),d0 k);have A:=Sh (a.take n) p ((ws,ok),d0 k);rw[←e]at A;have u:∀y,X.size≤y→W y:=fun y f=>hWn y (by omega)
  have o:∀d,RdAt W d b (ue p (fS (a.take n) ((ws,ok),d0 k))).1→aaP h.size d ob (ue p (fS (a.take n) ((ws,ok),d0 k))).2 (a.take (n+1))→Upd (fun y=>y=b∨y=ob) X d→I () d:=fun d z H t=>
   hI (n+1) () d ⟨L,by rw[A];exact z,by rw[A];exact H,t.get Q (by rintro(e|e);exact N e;exact R e),u3.tr (t.mono fun y f=>.inl (f.imp id .inl))⟩ (by omega)
  generalize fS (a.take n) ((ws,ok),d0 k)=x at*;obtain⟨xs,T⟩:=x;simp only at V U S c o op2 oc2;have C:T.ps= []:=c.1;have v:T.cs= []:=c.2;rcases UV D with h9|rfl|rfl
  ·have J:=Js h9 xs T
   refine T9 h9 l3 hb4 V U w hW fun d z F t=>o d z ⟨eA,eA,F,by rw[J.1,C];exact OwnS.nil gy,by rw[J.2,v];exact OwnS.nil mC,fun _=>⟨rfl,rfl⟩⟩ t
  ·refine RY V U C w hW u (by omega) fun d sp z F H t=>o d z ⟨sp,eA,F,H.more fun y f=>bv z3 f,by show OwnS sg 5 _ _ d eA T.cs;rw[v];exact OwnS.nil mC,fun g=>absurd (g 112 (by rw[e];simp)) (by decide)⟩ t
  ·refine RZ V U v w hW u (by omega) fun d sc z F H t=>o d z ⟨eA,sc,F,by show OwnS jz 2 _ _ d eA T.ps;rw[C];exact OwnS.nil gy,H.more fun y f=>bv z3 f,fun g=>absurd (g 99 (by rw[e];simp)) (by decide)⟩ t
 ·have hn:n=a.length:=by omega
  rw[hn,List.take_length]at r2 j;exact NextS.stop s (by rw[ci];omega) (K E r2 j u2)
end
set_option maxHeartbeats 1000000 in
theorem Lw{j:List UInt8}(hx:j.length≤100000){h:ad}(l:Laid h)(h4:4≤h.size){K:xp×Bool→ad→Prop}(hk:∀h' d sp sc,iQ j=some d→OwnS jz 2 az (fun y=>h.size≤y) h' sp d.ps→OwnS sg 5 cx (fun y=>h.size≤y) h' sc d.cs→Upd No h h'→K (pY d sp sc,true) h')(hk0:iQ j=none→∀h',Upd No h h'→K (rS 0,false) h'):
  HC PG mZ [.string (aG j)] [.agg [.int .i64,.str,.str,.str,.str,.int .u32,.int .u32,.int .i64,.int .i64,.bool,.str,.str,.bool,.slice,.slice],.c .bool] K h:=by
 refine C5 (aG j) ?_;unfold xr bf cU aj bJ ah aZ aL fx nv L8 vW bP TJ TY cJ ez XV bT Wi;have b1:=bF h (ia (rS 0)) aR;have k1:=Upd.hnew No h (ia (rS 0)) aR;have z1:=eN h (ia (rS 0)) aR;refine bi ?_;show HC PG mV _ _ _ (hnew h (ia (rS 0)) aR)
 generalize hnew h (ia (rS 0)) aR=h1 at b1 k1 z1;refine B5 (by rw[ci];omega) fun T k ow k3=>Cx fun h5 of k5=>?_
 rw[show(aG j).data.toList=j from by simp]at ow
 obtain⟨w,ws,hw⟩:∃w ws,im 32 j=w::ws:=by
  cases e:im 32 j with
  |nil=>exact absurd e (F4 32 j)
  |cons w ws=>exact⟨w,ws,rfl⟩
 have R:=CE 32 j;rw[hw]at ow R;have hwsn:ws.length≤1000000:=by have:=R.1;simp only[ay]at this;omega
 have hwl:∀x∈ws,x.length≤1000000:=fun x hx'=>by have:=R.2 x (aI _ hx');omega
 have hsw:=ow.sl (W:=fun y=>T.size≤y) (fun y _ v=>by omega)
 have hcap:=ow.cap;have hsf:=of.sl (W:=fun y=>h5.size≤y) (fun y _ v=>by omega)
 have z3:=k3.size;have z5:=k5.size;have kk:=(k1.tr k3).tr k5;have b5:=(k3.tr k5).get0 b1;refine LoopP.ghost (fun(n:Nat) (t:Int) G=>t=(n:Int)∧n≤26∧(∀f∈formsL.take n,f.2.1≠w∨¬((fS f.2.2 ((ws,true),d0 f.1)).1.2=true∧(fS f.2.2 ((ws,true),d0 f.1)).1.1= []))∧G[h.size]? =some (.cells (ia (rS 0)).toArray aR (0,0))∧Upd No h5 G) (fun n=>26-n) 0 ⟨rfl,bc _,(fun f Z=>by cases Z),b5,Upd.refl _ _⟩ ?_
 rintro I n t G ⟨rfl,hn,hno,b8,S⟩ hI;refine aF (fun A=>Join.plain ?_) fun hge=>?_
 ·have A:n<formsL.length:=by have:(n:Int)<((26:Nat):Int):=A;show n<26;omega
  have h26:n<26:=A;have X:=ax A;have htk:=Eu A;generalize formsL[n]=f at X htk;have Q:=be X;obtain⟨a,ha,_,Y⟩:=(hsf.upd S fun _ h=>h.elim).at X
  have ha:a=⟨T.size,0,none⟩:=(bp.inj ha).symm;have z8:=S.size;rw[ak];refine⟨⟨by omega,show((n:Int)<((26:Nat):Int)) by omega⟩,a,by rw[ha],f.1,Y 0 _ rfl,aG f.2.1,Y 1 _ rfl,aG f.2.2,Y 2 _ rfl,bi ?_⟩
  have b14:=bF G [.int .i64 0,.string ⟨#[]⟩,.string ⟨#[]⟩] ee;have k14:=Upd.hnew No G [.int .i64 0,.string ⟨#[]⟩,.string ⟨#[]⟩] ee;have z14:=eN G [.int .i64 0,.string ⟨#[]⟩,.string ⟨#[]⟩] ee;generalize hnew G [.int .i64 0,.string ⟨#[]⟩,.string ⟨#[]⟩] ee=h14 at b14 k14 z14;refine dd (c:= [.int .i64 0,.string ⟨#[]⟩,.string ⟨#[]⟩]) (vs:=Iz f) b14 rfl fun o P u15=>?_
  have s:Upd No G o:=k14.own u15 (au _);have z15:=s.size;have B:=hsw.upd ((k5.tr S).tr s) fun _ h=>h.elim
  obtain⟨aw,haw,_,hwc⟩:=B.at0 (g:=fun w=>Value.string (aG w)) (i:=0) (x:=w) rfl
  have hlw:=hsw.len;simp only[ay]at hlw;have next:∀h',h'[h.size]? =some (.cells (ia (rS 0)).toArray aR (0,0))→Upd No h5 h'→(f.2.1≠w∨¬((fS f.2.2 ((ws,true),d0 f.1)).1.2=true∧(fS f.2.2 ((ws,true),d0 f.1)).1.1= []))→I (ac .i64 ((n:Int)+1)) h':=fun h' bh kh Z=>by
   rw[cM h26 (by omega)];refine hI (n+1) _ _ ⟨rfl,h26,fun g hg=>?_,bh,kh⟩ (by omega)
   rw[htk]at hg;rcases bL.1 hg with hg|hg
   ·exact hno g hg
   ·rw[aQ.1 hg];exact Z
  refine⟨aG f.2.1,vc P 1,⟨by omega,by omega⟩,aw,haw,aG w,hwc,?_⟩
  rw[di];by_cases he:f.2.1=w
  rotate_left
  ·rw[decide_eq_false (fun e=>he (yj e))]
   exact aA.2 (next o (s.get0 b8) (S.tr s) (.inl he))
  rw[he,decide_eq_true rfl];refine af.2 ⟨f.1,vc P 0,bi ?_⟩;have b20:=bF o (ia (rS 0)) aR;have k20:=Upd.hnew No o (ia (rS 0)) aR;have z20:=eN o (ia (rS 0)) aR;generalize hnew o (ia (rS 0)) aR=h20 at b20 k20 z20;refine dd (c:=ia (rS 0)) (vs:=ia (rS f.1)) b20 rfl fun p b21 u21=>⟨⟨by omega,by omega⟩,bi ?_⟩
  have z:Upd No o p:=k20.own u21 (au _);have z21:=z.size;have N:=B.upd z fun _ h=>h.elim
  rw[show(1:Int).toNat=1 from rfl]
  have b22:=bF p [.slice (aV k.a 1 k.cap 1) (k.len-1) (k.cap-1),.bool true] f8;have q:=Upd.hnew No p [.slice (aV k.a 1 k.cap 1) (k.len-1) (k.cap-1),.bool true] f8;have z22:=eN p [.slice (aV k.a 1 k.cap 1) (k.len-1) (k.cap-1),.bool true] f8;generalize hnew p [.slice (aV k.a 1 k.cap 1) (k.len-1) (k.cap-1),.bool true] f8=h22 at b22 q z22
  refine⟨aG f.2.2,vc ((z.tr q).get0 P) 2,bi ?_⟩;have u:=Upd.push No h22 (.stringIter (aG f.2.2) 0);have b24:=mo h22 (.stringIter (aG f.2.2) 0);have z24:(h22.push (.stringIter (aG f.2.2) 0)).size=h22.size+1:=by simp
  generalize h22.push (.stringIter (aG f.2.2) 0)=h24 at u b24 z24;have H:=(N.sub (l:=1) (hi:=k.len) (m:=k.cap) (c:=k.cap-1) (by omega) (by simp only[ay];omega) hcap).upd (q.tr u) fun _ h=>h.elim
  have e3:((w::ws).drop 1).take (k.len-1)=ws:=by show ws.take _=_;exact List.take_of_length_le (by omega)
  rw[e3]at H;have r24:RdAt (fun y=>T.size≤y) h24 p.size (ws,true):=⟨⟨⟨aV k.a 1 k.cap 1,k.len-1,k.cap-1⟩,u.get0 b22,H,by show k.len-1≤k.cap-1;omega⟩,by show T.size≤p.size;omega,hwl⟩
  have zb:=u21.size;have kA:Upd No h h24:=((((kk.tr S).tr s).tr z).tr q).tr u;refine Sx (b:=p.size) (ob:=o.size) (i:=h22.size) (wc f Q).1 (D2 f Q).1 (l.upd0 kA) (by omega) (by omega) (by omega) r24 ((q.tr u).get0 b21) (by omega) (by show T.size≤o.size;omega) (by omega) (by omega) (by show T.size≤h22.size;omega) (fun y v=>by show T.size≤y;omega) hwsn b24 fun E r39 o39 O=>?_
  have kB:Upd No h E:=kA.trans O fun y v=>.inr (by omega)
  have k5B:Upd No h5 E:=((((S.tr s).tr z).tr q).tr u).trans O fun y v=>.inr (by omega)
  have L:=O.get (((((s.tr z).tr q).tr u)).get0 b8) (show ¬(h.size=p.size∨h.size=o.size∨h.size=h22.size) by omega)
  obtain⟨sp,hc,hs,hl⟩:=r39.ex;have C:=hs.len;generalize hx:fS f.2.2 ((ws,true),d0 f.1)=x at*;refine Join.plain ⟨_,rfl,x.1.2,vc hc 1,CondP.intro (fun eo=>⟨_,rfl,sp,vc hc 0,CondP.intro (fun el=>?_) fun el=>?_⟩) fun eo=>?_⟩
  ·have hsl:sp.len=0:=by simpa using el
   have hxl:x.1.1= []:=bj.1 (by omega);have F:iQ j=some x.2:=by
    unfold iQ;rw[hw];simp only;rw[←he,Ln Q];simp only;rw[hx,if_pos ⟨eo,hxl⟩]
   obtain⟨s1,s2,c39,op,oc,_⟩:=o39;refine xW c39 (dd (c:=ia (rS 0)) (vs:=ia (pY x.2 s1 s2)) L rfl fun V J D=>xW J (hk V x.2 s1 s2 F ((op.upd D fun y v e=>by have e:y=h.size:=e;omega).more fun y v=>by omega) ((oc.upd D fun y v e=>by have e:y=h.size:=e;omega).more fun y v=>by omega) ?_))
   exact kB.trans D fun y v=>.inr (by have v:y=h.size:=v;omega)
  ·refine next E L k5B (.inr fun hh=>?_)
   have:sp.len≠0:=by simpa using el
   rw[hh.2]at C;exact this C
  ·exact af.2 (next E L k5B (.inr fun hh=>by rw[eo]at hh;cases hh.1))
 ·have hn:n=26:=by have:¬(n:Int)<((26:Nat):Int):=hge;omega
  subst hn;have U:iQ j=none:=by
   unfold iQ;rw[hw];simp only;split
   ·rfl
   ·rename_i f Z
    have hm:=List.mem_of_find?_eq_some Z;have h1:f.2.1=w:=by simpa using List.find?_some Z
    have:=hno f hm;rw[if_neg (this.resolve_left fun e=>e h1)]
  refine dd (c:=ia (rS 0)) (vs:=ia (rS 0)) b8 rfl fun V J D=>xW J (hk0 U V ?_)
  exact(kk.tr S).trans D fun y v=>.inr (by have v:y=h.size:=v;omega)
end Go.Proofs
namespace Go.Proofs
open Go Go.Lift
theorem Hp{a w:List UInt8}{ws:List (List UInt8)}(hx:a.length≤1000000)(N:im 32 a=w::ws)(h5:ws.length≠4)(B:ws.length≠1)(v:∀x∈ws,x.length≤1000000){k:Nat}{kd:Int}{G:List UInt8}(V:formsL[k]? =some (kd,w,G)) (W:∀j f,j<k→formsL[j]? =some f→f.2.1≠w)
  (S:∀p∈G,GL p) {g:xp} (hr:G.foldl (fun x p=>Q6 p x) ((ws,true),rS kd)=(([],true),g)) {h:ad} (l:Laid h) (h4:4≤h.size) {H sp:Nat} (hd:h[H]? =some (.cells #[.pointer (some ⟨sp,0,none⟩)] hE (0,0))) {K:ByteArray→ad→Prop}
  (X:∀h1 ob,Upd No h h1→h.size≤ob→ob<h1.size→h1[ob]? =some (.cells (ia g).toArray aR (0,0))→HC PG gM [.pointer (some ⟨sp,0,none⟩),ON g] Qs (fun e B=>aD B (adr ⟨ob,0,none⟩ 0)=some (.int .i64 g.1)∧HC PG oT [.int .i64 g.1,N5 e] [.c .str] K B) h1):
  HC PG ie [.pointer (some ⟨H,0,none⟩),.string (aG a)] [.c .str] K h:=by
 refine zw (some ⟨H,0,none⟩) (aG a) ?_;unfold tY bf cU aj bJ ah aZ aL nv L8 DR O0 Y4 W1 ez iE;refine af.2 (B5 (by rw[ci];exact hx) fun h4' C ow R=>pe fun E b5 U=>?_)
 rw[show(aG a).data.toList=a from by simp,N]at ow
 have Z:C.len=ws.length+1:=ow.len;have y:=R.tr U;refine LoopP.ghost (fun(n:Nat) (t:Int) L=>t=(n:Int)∧n≤2∧Upd No E L) (fun n=>2-n) 0 ⟨rfl,bc _,Upd.refl _ _⟩ ?_
 rintro I n t L ⟨rfl,hn,i⟩ P;refine aF (fun u=>?_) fun T=>?_
 ·have u:n<2:=by have:(n:Int)<2:=u;omega
  have Q:=i.get0 b5;rcases(show n=0∨n=1 by omega)with rfl|rfl
  ·refine⟨⟨by decide,by decide⟩,_,rfl,_,vc Q 0,HV.mk' (UN (s:=C) (by omega) fun h9 k9=>af.2 ?_)⟩
   exact P 1 _ _ ⟨rfl,by omega,i.tr k9⟩ (by omega)
  ·refine⟨⟨by decide,by decide⟩,_,rfl,_,vc Q 1,HV.mk' (O3 (s:=C) (by omega) (af.2 ?_))⟩
   exact P 2 _ _ ⟨rfl,by omega,i⟩ (by omega)
 ·refine SB hx N v V W S hr (l.upd0 (y.tr i)) (by have:=(y.tr i).size;omega) fun q o=>pe fun Y z F=>?_
  refine dd (c:=ia (rS 0)) (vs:=ia g) z rfl fun m b A=>?_
  have D:Upd No q m:=F.own A (au _);have O:=((y.tr i).tr o).tr D;have d:=O.get0 hd;have J:=((y.tr i).tr o).size;refine Join.plain (af.2 (af.2 ⟨_,rfl,_,vc d 0,af.2 (af.2 ⟨g.1,vc b 0,_,rfl,_,vc d 0,xW b ?_⟩)⟩));exact X m q.size O J (bB b) b
end Go.Proofs
