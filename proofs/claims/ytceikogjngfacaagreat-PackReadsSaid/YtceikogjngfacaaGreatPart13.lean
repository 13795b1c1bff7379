/- A part of the proof that the named laws of this program answer true, whatever the input. -/
import Derived.Test.YtceikogjngfacaaGreatPart12
import Derived.Test.YtceikogjngfacaaGreatPart11
import Derived.Test.YtceikogjngfacaaGreatPart10
open Bool renaming false_eq_true→bS
open Eq renaming symm→jH
open Go.IntKind renaming wrap→ac
open Go.Op renaming bytesLess→bH
open List renaming getElem?_eq_getElem→ag,getElem_mem→bR,length_append→af,take_length→cG,length_map→aX,getElem_map→cH,mem_iff_getElem→dP,take_succ_eq_append_getElem→bd,append_assoc→aw,length_cons→av,drop_eq_getElem_cons→cn,nil_append→bZ,flatMap_cons→aZ,drop_length→gS,flatMap_nil→ny,append_nil→bi,mem_append→be,mem_singleton→aq
open Nat renaming lt_of_lt_of_le→aC,zero_le→aY,le_refl→ai,not_lt_zero→fR
open Option renaming some→bX
open UInt8 renaming ofNat→cR
namespace Go.Proofs
open Go Go.Lift
structure DocV(u:Pt)(p:RParts)(xp xg:Nat)(re:Rt)(i:Nat)(b:Bool)(L:dI)(nx:Int)(D:List (Int×TD))(ts:SliceV)(Ds:List (Int×Rt))(h:ae):Prop where
 f:Rf (W2 xg xp) h xp xg p.kind p.x L nx D re ts Ds
 n:L.length≤i∧D.length≤i∧∀q∈D,q.1∈ids L
 x:PtX (W2 xg xp) h u p
 t:b=true→nA (p.vs.take i) ([],1)=some (L,nx)∧∀j (hj:j<p.vs.length),j<i→0<j→(p.vs[j-1]'(by omega)).1<p.vs[j].1
 e:b=false→nz p=none
theorem DocV.up0{u:Pt}{p:RParts}{c g:Nat}{re:Rt}{i:Nat}{b:Bool}{L:dI}{nx:Int}{D:List (Int×TD)}{ts:SliceV}{Ds:List (Int×Rt)}{h f:ae}(d:DocV u p c g re i b L nx D ts Ds h)(k:Upd No h f):DocV u p c g re i b L nx D ts Ds f:=
 ⟨d.f.upd0 k,d.n,PtX.stab _ _ No _ _ d.x k (fun _ (h:No _)=>h.elim) fun y e=>⟨.inl e,aC (d.f.r.lt y e) k.size⟩,d.t,d.e⟩
def Y9(p:RParts)(j:Nat)(b:j<p.ss.length):Prop:=(0<j→(p.ss[j-1]'(by omega)).1<p.ss[j].1)∧1≤p.ss[j].1∧p.ss[j].1≤p.last
set_option maxHeartbeats 2000000 in
theorem Iz{W:Nat→Prop}{h:ae}(_:∀y,W y→y<h.size){u:Pt}{p:RParts}(P:PtX W h u p)(pi:PtsI p)(hl:p.vs.length≤100000∧p.bs.length≤100000∧p.ts.length≤100000∧p.ss.length≤100000){K:Option Addr×Int→ae→Prop}
  (hk:∀d a e,e=(if kX p=true then 0 else 9)→Upd No h d→K (a,e) d):
  Hd 8 [.agg (zR u).toArray] K h:=by
 refine eM (AD u) Js Tryz.func8 Tryz.call8 ?_;dsimp only[AD,cg,aR,du,cq,nv,QN,dg,dy,Zk,BR,aan,Zj,aam,eS,ce,jI,cf,Ye,Yd,ic,ji,dq,MB,db,vJ,iv,mH,Y8,kR,IW,Y6,Ai];have pk:=P.k;have px:=P.x;refine bj fun h1 b1 k1=>⟨_,vc b1 0,_,vc b1 1,_,vc b1 2,_,vc b1 3,?_⟩
 have b1:h1[h.size]? =some (.cells (zR u).toArray 36 (0,0)):=b1;have hkd:p.kind=0∨p.kind=1:=pi.k.imp (·.1) (·.1)
 have hkx:p.kind=0∨(p.kind=1∧p.x=⟨0,0,0⟩):=pi.k.imp (·.1) id
 rw[pk,px.1,px.2.1,px.2.2];refine Sv (x:=p.x) hkd fun U sp re G B rf bs zg zp gs ps k7=>ay.2 ?_
 have z1:=bc b1;have s1:=k1.size;have k07:=k1.tr k7;have zs:=bc bs;have c7:=k7.get0 b1;have nW:∀y,W2 G B y→h.size<y∧y<sp:=fun y s=>by rcases s with rfl|rfl<;>omega
 have hmW:∀{d:ae},U.size≤d.size→∀b,W2 G B b→W2 G B b∨d.size≤b:=fun _ b hb=>.inl hb
 refine Join.intro (fun t d=>t=true∧U=d) (fun R Q=>⟨_,vc c7 0,CondP.intro (fun e=>Q _ _ ⟨rfl,rfl⟩) fun e=>?_⟩) ?_
 ·refine⟨_,vc c7 1,_,vc c7 2,_,vc c7 3,Q _ _ ⟨?_,rfl⟩⟩
  have e:u.1≠0:=by simpa using e
  rcases hkx with e2|⟨_,e2⟩
  ·omega
  ·rw[px.1,px.2.1,px.2.2,e2];rfl
 rintro _ _ ⟨rfl,rfl⟩;refine⟨u.2.2.2.2.2.1,vc c7 5,?_⟩;have P7:PtX (W2 G B) U u p:=PtX.stab _ _ No _ _ P k07 (fun _ (h:No _)=>h.elim) fun y s=>⟨.inr (by have:=nW y s;omega),by have:=nW y s;omega⟩
 have lv:u.2.2.2.2.2.1.len=p.vs.length:=by obtain⟨VS,h1,h2⟩:=P7.v;rw[h1.len,h2.1]
 have cp:∀{d:ae},Upd (W2 G B) U d→d[h.size]? =some (.cells (zR u).toArray 36 (0,0)):=fun k=>k.get c7 fun e=>by have:=nW _ e;omega
 have cs:∀{d:ae},Upd (W2 G B) U d→d[sp]? =some (.cells #[.pointer (some ⟨B,0,none⟩),.slice none 0 0,.int .i64 0] 80 (0,0)):=fun k=>k.get bs fun e=>by have:=nW _ e;omega
 have fin:∀{d:ae},Upd (fun y=>h.size<y) U d→Upd No h d:=fun k=>k07.fresh k fun y s=>Nat.le_of_lt s
 refine LoopP.ghost (fun(w:Nat×Bool×dI×Int×List (Int×TD)×SliceV×List (Int×Rt)) (t:Bool×Int) d=>t=(w.2.1,(w.1:Int))∧w.1≤p.vs.length∧DocV u p B G re w.1 w.2.1 w.2.2.1 w.2.2.2.1 w.2.2.2.2.1 w.2.2.2.2.2.1 w.2.2.2.2.2.2 d∧Upd (W2 G B) U d) (fun w=>p.vs.length-w.1) (0,true,[],1,[],⟨none,0,0⟩,[]) ⟨rfl,aY _,⟨rf,⟨ai _,ai _,fun _ h=>by cases h⟩,P7,fun _=>⟨rfl,fun _ _ h=>absurd h (fR _)⟩,fun e=>by cases e⟩,Upd.refl _ _⟩ ?_
 rintro I ⟨i,b,L,nx,D,ts,Ds⟩ t h18 ⟨rfl,hi,dv,k18⟩ hI;(try simp only at hi dv⊢)
 refine ak (fun c=>?_) fun c=>?_
 ·have m:i<p.vs.length:=by omega
  refine Join.intro (fun(b':Bool) d=>∃L' nx' D' X Ds',DocV u p B G re (i+1) b' L' nx' D' X Ds' d∧Upd (W2 G B) U d) (fun R Q=>?_) ?_
  ·obtain⟨VS,hv,vok⟩:=dv.x.v
   have lv2:=vok.1;obtain⟨a,ha,_,hc⟩:=hv.at (ag (show i<VS.length by omega))
   have ok0:=vok.2 i _ _ (ag (show i<VS.length by omega)) (ag m)
   refine⟨⟨by omega,by omega⟩,a,ha,_,hc 0 _ rfl,VS[i].2.1,hc 1 _ rfl,_,hc 2 _ rfl,_,hc 3 _ rfl,_,hc 4 _ rfl,_,hc 5 _ rfl,VS[i].2.2.2.2.2.2,hc 6 _ rfl,?_⟩
   refine bj fun h28 b28 k28=>dt b28 (by rfl) fun h29 C u29=>?_
   have C:h29[h18.size]? =some (.cells (BN VS[i]).toArray 70 (0,0)):=C;have N:Upd No h18 h29:=k28.own u29 (ai _);have S:=dv.up0 N;have k29:Upd (W2 G B) U h29:=k18.tr N.wide;have c29:=cp k29;refine Join.intro (fun(t:Bool) d=>(t=true↔b=true∧(0<i→(p.vs[i-1]'(by omega)).1<p.vs[i].1))∧h29=d) (fun R2 hR2=>Join.intro (fun(t:Bool) d=>(t=true↔0<i∧¬(p.vs[i-1]'(by omega)).1<p.vs[i].1)∧h29=d) (fun R3 hR3=>?_) ?_) ?_
   ·refine ak (fun c1=>?_) fun c1=>hR3 _ _ ⟨by simp only[bS,false_iff];omega,rfl⟩
    have c1:0<i:=by omega
    obtain⟨VS',hv',vok'⟩:=S.x.v;have lv3:=vok'.1;have ei:ac .i64 ((i:Int)-1)=((i-1:Nat):Int):=by rw[Go.IntWalk.i64_in _ (by omega)];omega
    obtain⟨a',ha',_,hc'⟩:=hv'.at (ag (show i-1<VS'.length by omega))
    have ok1:=vok'.2 (i-1) _ _ (ag (show i-1<VS'.length by omega)) (ag (show i-1<p.vs.length by omega))
    refine⟨u.2.2.2.2.2.1,vc c29 5,?_⟩;rw[ei];refine⟨⟨by omega,by omega⟩,a',ha',_,hc' 0 _ rfl,_,vc C 0,hR3 _ _ ⟨?_,rfl⟩⟩
    rw[decide_eq_true_iff,ok1.1,ok0.1];omega
   ·rintro t _ ⟨ht,rfl⟩
    refine CondP.intro (fun e=>hR2 _ _ ⟨?_,rfl⟩) fun e=>hR2 _ _ ⟨?_,rfl⟩
    ·have:=ht.1 e
     simp only[bS,false_iff,not_and];exact fun _ h=>this.2 (h this.1)
    ·have:¬(0<i∧¬(p.vs[i-1]'(by omega)).1<p.vs[i].1):=fun h=>by rw[ht.2 h]at e;cases e
     exact⟨fun h=>⟨h,fun h0=>Decidable.byContradiction fun h2=>this ⟨h0,h2⟩⟩,fun h=>h.1⟩
   ·rintro t _ ⟨ht,rfl⟩
    cases t with
    |false=>
     have vn:nz p=none:=by
      cases hb:b with
      |false=>exact dv.e hb
      |true=>
       by_cases q:0<i→(p.vs[i-1]'(by omega)).1<p.vs[i].1
       ·exact absurd (ht.2 ⟨hb,q⟩) (by decide)
       ·have⟨q1,q2⟩:=Classical.not_imp.1 q
        exact MK m q1 q2
     exact Join.plain (ay.2 (ay.2 (Q _ _ ⟨L,nx,D,ts,Ds,⟨S.f,⟨by have:=dv.n.1;omega,by have:=dv.n.2.1;omega,dv.n.2.2⟩,S.x,fun e=>(by cases e),fun _=>vn⟩,k29⟩)))
    |true=>
     obtain⟨hb,q⟩:=ht.1 rfl;obtain⟨t1,t2⟩:=dv.t hb;have cs29:=cs k29;refine Join.plain (aV.2 ⟨_,rfl,_,vc cs29 0,_,vc C 0,_,vc C 2,_,vc C 3,_,vc C 4,_,vc C 5,VS[i].2.2.2.2.2.2,vc C 6,VS[i].2.1,vc C 1,?_⟩);obtain⟨v1,v2,v3⟩:=pi.v _ (bR m);have o2:=ok0.re (W':=W2 G B) N (fun _ h=>h.elim) fun b hb=>.inl hb
     obtain⟨o1,o3,o4⟩:=o2;refine Sw S.f S.n.2.2 (id:=VS[i].1) (by rw[o1];exact v1.1) (o4.refIs hkx) o3 (by omega) (by have:=dv.n.1;omega) (by have:=dv.n.2.1;omega) fun h51 X Ds' u51 o=>?_
     rw[o1]at o⊢;have o:=o qG;have k51:Upd (W2 G B) U h51:=k29.tr u51;have x51:PtX (W2 G B) h51 u p:=PtX.stab _ _ _ _ _ S.x u51 (fun b hb=>.inl hb) fun y s=>⟨.inl s,o.r.lt y s⟩
     have n51:(fV L nx p.vs[i].1 p.vs[i].2.1).2.1.length≤i+1:=Nat.le_trans (Uj ..) (by have:=dv.n.1;omega);refine CondP.intro (fun e=>?_) fun e=>?_
     ·have e:(fV L nx p.vs[i].1 p.vs[i].2.1).1≠0:=by simpa using e
      rw[if_neg e]at o;exact Q _ _ ⟨_,_,D,X,Ds',⟨o,⟨n51,by have:=dv.n.2.1;omega,fun r hr=>Na _ (dv.n.2.2 r hr)⟩,x51,fun e=>(by cases e),fun _=>Rv m t1 e⟩,k51⟩
     ·have e:(fV L nx p.vs[i].1 p.vs[i].2.1).1=0:=by simpa using e
      rw[if_pos e]at o;refine Q _ _ ⟨_,_,_,X,Ds',⟨o,⟨n51,?_,fun r hr=>?_⟩,x51,fun _=>⟨by rw[M9 m t1,if_pos e],fun j hj hji h0=>?_⟩,fun e=>(by cases e)⟩,k51⟩
      ·rw[CL fun hm=>?_,af]
       ·have:=dv.n.2.1;simp only[List.length_singleton];omega
       ·obtain⟨r,hr,er⟩:=List.mem_map.1 hm
        exact(qe e).2 (er▸dv.n.2.2 r hr)
      ·rcases HG hr with er|hr
       ·rw[er,(qe e).1];exact insV_ids.mem_iff.2 List.mem_cons_self
       ·exact Na _ (dv.n.2.2 r hr)
      ·by_cases ej:j=i
       ·subst ej;exact q h0
       ·exact t2 j hj (by omega) h0
  ·rintro b' h55 ⟨L',nx',D',X,Ds',d',k'⟩
   rw[cX (n:=p.vs.length) m (by omega)];exact hI (i+1,b',L',nx',D',X,Ds') _ _ ⟨rfl,m,d',k'⟩ (by(try simp only);omega)
 ·have hil:i=p.vs.length:=by omega
  subst hil;have t0:b=true→nA p.vs ([],1)=some (L,nx)∧∀j (hj:j<p.vs.length),j<p.vs.length→0<j→(p.vs[j-1]'(by omega)).1<p.vs[j].1:=fun e=>by have:=dv.t e;rwa [cG]at this
  have kM:Upd (fun y=>h.size<y) U h18:=k18.mono fun y s=>.inl (nW y s).1
  have J:=cp k18;have s18:=cs k18;obtain⟨gs',gt,gL,gb,-,-,-⟩:=dv.f.r.blk;have pn:u.2.2.2.2.1=p.next:=P.n
  have pl:u.2.2.2.2.2.2.2.2.1=p.last:=P.l;have ls:u.2.2.2.2.2.2.2.2.2.len=p.ss.length:=by obtain⟨SS,h1,h2⟩:=P.s;rw[h1.len,h2.1]
  have hLn:L.length≤100000:=by have:=dv.n.1;omega
  refine Join.intro (fun t d=>(t=true→kX p=false)∧(t=false→nz p=some L∧iU L false p.bs=true∧iU L true p.ts=true∧p.ss.length≤16)∧Upd No h18 d) (fun R Q=>?_) ?_
  ·have T:∀{d},kX p=false→Upd No h18 d→R true d:=fun e k=>Q _ _ ⟨fun _=>e,fun e=>(by cases e),k⟩
   refine CondP.intro (fun e=>T (A7 (dv.e (by simpa using e))) (Upd.refl _ _)) fun e=>?_
   have e:b=true:=by simpa using e
   have vb:=Rw (fun j hj h0=>(t0 e).2 j hj hj h0) (t0 e).1
   refine⟨_,vc J 4,_,rfl,_,vc s18 0,_,rfl,_,vc dv.f.blk 5,_,rfl,_,vc gb 1,ak (fun c=>T (A7 ?_) (Upd.refl _ _)) fun c1=>⟨_,vc J 4,ak (fun c=>T (A7 ?_) (Upd.refl _ _)) fun c2=>?_⟩⟩
   ·rw[vb,if_neg (by omega)]
   ·rw[vb,if_neg (by omega)]
   rw[if_pos (by omega)]at vb;refine⟨_,rfl,_,vc s18 0,u.2.2.2.2.2.2.1,vc J 6,EI dv.f hLn (dv.x.b.less fun _ h=>h.elim) (fun n hn=>by have:=(pi.b n hn).1;omega) (by omega) false fun h69 r1 e1 V=>?_⟩
   have c69:=V.get0 J;have s69:=V.get0 s18;have d69:=dv.up0 V;refine⟨vc c69 4,vc (V.get0 gb) 1,vc d69.f.blk 5,vc s69 0,vc c69 4,CondP.intro (fun e=>T (GB vb fun h=>?_) V) fun e=>?_⟩
   ·rw[←e1]at h;rw[h.1]at e;cases e
   have q1:iU L false p.bs=true:=by rw[←e1];simpa using e
   refine⟨_,rfl,_,vc s69 0,u.2.2.2.2.2.2.2.1,vc c69 7,EI d69.f hLn (d69.x.t.less fun _ h=>h.elim) (fun n hn=>by have:=(pi.t n hn).1;omega) (by omega) true fun h74 r2 e2 k74=>?_⟩
   have A:=V.tr k74;have Y:=A.get0 J;refine⟨vc Y 4,vc (A.get0 gb) 1,vc (dv.up0 A).f.blk 5,vc (A.get0 s18) 0,vc Y 4,CondP.intro (fun e=>T (GB vb fun h=>?_) A) fun e=>?_⟩
   ·rw[←e2]at h;rw[h.2.1]at e;cases e
   have q2:iU L true p.ts=true:=by rw[←e2];simpa using e
   refine⟨u.2.2.2.2.2.2.2.2.2,vc Y 9,ak (fun c=>T (GB vb fun h=>?_) A) fun c3=>⟨_,vc Y 8,ak (fun c=>absurd pi.l (by omega)) fun _=>⟨_,vc Y 8,Q _ _ ⟨fun e=>?_,fun _=>⟨vb,q1,q2,by omega⟩,A⟩⟩⟩⟩
   ·have:=(Gs.1 h.2.2).1;omega
   ·have:=of_decide_eq_true e;have:=pi.l;omega
  ·rintro t h79 ⟨t1,t2,k79⟩
   have kM79:Upd (fun y=>h.size<y) U h79:=kM.tr k79.wide
   refine CondP.intro (fun e=>hk h79 none 9 (by rw[t1 e];rfl) (fin kM79)) fun e=>?_
   obtain⟨vb,q1,q2,q3⟩:=t2 (by simpa using e);have rb:kX p=tf p.last p.ss:=by rw[GA vb,q1,q2];rfl
   have c79:=k79.get0 J;refine⟨u.2.2.2.2.2.2.2.2.2,vc c79 9,?_⟩;refine LoopP.ghost (fun(j:Nat) (t:Int) d=>t=(j:Int)∧j≤p.ss.length∧(∀k (hk:k<p.ss.length),k<j→Y9 p k hk)∧Upd No h79 d) (fun j=>p.ss.length-j) 0 ⟨rfl,aY _,fun _ _ h=>absurd h (fR _),Upd.refl _ _⟩ ?_
   rintro I2 j t h83 ⟨rfl,hj,hp,k83⟩ hI2;have z:=k79.tr k83;have d83:=dv.up0 z;have H:=z.get0 J;have s83:=z.get0 s18;have kM83:Upd (fun y=>h.size<y) U h83:=kM.tr z.wide
   refine ak (fun c4=>?_) fun c4=>?_
   ·have m:j<p.ss.length:=by omega
    obtain⟨SS,hv,sok⟩:=d83.x.s;have ls2:=sok.1;obtain⟨a,ha,_,hc⟩:=hv.at (ag (show j<SS.length by omega))
    have ok0:=sok.2 j _ _ (ag (show j<SS.length by omega)) (ag m)
    refine⟨⟨by omega,by omega⟩,a,ha,_,hc 0 _ rfl,_,hc 1 _ rfl,_,hc 2 _ rfl,_,hc 3 _ rfl,_,hc 4 _ rfl,_,hc 5 _ rfl,SS[j].2.2.2.2.2.2,hc 6 _ rfl,?_⟩
    refine bj fun h92 b92 k92=>dt b92 (by rfl) fun h93 f u93=>?_
    have f:h93[h83.size]? =some (.cells (KQ SS[j]).toArray 74 (0,0)):=f;have F:Upd No h83 h93:=k92.own u93 (ai _);have v:=d83.up0 F;have c93:=F.get0 H;have s93:=F.get0 s83;have lk:Nw SS[j].2.2 re=true:=GZ (ok0.2.2.refIs hkx) v.f.e;have ok:=ok0.1;refine Join.intro (fun(t:Bool) d=>(t=false↔Y9 p j m)∧Upd No h79 d) (fun R Q=>?_) ?_
    ·have tr:∀{d},¬Y9 p j m→Upd No h79 d→R true d:=fun hn k=>Q _ _ ⟨⟨fun e=>(by cases e),fun p=>absurd p hn⟩,k⟩
     have Z:=k83.tr F;refine⟨_,vc f 0,ak (fun c=>tr (fun p=>?_) Z) fun c5=>⟨_,vc f 0,_,vc c93 8,ak (fun c=>tr (fun p=>?_) Z) fun c6=>ak (fun c7=>?_) fun c7=>?_⟩⟩
     ·have:=p.2.1;omega
     ·have:=p.2.2;omega
     ·have hj1:j-1<p.ss.length:=by omega
      obtain⟨SS',hv',sok'⟩:=v.x.s;have ls3:=sok'.1;have ei:ac .i64 ((j:Int)-1)=((j-1:Nat):Int):=by rw[Go.IntWalk.i64_in _ (by omega)];omega
      obtain⟨a',ha',_,hc'⟩:=hv'.at (ag (show j-1<SS'.length by omega))
      have ok1:=(sok'.2 (j-1) _ _ (ag (show j-1<SS'.length by omega)) (ag hj1)).1
      refine⟨u.2.2.2.2.2.2.2.2.2,vc c93 9,?_⟩;rw[ei];refine⟨⟨by omega,by omega⟩,a',ha',_,hc' 0 _ rfl,_,vc f 0,ak (fun c=>tr (fun p=>?_) Z) fun c8=>?_⟩
      ·have:=p.1 (by omega);omega
      refine⟨_,lA f 2 0,_,lA f 2 1,_,lA f 2 2,_,lA f 2 3,SS[j].2.2.2.2.2.2,lA f 2 4,_,rfl,_,vc s93 0,_,rfl,_,lA v.f.blk 0 0,_,lA v.f.blk 0 1,_,lA v.f.blk 0 2,_,lA v.f.blk 0 3,re.2.2.2.2,lA v.f.blk 0 4,?_⟩;refine GJ (r:=SS[j].2.2) (q:=re) fun h116 g=>?_
      rw[lk];have E:=g.get0 f;have O:=g.get0 c93;obtain⟨a2,ha2,_,hc2⟩:=(hv'.upd g fun _ h=>h.elim).at (ag (show j-1<SS'.length by omega))
      obtain rfl:a2=a':=bX.inj (ha2.symm.trans ha');exact⟨vc (g.get0 s93) 0,vc E 0,hc2 0 _ rfl,vc O 9,vc O 8,vc E 0,vc E 0,Q _ _ ⟨⟨fun _=>⟨fun _=>by omega,by omega,by omega⟩,fun _=>rfl⟩,Z.tr g⟩⟩
     ·refine⟨_,lA f 2 0,_,lA f 2 1,_,lA f 2 2,_,lA f 2 3,SS[j].2.2.2.2.2.2,lA f 2 4,_,rfl,_,vc s93 0,_,rfl,_,lA v.f.blk 0 0,_,lA v.f.blk 0 1,_,lA v.f.blk 0 2,_,lA v.f.blk 0 3,re.2.2.2.2,lA v.f.blk 0 4,?_⟩
      refine GJ (r:=SS[j].2.2) (q:=re) fun h116 g=>?_
      rw[lk];have E:=g.get0 f;have O:=g.get0 c93;exact⟨vc (g.get0 s93) 0,vc O 8,vc E 0,vc E 0,Q _ _ ⟨⟨fun _=>⟨fun h=>absurd h (by omega),by omega,by omega⟩,fun _=>rfl⟩,Z.tr g⟩⟩
    rintro t h133 ⟨ht,k133⟩;refine CondP.intro (fun e=>hk h133 none 9 (jH (if_neg fun hs=>?_)) (fin (kM.tr (k79.tr k133).wide))) fun e=>?_
    ·rw[rb]at hs
     rw[ht.2 ((Gs.1 hs).2 j m)]at e;cases e
    rw[cX m (by omega)];refine hI2 (j+1) _ _ ⟨rfl,m,fun k hk hkj=>?_,k133⟩ (by omega)
    by_cases ej:k=j
    ·subst ej;exact ht.1 (by simpa using e)
    ·exact hp k hk (by omega)
   ·have rt:kX p=true:=by rw[rb];exact Gs.2 ⟨q3,fun k hk=>hp k hk (by omega)⟩
    have g83:=z.get0 gb;have x83:=d83.f.blk;have nxg:=(nW G (.inl rfl));have nxp:=(nW B (.inr rfl));refine⟨_,rfl,_,vc s83 0,_,rfl,_,vc x83 5,_,rfl,_,vc s83 0,_,rfl,_,vc s83 0,_,vc H 4,u.2.2.2.2.2.2.1,vc H 6,u.2.2.2.2.2.2.2.1,vc H 7,_,vc H 8,u.2.2.2.2.2.2.2.2.2,vc H 9,_,rfl,nJ g83 (by simp) rfl fun hA bA uA=>?_⟩
    have cA:=uA.get H fun e=>by have e:h.size=G:=e;omega
    have xA:=uA.get x83 fun e=>d83.f.gx (jH e)
    have sA:=uA.get s83 fun e=>by have e:sp=G:=e;omega
    refine⟨vc cA 9,vc cA 8,vc cA 7,vc cA 6,_,rfl,nJ xA (by simp) rfl fun hB bB uB=>?_⟩
    have cB:=uB.get cA fun e=>by have e:h.size=B:=e;omega
    have sB:=uB.get sA fun e=>by have e:sp=B:=e;omega
    refine⟨vc cB 9,vc cB 8,vc cB 7,_,rfl,nJ bB (by simp) rfl fun hC bC uC=>?_⟩
    have cC:=uC.get cB fun e=>by have e:h.size=B:=e;omega
    have sC:=uC.get sB fun e=>by have e:sp=B:=e;omega
    refine⟨vc cC 9,vc cC 8,_,rfl,nJ sC (by simp) rfl fun hD bD uD=>?_⟩
    have cD:=uD.get cC fun e=>by have e:h.size=sp:=e;omega
    refine⟨vc cD 9,_,rfl,nJ bD (by simp) rfl fun hE bE uE=>hk hE _ 0 (if_pos rt).symm (fin ?_)⟩
    exact((((kM83.tr (uA.mono fun y s=>.inl (by have s:y=G:=s;omega))).tr (uB.mono fun y s=>.inl (by have s:y=B:=s;omega))).tr (uC.mono fun y s=>.inl (by have s:y=B:=s;omega))).tr (uD.mono fun y s=>.inl (by have s:y=sp:=s;omega))).tr (uE.mono fun y s=>.inl (by have s:y=sp:=s;omega))
end Go.Proofs
namespace Go.Proofs
open Go Go.Lift
theorem HK{α β:Type}{r:β→β→Bool}{f:α→β}{l:List α}{i:Nat}(hi:i+1<l.length)(h:r (f l[i]) (f l[i+1])=false):qS r (l.map f)=false:=by
 cases e:qS r (l.map f)with
 |false=>rfl
 |true=>
  have:=CR.1 e i (by rw[aX];exact hi);rw[cH,cH,h]at this;cases this
theorem L6{α β:Type}{r:β→β→Bool}{f:α→β}{l:List α}(h:∀i (hi:i+1<l.length),r (f l[i]) (f l[i+1])=true):qS r (l.map f)=true:=
 CR.2 fun i hi=>by
  rw[aX]at hi;rw[cH,cH];exact h i hi
theorem Sf{W:Nat→Prop}{h:ae}{s:SliceV}{l:List RV}(v:Sl sr 8 W h s l)(D:l.length≤1000000){K:Bool→ae→Prop}(u:∀m b,b=qS GX (l.map (·.1))→Upd No h m→K b m):
  f5 85 [.slice s.a s.len s.cap,.func (.func 86) #[] #[]] K h:=by
 refine pS s _ ?_;dsimp only[ko,cg,dg,db,eS,ce,cf,SG,Yg,ic,ji,I0,XF,IW];have q:=v.len;refine LoopP.ghost (fun(i:Nat) (t:Int) m=>t=((i+1:Nat):Int)∧(∀j (n:j+1<l.length),j<i→GX l[j].1 l[j+1].1=true)∧Upd No h m) (fun i=>l.length-i) 0 ⟨rfl,fun _ _ h=>absurd h (fR _),Upd.refl _ _⟩ ?_
 rintro I i t m ⟨rfl,x,k⟩ C;have g:=v.upd k fun _ h=>h.elim
 refine ak (fun c=>?_) fun c=>?_
 ·have d:i+1<l.length:=by omega
  have y:ac .i64 (((i+1:Nat):Int)-1)=(i:Int):=by rw[show(((i+1:Nat):Int)-1)=(i:Int) by omega];exact dL (by omega)
  rw[y];obtain⟨a,B,_,hv⟩:=g.at (ag (show i<l.length by omega))
  obtain⟨b,w,_,f⟩:=g.at (ag d);refine⟨⟨by omega,by omega⟩,a,B,_,hv 0 _ rfl,l[i].2.1,hv 1 _ rfl,_,hv 2 _ rfl,_,hv 3 _ rfl,_,hv 4 _ rfl,_,hv 5 _ rfl,_,hv 6 _ rfl,_,hv 7 _ rfl,⟨⟨by omega,by omega⟩,b,w,_,f 0 _ rfl,l[i+1].2.1,f 1 _ rfl,_,f 2 _ rfl,_,f 3 _ rfl,_,f 4 _ rfl,_,f 5 _ rfl,_,f 6 _ rfl,_,f 7 _ rfl,HV.mk' ?_⟩⟩
  refine nC l[i] ?_;unfold jR du Uo;refine bj fun E b1 k1=>⟨_,vc b1 0,?_⟩
  obtain⟨c',o,_,hx⟩:=(g.upd k1 fun _ h=>h.elim).at (ag d)
  obtain rfl:c'=b:=bX.inj (o.symm.trans w);refine⟨⟨hx 0 _ rfl,hx 1 _ rfl,hx 2 _ rfl,hx 3 _ rfl,hx 4 _ rfl,hx 5 _ rfl,hx 6 _ rfl,hx 7 _ rfl⟩,HV.mk' ?_⟩;refine nC l[i+1] ?_;unfold jR du Uo;refine bj fun h2 b2 p=>⟨_,vc b2 0,?_⟩
  refine ak (fun z=>?_) fun z=>?_
  ·refine u h2 _ (jH (HK d ?_)) ((k.tr k1).tr p)
   exact decide_eq_false (by omega)
  ·rw[cX d (by omega)]
   refine C (i+1) _ _ ⟨rfl,fun j n A=>?_,(k.tr k1).tr p⟩ (by omega)
   by_cases e:j=i
   ·subst e
    exact decide_eq_true (by omega)
   ·exact x j n (by omega)
 ·exact u m _ (jH (L6 fun j n=>x j n (by omega))) k
theorem Si{W:Nat→Prop}{h:ae}{s:SliceV}{l:List (ByteArray×Int)}(v:Sl fJ 2 W h s l)(D:l.length≤1000000){K:Bool→ae→Prop}(u:∀g b,b=qS Tw (l.map (·.1))→Upd No h g→K b g):
  f5 89 [.slice s.a s.len s.cap,.func (.func 90) #[] #[]] K h:=by
 refine rC s _ ?_;dsimp only[lG,cg,eS,fG,Yh,FC,ic,ji,Qe];have q:=v.len;refine LoopP.ghost (fun(i:Nat) (t:Int) g=>t=((i+1:Nat):Int)∧(∀j (m:j+1<l.length),j<i→Tw l[j].1 l[j+1].1=true)∧Upd No h g) (fun i=>l.length-i) 0 ⟨rfl,fun _ _ h=>absurd h (fR _),Upd.refl _ _⟩ ?_
 rintro I i t g ⟨rfl,x,k⟩ C;have f:=v.upd k fun _ h=>h.elim
 refine ak (fun c=>?_) fun c=>?_
 ·have d:i+1<l.length:=by omega
  have z:ac .i64 (((i+1:Nat):Int)-1)=(i:Int):=by rw[show(((i+1:Nat):Int)-1)=(i:Int) by omega];exact dL (by omega)
  rw[z];obtain⟨a,B,_,hv⟩:=f.at (ag (show i<l.length by omega))
  obtain⟨b,w,_,y⟩:=f.at (ag d);refine⟨⟨by omega,by omega⟩,a,B,_,hv 0 _ rfl,_,hv 1 _ rfl,⟨⟨by omega,by omega⟩,b,w,_,y 0 _ rfl,_,y 1 _ rfl,HV.mk' ?_⟩⟩
  refine xP l[i] ?_;unfold rH cE Pz;refine bj fun E b1 k1=>⟨_,vc b1 0,?_⟩
  obtain⟨c',n,_,hx⟩:=(f.upd k1 fun _ h=>h.elim).at (ag d)
  obtain rfl:c'=b:=bX.inj (n.symm.trans w);refine⟨⟨hx 0 _ rfl,hx 1 _ rfl⟩,HV.mk' ?_⟩;refine xP l[i+1] ?_;unfold rH cE Pz;refine bj fun h2 b2 p=>⟨_,vc b2 0,?_⟩
  refine CondP.intro (fun o=>?_) fun o=>?_
  ·refine u h2 _ (jH (HK d ?_)) ((k.tr k1).tr p)
   show bH _ _=false;simpa using o
  ·rw[cX d (by omega)]
   refine C (i+1) _ _ ⟨rfl,fun j m A=>?_,(k.tr k1).tr p⟩ (by omega)
   by_cases e:j=i
   ·subst e
    show bH _ _=true;simpa using o
   ·exact x j m (by omega)
 ·exact u g _ (jH (L6 fun j m=>x j m (by omega))) k
theorem Sh{W:Nat→Prop}{h:ae}{s:SliceV}{l:List SR}(v:Sl La 8 W h s l)(D:l.length≤1000000){K:Bool→ae→Prop}(u:∀m b,b=qS GX (l.map (·.1))→Upd No h m→K b m):
  f5 92 [.slice s.a s.len s.cap,.func (.func 93) #[] #[]] K h:=by
 refine pT s _ ?_;dsimp only[kq,cg,dg,db,nU,ce,jI,Yf,ic,ji,I0,XF];have q:=v.len;refine LoopP.ghost (fun(i:Nat) (t:Int) m=>t=((i+1:Nat):Int)∧(∀j (n:j+1<l.length),j<i→GX l[j].1 l[j+1].1=true)∧Upd No h m) (fun i=>l.length-i) 0 ⟨rfl,fun _ _ h=>absurd h (fR _),Upd.refl _ _⟩ ?_
 rintro I i t m ⟨rfl,x,k⟩ C;have g:=v.upd k fun _ h=>h.elim
 refine ak (fun c=>?_) fun c=>?_
 ·have d:i+1<l.length:=by omega
  have y:ac .i64 (((i+1:Nat):Int)-1)=(i:Int):=by rw[show(((i+1:Nat):Int)-1)=(i:Int) by omega];exact dL (by omega)
  rw[y];obtain⟨a,B,_,hv⟩:=g.at (ag (show i<l.length by omega))
  obtain⟨b,w,_,f⟩:=g.at (ag d);refine⟨⟨by omega,by omega⟩,a,B,_,hv 0 _ rfl,_,hv 1 _ rfl,_,hv 2 _ rfl,_,hv 3 _ rfl,_,hv 4 _ rfl,_,hv 5 _ rfl,_,hv 6 _ rfl,_,hv 7 _ rfl,⟨⟨by omega,by omega⟩,b,w,_,f 0 _ rfl,_,f 1 _ rfl,_,f 2 _ rfl,_,f 3 _ rfl,_,f 4 _ rfl,_,f 5 _ rfl,_,f 6 _ rfl,_,f 7 _ rfl,HV.mk' ?_⟩⟩
  refine nD l[i] ?_;dsimp only[jS,Un,kR,aR];refine bj fun E b1 k1=>⟨_,vc b1 0,?_⟩
  obtain⟨c',o,_,hx⟩:=(g.upd k1 fun _ h=>h.elim).at (ag d)
  obtain rfl:c'=b:=bX.inj (o.symm.trans w);refine⟨⟨hx 0 _ rfl,hx 1 _ rfl,hx 2 _ rfl,hx 3 _ rfl,hx 4 _ rfl,hx 5 _ rfl,hx 6 _ rfl,hx 7 _ rfl⟩,HV.mk' ?_⟩;refine nD l[i+1] ?_;dsimp only[jS,Un,kR,aR];refine bj fun h2 b2 p=>⟨_,vc b2 0,?_⟩
  refine ak (fun z=>?_) fun z=>?_
  ·refine u h2 _ (jH (HK d ?_)) ((k.tr k1).tr p)
   exact decide_eq_false (by omega)
  ·rw[cX d (by omega)]
   refine C (i+1) _ _ ⟨rfl,fun j n A=>?_,(k.tr k1).tr p⟩ (by omega)
   by_cases e:j=i
   ·subst e
    exact decide_eq_true (by omega)
   ·exact x j n (by omega)
 ·exact u m _ (jH (L6 fun j n=>x j n (by omega))) k
end Go.Proofs
namespace Go.Proofs
open Go Go.Lift
def K8(b:Bool)(s:VS)(B:List (ByteArray×Int)):VS:=match b with|false=>{s with B:=B}|true=>{s with G:=B}
theorem O1(b:Bool)(s:VS)(B:List (ByteArray×Int)):(K8 b s B).M=s.M:=by cases b<;>rfl
def aaj:Bool→Nat→Value
 |false,vp=>.func (.func 45) #[pV vp] #[]
 |true,vp=>.func (.func 46) #[pV vp] #[]
theorem VaultAt.setG{W:Nat→Prop}{h c:ae}{vp:Nat}{s:VS}{B:List (ByteArray×Int)}(v:VaultAt W h vp s)(k:Upd (· =s.nm) h c)(b:MapAt II V8 c s.nm B):VaultAt W c vp {s with G:=B}:=by
 obtain⟨u,x,w,m,p,o,j,q,n,g⟩:=VS.neB v.ne;have i:∀b,b=s.nm→W b:=fun b e=>v.w b (.inr (.inr (.inr (.inr e))))
 exact v.turn k (fun b e=>.inl (i b e)) (v.g.upd k fun b e=>.inl ⟨i b e,fun f=>m (f.symm.trans e),fun f=>j (f.symm.trans e)⟩) (v.t.upd k n) (v.b.upd k g) b (fun d hd=>.inl hd) v.sub v.inv
theorem Xy{b:Bool}{W:Nat→Prop}{h:ae}{vp:Nat}{s:VS}{B:List (ByteArray×Int)}(v:VaultAt W h vp (K8 b s B))(n:ByteArray)(id:Int){K:Int→ae→Prop}
  (g:∀c,Upd s.M h c→VaultAt W c vp (K8 b s (if Ah B s.L n id (b&&decide (id=0))=0 then oE B n id else B))→K (Ah B s.L n id (b&&decide (id=0))) c):HV PG (aaj b vp) [.string n,.int .u32 id] [.c (.int .i64)] K h:=by
 cases b
 ·refine HV.mk' ?_
  refine eM (qW (some ⟨vp,0,none⟩) n id) .nil Tryz.func45 Tryz.call45 ?_;dsimp only[qW,cg,dq];exact CondP.intro (fun e=>by cases e) fun _=>⟨_,rfl,_,vc v.blk 8,Re v v.b n id false fun c d m=>g c (d.mono fun y f=>.inl (.inr (.inr (.inr (.inl f))))) (v.setB d m)⟩
 ·refine HV.mk' ?_
  refine CW (some ⟨vp,0,none⟩) n id ?_;dsimp only[uU,cg,dq];refine CondP.intro (fun e=>by cases e) fun _=>⟨_,rfl,_,vc v.blk 9,?_⟩
  rw[show(id==(0:Int))=(true&&decide (id=0)) by rw[Bool.true_and];rfl]
  exact Re v v.n n id _ fun c d m=>g c (d.mono fun y f=>.inl (.inr (.inr (.inr (.inr f))))) (v.setG d m)
theorem X6{κ β:Type}[DecidableEq κ]{k:κ}{v:β}:∀{l:List (κ×β)},dT l k=none→oE l k v=l++ [(k,v)]
 | [],_=>rfl
 |(k',u)::l,h=>by
  unfold dT at h;split at h
  ·cases h
  ·rename_i e
   unfold oE;rw[if_neg e,X6 h];rfl
section
variable {Ss:List Sp} {z h:ae} {vp:Nat} {s:VS} {X:(Nat→Prop)→ae→Prop}
theorem Nr(d:Bool)(g:Fm Ss (Fv z vp (K8 d s []) X) h){sl:SliceV}{B:List (ByteArray×Int)}(w:∀{W h},X W h→Sl fJ 2 W h sl B)(S:B.length≤100000){K:Bool→ae→Prop}
  (v:∀p b C,b=iU s.L d B→(b=true→C=B)→Fm Ss (Fv z vp (K8 d s C) X) p→K b p):f5 44 [.slice sl.a sl.len sl.cap,aaj d vp] K h:=by
 refine Je sl _ ?_;dsimp only[AB,du,nv,nU,cE,Fk,AS,Qe,eS,fG,ic,ji];have A:=(w g.f.x).len;refine Si (w g.f.x) (by omega) fun E b1 eb k1=>?_
 have D:=g.up0 k1;cases hb:b1 with
 |false=>
  refine aV.2 (v E false [] ?_ (fun e=>by cases e) D)
  rw[hb]at eb;unfold iU;rw[←eb];simp
 |true=>
  rw[hb]at eb;have o:iU s.L d B=true↔∀j (m:j<B.length),j<256∧(jY B[j].1&&decide (B[j].2=0∨B[j].2∈ids s.L)&& !(d&&decide (B[j].2=0)))=true:=by
   unfold iU;rw[←eb,Bool.and_true,Bool.and_eq_true,decide_eq_true_iff,List.all_eq_true];constructor
   ·rintro⟨E,h2⟩ j m
    exact⟨by omega,h2 _ (bR m)⟩
   ·intro h2
    refine⟨?_,fun n y=>?_⟩
    ·by_cases e:B.length=0
     ·omega
     ·have:=(h2 (B.length-1) (by omega)).1;omega
    ·obtain⟨j,m,rfl⟩:=dP.1 y
     exact(h2 j m).2
  refine ay.2 (LoopP.ghost (fun(i:Nat) (t:Int) p=>t=(i:Int)∧i≤B.length∧(∀j (m:j<B.length),j<i→j<256∧(jY B[j].1&&decide (B[j].2=0∨B[j].2∈ids s.L)&& !(d&&decide (B[j].2=0)))=true)∧Fm Ss (Fv z vp (K8 d s (B.take i)) X) p) (fun i=>B.length-i) 0 ⟨rfl,aY _,fun _ _ h=>absurd h (fR _),D⟩ ?_)
  rintro I i t h2 ⟨rfl,hi,F,q⟩ L;refine ak (fun c=>?_) fun c=>?_
  ·have f:i<B.length:=by omega
   obtain⟨a,J,_,hv⟩:=(w q.f.x).at (ag f);refine⟨⟨by omega,by omega⟩,a,J,_,hv 0 _ rfl,_,hv 1 _ rfl,q.var fun T G=>G.fill (vs:=fJ B[i]) 0 rfl rfl fun R u=>⟨_,u.cl 0 rfl 0,_,u.cl 0 rfl 1,?_⟩⟩
   refine Xy (s:=s) (B:=B.take i) u.f.v B[i].1 B[i].2 fun N P O=>?_
   have x:=(u.vault (s':=K8 d s (if Ah (B.take i) s.L B[i].1 B[i].2 (d&&decide (B[i].2=0))=0 then oE (B.take i) B[i].1 B[i].2 else B.take i)) (by rw[O1];exact P) O (by rw[O1,O1])).tail
   refine CondP.intro (fun e=>?_) fun e=>?_
   ·have e:¬Ah (B.take i) s.L B[i].1 B[i].2 (d&&decide (B[i].2=0))=0:=by simpa using e
    refine v N false _ (jH ?_) (fun e=>by cases e) x
    rw[Ob eb.symm f]at e;cases y:iU s.L d B with
    |false=>rfl
    |true=>exact absurd (o.1 y i f) e
   ·have e:Ah (B.take i) s.L B[i].1 B[i].2 (d&&decide (B[i].2=0))=0:=by simpa using e
    rw[if_pos e,X6 (KB eb.symm f),show B.take i++ [(B[i].1,B[i].2)]=B.take (i+1)from(bd f).symm]at x
    rw[cX f (by omega)];refine L (i+1) _ _ ⟨rfl,f,fun j m H=>?_,x⟩ (by omega)
    by_cases Q:j=i
    ·subst Q;exact(Ob eb.symm f).1 e
    ·exact F j m (by omega)
  ·have:i=B.length:=by omega
   subst this;rw[cG]at q;exact v h2 true B (jH (o.2 fun j m=>F j m m)) (fun _=>rfl) q
end
end Go.Proofs
namespace Go.Proofs
open Go Go.Lift
theorem XP(x:ByteArray):x.data.toList.length=x.size:=Array.length_toList
theorem N2{W:Nat→Prop}{h:ae}{s:SliceV}{xs:List UInt8}(g:Sl tK 1 W h s xs)(hc:s.len≤s.cap){t:ByteArray}(c:xs.length+(vW t).length≤100000000){K:SliceV→ae→Prop}
  (f:∀b s',OwnS tK 1 5 (fun y=>h.size≤y) b s' (xs++vW t)→Upd No h b→K s' b):fU 129 [.slice s.a s.len s.cap,.string t] K h:=by
 have m:t.size≤100000000:=by
  have:=XP t;unfold vW at c;simp only[af]at c;omega
 refine eM (Fg s t) .nil Tryz.func129 Tryz.call129 ?_;unfold Fg Wm;rw[show ac .u64 (t.size:Int)=((t.size:Nat):Int)from Go.IntWalk.u64_in _ (by omega)]
 refine Hr g hc (by omega) t.size (by omega) fun h2 j e d=>?_
 refine AppP.own (ys:=t.data.toList) e (XP t).symm (yT t) (by rw[yT];exact Ck _) rfl (by omega) ?_ d.size fun s' b o u=>f b s' (by unfold vW;rw[←aw];exact o) (d.trans u fun y i=>.inr i)
 unfold vW at c;simp only[af]at c⊢;omega
def l4(d:Nat)(s:SliceV)(xs:List UInt8):Sp:=⟨fun y=>y=d∨sb s y,fun h=>h[d]? =some (.cells #[.slice s.a s.len s.cap] 140 (0,0))∧OwnS tK 1 5 (sb s) h s xs∧¬sb s d,fun⟨a,b,c⟩ k e=>⟨k.get a (e _ (.inl rfl)),b.upd k fun y f=>e y (.inr f),c⟩⟩
section
variable {Ss:List Sp} {F:(Nat→Prop)→ae→Prop} {h:ae} {ob:Nat} {s:SliceV} {xs T r:List UInt8} {c:List Value} {t:TypeId}
theorem Fm.out(g:Fm (l4 ob s xs::Ss) F h):h[ob]? =some (.cells #[.slice s.a s.len s.cap] 140 (0,0))∧OwnS tK 1 5 (sb s) h s xs∧¬sb s ob:=g.o.get (i:=0) rfl
theorem Fm.outNew(g:Fm (l4 ob s xs::Ss) F h){d:ae}{s':SliceV}{ys:List UInt8}(i:d[ob]? =some (.cells #[.slice s'.a s'.len s'.cap] 140 (0,0))) (f:OwnS tK 1 5 (fun y=>sb s y∨h.size≤y) d s' ys) (u:Upd (fun y=>y=ob∨sb s y∨h.size≤y) h d):Fm (l4 ob s' ys::Ss) F d:=by
 obtain⟨b,o,nb⟩:=g.out;have m:=bc b;refine g.set (j:=0) (a':=l4 ob s' ys) rfl u (fun y c=>c.elim (fun e=>.inl (.inl e)) fun e=>e.imp .inr id) ⟨i,f.its,fun e=>?_⟩ fun y c=>?_
 ·exact(f.sub ob e).1.elim nb fun e=>by omega
 ·rcases c with rfl|c
  ·exact⟨.inl (.inl rfl),aC m u.size⟩
  ·exact⟨(f.sub y c).1.imp .inr id,(f.sub y c).2⟩
theorem Fm.var1(g:Fm (l4 ob s xs::Ss) F h){f:ae→Prop}(d:∀b,Fm (l4 ob s xs::bU h.size c t::Ss) F b→f b):At (hnew h c t) f:=g.var fun b e=>d b e.swap
theorem Fm.tail1{a:Sp}(g:Fm (l4 ob s xs::a::Ss) F h):Fm (l4 ob s xs::Ss) F h:=g.swap.tail
theorem Cj(b:xs++r=T)(c:T.length≤1000000):xs.length+r.length≤1000000:=by rw[←b,af]at c;omega
theorem Fm.num(g:Fm (l4 ob s xs::Ss) F h){n:Nat}(e:xs++(lF n++r)=T)(q:T.length≤1000000)(p:n<18446744073709551616){v:Int}(m:v=(n:Int)){K:Unit→ae→Prop}(i:∀c s' ys,ys++r=T→Fm (l4 ob s' ys::Ss) F c→K () c):eJ 56 [gF ob,.int .u64 v] K h:=by
 subst m;obtain⟨b,o,nb⟩:=g.out;have hx:=Cj e q;exact SC b (o.sl (W:=No) fun _ _ _ h=>h) o.cap (by omega) n p fun c s' j f u=>i c s' _ (by rw[aw];exact e) (g.outNew j (f.more fun y d=>.inr d) (u.mono fun y d=>.inl (.inl d)))
theorem Fm.text(g:Fm (l4 ob s xs::Ss) F h){x:ByteArray}(d:xs++(vW x++r)=T)(p:T.length≤1000000){K:Unit→ae→Prop}(j:∀h' s' ys,ys++r=T→Fm (l4 ob s' ys::Ss) F h'→K () h'):eJ 102 [gF ob,.string x] K h:=by
 obtain⟨b,o,nb⟩:=g.out;have hx:=Cj d p;simp only[af]at hx;have u:=bc b;refine FH _ x ?_;dsimp only[xW,Wj,dq,Aj,IV];refine⟨_,rfl,s,vc b 0,N2 (o.sl (W:=No) fun _ _ _ h=>h) o.cap (by omega) fun q n m k1=>⟨_,rfl,nJ (b:=ob) (i:=0) (k1.get0 b) (by simp) rfl fun h2 b2 f=>j h2 n _ (by rw[aw];exact d) (g.outNew b2 ((m.upd f fun y c e=>by have e:y=ob:=e;omega).more fun y c=>.inr c) (k1.wide.tr (f.mono fun y c=>.inl (.inl c))))⟩⟩
theorem Fm.byte(g:Fm (l4 ob s xs::Ss) F h){b:UInt8}(m:xs++(b::r)=T)(w:T.length≤1000000){v:Int}(hv:v=(b.toNat:Int)){f:ae→Prop}(q:∀d s' ys,ys++r=T→Fm (l4 ob s' ys::Ss) F d→f d):
  ∃xs,SRow (hnew h [.int .u8 v] 5) (some (aJ h)) (1*1) xs∧AppP (some [.int .u8 0]) 1 1 5 s.a s.len s.cap 1 xs (hnew h [.int .u8 v] 5) (fun s' d=>∃a:Addr,some (⟨ob,0,none⟩:Addr)=some a∧(Wr d a∧At (hset d a (.slice s'.a s'.len s'.cap)) f)):=by
 obtain⟨j,o,nb⟩:=g.out;have hx:=Cj m w;simp only[av]at hx;refine N9 hv (o.more fun y c=>.inl c) (fun y c=>.inr c) (by omega) fun s' x u n=>⟨_,rfl,nJ (b:=ob) (i:=0) (n.get j fun e=>e.elim nb fun e=>by have:=bc j;omega) (by simp) rfl fun h2 b2 p=>q h2 s' _ (by rw[aw];exact m) (g.outNew b2 (u.upd p fun y c e=>?_) ((n.mono fun y c=>.inl (.inr c)).tr (p.mono fun y c=>.inl (.inl c))))⟩
 have e:y=ob:=e;subst e;exact c.elim nb fun e=>by have:=bc j;omega
theorem Fm.fixed(g:Fm (l4 ob s xs::Ss) F h){n:Nat}(z:xs++(yH n 8++r)=T)(C:T.length≤1000000){v:Int}(x:v=(n:Int)){K:Unit→ae→Prop}(w:∀d s' ys,ys++r=T→Fm (l4 ob s' ys::Ss) F d→K () d):eJ 55 [gF ob,.int .u64 v] K h:=by
 subst x;refine Eg _ (n:Int) ?_;dsimp only[wQ,dq,Aj,IV];refine LoopP.ghost (fun(q:Nat×SliceV×List UInt8) (t:Int) d=>t=(q.1:Int)∧q.1≤8∧q.2.2++((yH n 8).drop q.1++r)=T∧Fm (l4 ob q.2.1 q.2.2::Ss) F d) (fun q=>8-q.1) (0,s,xs) ⟨rfl,aY _,z,g⟩ ?_
 rintro I ⟨i,o,ys⟩ t d ⟨rfl,hi,e,f⟩ u;(try simp only at hi e f)
 refine ak (fun c=>?_) fun c=>?_
 ·have j:i<(yH n 8).length:=by rw[NA];omega
  have eb:(yH n 8)[i]=cR (n>>>(8*i)):=by simp[yH]
  rw[cn j,eb]at e;have p:ac .i64 (8*(i:Int))=((8*i:Nat):Int):=by rw[show(8*(i:Int))=((8*i:Nat):Int) by omega];exact dL (by omega)
  obtain⟨b,_,_⟩:=f.out;refine Join.plain ⟨_,rfl,o,vc b 0,by rw[p];omega,Ky (cP ⟨vc ((Upd.hnew No d _ _).get0 b) 0,?_⟩)⟩
  refine f.byte (b:=cR (n>>>(8*i))) e C ?_ fun E y B A D=>?_
  ·rw[p,Int.toNat_natCast,show min (8*i) (IntKind.bits .u64)=8*i by show min (8*i) 64=8*i;omega]
   rw[show Int.fdiv (n:Int) (2^(8*i))=((n>>>(8*i):Nat):Int) by rw[Nat.shiftRight_eq_div_pow,Int.fdiv_eq_ediv_of_nonneg _ (Int.le_of_lt (Int.pow_pos (by omega)))];norm_cast]
   rw[IntKind.wrap_u8,UInt8.toNat_ofNat'];generalize n>>>(8*i)=m;omega
  ·rw[cX (n:=8) (by omega) (by omega)]
   exact u (i+1,y,B) _ _ ⟨rfl,by omega,A,D⟩ (by(try simp only);omega)
 ·have:i=8:=by omega
  subst this;rw[List.drop_of_length_le (by rw[NA];omega),bZ]at e;exact w d o ys e f
theorem Fm.pairs(g:Fm (l4 ob s xs::Ss) F h){sl:SliceV}{l:List Pr}(u:∀{W h},F W h→Sl fw 2 W h sl l)(o:xs++(tD l++r)=T)(m:T.length≤1000000){K:Unit→ae→Prop}(v:∀f s' ys,ys++r=T→Fm (l4 ob s' ys::Ss) F f→K () f):eJ 57 [gF ob,.slice sl.a sl.len sl.cap] K h:=by
 have d:=(u g.f).len;have Q:l.length≤1000000:=by
  have:=Cj o m;unfold tD at this;simp only[af]at this;have h2:l.length≤(l.flatMap xJ).length:=by
   clear this o d u v;induction l with
   |nil=>exact aY _
   |cons p l ih=>
    have Y:1≤(xJ p).length:=by
     unfold xJ vW;have:∀n,1≤(lF n).length:=fun n=>by rw[lF];split<;>simp
     have:=this p.1.size;simp only[af];omega
    rw[aZ,af,av];omega
  omega
 refine Ee _ sl ?_;unfold wO tD at*;rw[aw]at o;refine g.num (n:=l.length) o m (by omega) ?_ fun X O B A C=>?_
 ·rw[d];exact Go.IntWalk.u64_in _ (by omega)
 refine LoopP.ghost (fun(q:Nat×SliceV×List UInt8) (t:Int) f=>t=(q.1:Int)∧q.1≤l.length∧q.2.2++((l.drop q.1).flatMap xJ++r)=T∧Fm (l4 ob q.2.1 q.2.2::Ss) F f) (fun q=>l.length-q.1) (0,O,B) ⟨rfl,aY _,A,C⟩ ?_
 rintro I ⟨i,J,ys⟩ t f ⟨rfl,hi,e,j⟩ H;simp only at hi e j;refine ak (fun c=>?_) fun c=>?_
 ·have b:i<l.length:=by omega
  obtain⟨a,G,_,hv⟩:=(u j.f).at (ag b);rw[cn b,aZ,xJ,aw,aw]at e;refine⟨⟨by omega,by omega⟩,a,G,_,hv 0 _ rfl,_,hv 1 _ rfl,j.var1 fun V z=>z.fill (vs:=fw l[i]) 1 rfl rfl fun P x=>⟨_,x.cl 1 rfl 0,Fm.text x e m fun U S R D w=>⟨_,w.cl 1 rfl 1,Fm.text w D m fun Z y E N L=>?_⟩⟩⟩
  rw[cX b (by omega)];exact H (i+1,y,E) _ _ ⟨rfl,b,N,L.tail1⟩ (by simp only;omega)
 ·have:i=l.length:=by omega
  subst this;rw[gS]at e;exact v f J ys e j
theorem Fm.names(g:Fm (l4 ob s xs::Ss) F h){sl:SliceV}{l:List (ByteArray×Int)}(o:∀{W h},F W h→Sl fJ 2 W h sl l)(N:∀n∈l,0≤n.2∧n.2≤4294967295)(Q:l.length≤1000000)(v:xs++(pO ul l++r)=T)(m:T.length≤1000000){K:Unit→ae→Prop}(B:∀d s' ys,ys++r=T→Fm (l4 ob s' ys::Ss) F d→K () d):eJ 59 [gF ob,.slice sl.a sl.len sl.cap] K h:=by
 have f:=(o g.f).len;refine Ef _ sl ?_;unfold wP pO at*;rw[aw]at v;refine g.num (n:=l.length) v m (by omega) ?_ fun Y O z y A=>?_
 ·rw[f];exact Go.IntWalk.u64_in _ (by omega)
 refine LoopP.ghost (fun(q:Nat×SliceV×List UInt8) (t:Int) d=>t=(q.1:Int)∧q.1≤l.length∧q.2.2++((l.drop q.1).flatMap ul++r)=T∧Fm (l4 ob q.2.1 q.2.2::Ss) F d) (fun q=>l.length-q.1) (0,O,z) ⟨rfl,aY _,y,A⟩ ?_
 rintro I ⟨i,H,ys⟩ t d ⟨rfl,hi,e,j⟩ G;simp only at hi e j;refine ak (fun c=>?_) fun c=>?_
 ·have b:i<l.length:=by omega
  obtain⟨a,E,_,hv⟩:=(o j.f).at (ag b);have R:=N l[i] (bR b);rw[cn b,aZ,ul,aw,aw]at e;refine⟨⟨by omega,by omega⟩,a,E,_,hv 0 _ rfl,_,hv 1 _ rfl,j.var1 fun X x=>x.fill (vs:=fJ l[i]) 1 rfl rfl fun P u=>⟨_,u.cl 1 rfl 0,Fm.text u e m fun V U S C p=>⟨_,p.cl 1 rfl 1,Fm.num p C m (by omega) ?_ fun Z w D L J=>?_⟩⟩⟩
  ·rw[Go.IntWalk.u64_in _ (by omega)];omega
  rw[cX b (by omega)];exact G (i+1,w,D) _ _ ⟨rfl,b,L,J.tail1⟩ (by simp only;omega)
 ·have:i=l.length:=by omega
  subst this;rw[gS]at e;exact B d H ys e j
end
end Go.Proofs
namespace Go.Proofs
open Go Go.Lift
theorem G5:∀{l:List Pr} {p:Pr},p∈l→(jJ l p.1).isSome=true
 |q::l,p,h=>by
  rw[qj];split
  ·rfl
  ·rename_i hne
   rcases List.mem_cons.1 h with rfl|h
   ·exact absurd rfl hne
   ·exact G5 h
theorem vX{l:List Pr}(c:fE l):rp l=l:=zK (vY l) c fun p=>by
 rw[FZ];constructor
 ·exact fun h=>wn h
 ·intro b
  cases e:jJ l p.1 with
  |none=>have:=G5 b;rw[e]at this;cases this
  |some q=>
   have f:=wn e;have d:=Kf e;rw[show q=p from Prod.ext d (Gy c (k:=p.1) (by rw[←d];exact f) b)]
theorem TreeIs.stab{kind:Int}{x:Hs}{t:Tr}{l:List Pr}:Stab fun W h=>TreeIs W h kind x t l:=fun _ _ _ _ _ i u hm d=>i.re u hm fun b c=>(d b c).1
section
variable {Ss:List Sp} {F:(Nat→Prop)→ae→Prop} {h:ae} {ob pb:Nat} {s:SliceV} {xs T r:List UInt8} {u:Pt} {p:RParts}
theorem D1{α:Type}{w:α→List UInt8}(b:∀x,1≤(w x).length):∀l:List α,l.length≤(l.flatMap w).length
 | []=>aY _
 |x::l=>by
  have:=b x;have:=D1 b l;rw[aZ,af,av];omega
theorem Co(n:Nat):1≤(lF n).length:=by rw[lF];split<;>simp
theorem TK(v:tL):1≤(Af v).length:=by unfold Af;have:=Co v.1.toNat;rw[af];omega
theorem TY(v:Int×Bool×List Pr):1≤(yk v).length:=by unfold yk;have:=Co v.1.toNat;rw[af];omega
theorem Nt(v:ByteArray×Int):1≤(ul v).length:=by unfold ul;have:=Co v.2.toNat;rw[af];omega
theorem Fm.tree(g:Fm (l4 ob s xs::Ss) F h){k:Int}{x:Hs}{t:Tr}{l:List Pr}(i:TreeIs (AL (l4 ob s xs::Ss)) h k x t l)(v:fE l)(q:Fit l)(d:xs++(tD l++r)=T)(j:T.length≤50000){K:Unit→ae→Prop}(o:∀b s' ys,ys++r=T→Fm (l4 ob s' ys::Ss) F b→K () b):
  fU 58 [RI t] (fun(e:SliceV) b=>eJ 57 [gF ob,.slice e.a e.len e.cap] K b) h:=by
 have z:l.length≤60000:=by
  have:=Cj d (by omega);unfold tD at this;have h2:=D1 (w:=xJ) (fun p=>by unfold xJ vW;have:=Co p.1.size;simp only[af];omega) l
  rw[←d]at j;unfold tD at j;simp only[af]at j;omega
 exact RS i v q z (fun y A=>g.o.al A) fun s' B c k1=>((g.up0 k1).add Stab.sl c).pairs (fun f=>f.2) d (by omega) fun h2 m ys n u=>o h2 m ys n (u.less g.st fun f=>f.1)
theorem Rx(g:Fm (l4 ob s xs::bU pb (zR u) 53::Ss) F h){v:RV}{q:tL}{k:Int}{x:Hs}(ok:VerOk (AL (l4 ob s xs::bU pb (zR u) 53::Ss)) h k x v q)(qi:XH q)(G:xs++(Af q++r)=T)(hN:T.length≤50000){f:ae→Prop}(X:∀p s' ys,ys++r=T→Fm (l4 ob s' ys::bU pb (zR u) 53::Ss) F p→f p):
  At (hnew h [.int .u32 0,.slice none 0 0,.int .i64 0,.int .u64 0,.int .u64 0,.int .u64 0,.pointer none,.pointer none] 103) (fun A=>
    (xw A (some (aJ h)) 0 (sr v)∧
     At (iw A (aJ h) 0 (sr v)) (fun o=>
      ∃v39:Int,bh o (adr (aJ h) 0)=some (.int .u32 v39)∧
      eJ 56 [gF ob,.int .u64 (ac .u64 v39)] (fun(_:Unit) z=>
       ∃v42:SliceV,bh z (adr (aJ h) 1)=some (.slice v42.a v42.len v42.cap)∧
       eJ 56 [gF ob,.int .u64 (ac .u64 (v42.len:Int))] (fun(_:Unit) B=>
        ∃v45:SliceV,bh B (adr (aJ h) 1)=some (.slice v45.a v45.len v45.cap)∧
        LoopP (fun C (m:Int) b=>
         CondP (decide (m<(v45.len:Int))) (
          (((0:Int)≤m∧m<((v45.len:Nat):Int))∧∃a49:Addr,v45.a=some a49∧
           ∃v50:Int,bh b (adr a49 (m.toNat*1))=some (.int .u32 v50)∧
           eJ 56 [gF ob,.int .u64 (ac .u64 v50)] (fun(_:Unit) H=>
            C (ac .i64 (m+1)) H) b)) (
          ∃v53:Int,bh b (adr (adr (aJ h) 2) 0)=some (.int .i64 v53)∧
          ∃v54:Int,bh b (adr (adr (aJ h) 2) 1)=some (.int .u64 v54)∧
          ∃v55:Int,bh b (adr (adr (aJ h) 2) 2)=some (.int .u64 v55)∧
          ∃v56:Int,bh b (adr (adr (aJ h) 2) 3)=some (.int .u64 v56)∧
          ∃v57:Option Addr,bh b (adr (adr (aJ h) 2) 4)=some (.pointer v57)∧
          ∃v58:Option Addr,bh b (adr (adr (aJ h) 2) 5)=some (.pointer v58)∧
          fU 58 [.agg #[.int .i64 v53,.int .u64 v54,.int .u64 v55,.int .u64 v56,.pointer v57,.pointer v58]] (fun(n:SliceV) D=>
           eJ 57 [gF ob,.slice n.a n.len n.cap] (fun(_:Unit) E=>f E) D) b)) 0 B) z) o))):=by
 obtain⟨e1,P,ht⟩:=ok;obtain⟨b1,⟨l2,b2⟩,N,hf⟩:=qi;have y:=P.len;unfold Af pO at G;simp only[aw]at G;have Q:=(g.add Stab.sl P).add TreeIs.stab ht;refine Q.var1 fun h1 V=>V.fill (vs:=sr v) 1 rfl rfl fun h2 L=>⟨_,L.cl 1 rfl 0,Fm.num L G (by omega) (by omega) ?_ fun h3 s3 y3 Z J=>⟨v.2.1,J.cl 1 rfl 1,Fm.num J Z (by omega) (by omega) ?_ fun h4 Y y4 e4 O=>⟨v.2.1,O.cl 1 rfl 1,?_⟩⟩⟩
 ·rw[Go.IntWalk.u64_in _ (by omega)];omega
 ·rw[y];exact Go.IntWalk.u64_in _ (by omega)
 refine LoopP.ghost (fun(w:Nat×SliceV×List UInt8) (t:Int) p=>t=(w.1:Int)∧w.1≤q.2.1.length∧w.2.2++((q.2.1.drop w.1).flatMap (fun i:Int=>lF i.toNat)++(tD q.2.2++r))=T∧Fm (l4 ob w.2.1 w.2.2::bU h.size (sr v) 103::bU pb (zR u) 53::Ss) (fun W h=>(F W h∧Sl u32 1 W h v.2.1 q.2.1)∧TreeIs W h k x v.2.2 (rp q.2.2)) p) (fun w=>q.2.1.length-w.1) (0,Y,y4) ⟨rfl,aY _,e4,O⟩ ?_
 rintro I ⟨i,s5,ys⟩ t p ⟨rfl,hi,e,j⟩ hI;simp only at hi e j;refine ak (fun c=>?_) fun c=>?_
 ·have d:i<q.2.1.length:=by omega
  obtain⟨a,ha,_,hv⟩:=j.f.1.2.at0 (ag d);have n1:=b2 _ (bR d);rw[cn d,aZ,aw]at e;refine⟨⟨by omega,by omega⟩,a,ha,_,hv,Fm.num j e (by omega) (by omega) ?_ fun h6 S y6 e6 g6=>?_⟩
  ·rw[Go.IntWalk.u64_in _ (by omega)];omega
  rw[cX d (by omega)];exact hI (i+1,S,y6) _ _ ⟨rfl,d,e6,g6⟩ (by simp only;omega)
 ·have:i=q.2.1.length:=by omega
  subst this;rw[gS,ny,bZ]at e;have K:=j.f.2;rw[vX N]at K;refine⟨_,j.cl 1 rfl 2,_,j.cl 1 rfl 3,_,j.cl 1 rfl 4,_,j.cl 1 rfl 5,_,j.cl 1 rfl 6,_,j.cl 1 rfl 7,?_⟩;exact Fm.tree j K N hf e hN fun h7 U y7 R g7=>X h7 U y7 R (g7.tail1.less g.st fun f=>f.1.1)
theorem RY(g:Fm (l4 ob s xs::bU pb (zR u) 53::Ss) F h){v:SR}{q:Int×Bool×List Pr}{k:Int}{x:Hs}(ok:SesOk (AL (l4 ob s xs::bU pb (zR u) 53::Ss)) h k x v q)(X:XI q)(H:xs++(yk q++r)=T)(Z:T.length≤50000){f:ae→Prop}(U:∀C s' ys,ys++r=T→Fm (l4 ob s' ys::bU pb (zR u) 53::Ss) F C→f C):
  At (hnew h [.int .i64 0,.bool false,.int .i64 0,.int .u64 0,.int .u64 0,.int .u64 0,.pointer none,.pointer none] 110) (fun B=>
   (xw B (some (aJ h)) 0 (La v)∧
    At (iw B (aJ h) 0 (La v)) (fun y=>
     ∃v90:Int,bh y (adr (aJ h) 0)=some (.int .i64 v90)∧
     eJ 56 [gF ob,.int .u64 (ac .u64 v90)] (fun(_:Unit) o=>
      Join (fun(D:Int) n=>
       Join (fun(_:Unit) b=>
        ∃v108:Int,bh b (adr (adr (aJ h) 2) 0)=some (.int .i64 v108)∧
        ∃v109:Int,bh b (adr (adr (aJ h) 2) 1)=some (.int .u64 v109)∧
        ∃v110:Int,bh b (adr (adr (aJ h) 2) 2)=some (.int .u64 v110)∧
        ∃v111:Int,bh b (adr (adr (aJ h) 2) 3)=some (.int .u64 v111)∧
        ∃v112:Option Addr,bh b (adr (adr (aJ h) 2) 4)=some (.pointer v112)∧
        ∃v113:Option Addr,bh b (adr (adr (aJ h) 2) 5)=some (.pointer v113)∧
        fU 58 [.agg #[.int .i64 v108,.int .u64 v109,.int .u64 v110,.int .u64 v111,.pointer v112,.pointer v113]] (fun(d:SliceV) w=>
         eJ 57 [gF ob,.slice d.a d.len d.cap] (fun(_:Unit) p=>f p) w) b) (fun G=>
        ∃a98:Addr,some (⟨ob,0,none⟩:Addr)=some a98∧
        ∃v99:SliceV,bh n a98=some (.slice v99.a v99.len v99.cap)∧
        At (hnew n [.int .u8 D] 5) (fun m=>
         ∃xs101,SRow m (some (aJ n)) (1*1) xs101∧
         AppP (some [.int .u8 0]) 1 1 5 v99.a v99.len v99.cap 1 xs101 m (fun c i=>
          ∃a104:Addr,some (⟨ob,0,none⟩:Addr)=some a104∧
          (Wr i a104∧
           At (hset i a104 (.slice c.a c.len c.cap)) (fun z=>
            G () z)))))) (fun A=>
       ∃v94:Bool,bh o (adr (aJ h) 1)=some (.bool v94)∧
       CondP v94 (
        A 1 o) (
        A 0 o))) y))):=by
 obtain⟨e1,N,ht⟩:=ok;obtain⟨b1,L,hf⟩:=X;unfold yk at H;simp only[aw,List.cons_append]at H;have O:=g.add TreeIs.stab ht;refine O.var1 fun h1 S=>S.fill (vs:=La v) 1 rfl rfl fun h2 K=>⟨_,K.cl 1 rfl 0,Fm.num K H (by omega) (by omega) ?_ fun h3 V y3 W E=>?_⟩
 ·rw[Go.IntWalk.u64_in _ (by omega)];omega
 refine Join.intro (fun t C=>t=(((if q.2.1 then 1 else 0:UInt8).toNat:Nat):Int)∧C=h3) (fun R I=>⟨_,E.cl 1 rfl 1,CondP.intro (fun e=>I _ _ ⟨?_,rfl⟩) fun e=>I _ _ ⟨?_,rfl⟩⟩) ?_
 ·rw[←N,e];rfl
 ·rw[←N,e];rfl
 rintro t h4 ⟨et,rfl⟩;obtain⟨bo,_,_⟩:=E.out;refine Join.plain ⟨_,rfl,V,vc bo 0,cP (Fm.byte E W (by omega) et fun h5 s5 y5 Y j=>?_)⟩
 have J:=j.f.2;rw[vX L]at J;refine⟨_,j.cl 1 rfl 2,_,j.cl 1 rfl 3,_,j.cl 1 rfl 4,_,j.cl 1 rfl 5,_,j.cl 1 rfl 6,_,j.cl 1 rfl 7,?_⟩;exact Fm.tree j J L hf Y Z fun h7 Q y7 P g7=>U h7 Q y7 P (g7.tail1.less g.st fun f=>f.1)
end
set_option maxHeartbeats 1000000 in
theorem Rq{Ss:List Sp}{F:(Nat→Prop)→ae→Prop}{h:ae}{u:Pt}{p:RParts}(g:Fm Ss F h)(O:∀{W h},F W h→PtIs W h u p)(q:PtsI p)(o:(lZ p).length≤50000){K:SliceV→ae→Prop}(hk:∀m s,Fm Ss F m→Sl tK 1 No m s (lZ p)→K s m):
  fU 26 [.agg (zR u).toArray] K h:=by
 refine eM (Dc u) Ms Tryz.func26 Tryz.call26 ?_;dsimp only[Dc,aR,du,cq,nv,QN,db,jO,Du,Zw,F8,MI,yj,Fj,ic,ji,I0,dg,ce,Bu,MB,Aj,Eb,cg,kR,CT,XC,jI,Ir,MH,Tg,IW,eS,cf,IV];have P:=O g.f;have pk:=P.k;have px:=P.x;have pn:=P.n;have pl:=P.l;refine g.var fun D g1=>⟨_,g1.cl 0 rfl 0,bj fun L b3 k3=>bj fun h4 b4 k4=>?_⟩
 have z3:=bc b3;have z4:=bc b4;have s3:=k3.size;obtain⟨C,U⟩:∃C:UInt8,C=cR p.kind.toNat:=⟨_,rfl⟩;have ev:ac .u8 u.1=(C.toNat:Int):=by
  rw[pk,U];rcases q.k with⟨e,_⟩|⟨e,_⟩<;>rw[e]<;>rfl
 have ob:OwnS tK 1 5 (sb ⟨some ⟨D.size,0,none⟩,2,2⟩) h4 ⟨some ⟨D.size,0,none⟩,2,2⟩ [81,C]:=⟨rfl,rx,ai _,.inr ⟨D.size,[],rfl,⟨by simp,_,rfl,rfl⟩,by
  have:=k4.get0 b3
  rw[ev]at this
  exact this,rfl⟩⟩
 have S:=g1.new (a:=l4 L.size ⟨some ⟨D.size,0,none⟩,2,2⟩ [81,C]) (k3.tr k4) ⟨b4,ob,fun e=>by
  obtain⟨_,a,v,e⟩:=e
  cases v
  have e:L.size=D.size:=e
  omega⟩ fun y hy=>by
   rcases hy with rfl|⟨_,a,v,rfl⟩
   ·exact⟨s3,z4⟩
   ·cases v
    exact⟨ai _,by show D.size<_;omega⟩
 have z: [81,C]++((if p.kind=0 then yH p.x.k0.toNat 8++(yH p.x.k1.toNat 8++yH p.x.mask.toNat 8)else[])++(lF p.next.toNat++(pO Af p.vs++(pO ul p.bs++(pO ul p.ts++(lF p.last.toNat++pO yk p.ss))))))=lZ p:=by
  unfold lZ NC;rw[U];rfl
 generalize lZ p=T at z o hk;refine Join.intro (fun _ m=>∃s ys,ys++(lF p.next.toNat++(pO Af p.vs++(pO ul p.bs++(pO ul p.ts++(lF p.last.toNat++pO yk p.ss)))))=T∧Fm (l4 L.size s ys::bU h.size (zR u) 53::Ss) F m) (fun R hR=>⟨_,S.cl 1 rfl 0,CondP.intro (fun e=>?_) fun e=>?_⟩) ?_
 ·have e:p.kind=0:=by rw[←pk];simpa using e
  rw[if_pos e]at z;simp only[aw]at z;rcases q.k with⟨_,x1,x2,x3⟩|⟨e1,_⟩
  ·exact⟨_,S.cl 1 rfl 1,Fm.fixed S z (by omega) (by rw[px.1];omega) fun h5 s5 y5 A H=>⟨_,H.cl 1 rfl 2,Fm.fixed H A (by omega) (by rw[px.2.1];omega) fun h6 s6 y6 e6 Q=>⟨_,Q.cl 1 rfl 3,Fm.fixed Q e6 (by omega) (by rw[px.2.2];omega) fun h7 s7 y7 e7 Z=>hR _ _ ⟨s7,y7,e7,Z⟩⟩⟩⟩
  ·omega
 ·have e:p.kind≠0:=by rw[←pk];simpa using e
  rw[if_neg e,bZ]at z;exact hR _ _ ⟨_,_,z,S⟩
 rintro _ h5 ⟨s5,y5,A,H⟩;clear S g1 b3 b4 ob z k3 k4;obtain⟨vl,sl5⟩:p.vs.length≤50000∧p.ss.length≤50000:=by
  have a:=D1 TK p.vs;have b:=D1 TY p.ss;rw[←A]at o;unfold pO at o;simp only[af]at o;omega
 obtain⟨bl,tl⟩:p.bs.length≤50000∧p.ts.length≤50000:=by
  have a:=D1 Nt p.bs;have b:=D1 Nt p.ts;rw[←A]at o;unfold pO at o;simp only[af]at o;omega
 rw[show pO Af p.vs=lF p.vs.length++p.vs.flatMap Af from rfl,show pO yk p.ss=lF p.ss.length++p.ss.flatMap yk from rfl,aw]at A
 obtain⟨VS,hv,j⟩:=P.v;obtain⟨SS,hs,sok⟩:=P.s;have lv:=hv.len;have ls:=hs.len;have x:=j.1;have ls2:=sok.1;have n1:=q.n;have n2:=q.l;refine⟨_,H.cl 1 rfl 4,Fm.num H A (by omega) (by omega) (by rw[pn,Go.IntWalk.u64_in _ (by omega)];omega) fun h6 s6 y6 e6 Q=>⟨u.2.2.2.2.2.1,Q.cl 1 rfl 5,Fm.num Q e6 (by omega) (by omega) (by rw[lv,x];exact Go.IntWalk.u64_in _ (by omega)) fun h7 s7 y7 e7 Z=>⟨u.2.2.2.2.2.1,Z.cl 1 rfl 5,?_⟩⟩⟩
 refine LoopP.ghost (fun(w:Nat×SliceV×List UInt8) (t:Int) m=>t=(w.1:Int)∧w.1≤p.vs.length∧w.2.2++((p.vs.drop w.1).flatMap Af++(pO ul p.bs++(pO ul p.ts++(lF p.last.toNat++(lF p.ss.length++p.ss.flatMap yk)))))=T∧Fm (l4 L.size w.2.1 w.2.2::bU h.size (zR u) 53::Ss) F m) (fun w=>p.vs.length-w.1) (0,s7,y7) ⟨rfl,aY _,e7,Z⟩ ?_
 rintro I ⟨i,s8,y8⟩ t h8 ⟨rfl,hi,V,E⟩ Y;(try simp only at hi V E)
 have P8:=O E.f;refine ak (fun c=>?_) fun c=>?_
 ·have d:i<p.vs.length:=by omega
  obtain⟨VS,hv,j⟩:=P8.v;have x:=j.1;obtain⟨a,v,_,hc⟩:=hv.at (ag (show i<VS.length by omega))
  rw[cn d,aZ,aw]at V;refine⟨⟨by omega,by omega⟩,a,v,_,hc 0 _ rfl,VS[i].2.1,hc 1 _ rfl,_,hc 2 _ rfl,_,hc 3 _ rfl,_,hc 4 _ rfl,_,hc 5 _ rfl,_,hc 6 _ rfl,_,hc 7 _ rfl,?_⟩
  refine Rx E (j.2 i _ _ (ag (show i<VS.length by omega)) (ag d)) (q.v _ (bR d)) V o fun h9 s9 X N B=>?_
  rw[cX d (by omega)];exact Y (i+1,s9,X) _ _ ⟨rfl,d,N,B⟩ (by(try simp only);omega)
 have:i=p.vs.length:=by omega
 subst this;rw[gS,ny,bZ]at V;clear Y I;refine⟨u.2.2.2.2.2.2.1,E.cl 1 rfl 6,Fm.names E (fun f=>(O f).b) (fun n hn=>(q.b n hn).2) (by omega) V (by omega) fun h9 s9 X N B=>⟨u.2.2.2.2.2.2.2.1,B.cl 1 rfl 7,Fm.names B (fun f=>(O f).t) (fun n hn=>(q.t n hn).2) (by omega) N (by omega) fun hA sA yA eA gA=>⟨_,gA.cl 1 rfl 8,?_⟩⟩⟩
 refine Fm.num gA eA (by omega) (by omega) (by rw[pl,Go.IntWalk.u64_in _ (by omega)];omega) fun hB sB yB eB gB=>⟨u.2.2.2.2.2.2.2.2.2,gB.cl 1 rfl 9,?_⟩
 rw[←bi (p.ss.flatMap yk)]at eB;refine Fm.num gB eB (by omega) (by omega) (by rw[ls,ls2];exact Go.IntWalk.u64_in _ (by omega)) fun hC sC yC eC gC=>⟨u.2.2.2.2.2.2.2.2.2,gC.cl 1 rfl 9,?_⟩
 refine LoopP.ghost (fun(w:Nat×SliceV×List UInt8) (t:Int) m=>t=(w.1:Int)∧w.1≤p.ss.length∧w.2.2++((p.ss.drop w.1).flatMap yk++ [])=T∧Fm (l4 L.size w.2.1 w.2.2::bU h.size (zR u) 53::Ss) F m) (fun w=>p.ss.length-w.1) (0,sC,yC) ⟨rfl,aY _,eC,gC⟩ ?_
 rintro I ⟨i,s8,y8⟩ t hD ⟨rfl,hi,J,G⟩ Y;(try simp only at hi J G)
 have PD:=O G.f;refine ak (fun c=>?_) fun c=>?_
 ·have d:i<p.ss.length:=by omega
  obtain⟨SS,hv,j⟩:=PD.s;have x:=j.1;obtain⟨a,v,_,hc⟩:=hv.at (ag (show i<SS.length by omega))
  rw[cn d,aZ,aw]at J;refine⟨⟨by omega,by omega⟩,a,v,_,hc 0 _ rfl,_,hc 1 _ rfl,_,hc 2 _ rfl,_,hc 3 _ rfl,_,hc 4 _ rfl,_,hc 5 _ rfl,_,hc 6 _ rfl,_,hc 7 _ rfl,?_⟩
  refine RY G (j.2 i _ _ (ag (show i<SS.length by omega)) (ag d)) (q.s _ (bR d)) J o fun h9 s9 X N B=>?_
  rw[cX d (by omega)];exact Y (i+1,s9,X) _ _ ⟨rfl,d,N,B⟩ (by(try simp only);omega)
 have:i=p.ss.length:=by omega
 subst this;rw[gS,ny,bi,bi]at J;subst J;obtain⟨bo,oo,_⟩:=G.out;exact⟨_,rfl,s8,vc bo 0,hk hD s8 G.tail.tail (oo.sl fun _ _ _ h=>h)⟩
end Go.Proofs
namespace Go.Proofs
open Go Go.Lift
structure VsOk(s:VS)(p:RParts):Prop where
 l:nz p=some s.L
 n:s.nx=p.next
 d:∀v∈p.vs,(dT s.D v.1).map (·.2)=some v.2.2
def sw(s:VS)(L:dI)(nx:Int)(D:List (Int×TD)):VS:={s with L:=L,nx:=nx,D:=D}
theorem VaultAt.next{W:Nat→Prop}{h e:ae}{vp:Nat}{s:VS}{n:Int}(v:VaultAt W h vp s)(u:Upd (yV s.gp s.gm) h e)(g:GraphAt W e s.gp s.gm s.L n)(q:s.nx≤n∧n≤2147483648):VaultAt W e vp {s with nx:=n}:=by
 obtain⟨B,x,w,i,m,f,j,A,C,p⟩:=VS.neB v.ne;have b:∀y,y≠s.gp→y≠s.gm→¬yV s.gp s.gm y:=fun y o h2 h=>h.elim o h2
 exact v.turn u (fun y z=>.inl (v.w y (VS.mG z))) g (v.t.upd u (b _ x.symm m.symm)) (v.b.upd u (b _ w.symm f.symm)) (v.n.upd u (b _ i.symm j.symm)) (fun d hd=>.inl hd) v.sub ⟨v.inv.good,fun id c=>⟨(v.inv.pos id c).1,by have:=(v.inv.pos id c).2;omega⟩,by have:=v.inv.nx1;omega,q.2,v.inv.few⟩
section
variable {Ss:List Sp} {z h:ae} {sp vp sm pb cb j:Nat} {last:Int} {ids0:List Int} {es:List Sg} {s:VS} {X:(Nat→Prop)→ae→Prop} {u:Pt} {p:RParts}
theorem K3(g:Fm Ss (Fv z vp s X) h)(hj:Ss[j]? =some (nR sp vp sm pb cb last ids0 es)) (R:∀{W h},X W h→PtIs W h u p) (pi:PtsI p) (h0:s.L= []∧s.nx=1∧s.D= []) (G:s.kind=p.kind∧s.x=p.x) (hl:p.vs.length≤100000) {K:Bool→ae→Prop}
  (C:∀P b L nx D,b=(nz p).isSome→(b=true→VsOk (sw s L nx D) p)→Fm Ss (Fv z vp (sw s L nx D) X) P→K b P):f5 43 [gF sp,.agg (zR u).toArray] K h:=by
 refine eM (oQ (some ⟨sp,0,none⟩) u) wX Tryz.func43 Tryz.call43 ?_;dsimp only[oQ,du,cq,nv,QN,uk,F8,MI,yj,ic,ji,I0,dg,db,ce,mH,dq,Bu,MB,IW,eS,cf];have hj1:∀{a:Sp},(a::Ss)[j+1]? =some (nR sp vp sm pb cb last ids0 es):=by simpa using hj
 have H:sw s [] 1 []=s:=by cases s;(try simp only at h0);obtain⟨rfl,rfl,rfl⟩:=h0;rfl
 refine g.var fun h1 g1=>⟨u.2.2.2.2.2.1,g1.cl 0 rfl 5,?_⟩
 obtain⟨VS,hv,x⟩:=(R g1.f.x).v;have lv:=hv.len;have J:=x.1;have B:VS.map (·.1)=p.vs.map (·.1):=List.ext_getElem (by simp[J]) fun i hi N=>by
  rw[aX]at hi N;rw[cH,cH];exact(x.2 i _ _ (ag hi) (ag N)).1
 refine Sf hv (by omega) fun h2 b1 eb k2=>?_
 rw[B]at eb;have g2:=g1.up0 k2;cases F:b1 with
 |false=>
  refine aV.2 (C h2 false [] 1 [] ?_ (fun e=>by cases e) (by rw[H];exact g2.tail))
  rw[F]at eb;unfold nz;rw[←eb];rfl
 |true=>
  rw[F]at eb;have pw:(p.vs.map (·.1)).Pairwise fun a b=>GX a b=true:=xu (fun a b c h k=>by unfold GX at*;simp only[decide_eq_true_iff]at*;omega) eb.symm
  refine ay.2 ⟨u.2.2.2.2.2.1,g2.cl 0 rfl 5,?_⟩;refine LoopP.ghost (fun(w:Nat×dI×Int×List (Int×TD)) (t:Int) P=>t=(w.1:Int)∧w.1≤p.vs.length∧nA (p.vs.take w.1) ([],1)=some (w.2.1,w.2.2.1)∧(∀v∈p.vs.take w.1,(dT w.2.2.2 v.1).map (·.2)=some v.2.2)∧Fm (bU h.size (zR u) 53::Ss) (Fv z vp (sw s w.2.1 w.2.2.1 w.2.2.2) X) P) (fun w=>p.vs.length-w.1) (0,[],1,[]) ⟨rfl,aY _,rfl,fun _ h=>by simp at h,by rw[H];exact g2⟩ ?_
  rintro I ⟨i,L,nx,D⟩ t h3 ⟨rfl,hi,Y,hd,m⟩ hI;(try simp only at hi Y hd m)
  refine ak (fun c=>?_) fun c=>?_
  ·have n:i<p.vs.length:=by omega
   obtain⟨VS,hv,x⟩:=(R m.f.x).v;have J:=x.1;have ok0:=x.2 i _ _ (ag (show i<VS.length by omega)) (ag n)
   have st:Stab fun W h=>VerOk (fun y=>(sw s L nx D).M y∨W y) h p.kind p.x VS[i] p.vs[i]:=fun _ _ _ _ _ o u hm hw=>o.re u (fun b F=>(hm b F).imp .inr id) fun b F=>F.elim (fun e=>.inl (.inl e)) fun e=>(hw b e).1.imp .inr id
   obtain⟨a,ha,_,hc⟩:=hv.at (ag (show i<VS.length by omega))
   obtain⟨v1,v2,v3⟩:=pi.v _ (bR n);refine⟨⟨by omega,by omega⟩,a,ha,_,hc 0 _ rfl,VS[i].2.1,hc 1 _ rfl,_,hc 2 _ rfl,_,hc 3 _ rfl,_,hc 4 _ rfl,_,hc 5 _ rfl,_,hc 6 _ rfl,_,hc 7 _ rfl,(m.add st ok0).var fun h4 g4=>g4.fill (vs:=sr VS[i]) 0 rfl rfl fun h5 q=>?_⟩
   have q5:StoQ sp vp sm pb cb last ids0 es h5:=q.o.get (i:=j+2) (by simpa using hj);refine⟨_,rfl,_,vc q5.b 0,_,q.cl 0 rfl 0,_,q.cl 0 rfl 2,_,q.cl 0 rfl 3,_,q.cl 0 rfl 4,_,q.cl 0 rfl 5,_,q.cl 0 rfl 6,_,q.cl 0 rfl 7,VS[i].2.1,q.cl 0 rfl 1,?_⟩;obtain⟨o1,o2,o3⟩:=q.f.2;rw[vX v3.1]at o3;rw[o1];refine Wp q.f.1.v (id:=p.vs[i].1) v1.1 (d:=(VS[i].2.2,p.vs[i].2.2)) (by rw[show(sw s L nx D).kind=p.kind from G.1,show(sw s L nx D).x=p.x from G.2];exact o3) v3.1 v3.2 o2 (by omega) fun h6 u6 v6=>?_
   have S:nA (p.vs.take (i+1)) ([],1)=if(fV L nx p.vs[i].1 p.vs[i].2.1).1=0 then some (fV L nx p.vs[i].1 p.vs[i].2.1).2 else none:=by
    rw[bd n,wh,Y];show nA [p.vs[i]] (L,nx)=_
    rw[nA];rfl
   have T:=((q.less Fv.stab fun f=>f.1).vault u6 v6 (by unfold IA;split<;>rfl)).tail
   refine CondP.intro (fun e=>?_) fun e=>?_
   ·have e:¬(fV (sw s L nx D).L (sw s L nx D).nx p.vs[i].1 p.vs[i].2.1).1=0:=by simpa using e
    have e:¬(fV L nx p.vs[i].1 p.vs[i].2.1).1=0:=e;have ep:IA (sw s L nx D) p.vs[i].1 (VS[i].2.2,p.vs[i].2.2) p.vs[i].2.1=sw s L nx D:=by unfold IA;rw[if_neg (show ¬(fV (sw s L nx D).L (sw s L nx D).nx p.vs[i].1 p.vs[i].2.1).1=0 from e)]
    rw[ep]at T;refine C h6 false L nx D ?_ (fun e=>by cases e) T.tail
    rw[if_neg e]at S;unfold nz;rw[←eb,if_pos rfl,←List.take_append_drop (i+1) p.vs,wh,S];rfl
   ·have e:(fV (sw s L nx D).L (sw s L nx D).nx p.vs[i].1 p.vs[i].2.1).1=0:=by simpa using e
    have e:(fV L nx p.vs[i].1 p.vs[i].2.1).1=0:=e;have ep:IA (sw s L nx D) p.vs[i].1 (VS[i].2.2,p.vs[i].2.2) p.vs[i].2.1=sw s (fV L nx p.vs[i].1 p.vs[i].2.1).2.1 (fV L nx p.vs[i].1 p.vs[i].2.1).2.2 (oE D p.vs[i].1 (VS[i].2.2,p.vs[i].2.2)):=by unfold IA;rw[if_pos (show(fV (sw s L nx D).L (sw s L nx D).nx p.vs[i].1 p.vs[i].2.1).1=0 from e)];rfl
    rw[ep]at T;rw[if_pos e]at S;rw[cX n (by omega)];refine hI (i+1,_,_,_) _ _ ⟨rfl,n,S,fun v hv=>?_,T⟩ (by(try simp only);omega)
    rw[KA];split
    ·rename_i ev
     rw[bd n]at hv;rcases be.1 hv with hv|hv
     ·obtain⟨k,C,rfl⟩:=dP.1 hv
      rw[List.length_take]at C;have:=List.pairwise_iff_getElem.1 pw k i (by rw[aX];omega) (by rw[aX];omega) (by omega);rw[cH,cH]at this;rw[List.getElem_take]at ev;unfold GX at this;simp only[decide_eq_true_iff]at this;omega
     ·rw[aq.1 hv];rfl
    ·rename_i ev
     rw[bd n]at hv;rcases be.1 hv with hv|hv
     ·exact hd v hv
     ·exact absurd (congrArg Prod.fst (aq.1 hv)) ev
  ·have:i=p.vs.length:=by omega
   subst this;rw[cG]at Y hd;have q3:StoQ sp vp sm pb cb last ids0 es h3:=m.o.get (i:=j+1) (by simpa using hj);have nx1:=m.f.v.inv.nx1;have Q:nz p=if nx≤p.next∧p.next≤2147483648 then some L else none:=by unfold nz;rw[←eb,if_pos rfl,Y];rfl
   refine⟨_,m.cl 0 rfl 4,ak (fun c=>?_) fun c=>?_⟩
   ·refine⟨_,rfl,_,vc q3.b 0,_,m.cl 0 rfl 4,ML m.f.v _ fun h7 V O=>?_⟩
    have E:=(R m.f.x).n;have Z:(sw s L nx D).nx=nx:=rfl;rw[Z]at O⊢;by_cases U:nx≤u.2.2.2.2.1∧u.2.2.2.2.1≤2147483648
    ·rw[if_neg (by omega)]at O
     have v7:=m.f.v.next V O U
     have A:=m.vault (s':=sw s L u.2.2.2.2.1 D) (V.mono fun y hy=>.inl (Go.Proofs.VS.mG hy)) v7 rfl
     refine⟨A.cl 0 rfl 4,C h7 _ L _ D ?_ (fun _=>⟨?_,E,hd⟩) A.tail⟩
     ·rw[Q,if_pos (by rw[←E];exact U),decide_eq_false (by omega)];rfl
     ·rw[Q,if_pos (by rw[←E];exact U)];rfl
    ·rw[if_pos (by omega)]at O
     have v7:=m.f.v.next V O ⟨Int.le_refl _,m.f.v.inv.nx2⟩
     have A:=m.vault (s':=sw s L nx D) (V.mono fun y hy=>.inl (Go.Proofs.VS.mG hy)) v7 rfl
     refine⟨A.cl 0 rfl 4,C h7 _ L nx D ?_ (fun e=>?_) A.tail⟩
     ·rw[Q,if_neg (by rw[←E];exact U),decide_eq_true (by omega)];rfl
     ·rw[decide_eq_true (by omega)]at e;cases e
   ·refine C h3 false L nx D ?_ (fun e=>by cases e) m.tail
    have E:=(R m.f.x).n;rw[Q,if_neg (fun h=>c (by rw[E];have nx1:1≤nx:=nx1;omega))];rfl
end
end Go.Proofs
