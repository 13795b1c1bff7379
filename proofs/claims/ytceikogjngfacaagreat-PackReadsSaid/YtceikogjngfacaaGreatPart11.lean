/- A part of the proof that the named laws of this program answer true, whatever the input. -/
import Derived.Test.YtceikogjngfacaaGreatPart10
import Derived.Test.YtceikogjngfacaaGreatPart7
import Derived.Test.YtceikogjngfacaaGreatPart9
open Bool renaming and_eq_true→aO,not_eq_true'→iG,and_eq_false_iff→p9,false_eq_true→bS
open Go.IntKind renaming wrap→ac
open Go.Op renaming bytesLess→bH
open List renaming take_succ_eq_append_getElem→bd,mem_append→be,mem_singleton→aq,length_drop→aW,length_singleton→aI,drop_zero→dJ,length_take→aL,length_nil→aQ,length_cons→av,any_eq_true→dZ,getElem_mem→bR,mem_cons→ar,pairwise_cons→bF,cons_append→dF,mem_cons_of_mem→aA,mem_map→bI,mem_iff_getElem→dP,getElem_take→mq,length_map→aX,getElem_map→cH,all_eq_true→gU,getElem?_eq_getElem→ag,getD_eq_getElem?_getD→mQ,getElem?_drop→oL,drop_eq_nil_of_le→fC,drop_eq_getElem_cons→cn,drop_drop→cW,mem_of_getElem?→ao
open List.Pairwise renaming nil→dh
open Nat renaming zero_le→aY,le_refl→ai,le_trans→co,not_lt→eW,lt_of_lt_of_le→aC,succ_pos→nt,zero_add→bK
namespace Go.Proofs
open Go.Lift
theorem B4{α:Type}{p:α→Bool}:∀(l:List α) (i:Nat),i≤l.length→(∀v∈l.take i,p v=true)→(∀h:i<l.length,p l[i]=false)→l.takeWhile p=l.take i∧l.dropWhile p=l.drop i
 | [],i,_,_,_=>by simp
 |x::l,0,_,_,h=>by
  have:=h (by simp);simp only[List.getElem_cons_zero]at this;simp[this]
 |x::l,i+1,hi,h1,h2=>by
  have hx:=h1 x (by simp);have:=B4 l i (by simpa using hi) (fun v hv=>h1 v (by simp[hv])) (fun h=>h2 (by simpa using h))
  simp[hx,this]
theorem sD:∀xs:List (Int×SliceV),cF (xs.flatMap vf)=true
 | []=>rfl
 |x::xs=>by rw[List.flatMap_cons];exact sD xs
theorem OA{W:Nat→Prop}{h:ae}{w:Nat}{L:dI}{nx:Int}(g:RefAt W h w L nx)(hL:L.length≤100000){id:Int}(hid:0≤id∧id<4294967295){s:SliceV}{ps:List Int}(hs:Nums W h s ps)(hn:ps.length*4≤140737488355328)
  {K:Unit→ae→Prop}(hk:∀A,Upd (· =w) h A→RefAt W A w (um L id ps) (if nx≤id then id+1 else nx)→K () A):
  eJ 100 [gF w,.int .u32 id,.slice s.a s.len s.cap] K h:=by
 refine eM (C7 (some ⟨w,0,none⟩) id s) Mn Tryz.func100 Tryz.call100 ?_;dsimp only[C7,dy,eS,cf,Rm,Wn,ic,ji,dq,iP,iv,pq,pQ,Ai];obtain⟨D,t0,Ls,h1,h2,h3,F⟩:=g.blk;have E:=h3.len;have x:=g.lt;refine LoopP.ghost (fun(i:Nat) (t:Int) A=>t=(i:Int)∧A=h∧i≤L.length∧∀v∈L.take i,decide (v.1<id)=true) (fun i=>L.length-i) 0 ⟨rfl,rfl,aY _,by simp⟩ ?_
 rintro I i t A ⟨rfl,rfl,hi,hp⟩ hI;have c0:bh A (adr ⟨w,0,none⟩ 0)=some (.slice D.a D.len D.cap):=by rw[cM,bO h1];rfl
 refine Join.intro (fun t h2=>h2=A∧(t=true→∃x:i<L.length,L[i].1<id)∧(t=false→∀x:i<L.length,¬L[i].1<id)) (fun R hR=>?_) ?_
 ·refine⟨_,rfl,D,c0,ak (fun B=>?_) fun B=>?_⟩
  ·rw[h2.len,E]at B
   have B:i<L.length:=by omega
   obtain⟨a,ha,c1,_⟩:=TJ h2 (E▸B);refine⟨_,rfl,D,c0,by rw[h2.len,E];omega,a,ha,_,c1,hR _ _ ⟨rfl,?_⟩⟩
   rw[(h3.get (E▸B) B).1];exact⟨fun e=>⟨B,by simpa using e⟩,fun e _=>by simpa using e⟩
  ·rw[h2.len,E]at B
   exact hR _ _ ⟨rfl,fun e=>(by cases e),fun _ h5=>(by omega)⟩
 ·rintro t y ⟨rfl,e1,e2⟩
  refine CondP.intro (fun e=>?_) fun e=>?_
  ·obtain⟨B,h5⟩:=e1 e
   rw[cX B (by omega)];refine hI (i+1) _ _ ⟨rfl,rfl,B,?_⟩ (by omega);rw[bd B];intro v hv;rcases be.1 hv with Q|Q
   ·exact hp v Q
   ·rw[aq.1 Q];exact decide_eq_true h5
  ·obtain⟨w1,w2⟩:=B4 (p:=fun v=>decide (v.1<id)) L i hi hp (fun B=>decide_eq_false (e2 e B))
   have Z:um L id ps=L.take i++(id,ps)::L.drop i:=by unfold um;rw[w1,w2]
   refine Join.plain ?_;refine⟨_,rfl,D,c0,by rw[h2.len,E];omega,?_⟩
   have k1:=Upd.hnew No y [] 31;refine⟨k1.cell0 c0,_,(hs.upd k1 fun _ h=>h.elim).srow,?_⟩
   refine AppP.own (f:=u32) (M:=fun b=>y.size≤b) (xs:= []) (ys:=ps) ⟨rfl,yq,ai _,.inl rfl⟩ hs.len rfl (Cn ps) rfl (by omega) (by simpa using hn) (by rw[eI];omega) fun n q o18 k2=>?_
   have J:Upd No y q:=k1.trans k2 fun b j=>.inr j
   have c19:=J.cell0 c0;refine⟨c19,?_⟩;have k3:=Upd.hnew No q [.int .u32 id,.slice n.a n.len n.cap] 199;have S:=J.tr k3;have h2a:Sl vf 2 W _ D Ls:=h2.upd S fun _ h=>h.elim
   refine⟨S.cell0 c0,_,(h2a.sub (l:=i) (hi:=D.len) (m:=D.cap) (c:=0) (by rw[h2.len,E];exact hi) (by rw[h2.len];exact ai _) F).srow,?_⟩;have er:(Ls.drop i).take (D.len-i)=Ls.drop i:=by rw[h2.len];exact List.take_of_length_le (by simp)
   rw[er];have hnw:=cO q [.int .u32 id,.slice n.a n.len n.cap] 199;refine AppP.own (f:=vf) (M:=fun b=>q.size≤b) (xs:= [(id,n)]) (ys:=Ls.drop i) ⟨rfl,TI,ai _,.inr ⟨q.size,[],rfl,ai _,hnw,rfl⟩⟩
    (by rw[aW,h2.len];rfl) rfl (sD _) rfl (by omega) (by rw[aW,E];simp only[aI];omega) (by rw[eI];omega) fun s22 o o22 k4=>?_
   have T:Upd (fun b=>q.size≤b) q o:=k3.wide.tr k4
   have u:Upd No y o:=J.trans T fun b j=>.inr (co J.size j)
   refine⟨u.cell0 c0,Join.plain ?_⟩;have k5:=Upd.hnew No o [] 199;refine⟨_,rfl,D,(u.tr k5).cell0 c0,by rw[h2.len,E]at F;omega,?_⟩
   have h2b:Sl vf 2 W _ D Ls:=h2.upd (u.tr k5) fun _ h=>h.elim
   refine⟨_,(h2b.sub (l:=0) (hi:=i) (m:=D.cap) (c:=0) (by omega) (by omega) (by rw[h2.len,E]at F;omega)).srow,?_⟩;rw[dJ,Nat.sub_zero];refine AppP.own (f:=vf) (M:=fun b=>o.size≤b) (xs:= []) (ys:=Ls.take i) ⟨rfl,TI,ai _,.inl rfl⟩ (by rw[aL];simp;omega) rfl (sD _) rfl (by omega)
    (by rw[aL];simp only[aQ];omega) (by rw[eI];omega) fun s31 h32 o31 k6=>?_
   have P:Upd (fun b=>o.size≤b) o h32:=k5.wide.tr k6
   have hr:Sl vf 2 (fun b=>o.size≤b) o s22 ((id,n)::Ls.drop i):=o22.sl fun b _ x=>Nat.not_le.2 x
   refine⟨_,(hr.upd P fun b j=>.inl j).srow,?_⟩
   refine AppP.own (f:=vf) (M:=fun b=>o.size≤b) (xs:=Ls.take i) (ys:=(id,n)::Ls.drop i) o31 hr.len rfl (sD _) rfl (by omega)
    (by rw[aL,av,aW];omega) P.size fun d z V k7=>?_
   have U:Upd (fun b=>o.size≤b) o z:=P.tr k7
   have H:Upd No y z:=u.trans U fun b j=>.inr (co u.size j)
   have O:=H.get0 h1;refine⟨_,rfl,by rw[cM];exact fz O (by simp),?_⟩
   have e0:adr ⟨w,0,none⟩ 0=⟨w,0,none⟩:=rfl;rw[e0];have k8:Upd (· =w) z (hset z ⟨w,0,none⟩ (.slice d.a d.len d.cap)):=Upd.hset _ _ rfl
   have G:(hset z ⟨w,0,none⟩ (.slice d.a d.len d.cap))[w]? =some (.cells #[.slice d.a d.len d.cap,.int .u32 nx] t0 (0,0)):=by
    rw[ju O,dU O];rfl
   have kx:Upd (· =w) y (hset z ⟨w,0,none⟩ (.slice d.a d.len d.cap)):=H.wide.tr k8
   have hWx:∀b,b=w→W b∨y.size≤b:=fun b j=>.inl (j▸g.wp)
   have N:∀{A:ae},Upd (· =w) z A→Sl vf 2 W A d (Ls.take i++(id,n)::Ls.drop i)∧Par W A (Ls.take i++(id,n)::Ls.drop i) (um L id ps):=fun{A} k=>by
    refine⟨?_,?_⟩
    ·refine(V.sl (W:=W) fun b j _ hw=>absurd (x b hw) (eW.2 (co u.size j))).upd k fun b j=>.inl (j▸g.wp)
    ·have kk:Upd (· =w) y A:=H.wide.tr k
     rw[Z];refine Par.app (Par.upd kk hWx (h3.take i)) ⟨rfl,?_,Par.upd kk hWx (h3.drop i)⟩;have Y:Nums (fun b=>W b∨q.size≤b) q n ps:=o18.sl fun b j E hw=>hw.elim (fun hw=>absurd (x b hw) (eW.2 j)) fun hge=>absurd E (eW.2 hge)
     have X:Upd (fun b=>W b∨q.size≤b) q A:=((T.mono fun b j=>.inl (.inr j)).tr (U.mono fun b j=>.inr j)).tr (k.mono fun b j=>.inl (.inl (j▸g.wp)))
     exact(Y.upd X fun b j=>.inl j).less fun b j=>.inl (.inl j)
   have C:=V.cap;refine⟨_,rfl,nx,by rw[cM,bO G];rfl,ak (fun Q=>?_) fun Q=>?_⟩
   ·refine⟨_,rfl,fz G (by simp),?_⟩
    rw[show ac .u32 (id+1)=id+1 from Go.IntWalk.u32_in _ (by omega)]
    rw[if_pos Q]at hk;have k9:Upd (· =w) _ (hset (hset z ⟨w,0,none⟩ (.slice d.a d.len d.cap)) ⟨w,1,none⟩ (.int .u32 (id+1))):=Upd.hset _ _ rfl
    obtain⟨f1,f2⟩:=N (k8.tr k9);refine hk _ (kx.tr k9) ⟨⟨d,t0,_,?_,f1,f2,C⟩,g.wp,fun b j=>aC (x b j) (kx.tr k9).size⟩
    rw[cM,ju G,dU G];rfl
   ·rw[if_neg Q]at hk
    obtain⟨f1,f2⟩:=N k8;exact hk _ kx ⟨⟨d,t0,_,G,f1,f2,C⟩,g.wp,fun b j=>aC (x b j) kx.size⟩
theorem UE{nx id:Int}:(if id+1>nx then id+1 else nx)=if nx≤id then id+1 else nx:=by
 split<;>split<;>omega
theorem Wd{W:Nat→Prop}{h:ae}{z:Nat}{L:dI}{nx:Int}(g:RefAt W h z L nx){id:Int}(T:0≤id)(U:L.length≤100000){s:SliceV}{ps:List Int}(v:Nums W h s ps)(Q:ps.length*4≤140737488355328)
  {K:Int→ae→Prop}(d:∀f,Upd (· =z) h f→RefAt W f z (fV L nx id ps).2.1 (fV L nx id ps).2.2→K (fV L nx id ps).1 f):
  iI 52 [gF z,.int .u32 id,.slice s.a s.len s.cap] K h:=by
 refine eM (KL (some ⟨z,0,none⟩) id s) Tt Tryz.func52 Tryz.call52 ?_;dsimp only[KL,Ru,uk,Fj,Eb,cg,ic,ji];refine We v ?_;refine Join.intro (fun t f=>f=h∧t=decide (sF ps≠0∨id=0∨id≥2147483648)) (fun R D=>?_) ?_
 ·refine CondP.intro (fun c=>?_) fun c=>?_
  ·have c:sF ps≠0:=by simpa using c
   exact D _ _ ⟨rfl,(decide_eq_true (.inl c)).symm⟩
  ·have c:¬sF ps≠0:=by simpa using c
   refine CondP.intro (fun h2=>?_) fun h2=>?_
   ·have h2:id=0:=by simpa using h2
    exact D _ _ ⟨rfl,(decide_eq_true (.inr (.inl h2))).symm⟩
   ·have h2:¬id=0:=by simpa using h2
    refine D _ _ ⟨rfl,?_⟩;rw[Bool.eq_iff_iff,decide_eq_true_iff,decide_eq_true_iff];simp[c,h2]
 ·rintro t f ⟨rfl,rfl⟩
  refine ak (fun c=>?_) fun c=>?_
  ·rw[show fV L nx id ps=_ from if_pos (c.elim .inl fun h=>.inr (h.elim .inl fun h=>.inr (.inl h)))]at d
   exact d f (Upd.refl _ _) g
  ·refine LoopP.ghost (fun(i:Nat) (t:Int) h2=>t=(i:Int)∧h2=f∧i≤ps.length∧∀p∈ps.take i,¬p≥id) (fun i=>ps.length-i) 0 ⟨rfl,rfl,aY _,by simp⟩ ?_
   rintro I i t h2 ⟨rfl,rfl,hi,G⟩ P;refine ak (fun b=>?_) fun C=>?_
   ·rw[v.len]at b
    have b:i<ps.length:=by omega
    obtain⟨a,O,_,hx⟩:=Nums.at v b;refine⟨by rw[v.len];omega,a,O,_,hx,ak (fun B=>?_) fun B=>?_⟩
    ·have y:ps.any (fun p=>decide (p≥id))=true:=dZ.2 ⟨_,bR b,decide_eq_true B⟩
     rw[show fV L nx id ps=_ from if_pos (.inr (.inr (.inr y)))]at d
     exact d _ (Upd.refl _ _) g
    ·rw[cX b (by omega)]
     refine P (i+1) _ _ ⟨rfl,rfl,b,?_⟩ (by omega);rw[bd b];intro p j;rcases be.1 j with m|m
     ·exact G p m
     ·rw[aq.1 m];exact B
   ·rw[v.len]at C
    have:i=ps.length:=by omega
    subst this;rw[List.take_length]at G;have o:¬(sF ps≠0∨id=0∨id≥2147483648∨ps.any (fun p=>decide (p≥id))=true):=by
     rintro(h|h|h|h)
     ·exact c (.inl h)
     ·exact c (.inr (.inl h))
     ·exact c (.inr (.inr h))
     ·obtain⟨p,j,N⟩:=dZ.1 h
      exact G p j (of_decide_eq_true N)
    refine BO g (by omega) id fun n B u x=>ak (fun m=>?_) fun m=>?_
    ·rw[show fV L nx id ps=_ from(if_neg o).trans (if_pos (x.1 m))]at d
     exact d _ u.wide (g.upd0 u)
    ·have A:¬id∈ids L:=fun h=>m (x.2 h)
     have H:=g.upd0 u;have w:=v.upd u fun _ h=>h.elim
     refine Rp H (by omega) w (by omega) fun N e=>?_
     have J:=H.upd0 e;have E:=w.upd e fun _ h=>h.elim
     refine CondP.intro (fun q=>?_) fun q=>?_
     ·have q:oO L ps≠0:=by simpa using q
      rw[show fV L nx id ps=_ from(if_neg o).trans ((if_neg A).trans (if_pos q))]at d
      exact d _ (u.wide.tr e.wide) J
     ·have q:¬oO L ps≠0:=by simpa using q
      refine OA J U (by omega) E Q fun V F S=>?_
      rw[show fV L nx id ps=_ from(if_neg o).trans ((if_neg A).trans (if_neg q)),UE]at d
      exact d _ ((u.wide.tr e.wide).tr F) S
end Go.Proofs
namespace Go.Proofs
open Go Go.Lift
theorem GZ{W W':Nat→Prop}{h b:ae}{kind:Int}{x:Hs}{r q:Rt}{l d:List Pr}(j:RefIs W h kind x r l)(c:RefIs W' b kind x q d):Nw r q=true:=by
 obtain⟨s,rfl,_⟩:=j;obtain⟨s',rfl,_⟩:=c;simp[Nw]
end Go.Proofs
namespace Go.Proofs
open Go Go.Lift
theorem Cf{L:dI}{nx id:Int}{ps:List Int}(h:(fV L nx id ps).1≠0):(fV L nx id ps).2=(L,nx):=by
 unfold fV at h⊢;split
 ·rfl
 ·split
  ·rfl
  ·split
   ·rfl
   ·rename_i h1 h2 h3
    rw[if_neg h1,if_neg h2,if_neg h3]at h;exact absurd rfl h
theorem qe{L:dI}{nx id:Int}{ps:List Int}(h:(fV L nx id ps).1=0):fV L nx id ps=(0,um L id ps,if id+1>nx then id+1 else nx)∧id∉ids L:=by
 unfold fV at h⊢;split at h
 ·exact absurd (show(1:Int)=0 from h) (by decide)
 ·split at h
  ·exact absurd (show(7:Int)=0 from h) (by decide)
  ·split at h
   ·rename_i h1;exact absurd h h1
   ·rename_i h1 h2 h3;rw[if_neg h1,if_neg h2,if_neg h3];exact⟨rfl,h2⟩
def IA(s:VS)(id:Int)(d:TD)(ps:List Int):VS:=if(fV s.L s.nx id ps).1=0 then{s with L:=(fV s.L s.nx id ps).2.1,nx:=(fV s.L s.nx id ps).2.2,D:=oE s.D id d}else s
theorem Wp{W:Nat→Prop}{h:ae}{vp:Nat}{s:VS}(v:VaultAt W h vp s){id:Int}(E:0≤id){d:TD}(i:TreeIs W h s.kind s.x d.1 d.2)(hr:fE d.2)(hf:Fit d.2){sl:SliceV}{ps:List Int}(hs:Nums W h sl ps)(hn:ps.length*4≤140737488355328)
  {K:Int→ae→Prop}(B:∀h',Upd s.M h h'→VaultAt W h' vp (IA s id d ps)→K (fV s.L s.nx id ps).1 h'):
  iI 87 [pV vp,.int .u32 id,RI d.1,.slice sl.a sl.len sl.cap] K h:=by
 refine eM (uV (some ⟨vp,0,none⟩) id d.1 sl) .nil Tryz.func87 Tryz.call87 ?_;dsimp only[uV,cg,ce,Ru,yj,jP,uN,aR,au,aG,dq,Bu,MB,dg,db];refine bj fun Y b1 k1=>ay.2 ⟨_,vc b1 0,_,vc b1 1,_,vc b1 2,_,vc b1 3,_,vc b1 4,_,vc b1 5,_,rfl,?_⟩
 have c1:=k1.get0 v.blk;refine⟨_,lA c1 0 0,_,lA c1 0 1,_,lA c1 0 2,_,lA c1 0 3,_,lA c1 0 4,_,lA c1 0 5,?_⟩;refine MN (t:=d.1) (u:=s.e) fun X U=>?_
 rw[Kb i v.em];have A:=k1.tr U;have q:=v.upd0 A;refine ay.2 ⟨_,rfl,_,vc q.blk 6,Xg q.g E (hs.upd A fun _ h=>h.elim) hn fun G n F=>?_⟩
 have I:∀y,yV s.gp s.gm y→W y∨X.size≤y:=fun y c=>.inl (v.w y (VS.mG c))
 obtain⟨n1,Z,n3,n4,T,n6,n7,n8,n9,n10⟩:=VS.neB v.ne;have w:∀y,y≠s.gp→y≠s.gm→¬yV s.gp s.gm y:=fun y Y h2 h=>h.elim Y h2
 have J:=q.t.upd n (w _ Z.symm T.symm);have V:=q.b.upd n (w _ n3.symm n6.symm);have C:=q.n.upd n (w _ n4.symm n7.symm);refine CondP.intro (fun e=>?_) fun e=>?_
 ·have e:(fV s.L s.nx id ps).1=0:=by simpa using e
  obtain⟨P,e3⟩:=qe e;have o:=v.inv.put E ps;have hv:IA s id d ps={s with L:=(fV s.L s.nx id ps).2.1,nx:=(fV s.L s.nx id ps).2.2,D:=oE s.D id d}:=by unfold IA;rw[if_pos e]
  rw[hv]at B;rw[P]at F B o⊢;have O:∀y,s.M y→vp≠y:=fun y c e=>v.wv (e▸v.w y c)
  have c7:=n.get q.blk fun hm=>O _ (VS.mG hm) rfl
  have x:=n.get (U.get0 b1) fun hm=>by have:=v.size (VS.mG hm);omega
  refine⟨_,rfl,_,vc c7 7,_,vc x 0,_,vc x 1,_,vc x 2,_,vc x 3,_,vc x 4,_,vc x 5,_,rfl,J.isMap,L0 fun f g=>?_⟩
  have g:f=qM G s.tm (KE.enc id) (aao d):=g;have m:Upd (· =s.tm) G f:=by rw[g];exact BU G _ _ rfl
  have R:MapAt KE aao f s.tm (oE s.D id d):=by rw[g];exact J.put id d
  have Q:=V.upd m (fun e=>n8 e.symm)
  have z:=C.upd m (fun e=>n9 e.symm)
  have N:=F.upd m fun b S=>.inl ⟨v.w b (.inr (.inr (.inl S))),fun e=>Z (e.symm.trans S),fun e=>T (e.symm.trans S)⟩
  have H:Upd s.M X f:=(n.mono fun y c=>.inl (VS.mG c)).tr (m.mono fun y c=>.inl (.inr (.inr (.inl c))))
  refine B f (A.wide.tr H) (q.turn H (fun y c=>.inl (v.w y c)) N R Q z (fun p hp=>(HG hp).elim (fun e=>.inr ?_) .inl) (fun j=>?_) o)
  ·subst e
   have ku:Upd s.M h f:=A.wide.tr H;exact⟨i.updM ku fun y c=>.inl (v.w y c),hr,hf⟩
  ·rw[Kz,insV_ids.mem_iff,ar,←v.sub j]
   split
   ·rename_i hm
    exact⟨.inr,fun h=>h.elim (fun e=>e▸hm) fun h=>h⟩
   ·rw[be,aq,Or.comm]
 ·have e:(fV s.L s.nx id ps).1≠0:=by simpa using e
  have P:=Cf e;have hv:IA s id d ps=s:=by unfold IA;rw[if_neg e]
  rw[hv]at B;rw[P]at F;exact B G (A.wide.tr (n.mono fun y c=>.inl (VS.mG c))) (q.turn n I F J V C (fun d hd=>.inl hd) v.sub v.inv)
theorem ML{W:Nat→Prop}{h:ae}{vp:Nat}{s:VS}(v:VaultAt W h vp s)(n:Int){K:Bool→ae→Prop}(b:∀h',Upd (yV s.gp s.gm) h h'→GraphAt W h' s.gp s.gm s.L (if n<s.nx∨n>2147483648 then s.nx else n)→K (!decide (n<s.nx∨n>2147483648)) h'):
  f5 88 [pV vp,.int .u32 n] K h:=by
 refine eM (pY (some ⟨vp,0,none⟩) n) .nil Tryz.func88 Tryz.call88 ?_;dsimp only[pY,ce,uk,dq];exact aV.2 ⟨_,rfl,_,vc v.blk 6,NS v.g n b⟩
abbrev RU(d:Int×Rt):List Value:= [.int .u32 d.1,.int .i64 d.2.1,.int .u64 d.2.2.1,.int .u64 d.2.2.2.1,.int .u64 d.2.2.2.2.1,.slice d.2.2.2.2.2.a d.2.2.2.2.2.len d.2.2.2.2.2.cap]
theorem QF(d:Int×Rt):(RU d).length=6∧0<6:=⟨rfl,by omega⟩
structure Rf(W:Nat→Prop)(h:ae)(xp xg:Nat)(kind:Int)(x:Hs)(L:dI)(nx:Int)(D:List (Int×TD))(re:Rt)(ts:SliceV)(Ds:List (Int×Rt)):Prop where
 r:RefAt W h xg L nx
 wx:W xp
 gx:xg≠xp
 blk:h[xp]? =some (.cells (Ox re++ [Value.pointer (some ⟨xg,0,none⟩),.slice ts.a ts.len ts.cap,.slice none 0 0,.slice none 0 0]).toArray 87 (0,0))
 e:RefIs W h kind x re []
 ts:Sl RU 6 W h ts Ds
 n:Ds.length=D.length
 par:∀i (h1:i<Ds.length) (h2:i<D.length),Ds[i].1=D[i].1∧RefIs W h kind x Ds[i].2 D[i].2.2
section
variable {W:Nat→Prop} {h h':ae} {vp xp xg:Nat} {kind:Int} {x:Hs} {L:dI} {nx:Int} {D:List (Int×TD)} {re:Rt} {ts:SliceV} {Ds:List (Int×Rt)} {s:VS}
theorem Rf.upd(g:Rf W h xp xg kind x L nx D re ts Ds){M:Nat→Prop}(k:Upd M h h')(hm:∀b,M b→(W b∧b≠xg∧b≠xp)∨h.size≤b):Rf W h' xp xg kind x L nx D re ts Ds:=by
 have d:∀b,M b→W b∨h.size≤b:=fun b c=>(hm b c).imp (·.1) id
 exact⟨g.r.upd k fun b c=>(hm b c).imp (fun e=>⟨e.1,e.2.1⟩) id,g.wx,g.gx,k.get g.blk fun c=>(hm _ c).elim (fun e=>e.2.2 rfl) fun e=>absurd (bc g.blk) (by omega),g.e.updM k d,g.ts.upd k d,g.n,fun i f h2=>⟨(g.par i f h2).1,(g.par i f h2).2.updM k d⟩⟩
theorem Rf.upd0(g:Rf W h xp xg kind x L nx D re ts Ds)(k:Upd No h h'):Rf W h' xp xg kind x L nx D re ts Ds:=g.upd k fun _ h=>h.elim
end
end Go.Proofs
namespace Go.Proofs
open Go Go.Lift
def qS{α:Type}(r:α→α→Bool):List α→Bool
 |a::b::l=>r a b&&qS r (b::l)
 |_=>true
theorem CR{α:Type}{r:α→α→Bool}:∀{l:List α},qS r l=true↔∀i (h:i+1<l.length),r l[i] l[i+1]=true
 | []=>⟨fun _ i h=>absurd h (by simp),fun _=>rfl⟩
 | [a]=>⟨fun _ i h=>absurd h (by simp),fun _=>rfl⟩
 |a::b::l=>by
  rw[qS,aO,CR (l:=b::l)];constructor
  ·rintro⟨c,h2⟩ i hi
   cases i with
   |zero=>exact c
   |succ i=>exact h2 i (by simpa using hi)
  ·intro h
   exact⟨h 0 (by simp),fun i hi=>h (i+1) (by simpa using hi)⟩
theorem xu{α:Type}{r:α→α→Bool}(tr:∀a b c,r a b=true→r b c=true→r a c=true):∀{l:List α},qS r l=true→l.Pairwise fun a b=>r a b=true
 | [],_=>dh
 | [a],_=>List.pairwise_singleton ..
 |a::b::l,h=>by
  rw[qS,aO]at h;have i:=xu tr h.2;refine bF.2 ⟨fun c hc=>?_,i⟩
  rcases ar.1 hc with rfl|hc
  ·exact h.1
  ·exact tr _ _ _ h.1 ((bF.1 i).1 c hc)
def GX(a b:Int):Bool:=decide (a<b)
def Tw(a b:ByteArray):Bool:=bH a.toList b.toList
def nA:List tL→dI×Int→Option (dI×Int)
 | [],L=>some L
 |v::vs,L=>if(fV L.1 L.2 v.1 v.2.1).1=0 then nA vs (fV L.1 L.2 v.1 v.2.1).2 else none
theorem wh{b:List tL}:∀{a:List tL} {L:dI×Int},nA (a++b) L=(nA a L).bind (nA b)
 | [],L=>rfl
 |w::a,L=>by
  rw[dF,nA,nA];split
  ·exact wh
  ·rfl
def iU(L:dI)(b:Bool)(B:List (ByteArray×Int)):Bool:=
 decide (B.length≤256)&&qS Tw (B.map (·.1))&&B.all fun n=>jY n.1&&decide (n.2=0∨n.2∈ids L)&& !(b&&decide (n.2=0))
def tf(last:Int)(S:List (Int×Bool×List Pr)):Bool:=
 decide (S.length≤16)&&qS GX (S.map (·.1))&&S.all fun s=>decide (1≤s.1∧s.1≤last)
def nz(p:RParts):Option dI:=
 if qS GX (p.vs.map (·.1))=true then(nA p.vs ([],1)).bind fun q=>if q.2≤p.next∧p.next≤2147483648 then some q.1 else none else none
def kX(p:RParts):Bool:=match nz p with
 |some L=>iU L false p.bs&&iU L true p.ts&&tf p.last p.ss
 |none=>false
theorem NK{id:Int}{ps:List Int}:∀{L:dI},(∀w∈L,w.1<id)→um L id ps=L++ [(id,ps)]
 | [],_=>rfl
 |w::L,h=>by
  have i:=NK (id:=id) (ps:=ps) fun q c=>h q (aA _ c)
  have b:=h w List.mem_cons_self;unfold um at i⊢;rw[List.takeWhile_cons,if_pos (decide_eq_true b),List.dropWhile_cons,if_pos (decide_eq_true b),dF,i];rfl
theorem JT:∀{vs:List tL} {L q:dI×Int},nA vs L=some q→(L.1.map (·.1)++vs.map (·.1)).Pairwise (· < ·)→q.1=L.1++vs.map fun v=>(v.1,v.2.1)
 | [],L,q,h,_=>by cases h;simp
 |v::vs,L,q,h,hp=>by
  rw[nA]at h;split at h
  ·rename_i e
   obtain⟨c,_⟩:=qe e;rw[c]at h;have b:∀w∈L.1,w.1<v.1:=fun w f=>(List.pairwise_append.1 hp).2.2 w.1 (bI.2 ⟨w,f,rfl⟩) v.1 (by simp)
   have d:um L.1 v.1 v.2.1=L.1++ [(v.1,v.2.1)]:=NK b;rw[d]at h;have:=JT h (by simpa using hp);rw[this];simp
  ·cases h
theorem KB{B:List (ByteArray×Int)}(f:qS Tw (B.map (·.1))=true){i:Nat}(hi:i<B.length):dT (B.take i) B[i].1=none:=by
 have m:(B.map (·.1)).Pairwise fun a b=>Tw a b=true:=xu (fun a b c h k=>ii (a:=a) (b:=b) (c:=c) h k) f
 refine mF.2 fun hm=>?_
 obtain⟨n,g,e⟩:=bI.1 hm;obtain⟨j,d,rfl⟩:=dP.1 g;rw[aL]at d;rw[mq]at e;have:=List.pairwise_iff_getElem.1 m j i (by rw[aX];omega) (by rw[aX];omega) (by omega);rw[cH,cH,e]at this;exact dS _ this
theorem Ob{L:dI}{B:List (ByteArray×Int)}{b:Bool}(d:qS Tw (B.map (·.1))=true){i:Nat}(hi:i<B.length):
  (Ah (B.take i) L B[i].1 B[i].2 (b&&decide (B[i].2=0))=0)↔(i<256∧(jY B[i].1&&decide (B[i].2=0∨B[i].2∈ids L)&& !(b&&decide (B[i].2=0)))=true):=by
 unfold Ah;rw[KB d hi,aL,Nat.min_eq_left (by omega)];generalize (b&&decide (B[i].2=0))=tg;generalize decide (B[i].2=0∨B[i].2∈ids L)=q;by_cases h2:256≤i
 ·have c:¬i<256:=by omega
  cases jY B[i].1<;>cases tg<;>cases q<;>simp[h2,c]
 ·have c:i<256:=by omega
  cases jY B[i].1<;>cases tg<;>cases q<;>simp[h2,c]
end Go.Proofs
namespace Go.Proofs
open Go Go.Lift
theorem F6{α β:Type}{r:β→β→Bool}{f:α→β}{l:List α}:qS r (l.map f)=true↔∀j (b:j<l.length),0<j→r (f (l[j-1]'(by omega))) (f l[j])=true:=by
 rw[CR];constructor
 ·intro h j b c
  have:=h (j-1) (by rw[aX];omega);have e:j-1+1=j:=by omega
  simp only[cH,e]at this;exact this
 ·intro h i hi
  rw[aX]at hi;rw[cH,cH];exact h (i+1) hi (by omega)
theorem Uj(L:dI)(nx id:Int)(ps:List Int):(fV L nx id ps).2.1.length≤L.length+1:=by
 by_cases e:(fV L nx id ps).1=0
 ·rw[(qe e).1]
  show(um L id ps).length≤_
  rw[(ws L id ps).length_eq];exact ai _
 ·rw[Cf e];exact Nat.le_succ _
theorem Na{L:dI}{nx id:Int}{ps:List Int}:∀i∈ids L,i∈ids (fV L nx id ps).2.1:=fun i hi=>by
 by_cases e:(fV L nx id ps).1=0
 ·rw[(qe e).1]
  exact insV_ids.mem_iff.2 (aA _ hi)
 ·rw[Cf e];exact hi
section
variable {p:RParts} {L:dI} {nx:Int} {i:Nat}
theorem MK(hi:i<p.vs.length)(b:0<i)(h:¬(p.vs[i-1]'(by omega)).1<p.vs[i].1):nz p=none:=by
 unfold nz;cases e:qS GX (p.vs.map (·.1))with
 |false=>rfl
 |true=>
  have:=F6.1 e i hi b;unfold GX at this;exact absurd (of_decide_eq_true this) h
theorem M9(hi:i<p.vs.length)(b:nA (p.vs.take i) ([],1)=some (L,nx)):nA (p.vs.take (i+1)) ([],1)=if(fV L nx p.vs[i].1 p.vs[i].2.1).1=0 then some (fV L nx p.vs[i].1 p.vs[i].2.1).2 else none:=by
 rw[bd hi,wh,b];show nA [p.vs[i]] (L,nx)=_
 rw[nA];rfl
theorem Rv(hi:i<p.vs.length)(c:nA (p.vs.take i) ([],1)=some (L,nx))(h:(fV L nx p.vs[i].1 p.vs[i].2.1).1≠0):nz p=none:=by
 have b:=M9 hi c;rw[if_neg h]at b;unfold nz;split
 ·rw[←List.take_append_drop (i+1) p.vs,wh,b];rfl
 ·rfl
theorem Rw(d:∀j (b:j<p.vs.length),0<j→(p.vs[j-1]'(by omega)).1<p.vs[j].1) (e:nA p.vs ([],1)=some (L,nx)):nz p=if nx≤p.next∧p.next≤2147483648 then some L else none:=by
 unfold nz;rw[if_pos (F6.2 fun j b c=>decide_eq_true (d j b c)),e]
 rfl
end
theorem GS{L:dI}{d:Bool}{B:List (ByteArray×Int)}:iU L d B=true↔B.length≤256∧∀j (f:j<B.length),(0<j→kl (B[j-1]'(by omega)).1 B[j].1)∧jY B[j].1=true∧(B[j].2=0∨B[j].2∈ids L)∧¬(d=true∧B[j].2=0):=by
 unfold iU;rw[aO,aO,decide_eq_true_iff,F6,gU];constructor
 ·rintro⟨⟨g,h2⟩,m⟩
  refine⟨g,fun j f=>⟨fun i=>h2 j f i,?_⟩⟩
  have:=m _ (bR f);simp only[aO,decide_eq_true_iff,iG,p9,decide_eq_false_iff_not]at this;refine⟨this.1.1,this.1.2,fun h=>?_⟩
  rcases this.2 with e|e
  ·rw[h.1]at e;cases e
  ·exact e h.2
 ·rintro⟨g,h2⟩
  refine⟨⟨g,fun j f i=>(h2 j f).1 i⟩,fun n p=>?_⟩
  obtain⟨j,f,rfl⟩:=dP.1 p;obtain⟨_,a,b,c⟩:=h2 j f;simp only[aO,decide_eq_true_iff,iG,p9,decide_eq_false_iff_not];refine⟨⟨a,b⟩,?_⟩;by_cases e:d=true
  ·exact .inr fun o=>c ⟨e,o⟩
  ·exact .inl (by simpa using e)
theorem Gs{last:Int}{S:List (Int×Bool×List Pr)}:tf last S=true↔S.length≤16∧∀j (b:j<S.length),(0<j→(S[j-1]'(by omega)).1<S[j].1)∧1≤S[j].1∧S[j].1≤last:=by
 unfold tf;rw[aO,aO,decide_eq_true_iff,F6,gU];constructor
 ·rintro⟨⟨c,h2⟩,e⟩
  exact⟨c,fun j b=>⟨fun d=>of_decide_eq_true (h2 j b d),of_decide_eq_true (e _ (bR b))⟩⟩
 ·rintro⟨c,h2⟩
  refine⟨⟨c,fun j b d=>decide_eq_true ((h2 j b).1 d)⟩,fun n f=>?_⟩
  obtain⟨j,b,rfl⟩:=dP.1 f;exact decide_eq_true (h2 j b).2
theorem A7{p:RParts}(h:nz p=none):kX p=false:=by unfold kX;rw[h]
theorem GA{p:RParts}{L:dI}(h:nz p=some L):kX p=(iU L false p.bs&&iU L true p.ts&&tf p.last p.ss):=by unfold kX;rw[h]
theorem GB{p:RParts}{L:dI}(h:nz p=some L)(n:¬(iU L false p.bs=true∧iU L true p.ts=true∧tf p.last p.ss=true)):kX p=false:=by
 rw[GA h];cases a:iU L false p.bs<;>cases b:iU L true p.ts<;>cases c:tf p.last p.ss<;>first|rfl|exact absurd ⟨a,b,c⟩ n
end Go.Proofs
namespace Go.Proofs
open Go Go.Lift
theorem Nz:∀(p:List UInt8) (j:Nat) (hj:j<p.length),j≤oC p→(127<p[j].toNat↔j<oC p)
 | [],j,hj,_=>absurd hj (Nat.not_lt_zero _)
 |b::p,0,_,_=>by
  show 127<b.toNat↔0<oC (b::p)
  unfold oC;split
  ·exact⟨fun _=>nt _,fun _=>by assumption⟩
  ·exact⟨fun h=>absurd h (by assumption),fun h=>absurd h (Nat.lt_irrefl _)⟩
 |b::p,j+1,hj,hl=>by
  unfold oC at hl⊢;split at hl
  ·rename_i c
   rw[if_pos c];have:=Nz p j (by simpa using hj) (by omega);rw[List.getElem_cons_succ,this];omega
  ·omega
theorem QA:∀(l:List UInt8) (i:Nat),BT (l.drop i)≤BT l
 | [],i=>by rw[List.drop_nil];exact ai _
 |b::l,0=>ai _
 |b::l,i+1=>by
  rw[List.drop_succ_cons];have:=QA l i;have e:BT (b::l)=b.toNat%128+128*BT l:=rfl;omega
theorem EE{W:Nat→Prop}{h:ae}{sp:SliceV}{p:List UInt8}(B:Sl tK 1 W h sp p)(X:p.length≤1000000000)(a:Nat)(T:a≤p.length){K:Int×Int→ae→Prop}
  (A:K (match sE 0 0 (p.drop a)with|some (n,k)=>((n:Int),(k:Int))|none=>(0,0)) h):YL 48 [.slice sp.a sp.len sp.cap,.int .i64 (a:Int)] K h:=by
 have G:=B.len;have key:=W1 (p.drop a) 0 0 (by omega);have O:=Xb (p.drop a);have hd:(p.drop a).length=p.length-a:=aW ..;have s:∀j (J:a+j<p.length),(p.drop a)[j]'(by omega)=p[a+j]:=fun j J=>by rw[List.getElem_drop]
 refine eM (C8 sp (a:Int)) Mq Tryz.func48 Tryz.call48 ?_;dsimp only[C8,vI,cg,ic,ji];have u:ac .i64 ((a:Int)+9)=((a+9:Nat):Int):=by rw[Go.IntWalk.i64_in _ (by omega)];omega
 refine LoopP.ghost (fun(j:Nat) t m=>m=h∧t=((a+j:Nat):Int)∧j≤min (oC (p.drop a)) 9) (fun j=>9-j) 0 ⟨rfl,rfl,aY _⟩ ?_
 rintro I j t m ⟨rfl,rfl,J⟩ E;refine Join.intro (fun(t:Bool) h2=>h2=m∧(t=true↔j<min (oC (p.drop a)) 9)) (fun R i=>?_) ?_
 ·refine ak (fun c1=>?_) fun c1=>i _ _ ⟨rfl,?_⟩
  ·rw[u]
   refine ak (fun b=>?_) fun b=>i _ _ ⟨rfl,?_⟩
   ·have d:a+j<p.length:=by omega
    obtain⟨q,f,_,hc⟩:=B.at0 (ag d);have z:=Nz (p.drop a) j (by omega) (by omega);rw[s j d]at z;refine⟨⟨by omega,by omega⟩,q,f,_,hc,i _ _ ⟨rfl,?_⟩⟩
    rw[decide_eq_true_iff];constructor
    ·intro h;have:=z.1 (by omega);omega
    ·intro h;have:=z.2 (by omega);omega
   ·simp only[bS,false_iff];omega
  ·simp only[bS,false_iff];omega
 rintro t h2 ⟨rfl,F⟩;refine CondP.intro (fun c=>E (j+1) _ _ ⟨rfl,?_,by have:=F.1 c;omega⟩ (by have:=F.1 c;omega)) fun c=>?_
 ·rw[Go.IntWalk.i64_in _ (by omega)];omega
 have c:¬j<min (oC (p.drop a)) 9:=fun e=>by rw[F.2 e]at c;cases c
 have S:min (oC (p.drop a)) (9-0)=j:=by omega
 rw[S,Nat.pow_zero,Nat.one_mul,bK,bK]at key;refine Join.intro (fun(t:Bool) m=>m=h2∧(t=true↔(p.drop a).length≤j∨(j=9∧1<((p.drop a).getD j 0).toNat)∨(0<j∧((p.drop a).getD j 0).toNat=0))) (fun R i=>?_) ?_
 ·refine ak (fun c1=>i _ _ ⟨rfl,by simp only[true_iff];left;omega⟩) fun c1=>?_
  have d:a+j<p.length:=by omega
  obtain⟨q,f,_,hc⟩:=B.at0 (ag d);have v:(p.drop a).getD j 0=p[a+j]:=by rw[mQ,oL,ag d];rfl
  rw[u];refine CondP.intro (fun b=>⟨⟨by omega,by omega⟩,q,f,_,hc,ak (fun x=>i _ _ ⟨rfl,?_⟩) fun x=>ak (fun D=>⟨⟨by omega,by omega⟩,q,f,_,hc,i _ _ ⟨rfl,?_⟩⟩) fun D=>i _ _ ⟨rfl,?_⟩⟩) fun b=>ak (fun D=>⟨⟨by omega,by omega⟩,q,f,_,hc,i _ _ ⟨rfl,?_⟩⟩) fun D=>i _ _ ⟨rfl,?_⟩
  ·have b:((a+j:Nat):Int)=((a+9:Nat):Int):=by simpa using b
   rw[v];simp only[true_iff];omega
  ·have b:((a+j:Nat):Int)=((a+9:Nat):Int):=by simpa using b
   rw[v,beq_iff_eq];omega
  ·rw[v];simp only[bS,false_iff];omega
  ·have b:((a+j:Nat):Int)≠((a+9:Nat):Int):=by simpa using b
   rw[v,beq_iff_eq];omega
  ·have b:((a+j:Nat):Int)≠((a+9:Nat):Int):=by simpa using b
   rw[v];simp only[bS,false_iff];omega
 rintro t m ⟨rfl,y⟩;refine CondP.intro (fun b=>?_) fun b=>?_
 ·rw[if_pos (y.1 b)]at key
  rw[key]at A;exact A
 have b:¬((p.drop a).length≤j∨(j=9∧1<((p.drop a).getD j 0).toNat)∨(0<j∧((p.drop a).getD j 0).toNat=0)):=fun e=>by rw[y.2 e]at b;cases b
 rw[if_neg b]at key;have hv:=(xk _ 0 0 (by omega) (by simp) key).2.2;rw[key]at A;have Q:a+j<p.length:=by omega
 have P:((p.drop a).take (j+1)).length=j+1:=by rw[aL];omega
 refine LoopP.ghost (fun(g:Nat) (t:Int×Int) w=>w=m∧g≤j+1∧t.1=((BT (((p.drop a).take (j+1)).drop g):Nat):Int)∧t.2=((a+g:Nat):Int)-1) (fun g=>g) (j+1) ⟨rfl,ai _,?_,by(try simp only);omega⟩ ?_
 ·rw[fC (by omega)];rfl
 rintro I g ⟨V,U⟩ w ⟨rfl,z,H,L⟩ E;(try simp only at H L)
 subst H L;refine ak (fun x=>?_) fun x=>?_
 ·obtain⟨g,rfl⟩:∃g',g=g'+1:=⟨g-1,by(try simp only at x);omega⟩
  have d:a+g<p.length:=by omega
  obtain⟨q,f,_,hc⟩:=B.at0 (ag d);have N:((a+(g+1):Nat):Int)-1=((a+g:Nat):Int):=by omega
  rw[N];refine⟨⟨by omega,by omega⟩,q,f,_,hc,by decide,?_⟩
  have Y:=p[a+g].toNat_lt;have ed:((p.drop a).take (j+1)).drop g=p[a+g]::((p.drop a).take (j+1)).drop (g+1):=by
   rw[cn (by omega),mq,List.getElem_drop]
  have o:=QA ((p.drop a).take (j+1)) g;rw[ed]at o;have o:p[a+g].toNat%128+128*BT (((p.drop a).take (j+1)).drop (g+1))≤_:=o;refine Ky (E g _ _ ⟨rfl,by omega,?_,?_⟩ (by omega))
  ·show ac .u64 (ac .u64 (128*_)+ac .u64 (Int.tmod (p[a+g].toNat:Int) 128))=_
   rw[ed];have em:Int.tmod (p[a+g].toNat:Int) 128=((p[a+g].toNat%128:Nat):Int):=by rw[Int.tmod_eq_emod_of_nonneg (by omega)];omega
   rw[em,Go.IntWalk.u64_in (128*_) (by omega),Go.IntWalk.u64_in ((p[a+g].toNat%128:Nat):Int) (by omega),Go.IntWalk.u64_in _ (by omega)];have e:BT (p[a+g]::((p.drop a).take (j+1)).drop (g+1))=p[a+g].toNat%128+128*BT (((p.drop a).take (j+1)).drop (g+1)):=rfl;omega
  ·show ac .i64 (_-1)=_
   rw[Go.IntWalk.i64_in _ (by omega)]
 ·have C:g=0:=by(try simp only at x);omega
  subst C;rw[dJ];have ek:ac .i64 (ac .i64 (((a+j:Nat):Int)-(a:Int))+1)=((j+1:Nat):Int):=by
   rw[Go.IntWalk.i64_in (((a+j:Nat):Int)-(a:Int)) (by omega),Go.IntWalk.i64_in _ (by omega)];omega
  show K (_,ac .i64 (ac .i64 (((a+j:Nat):Int)-(a:Int))+1)) _
  rw[ek];exact A
structure RnAt(W:Nat→Prop)(h:ae)(b:Nat)(p:List UInt8)(s:dV):Prop where
 ex:∃(sp:SliceV) (a:Nat),h[b]? =some (.cells #[.slice sp.a sp.len sp.cap,.int .i64 (a:Int),.int .i64 s.2] 60 (0,0))∧Sl tK 1 W h sp p∧sp.len≤sp.cap∧a≤p.length∧s.1=p.drop a
 w:W b
 n:p.length≤1000000000
section
variable {W M:Nat→Prop} {h h':ae} {b:Nat} {p:List UInt8} {s:dV}
theorem RnAt.upd(i:RnAt W h b p s)(k:Upd M h h')(d:¬M b)(hm:∀y,M y→W y∨h.size≤y):RnAt W h' b p s:=
 let⟨sp,a,hc,c,g,f,e⟩:=i.ex
 ⟨⟨sp,a,k.get hc d,c.upd k hm,g,f,e⟩,i.w,i.n⟩
theorem RnAt.upd0(i:RnAt W h b p s)(k:Upd No h h'):RnAt W h' b p s:=i.upd k id fun _ h=>h.elim
theorem RnAt.lt(i:RnAt W h b p s):b<h.size:=let⟨_,_,hc,_⟩:=i.ex;bc hc
theorem RnAt.err(i:RnAt W h b p s):bh h (adr ⟨b,0,none⟩ 2)=some (.int .i64 s.2):=by
 obtain⟨sp,a,c,_⟩:=i.ex;rw[vc c 2];rfl
theorem RnAt.setErr(i:RnAt W h b p s){e:Int}{f:ae→Prop}(j:∀h',RnAt W h' b p (s.1,e)→Upd (· =b) h h'→f h'):Wr h (adr ⟨b,0,none⟩ 2)∧At (hset h (adr ⟨b,0,none⟩ 2) (.int .i64 e)) f:=by
 obtain⟨sp,a,m,n,q,o,g⟩:=i.ex;exact nJ m (by simp) rfl fun h' c u=>j h' ⟨⟨sp,a,c,n.upd u fun y d=>.inl (by have d:y=b:=d;subst d;exact i.w),q,o,g⟩,i.w,i.n⟩ u
theorem sX(i:RnAt W h b p s){e:Int}{K:Unit→ae→Prop}(d:∀h',RnAt W h' b p (cS e s)→Upd (· =b) h h'→K () h'):eJ 15 [gF b,.int .i64 e] K h:=by
 refine Qh _ e ?_;dsimp only[H6,dy,dq,yn,dg];refine⟨_,rfl,_,i.err,CondP.intro (fun c=>⟨_,rfl,i.setErr fun h' f u=>d h' ?_ u⟩) fun c=>d h ?_ (Upd.refl _ _)⟩
 ·have c:s.2=0:=by simpa using c
  rw[cS,if_pos c];exact f
 ·have c:s.2≠0:=by simpa using c
  rw[cS,if_neg c];exact i
theorem T8(i:RnAt W h b p s){K:Int→ae→Prop}(j:∀h',RnAt W h' b p (xi s)→Upd (· =b) h h'→K (xi s).2 h'):iI 21 [gF b] K h:=by
 obtain⟨sp,a,f,n,v,q,g⟩:=i.ex;have o:=n.len;have m:s.1.length=p.length-a:=by rw[g,aW]
 refine Tn _ ?_;dsimp only[KM,sq,iP,cf,dq,pP,dg,yn];refine Join.intro (fun _ h'=>RnAt W h' b p (xi s)∧Upd (· =b) h h') (fun R e=>⟨_,rfl,_,vc f 1,_,rfl,sp,vc f 0,ak (fun c=>sX i fun h' d u=>e _ _ ⟨?_,u⟩) fun c=>e _ _ ⟨?_,Upd.refl _ _⟩⟩) fun _ h' ⟨d,u⟩=>⟨_,rfl,_,d.err,j h' d u⟩
 ·rw[xi,if_pos (by omega)];exact d
 ·rw[xi,if_neg (by omega)];exact i
theorem DE(i:RnAt W h b p s){K:Int→ae→Prop}(g:∀h',RnAt W h' b p (aP s).2→Upd (· =b) h h'→K ((aP s).1:Int) h'):V9 14 [gF b] K h:=by
 obtain⟨sp,a,m,q,C,E,v⟩:=i.ex;have D:=q.len;have B:=i.n;have z:s.1.length=p.length-a:=by rw[v,aW]
 refine Qi _ ?_;dsimp only[H7,iP,cf,dq,vI,cg,ic,ji,pP,dg,L8,dy,yn,FA];refine⟨_,rfl,_,vc m 2,CondP.intro (fun c=>?_) fun c=>⟨_,rfl,_,vc m 1,_,rfl,sp,vc m 0,ak (fun c1=>⟨_,rfl,i.setErr fun h' A u=>?_⟩) fun c1=>⟨_,rfl,_,vc m 1,_,rfl,nJ m (by simp) rfl fun h' d u=>⟨_,rfl,sp,vc d 0,_,rfl,_,vc d 1,?_⟩⟩⟩⟩
 ·have c:s.2≠0:=by simpa using c
  have e:aP s=(0,s):=by unfold aP fH;rw[if_neg c];rfl
  rw[e]at g;exact g h i (Upd.refl _ _)
 ·have c:s.2=0:=by simpa using c
  have e:aP s=(0,s.1,9):=by unfold aP fH;rw[if_pos c,if_pos (by omega)];rfl
  rw[e]at g;exact g h' A u
 ·have c:s.2=0:=by simpa using c
  have j:a<p.length:=by omega
  have e:aP s=(p[a].toNat,p.drop (a+1),0):=by
   unfold aP fH;rw[if_pos c,if_neg (by omega),v,cW];(try simp only)
   rw[mQ,List.getElem?_take,oL,ag (show a+0<p.length by omega)]
   rfl
  rw[e]at g;obtain⟨x,n,_,hc⟩:=(q.upd u fun y f=>.inl (by have f:y=b:=f;subst f;exact i.w)).at0 (ag j)
  have w:ac .i64 ((a:Int)+1)=((a+1:Nat):Int):=by rw[Go.IntWalk.i64_in _ (by omega)];omega
  have o:ac .i64 (ac .i64 ((a:Int)+1)-1)=(a:Int):=by rw[w,Go.IntWalk.i64_in _ (by omega)];omega
  rw[o];refine⟨⟨by omega,by omega⟩,x,n,_,hc,g h' ⟨⟨sp,a+1,?_,q.upd u fun y f=>.inl (by have f:y=b:=f;subst f;exact i.w),C,j,rfl⟩,i.w,i.n⟩ u⟩
  rw[w,c]at d;exact d
theorem A5(i:RnAt W h b p s){K:Int→ae→Prop}(j:∀h',RnAt W h' b p (f8 s).2→Upd (· =b) h h'→K ((f8 s).1:Int) h'):qu 16 [gF b] K h:=by
 obtain⟨sp,a,d,w,J,U,C⟩:=i.ex;have Y:=w.len;have H:=i.n;have F:s.1.length=p.length-a:=by rw[C,aW]
 have f:ac .i64 ((a:Int)+8)=((a+8:Nat):Int):=by rw[Go.IntWalk.i64_in _ (by omega)];omega
 refine HO _ ?_;dsimp only[zd,iP,cf,dq,vI,cg,ic,ji,pP,dg,L8,dy,yn,FA];refine⟨_,rfl,_,vc d 2,CondP.intro (fun c=>?_) fun c=>⟨_,rfl,_,vc d 1,_,rfl,sp,vc d 0,ak (fun c1=>⟨_,rfl,i.setErr fun h' P u=>?_⟩) fun c1=>?_⟩⟩
 ·have c:s.2≠0:=by simpa using c
  have e:f8 s=(0,s):=by unfold f8 fH;rw[if_neg c];rfl
  rw[e]at j;exact j h i (Upd.refl _ _)
 ·have c:s.2=0:=by simpa using c
  have e:f8 s=(0,s.1,9):=by unfold f8 fH;rw[if_pos c,if_pos (by rw[f]at c1;omega)];rfl
  rw[e]at j;exact j h' P u
 ·have c:s.2=0:=by simpa using c
  rw[f]at c1;have e:f8 s=(sJ ((p.drop a).take 8),p.drop (a+8),0):=by
   unfold f8 fH;rw[if_pos c,if_neg (by omega),C,cW]
  rw[e]at j;have O:((p.drop a).take 8).length=8:=by rw[aL,aW];omega
  refine LoopP.ghost (fun(g:Nat) (t:Int×Int) n=>n=h∧g≤8∧t.1=((sJ (((p.drop a).take 8).drop g):Nat):Int)∧t.2=(g:Int)-1) (fun g=>g) 8 ⟨rfl,ai _,?_,rfl⟩ ?_
  ·rw[fC (by omega)];rfl
  rintro I g ⟨X,V⟩ n ⟨rfl,R,B,D⟩ L;(try simp only at B D)
  subst B D;refine ak (fun x=>?_) fun x=>?_
  ·obtain⟨g,rfl⟩:∃g',g=g'+1:=⟨g-1,by(try simp only at x);omega⟩
   have o:a+g<p.length:=by omega
   obtain⟨N,A,_,hc⟩:=w.at0 (ag o);have G:ac .i64 ((a:Int)+(((g+1:Nat):Int)-1))=((a+g:Nat):Int):=by rw[Go.IntWalk.i64_in _ (by omega)];omega
   refine⟨_,rfl,sp,vc d 0,_,rfl,_,vc d 1,?_⟩;rw[G];refine⟨⟨by omega,by omega⟩,N,A,_,hc,Ky (L g _ _ ⟨rfl,by omega,?_,?_⟩ (by omega))⟩
   ·have ed:((p.drop a).take 8).drop g=p[a+g]::((p.drop a).take 8).drop (g+1):=by
     rw[cn (by omega),mq,List.getElem_drop]
    have T:sJ (p[a+g]::((p.drop a).take 8).drop (g+1))=p[a+g].toNat+256*sJ (((p.drop a).take 8).drop (g+1)):=rfl;have d:=p[a+g].toNat_lt;have E:=CC (p[a+g]::((p.drop a).take 8).drop (g+1));have v:(p[a+g]::((p.drop a).take 8).drop (g+1)).length≤8:=by rw[av,aW];omega
    have Q:256^(p[a+g]::((p.drop a).take 8).drop (g+1)).length≤256^8:=Nat.pow_le_pow_right (by omega) v;have S:(256:Nat)^8=18446744073709551616:=by decide
    rw[ed];show ac .u64 (ac .u64 (256*_)+ac .u64 (p[a+g].toNat:Int))=_
    rw[Go.IntWalk.u64_in (256*_) (by omega),Go.IntWalk.u64_in (p[a+g].toNat:Int) (by omega),Go.IntWalk.u64_in _ (by omega)];omega
   ·show ac .i64 (_-1)=_
    rw[Go.IntWalk.i64_in _ (by omega)];omega
  ·have q:g=0:=by(try simp only at x);omega
   subst q;rw[dJ];refine⟨_,rfl,_,vc d 1,_,rfl,nJ d (by simp) rfl fun h' m u=>j h' ⟨⟨sp,a+8,?_,w.upd u fun y z=>.inl (by have z:y=b:=z;subst z;exact i.w),J,by omega,rfl⟩,i.w,i.n⟩ u⟩
   rw[f,c]at m;exact m
theorem yw(i:RnAt W h b p s){K:Int→ae→Prop}(g:∀h',RnAt W h' b p (dX s).2→Upd (· =b) h h'→K ((dX s).1:Int) h'):qu 18 [gF b] K h:=by
 obtain⟨sp,a,u,C,F,G,B⟩:=i.ex;have N:=C.len;have w:=i.n;have E:s.1.length=p.length-a:=by rw[B,aW]
 refine Mj _ ?_;dsimp only[C9,Dw,iP,cf,dq,pP,dg,L8,dy,yn,FA];refine⟨_,rfl,_,vc u 2,CondP.intro (fun c=>?_) fun c=>⟨_,rfl,sp,vc u 0,_,rfl,_,vc u 1,EE C w a G ?_⟩⟩
 ·have c:s.2≠0:=by simpa using c
  have e:dX s=(0,s):=by rw[dX,if_neg c]
  rw[e]at g;exact g h i (Upd.refl _ _)
 have c:s.2=0:=by simpa using c
 rw[←B];cases e:sE 0 0 s.1 with
 |none=>
  have D:dX s=(0,s.1,9):=by rw[dX,if_pos c,e]
  rw[D]at g;(try simp only)
  refine Join.plain (aV.2 ⟨_,rfl,i.setErr fun O J L=>?_⟩)
  obtain⟨v,H,m,z,A,j,x⟩:=J.ex;refine⟨_,rfl,_,vc m 1,_,rfl,nJ m (by simp) rfl fun h2 d o=>g h2 ⟨⟨v,H,?_,z.upd o fun y f=>.inl (by have f:y=b:=f;subst f;exact i.w),A,j,x⟩,i.w,i.n⟩ (L.tr o)⟩
  rw[Go.IntWalk.i64_in _ (by have:=j;omega),Int.add_zero]at d;exact d
 |some q=>
  obtain⟨n,k⟩:=q;have I:=xk s.1 0 0 (by omega) (by simp) e;have D:dX s=(n,s.1.drop k,0):=by rw[dX,if_pos c,e]
  rw[D]at g;(try simp only)
  have ek:((k:Int)==0)=false:=beq_eq_false_iff_ne.2 (by omega);rw[ek];refine Join.plain (ay.2 ⟨_,rfl,_,vc u 1,_,rfl,nJ u (by simp) rfl fun h2 d o=>g h2 ⟨⟨sp,a+k,?_,C.upd o fun y f=>.inl (by have f:y=b:=f;subst f;exact i.w),F,by omega,by rw[B,cW]⟩,i.w,i.n⟩ o⟩)
  rw[Go.IntWalk.i64_in _ (by omega),c]at d;exact d
end
end Go.Proofs
namespace Go.Proofs
open Go Go.Lift
structure Rn(q b:Nat)(bs:List UInt8)(s:dV)(Ss:List Sp)(h:ae):Prop where
 i:RnAt (·≠q) h b bs s
 o:Own Ss h
 nb:¬AL Ss b
 nq:¬AL Ss q
 lq:q<h.size
section
variable {q b:Nat} {bs:List UInt8} {s s':dV} {Ss:List Sp} {h h':ae} {a a':Sp} {M:Nat→Prop} {j p:Nat} {k:Int} {x:Hs} {c:List Value} {t:TypeId}
theorem Rn.lt(r:Rn q b bs s Ss h):b<h.size:=r.i.lt
theorem Rn.rd(r:Rn q b bs s Ss h)(i:RnAt (·≠q) h' b bs s')(u:Upd (· =b) h h'):Rn q b bs s' Ss h':=
 ⟨i,r.o.away u fun y c e=>r.nb (by have e:y=b:=e;subst e;exact c),r.nb,r.nq,aC r.lq u.size⟩
theorem Rn.up0(r:Rn q b bs s Ss h)(u:Upd No h h'):Rn q b bs s Ss h':=
 ⟨r.i.upd0 u,r.o.away u fun _ _ h=>h,r.nb,r.nq,aC r.lq u.size⟩
theorem Rn.cons(r:Rn q b bs s Ss h)(Q:a.Q h)(c:∀y,a.T y→y<h.size∧¬AL Ss y∧y≠b∧y≠q):Rn q b bs s (a::Ss) h:=
 ⟨r.i,r.o.cons Q fun y d=>⟨(c y d).1,(c y d).2.1⟩,fun e=>(qw e).elim (fun e=>(c _ e).2.2.1 rfl) r.nb,fun e=>(qw e).elim (fun e=>(c _ e).2.2.2 rfl) r.nq,r.lq⟩
theorem Rn.new(r:Rn q b bs s Ss h)(u:Upd No h h')(Q:a.Q h')(c:∀y,a.T y→h.size≤y∧y<h'.size):Rn q b bs s (a::Ss) h':=
 (r.up0 u).cons Q fun y d=>⟨(c y d).2,fun e=>by have:=r.o.al e;have:=(c y d).1;omega,fun e=>by have:=r.lt;have:=(c y d).1;omega,fun e=>by have:=r.lq;have:=(c y d).1;omega⟩
theorem Rn.set(r:Rn q b bs s Ss h)(f:Ss[j]? =some a) (u:Upd M h h') (hm:∀y,M y→a.T y∨h.size≤y) (Q:a'.Q h') (g:∀y,a'.T y→(a.T y∨h.size≤y)∧y<h'.size):Rn q b bs s (Ss.set j a') h':=by
 have d:∀{y},a.T y→AL Ss y:=fun c=>⟨a,ao f,c⟩
 have i:=r.lt;have lq:=r.lq;refine⟨r.i.upd u (fun e=>(hm _ e).elim (fun e=>r.nb (d e)) fun e=>by omega) fun y c=>.inl fun e=>?_,r.o.set f u hm Q g,fun e=>?_,fun e=>?_,aC lq u.size⟩
 ·subst e;exact(hm _ c).elim (fun e=>r.nq (d e)) fun e=>by omega
 ·exact(D9 f (fun y c=>(g y c).1) b e).elim r.nb fun e=>by omega
 ·exact(D9 f (fun y c=>(g y c).1) q e).elim r.nq fun e=>by omega
theorem Rn.tail(r:Rn q b bs s (a::Ss) h):Rn q b bs s Ss h:=
 ⟨r.i,r.o.tail,fun⟨z,c,d⟩=>r.nb ⟨z,aA _ c,d⟩,fun⟨z,c,d⟩=>r.nq ⟨z,aA _ c,d⟩,r.lq⟩
theorem Rn.var(r:Rn q b bs s Ss h){f:ae→Prop}(e:∀h',Rn q b bs s (bU h.size c t::Ss) h'→Upd No h h'→h.size<h'.size→f h'):At (hnew h c t) f:=
 bj fun g b1 k1=>e g (r.new k1 b1 fun y d=>by have d:y=h.size:=d;subst d;exact⟨ai _,bc b1⟩) k1 (bc b1)
theorem Rn.cl(r:Rn q b bs s Ss h)(j:Nat)(d:Ss[j]? =some (bU p c t)) (i:Nat):bh h (adr ⟨p,0,none⟩ i)=c[i]?:=by
 have:h[p]? =some (.cells c.toArray t (0,0)):=r.o.get d;rw[vc this i];simp
theorem Rn.wr(r:Rn q b bs s Ss h)(j:Nat)(e:Ss[j]? =some (bU p c t)) {i:Nat} (hi:i<c.length) {v:Value} {f:ae→Prop} (m:∀h',Rn q b bs s (Ss.set j (bU p (c.set i v) t)) h'→Upd (· =p) h h'→f h'):Wr h (adr ⟨p,0,none⟩ i)∧At (hset h (adr ⟨p,0,none⟩ i) v) f:=by
 have n:h[p]? =some (.cells c.toArray t (0,0)):=r.o.get e;exact nJ n (c':=(c.set i v).toArray) (by simpa using hi) (by simp) fun h' g u=>m h' (r.set e u (fun y d=>.inl d) g fun y d=>⟨.inl d,by have d:y=p:=d;subst d;exact bc g⟩) u
theorem Rn.fill(r:Rn q b bs s Ss h)(j:Nat)(e:Ss[j]? =some (bU p c t)) {vs:List Value} (n:vs.length=c.length) {f:ae→Prop} (i:∀h',Rn q b bs s (Ss.set j (bU p vs t)) h'→Upd (· =p) h h'→f h'):xw h (some ⟨p,0,none⟩) 0 vs∧At (iw h ⟨p,0,none⟩ 0 vs) f:=by
 have m:h[p]? =some (.cells c.toArray t (0,0)):=r.o.get e;exact dt m n fun h' g u=>i h' (r.set e u (fun y d=>.inl d) g fun y d=>⟨.inl d,by have d:y=p:=d;subst d;exact bc g⟩) u
theorem Rn.push{α:Type}{f:α→List Value}{sz bytes:Nat}{ty:TypeId}{so:SliceV}{out:List α}{z:List Value}{y:α}(r:Rn q b bs s Ss h)(j:Nat)(n:Ss[j]? =some (bV f sz ty so out)) (u:h[p]? =some (.cells (f y).toArray ty (0,0))) (e:cF (f y)=true) (v:z.length=sz) (g:0<bytes∧bytes≤64*64) (w:out.length+1≤1000000)
  {K:SliceV→ae→Prop} (o:∀s' h',Rn q b bs s (Ss.set j (bV f sz ty s' (out++ [y]))) h'→Upd (sb so) h h'→(∀y,sb s' y→sb so y∨h.size≤y)→K s' h'):
  ∃xs,SRow h (some ⟨p,0,none⟩) (1*sz) xs∧AppP (some z) sz bytes ty so.a so.len so.cap 1 xs h K:=by
 have m:OwnS f sz ty (sb so) h so out:=r.o.get n;refine⟨_,((OwnS.one m.ne u).sl (W:=No) fun _ _ _ h=>h).srow,?_⟩
 refine AppP.own (M:=fun y=>sb so y∨h.size≤y) (ys:= [y]) (m.more fun y c=>.inl c) rfl rfl (by simpa using e) v g.1 ?_ (.inr (ai _)) fun s' h' d i=>?_
 ·simp only[aI]
  calc (out.length+1)*bytes≤1000000*(64*64):=Nat.mul_le_mul w g.2
   _≤140737488355328:=by omega
 ·have i:Upd (sb so) h h':=i.mono fun y c=>c
  exact o s' h' (r.set n i (fun y c=>.inl c) d.its fun y c=>d.sub y c) i fun y c=>(d.sub y c).1
theorem Rn.fillAt(r:Rn q b bs s Ss h)(j:Nat)(g:Ss[j]? =some (bU p c t)) {m:Nat} {vs:List Value} (v:m+vs.length≤c.length) {f:ae→Prop} (o:∀h',Rn q b bs s (Ss.set j (bU p (c.take m++vs++c.drop (m+vs.length)) t)) h'→Upd (· =p) h h'→f h'):xw h (some (adr ⟨p,0,none⟩ m)) 0 vs∧At (iw h (adr ⟨p,0,none⟩ m) 0 vs) f:=by
 have i:h[p]? =some (.cells c.toArray t (0,0)):=r.o.get g;have e:=gQ vs h m 0 c i (by omega);rw[bK]at e;refine⟨.inr ⟨_,rfl,fun j g=>by rw[cM,cM];exact fz i (by rw[List.size_toArray];omega)⟩,cP ?_⟩
 rw[zW,Nat.add_zero,e];have n:(h.setIfInBounds p (.cells (c.take m++vs++c.drop (m+vs.length)).toArray t (0,0)))[p]? =some (.cells (c.take m++vs++c.drop (m+vs.length)).toArray t (0,0)):=dU i;have u:=Upd.set (M:=(· =p)) h (.cells (c.take m++vs++c.drop (m+vs.length)).toArray t (0,0)) rfl
 exact o _ (r.set g u (fun y d=>.inl d) n fun y d=>⟨.inl d,by have d:y=p:=d;subst d;exact bc n⟩) u
variable {W':Nat→Prop}
theorem DD(i:RnAt W' h b bs s)(d:Nat)(hm:d≤100000)(f:Int){K:ByteArray→ae→Prop}(j:∀h',RnAt W' h' b bs (cI d f s).2→Upd (· =b) h h'→K (cI d f s).1 h'):ym 49 [gF b,.int .i64 (d:Int),.int .i64 f] K h:=by
 obtain⟨sp,a,w,C,J,O,A⟩:=i.ex;have V:=C.len;have B:=i.n;have H:s.1.length=bs.length-a:=by rw[A,aW]
 refine Jf _ (d:Int) f ?_;dsimp only[AE,dy,Dw,dq,iP,cf,pq,pP,dg,L8,yn,FA];refine⟨_,rfl,_,vc w 2,CondP.intro (fun c=>?_) fun c=>⟨_,rfl,sp,vc w 0,_,rfl,_,vc w 1,EE C B a O ?_⟩⟩
 ·have c:s.2≠0:=by simpa using c
  have e:cI d f s=(⟨#[]⟩,s):=by rw[cI,if_neg c]
  rw[e]at j;exact j h i (Upd.refl _ _)
 have c:s.2=0:=by simpa using c
 rw[←A];cases e:sE 0 0 s.1 with
 |none=>
  have T:cI d f s=(⟨#[]⟩,s.1,9):=by rw[cI,if_pos c,e]
  rw[T]at j;(try simp only)
  exact aV.2 ⟨_,rfl,i.setErr fun v z o=>j v z o⟩
 |some q=>
  obtain⟨n,k⟩:=q;have P:=xk s.1 0 0 (by omega) (by simp) e;have u:cI d f s=if d<n then(⟨#[]⟩,s.1,f)else if s.1.length-k<n then(⟨#[]⟩,s.1,9)else(VB ((s.1.drop k).take n),s.1.drop (k+n),0):=by rw[cI,if_pos c,e]
  (try simp only)
  have ek:((k:Int)==0)=false:=beq_eq_false_iff_ne.2 (by omega);rw[ek];refine ay.2 (Join.intro (fun(t:Bool) h'=>h'=h∧(t=true↔d<n)) (fun R I=>ak (fun p=>?_) fun _=>I _ _ ⟨rfl,?_⟩) ?_)
  ·omega
  ·rw[Go.IntWalk.u64_in _ (by omega),decide_eq_true_iff];omega
  rintro t h' ⟨rfl,F⟩;refine CondP.intro (fun p=>⟨_,rfl,i.setErr fun v z o=>?_⟩) fun p=>⟨_,rfl,sp,vc w 0,_,rfl,_,vc w 1,?_⟩
  ·rw[if_pos (F.1 p)]at u;rw[u]at j;exact j v z o
  have p:¬d<n:=fun e=>by rw[F.2 e]at p;cases p
  rw[if_neg p]at u;have L:ac .u64 (ac .i64 (ac .i64 ((sp.len:Int)-(a:Int))-(k:Int)))=((s.1.length-k:Nat):Int):=by
   rw[Go.IntWalk.i64_in ((sp.len:Int)-(a:Int)) (by omega),Go.IntWalk.i64_in _ (by omega),Go.IntWalk.u64_in _ (by omega)];omega
  rw[L];refine Ky (ak (fun S=>⟨_,rfl,i.setErr fun v z o=>?_⟩) fun S=>⟨_,rfl,_,vc w 1,?_⟩)
  ·rw[if_pos (by omega)]at u;rw[u]at j;exact j v z o
  rw[if_neg (by omega)]at u;rw[u]at j;have E:ac .i64 (n:Int)=(n:Int):=Go.IntWalk.i64_in _ (by omega);have N:ac .i64 ((a:Int)+ac .i64 ((k:Int)+ac .i64 (n:Int)))=((a+k+n:Nat):Int):=by
   rw[E,Go.IntWalk.i64_in ((k:Int)+(n:Int)) (by omega),Go.IntWalk.i64_in _ (by omega)];omega
  rw[N];refine Ky ⟨_,rfl,nJ w (by simp) rfl fun v g o=>⟨_,rfl,sp,vc g 0,_,rfl,_,vc g 1,_,rfl,_,vc g 1,?_⟩⟩
  have Q:ac .i64 (((a+k+n:Nat):Int)-ac .i64 (n:Int))=((a+k:Nat):Int):=by
   rw[E,Go.IntWalk.i64_in _ (by omega)];omega
  rw[Q];have x:=C.upd o fun y D=>.inl (by have D:y=b:=D;subst D;exact i.w)
  have U:=x.sub (l:=a+k) (hi:=a+k+n) (m:=sp.cap) (c:=sp.cap-(a+k)) (by omega) (by omega) (by omega);have r:=U.srow;rw[Nat.mul_one]at r;refine⟨⟨by omega,by omega⟩,⟨by omega,by omega⟩,Ky (Ky (Ky ⟨VB ((s.1.drop k).take n),?_,j v ⟨⟨sp,a+k+n,by rw[c]at g;exact g,x,J,by omega,by show List.drop (k+n) s.1=_;rw[A,cW,Nat.add_assoc]⟩,i.w,i.n⟩ o⟩))⟩
  have G:(bs.drop (a+k)).take (a+k+n-(a+k))=(s.1.drop k).take n:=by rw[A,cW,Nat.add_sub_cancel_left]
  rw[G]at r;rw[N5];exact r
theorem oy(i:RnAt W' h b bs s)(d:Nat){K:Int→ae→Prop}(f:∀h',RnAt W' h' b bs (aS d s).2→Upd (· =b) h h'→K ((aS d s).1:Int) h'):qu 17 [gF b,.int .u64 (d:Int)] K h:=by
 refine Om _ (d:Int) ?_;unfold E5 sq;refine yw i fun m g j=>ak (fun c=>sX g fun h2 n o=>?_) fun c=>?_
 ·have e:aS d s=(0,cS 9 (dX s).2):=by rw[aS,if_pos (by omega)]
  rw[e]at f;exact f h2 n (j.tr o)
 ·have e:aS d s=dX s:=by rw[aS,if_neg (by omega)]
  rw[e]at f;exact f m g j
theorem Lg(i:RnAt W' h b bs s){n:Nat}{K:Bool→ae→Prop}(d:K (decide (0<n∧s.2=0)) h):CondP (decide ((n:Int)>(0:Int))) (∃a14:Addr,some (⟨b,0,none⟩:Addr)=some a14∧∃v15:Int,bh h (adr a14 2)=some (.int .i64 v15)∧K (v15==(0:Int)) h) (K false h):=by
 refine ak (fun c=>⟨_,rfl,_,i.err,?_⟩) fun c=>?_
 ·have e:(s.2==(0:Int))=decide (0<n∧s.2=0):=by
   rw[show(s.2==(0:Int))=decide (s.2=0)from rfl,decide_eq_decide]
   exact⟨fun e=>⟨by omega,e⟩,fun e=>e.2⟩
  rw[e];exact d
 ·have e:false=decide (0<n∧s.2=0):=by rw[eq_comm,decide_eq_false_iff_not];omega
  rw[e];exact d
theorem yz{α:Type}{f:dV→α×dV}{n:Nat}{l:List α}{s:dV}(h:s.2=0):jt f (n+1) l s=jt f n (l++ [(f s).1]) (f s).2:=by rw[jt,if_pos h]
theorem yy{α:Type}{f:dV→α×dV}{n:Nat}{l:List α}{s:dV}(h:¬(0<n∧s.2=0)):jt f n l s=(l,s):=by
 cases n with
 |zero=>rfl
 |succ n=>rw[jt,if_neg fun e=>h ⟨nt _,e⟩]
theorem Pc(r:Rn q b bs s Ss h)(Z:s.1.length≤90000){K:SliceV→ae→Prop}(v:∀h' sl,Rn q b bs (jd f7 s).2 (bV fJ 2 131 sl (jd f7 s).1::Ss) h'→Upd (· =b) h h'→(∀y,sb sl y→h.size≤y)→K sl h'):fU 20 [gF b] K h:=by
 refine On _ ?_;dsimp only[E6,Du,AU,Fk,AS,yn,dg,dq];refine yw r.i fun h1 O A=>?_
 have F:=(r.rd O A).cons (a:=bV fJ 2 131 fL []) (OwnS.nil Cr) fun y f=>absurd f (ie y)
 have B:=zO s;have lb:=r.lt;have W:=A.size;unfold jd at v;refine LoopP.ghost (fun(g:Nat×List (ByteArray×Int)×dV) (t:SliceV×Int) h'=>t.2=(g.1:Int)∧g.1<18446744073709551616∧Rn q b bs g.2.2 (bV fJ 2 131 t.1 g.2.1::Ss) h'∧RdN s.1.length g.2.1.length g.2.2∧Upd (· =b) h h'∧(∀y,sb t.1 y→h.size≤y)∧jt f7 g.1 g.2.1 g.2.2=jt f7 (dX s).1 [] (dX s).2) (fun g=>g.1) ((dX s).1,[],(dX s).2) ⟨rfl,B,F,RdN.zero (jF s).1,A,fun y f=>absurd f (ie y),rfl⟩ ?_
 rintro I ⟨n,l,j⟩ ⟨sl,t⟩ h' ⟨e,x,r,z,w,d,i⟩ N;(try simp only at e x r z d i)
 subst e;refine Join.intro (fun t h2=>h2=h'∧t=decide (0<n∧j.2=0)) (fun R E=>Lg r.i (E _ _ ⟨rfl,rfl⟩)) ?_
 rintro t h2 ⟨rfl,rfl⟩;refine ak (fun c=>Join.plain (DD r.i 32 (by omega) 9 fun h3 D p=>oy D 4294967295 fun T S u=>bj fun h5 C o=>?_)) fun c=>?_
 ·have Q:=((r.rd D p).rd S u).up0 o
  have V:=z.len0 c.2;have J:=fK 4294967295 (cI 32 9 j).2;rw[Go.IntWalk.u32_in _ (by omega)]at C;have z3:=p.size;have X:=u.size;have U:=o.size;have Y:=w.size;refine Q.push (y:=(_,_)) 0 rfl C rfl rfl ⟨by decide,by decide⟩ (by omega) fun s' h6 L G P=>?_
  obtain⟨m,rfl⟩:∃m,n=m+1:=⟨n-1,by omega⟩
  have H:ac .u64 (((m+1:Nat):Int)-1)=(m:Int):=by rw[Go.IntWalk.u64_in _ (by omega)];omega
  have nx:=z.next c.2 (lf j) GI
  refine N (m,l++ [(f7 j).1],(f7 j).2) _ _ ⟨H,by omega,L,by simpa using nx,((w.tr (p.tr u)).tr o.wide).trans G fun y f=>.inr (d y f),fun y f=>(P y f).elim (d y) fun e=>by omega,?_⟩ (by simp)
  rw[yz c.2]at i;exact i
 ·rw[yy c]at i
  rw[←i]at v;exact v h2 sl r w d
def RtOk(W:Nat→Prop)(h:ae)(k:Int)(x:Hs)(t:Rt)(l:List Pr):Prop:=t.1=k∧(t.2.1=x.k0∧t.2.2.1=x.k1∧t.2.2.2.1=x.mask)∧Sl fw 2 W h t.2.2.2.2 l∧t.2.2.2.2.len≤t.2.2.2.2.cap
theorem RtOk.re{W W' M:Nat→Prop}{h d:ae}{k:Int}{x:Hs}{t:Rt}{l:List Pr}(o:RtOk W h k x t l)(u:Upd M h d)(hm:∀b,M b→W b∨h.size≤b)(e:∀b,W' b→W b∨h.size≤b):RtOk W' d k x t l:=
 ⟨o.1,o.2.1,((o.2.2.1.less (W':=fun b=>W b∨h.size≤b) fun _ c=>c).upd u fun b c=>.inl (hm b c)).less fun b c=>.inl (e b c),o.2.2.2⟩
theorem M3{n:Nat}{l:List Pr}{s:dV}(h:s.2=0):jc (n+1) l s=jc n (fc l s).1 (fc l s).2:=by rw[jc,if_pos h]
theorem M2{n:Nat}{l:List Pr}{s:dV}(h:¬(0<n∧s.2=0)):jc n l s=(l,s):=by
 cases n with
 |zero=>rfl
 |succ n=>rw[jc,if_neg fun e=>h ⟨nt _,e⟩]
theorem JI(r:Rn q b bs s Ss h)(hn:s.1.length≤90000){K:Rt→ae→Prop}(Q:∀h' t,Rn q b bs (fj s).2 Ss h'→Upd (· =b) h h'→RtOk (fun y=>y<h.size) h' k x t (fj s).1→K t h'):
  aat 19 [gF b,.int .i64 k,.agg #[.int .u64 x.k0,.int .u64 x.k1,.int .u64 x.mask]] K h:=by
 refine Qg _ k (x.k0,x.k1,x.mask) ?_;dsimp only[H3,cq,eP,nv,sq,EL,cE,XM,AU,ja,iR,vl7,iv,dy,FE,aR,au,j5,pR,FC,cg,ic,ji,yn,dg,dq];have lb:=r.lt;refine r.var fun V r1 k1 z1=>r1.var fun h2 F k2 z2=>⟨_,F.cl 1 rfl 0,_,F.cl 1 rfl 1,_,F.cl 1 rfl 2,F.var fun h3 r3 k3 z3=>r3.fill 0 rfl (by rfl) fun h4 r4 u4=>yw r4.i fun Y i5 u5=>?_⟩
 have r5:=(r4.rd i5 u5).cons (a:=bV fw 2 129 fL []) (OwnS.nil kj) fun y d=>absurd d (ie y)
 have X:=zO s;have z4:=u4.size;have z5:=u5.size;have w5:Upd (fun y=>y=b∨h.size≤y) h Y:=(((k1.tr k2).tr k3).wide.tr (u4.mono fun y d=>.inl (.inr (by have d:y=h2.size:=d;omega)))).tr (u5.mono fun y d=>.inl (.inl d))
 unfold fj at Q;refine LoopP.ghost (fun(g:Nat×List Pr×dV) (t:Int) h'=>t=(g.1:Int)∧g.1<18446744073709551616∧∃sl,Rn q b bs g.2.2 (bV fw 2 129 sl g.2.1::bU h2.size (Ox (k,x.k0,x.k1,x.mask,sl)) 68::bU V.size (Ox (0,0,0,0,fL)) 68::bU h.size [.int .u64 x.k0,.int .u64 x.k1,.int .u64 x.mask] 30::Ss) h'∧RdL s.1.length g.2.1 g.2.2∧Upd (fun y=>y=b∨h.size≤y) h h'∧Y.size≤h'.size∧(∀y,sb sl y→Y.size≤y)∧jc g.1 g.2.1 g.2.2=jc (dX s).1 [] (dX s).2) (fun g=>g.1) ((dX s).1,[],(dX s).2)
  ⟨rfl,X,fL,r5,⟨fun p hp=>(by cases hp),by have:=(jF s).1;simp only[aQ];omega,fun _=>by have:=(jF s).1;simp only[aQ];omega,fun _=>dh⟩,w5,ai _,fun y d=>absurd d (ie y),rfl⟩ ?_
 rintro I ⟨n,l,j⟩ t h' ⟨e,S,sl,r,L,w,z,A,C⟩ hI;(try simp only at e S r L C)
 subst e;refine Join.intro (fun t h2=>h2=h'∧t=decide (0<n∧j.2=0)) (fun R hR=>Lg r.i (hR _ _ ⟨rfl,rfl⟩)) ?_
 rintro t h6 ⟨rfl,rfl⟩;refine ak (fun c=>Join.plain (DD r.i 256 (by omega) 2 fun J i7 D=>DD i7 4096 (by omega) 3 fun H i8 U=>((r.rd i7 D).rd i8 U).var fun h9 r9 k9 z9=>r9.fill 0 rfl (by rfl) fun P f uA=>?_)) fun c=>?_
 ·have z7:=D.size
  have z8:=U.size;have zA:=uA.size;have hl:=L.len0 c.2;have wA:Upd (fun y=>y=b∨H.size≤y) h6 P:=(((D.tr U).mono fun y d=>.inl (.inl d)).tr k9.wide).tr (uA.mono fun y d=>.inl (.inr (by have d:y=H.size:=d;omega)))
  refine Join.intro (fun _ h'=>Rn q b bs (fc l j).2 (bU H.size (fw ((cI 256 2 j).1,(cI 4096 3 (cI 256 2 j).2).1)) 129::bV fw 2 129 sl l::bU h2.size (Ox (k,x.k0,x.k1,x.mask,sl)) 68::bU V.size (Ox (0,0,0,0,fL)) 68::bU h.size [.int .u64 x.k0,.int .u64 x.k1,.int .u64 x.mask] 30::Ss) h'∧Upd (fun y=>y=b∨H.size≤y) h6 h')
   (fun R2 E=>Join.intro (fun t h'=>h'=P∧(fc l j).2=if t=true then cS 13 (cI 4096 3 (cI 256 2 j).2).2 else(cI 4096 3 (cI 256 2 j).2).2) (fun R3 B=>⟨sl,f.cl 2 rfl 4,?_⟩) ?_) ?_
  ·have o:OwnS fw 2 129 (sb sl) P sl l:=f.o.get (i:=1) rfl
   have hlen:=o.len;refine ak (fun c=>?_) fun c=>B _ _ ⟨rfl,?_⟩
   ·have u:l.length-1<l.length:=by omega
    obtain⟨ad,O,_,hv⟩:=(o.sl (W:=No) fun _ _ _ h=>h).at (ag u)
    have T:ac .i64 ((sl.len:Int)-1)=((l.length-1:Nat):Int):=by rw[Go.IntWalk.i64_in _ (by omega)];omega
    refine⟨sl,f.cl 2 rfl 4,sl,f.cl 2 rfl 4,?_⟩;rw[T];have hf:=L.fit _ (bR u);refine⟨⟨by omega,by omega⟩,ad,O,_,hv 0 _ rfl,_,f.cl 0 rfl 0,M6 (by omega) ⟨f.cl 2 rfl 4,f.cl 2 rfl 4,f.cl 2 rfl 4,B _ _ ⟨rfl,?_⟩⟩⟩
    have eg:l.getLast? =some l[l.length-1]:=by rw[List.getLast?_eq_getElem?,ag u]
    unfold fc;rw[eg];(try simp only)
    by_cases N:bH l[l.length-1].1.toList (cI 256 2 j).1.toList=true
    ·rw[if_pos N,if_neg];rw[decide_eq_true (show kl _ _ from N)];decide
    ·rw[if_neg N,if_pos];rw[decide_eq_false (show ¬kl _ _ from N)];rfl
   ·have h0:l= []:=List.length_eq_zero_iff.1 (by omega)
    subst h0;rfl
  ·rintro t h' ⟨rfl,e⟩
   refine CondP.intro (fun c=>sX f.i fun h3 j3 u3=>E _ _ ⟨?_,wA.tr (u3.mono fun y d=>.inl (.inl d))⟩) fun c=>E _ _ ⟨?_,wA⟩
   ·rw[e,if_pos c];exact f.rd j3 u3
   ·rw[e,if_neg (by simpa using c)];exact f
  rintro _ hB ⟨G,wB⟩;have zB:=wB.size;refine⟨sl,G.cl 2 rfl 4,_,G.cl 0 rfl 0,_,G.cl 0 rfl 1,bj fun hC bC Z=>(G.up0 Z).push (y:=(_,_)) 1 rfl bC rfl rfl ⟨by decide,by decide⟩ (by omega) fun s' hD rD uD hs=>rD.wr (p:=h2.size) (i:=4) 2 rfl (by simp) fun hE rE uE=>?_⟩
  have zC:=Z.size;have zD:=uD.size;obtain⟨m,rfl⟩:∃m,n=m+1:=⟨n-1,by omega⟩
  have T:ac .u64 (((m+1:Nat):Int)-1)=(m:Int):=by rw[Go.IntWalk.u64_in _ (by omega)];omega
  have zw:=w.size;refine hI (m,(fc l j).1,(fc l j).2) _ _ ⟨T,by omega,s',rE.tail,L.pair c.2,?_,by have:=uE.size;omega,fun y d=>(hs y d).elim (A y) fun e=>by omega,?_⟩ (by simp)
  ·exact(((w.tr (wB.mono fun y d=>.inl (d.imp id fun e=>by omega))).tr Z.wide).tr (uD.mono fun y d=>.inl (.inr (by have:=A y d;omega)))).tr (uE.mono fun y d=>.inl (.inr (by have d:y=h2.size:=d;omega)))
  ·rw[M3 c.2]at C;exact C
 ·rw[M2 c]at C
  rw[←C]at Q;have zw:=w.size;refine⟨_,r.cl 1 rfl 0,_,r.cl 1 rfl 1,_,r.cl 1 rfl 2,_,r.cl 1 rfl 3,sl,r.cl 1 rfl 4,r.fill 2 rfl (by rfl) fun J v D=>⟨_,v.cl 2 rfl 0,_,v.cl 2 rfl 1,_,v.cl 2 rfl 2,_,v.cl 2 rfl 3,sl,v.cl 2 rfl 4,Q J (k,x.k0,x.k1,x.mask,sl) v.tail.tail.tail.tail ?_ ⟨rfl,⟨rfl,rfl,rfl⟩,?_,?_⟩⟩⟩
  ·exact(w.tr (D.mono fun y d=>.inl (.inr (by have d:y=V.size:=d;omega)))).mono fun y d=>d
  ·have o:OwnS fw 2 129 (sb sl) J sl l:=v.o.get (i:=0) rfl
   exact o.sl fun y d _ u=>by have:=A y d;omega
  ·have o:OwnS fw 2 129 (sb sl) J sl l:=v.o.get (i:=0) rfl
   exact o.cap
end
end Go.Proofs
namespace Go.Proofs
open Go Go.Lift
abbrev XV:=Int×SliceV×Rt
abbrev BN(v:XV):List Value:= [.int .u32 v.1,.slice v.2.1.a v.2.1.len v.2.1.cap]++Ox v.2.2
theorem X9(v:XV):(BN v).length=7∧0<7:=⟨rfl,by decide⟩
abbrev XS:=Int×Bool×Rt
abbrev KQ(v:XS):List Value:= [.int .i64 v.1,.bool v.2.1]++Ox v.2.2
theorem Ya(v:XS):(KQ v).length=7∧0<7:=⟨rfl,by decide⟩
abbrev aaA:Rt:=(0,0,0,0,fL)
def XvOk(W:Nat→Prop)(h:ae)(k:Int)(x:Hs)(v:XV)(r:tL):Prop:=v.1=r.1∧Nums W h v.2.1 r.2.1∧RtOk W h k x v.2.2 r.2.2
def XsOk(W:Nat→Prop)(h:ae)(k:Int)(x:Hs)(v:XS)(r:Int×Bool×List Pr):Prop:=v.1=r.1∧v.2.1=r.2.1∧RtOk W h k x v.2.2 r.2.2
section
variable {W W' M:Nat→Prop} {h h':ae} {k:Int} {x:Hs}
theorem XvOk.re{v:XV}{r:tL}(o:XvOk W h k x v r)(u:Upd M h h')(hm:∀b,M b→W b∨h.size≤b)(d:∀b,W' b→W b∨h.size≤b):XvOk W' h' k x v r:=
 ⟨o.1,((o.2.1.less (W':=fun b=>W b∨h.size≤b) fun _ c=>c).upd u fun b c=>.inl (hm b c)).less fun b c=>.inl (d b c),o.2.2.re u hm d⟩
theorem XsOk.re{v:XS}{r:Int×Bool×List Pr}(o:XsOk W h k x v r)(u:Upd M h h')(hm:∀b,M b→W b∨h.size≤b)(c:∀b,W' b→W b∨h.size≤b):XsOk W' h' k x v r:=
 ⟨o.1,o.2.1,o.2.2.re u hm c⟩
end
structure RnV(z q b:Nat)(bs:List UInt8)(k:Int)(x:Hs)(s:dV)(P:List Sp)(VS:List XV)(rv:List tL)(SS:List XS)(rz:List (Int×Bool×List Pr))(h:ae):Prop where
 r:Rn q b bs s P h
 v:LOk (XvOk (fun y=>y<z∨y=b∨AL P y) h k x) VS rv
 s:LOk (XsOk (fun y=>y<z∨y=b∨AL P y) h k x) SS rz
 lz:z≤h.size
section
variable {z q b pb yi:Nat} {bs:List UInt8} {k:Int} {x:Hs} {s s':dV} {P P':List Sp} {VS:List XV} {rv:List tL} {SS:List XS} {rz:List (Int×Bool×List Pr)} {h h':ae} {M:Nat→Prop} {nx last:Int} {vs bx tx ss:SliceV} {BS TS:List (ByteArray×Int)}
theorem RnV.go(R:RnV z q b bs k x s P VS rv SS rz h)(i:Rn q b bs s' P' h')(u:Upd M h h')(hm:∀y,M y→(y=b∨AL P y)∨h.size≤y)(g:∀y,AL P' y→AL P y∨h.size≤y):RnV z q b bs k x s' P' VS rv SS rz h':=by
 have f:∀y,(y<z∨y=b∨AL P' y)→(y<z∨y=b∨AL P y)∨h.size≤y:=fun y d=>by
  rcases d with e|e|e
  ·exact .inl (.inl e)
  ·exact .inl (.inr (.inl e))
  ·exact(g y e).imp (fun e=>.inr (.inr e)) id
 have c:∀y,M y→(y<z∨y=b∨AL P y)∨h.size≤y:=fun y d=>(hm y d).imp (fun e=>.inr e) id
 exact⟨i,R.v.imp fun v r o=>o.re u c f,R.s.imp fun v r o=>o.re u c f,co R.lz u.size⟩
theorem RnV.rd(R:RnV z q b bs k x s P VS rv SS rz h)(i:RnAt (·≠q) h' b bs s')(u:Upd (· =b) h h'):RnV z q b bs k x s' P VS rv SS rz h':=
 R.go (R.r.rd i u) u (fun _ c=>.inl (.inl c)) fun _ c=>.inl c
theorem RnV.wr(R:RnV z q b bs k x s P VS rv SS rz h){p:Nat}{c:List Value}{t:TypeId}(j:Nat)(e:P[j]? =some (bU p c t)) {i:Nat} (hi:i<c.length) {v:Value} {f:ae→Prop} (g:∀h',RnV z q b bs k x s (P.set j (bU p (c.set i v) t)) VS rv SS rz h'→Upd (· =p) h h'→f h'):Wr h (adr ⟨p,0,none⟩ i)∧At (hset h (adr ⟨p,0,none⟩ i) v) f:=
 R.r.wr j e hi fun h' m u=>g h' (R.go m u (fun _ d=>.inl (.inr ⟨_,ao e,d⟩)) fun y d=>D9 (s':=bU p (c.set i v) t) e (fun _ d=>.inl d) y d) u
theorem RnV.named(R:RnV z q b bs k x s P VS rv SS rz h)(i:s.1.length≤90000){K:SliceV→ae→Prop}(f:∀h' sl,RnV z q b bs k x (jd f7 s).2 (bV fJ 2 131 sl (jd f7 s).1::P) VS rv SS rz h'→Upd (· =b) h h'→(∀y,sb sl y→h.size≤y)→K sl h'):fU 20 [gF b] K h:=
 Pc R.r i fun h' sl g u d=>f h' sl (R.go g u (fun _ c=>.inl (.inl c)) fun y c=>(qw c).elim (fun e=>.inr (d y e)) .inl) u d
end
end Go.Proofs
