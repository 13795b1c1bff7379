/- A part of the proof that the named laws of this program answer true, whatever the input. -/
import Derived.Test.YtcpiahjlddmfiaaGreatPart6
import Derived.Test.YtcpiahjlddmfiaaGreatPart1
import Derived.Test.YtcpiahjlddmfiaaGreatPart5
import Derived.Test.YtcpiahjlddmfiaaGreatPart0
import Derived.Test.YtcpiahjlddmfiaaGreatPart4
import Derived.Test.YtcpiahjlddmfiaaGreatPart3
open BitVec renaming ofInt_natCast→gd,ofInt→af
open ByteArray renaming size_extract→eh
open Int renaming toNat_natCast→aF,natCast_pow→qn,eq_ofNat_of_zero_le→nf,tdiv→jj,tdiv_eq_ediv_of_nonneg→dX,tmod_eq_emod_of_nonneg→lj
open List renaming getElem_cons_zero→jC,take_succ_eq_append_getElem→ax,mem_append→bc,mem_singleton→aB,length_drop→aI,length_take→aJ,length_nil→cc,any_eq_true→bS,getElem_mem→aU,take_length→ba,mem_cons→aq,map_cons→bT,getElem?_eq_getElem→al,mem_map→bE,length_append→ae,flatten_append→eD,flatten_cons→fx
open Nat renaming zero_le→aP,le_refl→aj,le_trans→aW,not_lt→gC,lt_of_lt_of_le→aO,sub_self→nX,zero_add→aA,add_zero→df,mod_eq_of_lt→cW,mul_comm→gR,pow_succ→nY,pow_add→nb,mod_lt→oY,mul_le_mul_right→bP,add_assoc→mo,mul_assoc→pm,add_mul→iT,succ_mul→gQ,min_eq_left→bf,le_of_lt→jB,pow_le_pow_right→fh
namespace Go.Proofs
open Go.Lift
theorem yU{α:Type}{p:α→Bool}:∀(l:List α) (i:Nat),i≤l.length→(∀v∈l.take i,p v=true)→(∀h:i<l.length,p l[i]=false)→l.takeWhile p=l.take i∧l.dropWhile p=l.drop i
 | [],i,_,_,_=>by simp
 |x::l,0,_,_,h=>by
  have:=h (by simp);simp only[jC]at this;simp[this]
 |x::l,i+1,hi,h1,h2=>by
  have hx:=h1 x (by simp);have:=yU l i (by simpa using hi) (fun v hv=>h1 v (by simp[hv])) (fun h=>h2 (by simpa using h))
  simp[hx,this]
theorem qJ:∀xs:List (Int×SliceV),bU (xs.flatMap vf)=true
 | []=>rfl
 |x::xs=>by rw[List.flatMap_cons];exact qJ xs
theorem Jw{W:Nat→Prop}{h:ac}{u:Nat}{L:de}{nx:Int}(g:RefAt W h u L nx)(hL:L.length≤100000){id:Int}(hid:0≤id∧id<4294967295){s:SliceV}{ps:List Int}(hs:Nums W h s ps)(hn:ps.length*4≤140737488355328)
  {K:Unit→ac→Prop}(hk:∀h',Upd (· =u) h h'→RefAt W h' u (uw L id ps) (if nx≤id then id+1 else nx)→K () h'):
  HC PG uD [.pointer (some ⟨u,0,none⟩),.int .u32 id,.slice s.a s.len s.cap] [] K h:=by
 refine G8 (some ⟨u,0,none⟩) id s ?_;unfold Ab cx ci bj c9 Ht MM;obtain⟨C,t0,Ls,h1,z,h3,F⟩:=g.blk;have D:=h3.len;have w:=g.lt;refine LoopP.ghost (fun(i:Nat) (t:Int) h'=>t=(i:Int)∧h'=h∧i≤L.length∧∀v∈L.take i,decide (v.1<id)=true) (fun i=>L.length-i) 0 ⟨rfl,rfl,aP _,by simp⟩ ?_
 rintro I i t h' ⟨rfl,rfl,hi,hp⟩ hI;have c0:aX h' (adr ⟨u,0,none⟩ 0)=some (.slice C.a C.len C.cap):=by rw[bB,aL h1];rfl
 refine Join.intro (fun t z=>z=h'∧(t=true→∃w:i<L.length,L[i].1<id)∧(t=false→∀w:i<L.length,¬L[i].1<id)) (fun R hR=>?_) ?_
 ·refine⟨_,rfl,C,c0,aw (fun A=>?_) fun A=>?_⟩
  ·rw[z.len,D]at A
   have A:i<L.length:=by omega
   obtain⟨a,ha,c1,_⟩:=Ov z (D▸A);refine⟨_,rfl,C,c0,by rw[z.len,D];omega,a,ha,_,c1,hR _ _ ⟨rfl,?_⟩⟩
   rw[(h3.get (D▸A) A).1];exact⟨fun e=>⟨A,by simpa using e⟩,fun e _=>by simpa using e⟩
  ·rw[z.len,D]at A
   exact hR _ _ ⟨rfl,fun e=>(by cases e),fun _ h5=>(by omega)⟩
 ·rintro t y ⟨rfl,e1,e2⟩
  refine CondP.intro (fun e=>?_) fun e=>?_
  ·obtain⟨A,h5⟩:=e1 e
   rw[bN A (by omega)];refine hI (i+1) _ _ ⟨rfl,rfl,A,?_⟩ (by omega);rw[ax A];intro v hv;rcases bc.1 hv with P|P
   ·exact hp v P
   ·rw[aB.1 P];exact decide_eq_true h5
  ·obtain⟨w1,w2⟩:=yU (p:=fun v=>decide (v.1<id)) L i hi hp (fun A=>decide_eq_false (e2 e A))
   have U:uw L id ps=L.take i++(id,ps)::L.drop i:=by unfold uw;rw[w1,w2]
   refine Join.plain ?_;refine⟨_,rfl,C,c0,by rw[z.len,D];omega,?_⟩
   have k1:=Upd.hnew No y [] eM;refine⟨k1.cell0 c0,_,(hs.upd k1 fun _ h=>h.elim).srow,?_⟩
   refine AppP.own (f:=u32) (M:=fun b=>y.size≤b) (xs:= []) (ys:=ps) ⟨rfl,qV,aj _,.inl rfl⟩ hs.len rfl (ut ps) rfl (by omega) (by simpa using hn) (by rw[eI];omega) fun j n o18 k2=>?_
   have H:Upd No y n:=k1.trans k2 fun b hb=>.inr hb
   have c19:=H.cell0 c0;refine⟨c19,?_⟩;have k3:=Upd.hnew No n [.int .u32 id,.slice j.a j.len j.cap] eN;have Y:=H.tr k3;have h2a:Sl vf 2 W _ C Ls:=z.upd Y fun _ h=>h.elim
   refine⟨Y.cell0 c0,_,(h2a.sub (l:=i) (hi:=C.len) (m:=C.cap) (c:=0) (by rw[z.len,D];exact hi) (by rw[z.len];exact aj _) F).srow,?_⟩;have er:(Ls.drop i).take (C.len-i)=Ls.drop i:=by rw[z.len];exact List.take_of_length_le (by simp)
   rw[er];have hnw:=bG n [.int .u32 id,.slice j.a j.len j.cap] eN;refine AppP.own (f:=vf) (M:=fun b=>n.size≤b) (xs:= [(id,j)]) (ys:=Ls.drop i) ⟨rfl,Ou,aj _,.inr ⟨n.size,[],rfl,aj _,hnw,rfl⟩⟩
    (by rw[aI,z.len];rfl) rfl (qJ _) rfl (by omega) (by rw[aI,D];simp only[List.length_singleton];omega) (by rw[eI];omega) fun s22 o o22 k4=>?_
   have Q:Upd (fun b=>n.size≤b) n o:=k3.wide.tr k4
   have q:Upd No y o:=H.trans Q fun b hb=>.inr (aW H.size hb)
   refine⟨q.cell0 c0,Join.plain ?_⟩;have k5:=Upd.hnew No o [] eN;refine⟨_,rfl,C,(q.tr k5).cell0 c0,by rw[z.len,D]at F;omega,?_⟩
   have h2b:Sl vf 2 W _ C Ls:=z.upd (q.tr k5) fun _ h=>h.elim
   refine⟨_,(h2b.sub (l:=0) (hi:=i) (m:=C.cap) (c:=0) (by omega) (by omega) (by rw[z.len,D]at F;omega)).srow,?_⟩;rw[List.drop_zero,Nat.sub_zero];refine AppP.own (f:=vf) (M:=fun b=>o.size≤b) (xs:= []) (ys:=Ls.take i) ⟨rfl,Ou,aj _,.inl rfl⟩ (by rw[aJ];simp;omega) rfl (qJ _) rfl (by omega)
    (by rw[aJ];simp only[cc];omega) (by rw[eI];omega) fun s31 h32 o31 k6=>?_
   have N:Upd (fun b=>o.size≤b) o h32:=k5.wide.tr k6
   have hr:Sl vf 2 (fun b=>o.size≤b) o s22 ((id,j)::Ls.drop i):=o22.sl fun b _ w=>Nat.not_le.2 w
   refine⟨_,(hr.upd N fun b hb=>.inl hb).srow,?_⟩
   refine AppP.own (f:=vf) (M:=fun b=>o.size≤b) (xs:=Ls.take i) (ys:=(id,j)::Ls.drop i) o31 hr.len rfl (qJ _) rfl (by omega)
    (by rw[aJ,List.length_cons,aI];omega) N.size fun d x X k7=>?_
   have Z:Upd (fun b=>o.size≤b) o x:=N.tr k7
   have E:Upd No y x:=q.trans Z fun b hb=>.inr (aW q.size hb)
   have O:=E.get0 h1;refine⟨_,rfl,by rw[bB];exact f6 O (by simp),?_⟩
   have e0:adr ⟨u,0,none⟩ 0=⟨u,0,none⟩:=rfl;rw[e0];have k8:Upd (· =u) x (hset x ⟨u,0,none⟩ (.slice d.a d.len d.cap)):=Upd.hset _ _ rfl
   have G:(hset x ⟨u,0,none⟩ (.slice d.a d.len d.cap))[u]? =some (.cells #[.slice d.a d.len d.cap,.int .u32 nx] t0 (0,0)):=by
    rw[tO O,gg O];rfl
   have kx:Upd (· =u) y (hset x ⟨u,0,none⟩ (.slice d.a d.len d.cap)):=E.wide.tr k8
   have hWx:∀b,b=u→W b∨y.size≤b:=fun b hb=>.inl (hb▸g.wp)
   have J:∀{h':ac},Upd (· =u) x h'→Sl vf 2 W h' d (Ls.take i++(id,j)::Ls.drop i)∧Par W h' (Ls.take i++(id,j)::Ls.drop i) (uw L id ps):=fun{h'} k=>by
    refine⟨?_,?_⟩
    ·refine(X.sl (W:=W) fun b hb _ S=>absurd (w b S) (gC.2 (aW q.size hb))).upd k fun b hb=>.inl (hb▸g.wp)
    ·have kk:Upd (· =u) y h':=E.wide.tr k
     rw[U];refine Par.app (Par.upd kk hWx (h3.take i)) ⟨rfl,?_,Par.upd kk hWx (h3.drop i)⟩;have T:Nums (fun b=>W b∨n.size≤b) n j ps:=o18.sl fun b hb D S=>S.elim (fun S=>absurd (w b S) (gC.2 hb)) fun hge=>absurd D (gC.2 hge)
     have V:Upd (fun b=>W b∨n.size≤b) n h':=((Q.mono fun b hb=>.inl (.inr hb)).tr (Z.mono fun b hb=>.inr hb)).tr (k.mono fun b hb=>.inl (.inl (hb▸g.wp)))
     exact(T.upd V fun b hb=>.inl hb).less fun b hb=>.inl (.inl hb)
   have B:=X.cap;refine⟨_,rfl,nx,by rw[bB,aL G];rfl,aw (fun P=>?_) fun P=>?_⟩
   ·refine⟨_,rfl,f6 G (by simp),?_⟩
    rw[show IntKind.wrap .u32 (id+1)=id+1 from Go.IntWalk.u32_in _ (by omega)]
    rw[if_pos P]at hk;have k9:Upd (· =u) _ (hset (hset x ⟨u,0,none⟩ (.slice d.a d.len d.cap)) ⟨u,1,none⟩ (.int .u32 (id+1))):=Upd.hset _ _ rfl
    obtain⟨f1,f2⟩:=J (k8.tr k9);refine hk _ (kx.tr k9) ⟨⟨d,t0,_,?_,f1,f2,B⟩,g.wp,fun b hb=>aO (w b hb) (kx.tr k9).size⟩
    rw[bB,tO G,gg G];rfl
   ·rw[if_neg P]at hk
    obtain⟨f1,f2⟩:=J k8;exact hk _ kx ⟨⟨d,t0,_,G,f1,f2,B⟩,g.wp,fun b hb=>aO (w b hb) kx.size⟩
theorem Pl{nx id:Int}:(if id+1>nx then id+1 else nx)=if nx≤id then id+1 else nx:=by
 split<;>split<;>omega
theorem Qz{W:Nat→Prop}{h:ac}{y:Nat}{L:de}{nx:Int}(g:RefAt W h y L nx){id:Int}(T:0≤id)(S:L.length≤100000){s:SliceV}{ps:List Int}(q:Nums W h s ps)(P:ps.length*4≤140737488355328)
  {K:Int→ac→Prop}(d:∀h',Upd (· =y) h h'→RefAt W h' y (gA L nx id ps).2.1 (gA L nx id ps).2.2→K (gA L nx id ps).1 h'):
  HC PG AV [.pointer (some ⟨y,0,none⟩),.int .u32 id,.slice s.a s.len s.cap] [.c (.int .i64)] K h:=by
 refine NT (some ⟨y,0,none⟩) id s ?_;unfold F0 aR cx rP CP tG;refine QA q ?_;refine Join.intro (fun t h'=>h'=h∧t=decide (pz ps≠0∨id=0∨id≥2147483648)) (fun R E=>?_) ?_
 ·refine CondP.intro (fun c=>?_) fun c=>?_
  ·have c:pz ps≠0:=by simpa using c
   exact E _ _ ⟨rfl,(decide_eq_true (.inl c)).symm⟩
  ·have c:¬pz ps≠0:=by simpa using c
   refine CondP.intro (fun e=>?_) fun e=>?_
   ·have e:id=0:=by simpa using e
    exact E _ _ ⟨rfl,(decide_eq_true (.inr (.inl e))).symm⟩
   ·have e:¬id=0:=by simpa using e
    refine E _ _ ⟨rfl,?_⟩;rw[Bool.eq_iff_iff,decide_eq_true_iff,decide_eq_true_iff];simp[c,e]
 ·rintro t h' ⟨rfl,rfl⟩
  refine aw (fun c=>?_) fun c=>?_
  ·rw[show gA L nx id ps=_ from if_pos (c.elim .inl fun h=>.inr (h.elim .inl fun h=>.inr (.inl h)))]at d
   exact d h' (Upd.refl _ _) g
  ·refine LoopP.ghost (fun(i:Nat) (t:Int) e=>t=(i:Int)∧e=h'∧i≤ps.length∧∀p∈ps.take i,¬p≥id) (fun i=>ps.length-i) 0 ⟨rfl,rfl,aP _,by simp⟩ ?_
   rintro I i t e ⟨rfl,rfl,hi,D⟩ N;refine aw (fun b=>?_) fun B=>?_
   ·rw[q.len]at b
    have b:i<ps.length:=by omega
    obtain⟨a,Q,_,hx⟩:=Nums.at q b;refine⟨by rw[q.len];omega,a,Q,_,hx,aw (fun A=>?_) fun A=>?_⟩
    ·have x:ps.any (fun p=>decide (p≥id))=true:=bS.2 ⟨_,aU b,decide_eq_true A⟩
     rw[show gA L nx id ps=_ from if_pos (.inr (.inr (.inr x)))]at d
     exact d _ (Upd.refl _ _) g
    ·rw[bN b (by omega)]
     refine N (i+1) _ _ ⟨rfl,rfl,b,?_⟩ (by omega);rw[ax b];intro p k;rcases bc.1 k with j|j
     ·exact D p j
     ·rw[aB.1 j];exact A
   ·rw[q.len]at B
    have:i=ps.length:=by omega
    subst this;rw[ba]at D;have o:¬(pz ps≠0∨id=0∨id≥2147483648∨ps.any (fun p=>decide (p≥id))=true):=by
     rintro(h|h|h|h)
     ·exact c (.inl h)
     ·exact c (.inr (.inl h))
     ·exact c (.inr (.inr h))
     ·obtain⟨p,k,G⟩:=bS.1 h
      exact D p k (of_decide_eq_true G)
    refine CF g (by omega) id fun n A u z=>aw (fun j=>?_) fun j=>?_
    ·rw[show gA L nx id ps=_ from(if_neg o).trans (if_pos (z.1 j))]at d
     exact d _ u.wide (g.upd0 u)
    ·have w:¬id∈kC L:=fun h=>j (z.2 h)
     have J:=g.upd0 u;have v:=q.upd u fun _ h=>h.elim
     refine MI J (by omega) v (by omega) fun G f=>?_
     have H:=J.upd0 f;have C:=v.upd f fun _ h=>h.elim
     refine CondP.intro (fun m=>?_) fun m=>?_
     ·have m:lK L ps≠0:=by simpa using m
      rw[show gA L nx id ps=_ from(if_neg o).trans ((if_neg w).trans (if_pos m))]at d
      exact d _ (u.wide.tr f.wide) H
     ·have m:¬lK L ps≠0:=by simpa using m
      refine Jw H S (by omega) C P fun U F O=>?_
      rw[show gA L nx id ps=_ from(if_neg o).trans ((if_neg w).trans (if_neg m)),Pl]at d
      exact d _ ((u.wide.tr f.wide).tr F) O
end Go.Proofs
namespace Go.Proofs
open Go Go.Lift
theorem Ks{W W':Nat→Prop}{h h':ac}{kind:Int}{x:Hs}{r q:Rt}{l l':List Pr}(j:RefIs W h kind x r l)(a:RefIs W' h' kind x q l'):Mc r q=true:=by
 obtain⟨s,rfl,_⟩:=j;obtain⟨s',rfl,_⟩:=a;simp[Mc]
end Go.Proofs
namespace Go.Proofs
open Go Go.Lift
theorem Dc{L:de}{nx id:Int}{ps:List Int}(h:(gA L nx id ps).1≠0):(gA L nx id ps).2=(L,nx):=by
 unfold gA at h⊢;split
 ·rfl
 ·split
  ·rfl
  ·split
   ·rfl
   ·rename_i h1 h2 h3
    rw[if_neg h1,if_neg h2,if_neg h3]at h;exact absurd rfl h
theorem Fe{L:de}{nx id:Int}{ps:List Int}(h:(gA L nx id ps).1=0):gA L nx id ps=(0,uw L id ps,if id+1>nx then id+1 else nx)∧id∉kC L:=by
 unfold gA at h⊢;split at h
 ·exact absurd (show(1:Int)=0 from h) (by decide)
 ·split at h
  ·exact absurd (show(7:Int)=0 from h) (by decide)
  ·split at h
   ·rename_i h1;exact absurd h h1
   ·rename_i h1 h2 h3;rw[if_neg h1,if_neg h2,if_neg h3];exact⟨rfl,h2⟩
def Kb(s:VS)(id:Int)(d:TD)(ps:List Int):VS:=if(gA s.L s.nx id ps).1=0 then{s with L:=(gA s.L s.nx id ps).2.1,nx:=(gA s.L s.nx id ps).2.2,D:=jZ s.D id d}else s
theorem QF{W:Nat→Prop}{h:ac}{A:Nat}{s:VS}(v:VaultAt W h A s){id:Int}(B:0≤id){d:TD}(i:TreeIs W h s.kind s.x d.1 d.2)(hr:dL d.2)(hf:Fit d.2){sl:SliceV}{ps:List Int}(hs:Nums W h sl ps)(hn:ps.length*4≤140737488355328)
  {K:Int→ac→Prop}(z:∀h',Upd s.M h h'→VaultAt W h' A (Kb s id d ps)→K (gA s.L s.nx id ps).1 h'):
  HC PG fq [pV A,.int .u32 id,Hm d.1,.slice sl.a sl.len sl.cap] [.c (.int .i64)] K h:=by
 refine nP (some ⟨A,0,none⟩) id d.1 sl ?_;unfold kr aR az gT ad bO bw ag ol vr CP;refine aV fun U b1 k1=>ah.2 ⟨_,vc b1 0,_,vc b1 1,_,vc b1 2,_,vc b1 3,_,vc b1 4,_,vc b1 5,_,rfl,?_⟩
 have c1:=k1.get0 v.blk;refine⟨_,iW c1 0 0,_,iW c1 0 1,_,iW c1 0 2,_,iW c1 0 3,_,iW c1 0 4,_,iW c1 0 5,?_⟩;refine yW (t:=d.1) (u:=s.e) fun S X=>?_
 rw[Fs i v.em];have C:=k1.tr X;have n:=v.upd0 C;refine ah.2 ⟨_,rfl,_,vc n.blk 6,Ry n.g B (hs.upd C fun _ h=>h.elim) hn fun E k F=>?_⟩
 have I:∀y,uP s.gp s.gm y→W y∨S.size≤y:=fun y c=>.inl (v.w y (VS.mG c))
 obtain⟨n1,V,n3,n4,T,n6,Z,Y,n9,n10⟩:=VS.neB v.ne;have o:∀y,y≠s.gp→y≠s.gm→¬uP s.gp s.gm y:=fun y U h2 h=>h.elim U h2
 have N:=n.t.upd k (o _ V.symm T.symm);have R:=n.b.upd k (o _ n3.symm n6.symm);have w:=n.n.upd k (o _ n4.symm Z.symm);refine CondP.intro (fun e=>?_) fun e=>?_
 ·have e:(gA s.L s.nx id ps).1=0:=by simpa using e
  obtain⟨O,e3⟩:=Fe e;have m:=v.inv.put B ps;have hv:Kb s id d ps={s with L:=(gA s.L s.nx id ps).2.1,nx:=(gA s.L s.nx id ps).2.2,D:=jZ s.D id d}:=by unfold Kb;rw[if_pos e]
  rw[hv]at z;rw[O]at F z m⊢;have P:∀y,s.M y→A≠y:=fun y c e=>v.wv (e▸v.w y c)
  have c7:=k.get n.blk fun hm=>P _ (VS.mG hm) rfl
  have q:=k.get (X.get0 b1) fun hm=>by have:=v.size (VS.mG hm);omega
  refine⟨_,rfl,_,vc c7 7,_,vc q 0,_,vc q 1,_,vc q 2,_,vc q 3,_,vc q 4,_,vc q 5,_,rfl,N.isMap,DZ fun a f=>?_⟩
  have f:a=kP E s.tm (KE.enc id) (Te d):=f;have g:Upd (· =s.tm) E a:=by rw[f];exact pt E _ _ rfl
  have Q:MapAt KE Te a s.tm (jZ s.D id d):=by rw[f];exact N.put id d
  have H:=R.upd g (fun e=>Y e.symm)
  have x:=w.upd g (fun e=>n9 e.symm)
  have G:=F.upd g fun b hb=>.inl ⟨v.w b (.inr (.inr (.inl hb))),fun e=>V (e.symm.trans hb),fun e=>T (e.symm.trans hb)⟩
  have J:Upd s.M S a:=(k.mono fun y c=>.inl (VS.mG c)).tr (g.mono fun y c=>.inl (.inr (.inr (.inl c))))
  refine z a (C.wide.tr J) (n.turn J (fun y c=>.inl (v.w y c)) G Q H x (fun p hp=>(zy hp).elim (fun e=>.inr ?_) .inl) (fun j=>?_) m)
  ·subst e
   have ku:Upd s.M h a:=C.wide.tr J;exact⟨i.updM ku fun y c=>.inl (v.w y c),hr,hf⟩
  ·rw[tR,insV_ids.mem_iff,aq,←v.sub j]
   split
   ·rename_i hm
    exact⟨.inr,fun h=>h.elim (fun e=>e▸hm) fun h=>h⟩
   ·rw[bc,aB,Or.comm]
 ·have e:(gA s.L s.nx id ps).1≠0:=by simpa using e
  have O:=Dc e;have hv:Kb s id d ps=s:=by unfold Kb;rw[if_neg e]
  rw[hv]at z;rw[O]at F;exact z E (C.wide.tr (k.mono fun y c=>.inl (VS.mG c))) (n.turn k I F N R w (fun d hd=>.inl hd) v.sub v.inv)
theorem Ox{W:Nat→Prop}{h:ac}{a:Nat}{s:VS}(v:VaultAt W h a s){id:Int}{t:Tr}(hb:qq t s.e=false){sl:SliceV}{K:Int→ac→Prop}(b:∀h',Upd No h h'→K 11 h'):
  HC PG fq [pV a,.int .u32 id,Hm t,.slice sl.a sl.len sl.cap] [.c (.int .i64)] K h:=by
 refine nP (some ⟨a,0,none⟩) id t sl ?_;unfold kr aR az gT ad bO bw ag ol vr CP;refine aV fun e b1 k1=>ah.2 ⟨_,vc b1 0,_,vc b1 1,_,vc b1 2,_,vc b1 3,_,vc b1 4,_,vc b1 5,_,rfl,?_⟩
 have c1:=k1.get0 v.blk;refine⟨_,iW c1 0 0,_,iW c1 0 1,_,iW c1 0 2,_,iW c1 0 3,_,iW c1 0 4,_,iW c1 0 5,?_⟩;refine yW (t:=t) (u:=s.e) fun c d=>?_
 rw[hb];exact ay.2 (b c (k1.tr d))
theorem Bp{W:Nat→Prop}{h:ac}{a:Nat}{s:VS}(v:VaultAt W h a s)(n:Int){K:Bool→ac→Prop}(b:∀h',Upd (uP s.gp s.gm) h h'→GraphAt W h' s.gp s.gm s.L (if n<s.nx∨n>2147483648 then s.nx else n)→K (!decide (n<s.nx∨n>2147483648)) h'):
  HC PG eJ [pV a,.int .u32 n] [.c .bool] K h:=by
 refine ou (some ⟨a,0,none⟩) n ?_;unfold j4 bw rP;exact ay.2 ⟨_,rfl,_,vc v.blk 6,Is v.g n b⟩
abbrev JF(d:Int×Rt):List Value:= [.int .u32 d.1,.int .i64 d.2.1,.int .u64 d.2.2.1,.int .u64 d.2.2.2.1,.int .u64 d.2.2.2.2.1,.slice d.2.2.2.2.2.a d.2.2.2.2.2.len d.2.2.2.2.2.cap]
theorem L1(d:Int×Rt):(JF d).length=6∧0<6:=⟨rfl,by omega⟩
structure Rf(W:Nat→Prop)(h:ac)(xp xg:Nat)(kind:Int)(x:Hs)(L:de)(nx:Int)(D:List (Int×TD))(re:Rt)(ts:SliceV)(Ds:List (Int×Rt)):Prop where
 r:RefAt W h xg L nx
 wx:W xp
 gx:xg≠xp
 blk:h[xp]? =some (.cells (xC re++ [Value.pointer (some ⟨xg,0,none⟩),.slice ts.a ts.len ts.cap,.slice none 0 0,.slice none 0 0]).toArray m4 (0,0))
 e:RefIs W h kind x re []
 ts:Sl JF 6 W h ts Ds
 n:Ds.length=D.length
 par:∀i (h1:i<Ds.length) (h2:i<D.length),Ds[i].1=D[i].1∧RefIs W h kind x Ds[i].2 D[i].2.2
section
variable {W:Nat→Prop} {h h':ac} {vp xp xg:Nat} {kind:Int} {x:Hs} {L:de} {nx:Int} {D:List (Int×TD)} {re:Rt} {ts:SliceV} {Ds:List (Int×Rt)} {s:VS}
theorem Rf.upd(g:Rf W h xp xg kind x L nx D re ts Ds){M:Nat→Prop}(k:Upd M h h')(hm:∀b,M b→(W b∧b≠xg∧b≠xp)∨h.size≤b):Rf W h' xp xg kind x L nx D re ts Ds:=by
 have a:∀b,M b→W b∨h.size≤b:=fun b hb=>(hm b hb).imp (·.1) id
 exact⟨g.r.upd k fun b hb=>(hm b hb).imp (fun e=>⟨e.1,e.2.1⟩) id,g.wx,g.gx,k.get g.blk fun hb=>(hm _ hb).elim (fun e=>e.2.2 rfl) fun e=>absurd (bF g.blk) (by omega),g.e.updM k a,g.ts.upd k a,g.n,fun i d c=>⟨(g.par i d c).1,(g.par i d c).2.updM k a⟩⟩
theorem Rf.upd0(g:Rf W h xp xg kind x L nx D re ts Ds)(k:Upd No h h'):Rf W h' xp xg kind x L nx D re ts Ds:=g.upd k fun _ h=>h.elim
end
structure St21(h:ac)(vp xp xg:Nat)(s:VS)(re:Rt)(ts:SliceV)(Ds:List (Int×Rt)):Prop where
 v:VaultAt (fun y=>s.M y∨y=xg∨y=xp) h vp s
 a:∀y,s.M y→y≠xg∧y≠xp
 f:Rf (fun y=>s.M y∨y=xg∨y=xp) h xp xg s.kind s.x s.L s.nx s.D re ts Ds
 nB:s.B= []∧s.G= []
theorem St21.upd0{h h':ac}{b c a:Nat}{s:VS}{re:Rt}{ts:SliceV}{Ds:List (Int×Rt)}(g:St21 h b c a s re ts Ds)(k:Upd No h h'):St21 h' b c a s re ts Ds:=⟨g.v.upd0 k,g.a,g.f.upd0 k,g.nB⟩
end Go.Proofs
namespace Go.Proofs
open Go Go.Lift
section
variable {W:Nat→Prop} {h:ac} {xp xg:Nat} {kind:Int} {x:Hs} {L:de} {nx:Int} {D:List (Int×TD)} {re:Rt} {ts:SliceV} {Ds:List (Int×Rt)}
theorem D0{β:Type}{k:Int}{v:β}:∀{l:List (Int×β)},k∉l.map (·.1)→jZ l k v=l++ [(k,v)]
 | [],_=>rfl
 |(k',u)::l,h=>by
  simp only[bT,aq,not_or]at h;unfold jZ;rw[if_neg h.1,D0 h.2];rfl
theorem H1(g:Rf W h xp xg kind x L nx D re ts Ds)(nd:(D.map (·.1)).Nodup){id:Int}{d:TD}(hd:cE D id=some d)(O:id≠0)(hi:id∈kC L)(hL:L.length≤100000)(hD:D.length≤100000){K:Rt×Int→ac→Prop}(X:∀h' i (h1:i<Ds.length) (h2:i<D.length),D[i].2=d→Upd No h h'→K (Ds[i].2,0) h'):
  HC PG zl [.pointer (some ⟨xp,0,none⟩),.int .u32 id] [.agg [.int .i64,.int .u64,.int .u64,.int .u64,.slice],.c (.int .i64)] K h:=by
 refine P8 (some ⟨xp,0,none⟩) id ?_;unfold Jh cx az gT ad bO ci bw bj eB nv rP Hq f7 Td kN MG MN;refine aV fun h1 b1 k1=>CondP.intro (fun e=>absurd (by simpa using e) O) fun _=>?_
 refine Join.intro (fun _ _=>False) (fun R _=>⟨_,rfl,_,vc (k1.get0 g.blk) 5,CF (g.r.upd0 k1) (by omega) id fun n A q G=>aw (fun _=>?_) fun e=>absurd (G.2 hi) e⟩) fun _ _ h=>h.elim
 have m:=k1.tr q;have v:=g.upd0 m;have s1:=m.size;have z1:=bF b1;have S:=q.size;refine⟨_,rfl,ts,vc v.blk 6,?_⟩;have hl:=g.ts.len;have G:=g.n;refine LoopP.ghost (fun(i:Nat) (t:Int) h'=>t=(i:Int)∧i≤Ds.length∧(∀j (w:j<D.length),j<i→D[j].1≠id)∧Upd No A h') (fun i=>Ds.length-i) 0 ⟨rfl,aP _,(fun j _ h=>by omega),Upd.refl _ _⟩ ?_
 rintro I i t z ⟨rfl,P,F,k⟩ T;have s:=v.upd0 k;refine aw (fun b=>?_) fun Q=>?_
 ·have b:i<Ds.length:=by omega
  obtain⟨a,Z,_,hv⟩:=s.ts.at (al b);obtain⟨H,pr⟩:=s.par i b (by omega);refine⟨⟨by omega,by omega⟩,a,Z,_,hv 0 _ rfl,_,hv 1 _ rfl,_,hv 2 _ rfl,_,hv 3 _ rfl,_,hv 4 _ rfl,Ds[i].2.2.2.2.2,hv 5 _ rfl,?_⟩
  refine aV fun J E y=>cy (c:= [.int .u32 0,.int .i64 0,.int .u64 0,.int .u64 0,.int .u64 0,.slice none 0 0]) (vs:=JF Ds[i]) E rfl fun u f u32=>⟨_,vc f 0,?_⟩
  have p:Upd No z u:=y.own u32 (aj _);have N:=k.size;refine CondP.intro (fun e=>?_) fun e=>?_
  ·have e:D[i].1=id:=by rw[←H];simpa using e
   have Y:D[i].2=d:=by
    have hm:(D[i].1,D[i].2)∈D:=aU (show i<D.length by omega)
    have:=(m9 nd).2 hm;rw[e,hd]at this;exact(Option.some.inj this).symm
   have bt:u[h.size]? =some (.cells (xC OX).toArray dA (0,0)):=p.get0 (k.get0 (q.get0 b1));refine⟨_,iW f 1 0,_,iW f 1 1,_,iW f 1 2,_,iW f 1 3,Ds[i].2.2.2.2.2,iW f 1 4,?_⟩;refine cy (c:=xC OX) (vs:=xC Ds[i].2) bt rfl fun B o C=>?_
   refine⟨_,vc o 0,_,vc o 1,_,vc o 2,_,vc o 3,Ds[i].2.2.2.2.2,vc o 4,X B i b (by omega) Y (((m.tr k).tr p).own C (aj _))⟩
  ·have e:D[i].1≠id:=by rw[←H];simpa using e
   rw[bN (n:=Ds.length) b (by omega)];refine T (i+1) _ _ ⟨rfl,b,fun j w V=>?_,k.tr p⟩ (by omega)
   by_cases U:j=i
   ·subst U;exact e
   ·exact F j w (by omega)
 ·obtain⟨j,w,e⟩:=List.getElem_of_mem (D2 hd)
  exact absurd (by rw[e]) (F j w (by omega))
theorem Na(g:Rf W h xp xg kind x L nx D re ts Ds)(hD:∀p∈D,p.1∈kC L){id:Int}(hid:0≤id){r:Rt}{l:List Pr}(j:RefIs W h kind x r l){sl:SliceV}{ps:List Int}(hs:Nums W h sl ps)(hn:ps.length*4≤140737488355328)(hL:L.length≤100000)(hDl:D.length≤100000)
  {K:Int→ac→Prop}(hk:∀h' ts' Ds',Upd (fun y=>y=xg∨y=xp) h h'→(∀t:Tr,Rf W h' xp xg kind x (gA L nx id ps).2.1 (gA L nx id ps).2.2 (if(gA L nx id ps).1=0 then jZ D id (t,l)else D) re ts' Ds')→K (gA L nx id ps).1 h'):
  HC PG AR [.pointer (some ⟨xp,0,none⟩),.int .u32 id,Th r,.slice sl.a sl.len sl.cap] [.c (.int .i64)] K h:=by
 refine NQ (some ⟨xp,0,none⟩) id r sl ?_;unfold FX cx az gT ad bO ci bw bj nv Qk Ho c9 f7 CP kN MG MN;refine aV fun S b1 k1=>⟨_,vc b1 0,_,vc b1 1,_,vc b1 2,_,vc b1 3,r.2.2.2.2,vc b1 4,_,rfl,?_⟩
 have c1:=k1.get0 g.blk;refine⟨_,iW c1 0 0,_,iW c1 0 1,_,iW c1 0 2,_,iW c1 0 3,re.2.2.2.2,iW c1 0 4,?_⟩;refine O3 (r:=r) (q:=re) fun h14 V=>?_
 rw[Ks j g.e];have v:=k1.tr V;have w:=g.upd0 v;have s14:=v.size;have lt:∀y,W y→y<h.size:=g.r.lt;have wg:W xg:=g.r.wp;refine ah.2 ⟨_,rfl,_,vc w.blk 5,Qz w.r hid hL (hs.upd v fun _ h=>h.elim) hn fun s u R=>?_⟩
 have X:∀b,b=xg→(W b∧b≠xp):=fun b e=>by subst e;exact⟨wg,g.gx⟩
 have T:∀b,b=xg→W b∨h14.size≤b:=fun b e=>.inl (X b e).1
 have A:=u.get w.blk fun e=>(X _ e).2 rfl
 have e18:=w.e.updM u T;have P:=w.ts.upd u T;have o:∀i (S:i<Ds.length) (O:i<D.length),Ds[i].1=D[i].1∧RefIs W s kind x Ds[i].2 D[i].2.2:=fun i S O=>⟨(w.par i S O).1,(w.par i S O).2.updM u T⟩
 have s18:=u.size;have ku:Upd (fun y=>y=xg∨y=xp) h s:=v.wide.tr (u.mono fun y C=>.inl (.inl C))
 refine CondP.intro (fun e=>?_) fun e=>?_
 ·have e:(gA L nx id ps).1=0:=by simpa using e
  obtain⟨e2,e3⟩:=Fe e;simp only[if_pos e]at hk;have hnew:∀i (O:i<D.length),D[i].1≠id:=fun i O ee=>e3 (ee▸hD _ (aU O))
  refine⟨_,rfl,ts,vc A 6,?_⟩;have hl:=g.ts.len;have Z:=g.n;have z1:s[h.size]? =some (.cells (xC r).toArray dA (0,0)):=u.get (V.get0 b1) fun e=>by have:=lt _ wg;have e:h.size=xg:=e;omega
  have f18:∀h',Upd No s h'→h'[xp]? =some (.cells (xC re++ [Value.pointer (some ⟨xg,0,none⟩),.slice ts.a ts.len ts.cap,.slice none 0 0,.slice none 0 0]).toArray m4 (0,0)):=fun h' k=>k.get0 A
  refine LoopP.ghost (fun(q:Nat×SliceV) (t:SliceV×Int) h'=>t=(q.2,(q.1:Int))∧q.1≤Ds.length∧OwnS JF 6 mE (sb q.2) h' q.2 (Ds.take q.1)∧(∀y,sb q.2 y→s.size≤y)∧Upd No s h') (fun q=>Ds.length-q.1) (0,⟨none,0,0⟩) ⟨rfl,aP _,OwnS.nil L1,fun y C=>absurd C (Sx y),Upd.refl _ _⟩ ?_
  rintro I ⟨i,so⟩ t h23 ⟨rfl,hi',ho,F,G⟩ hI;simp only at hi' ho F hI⊢;have s23:=G.size;refine aw (fun m=>?_) fun hge=>?_
  ·have m:i<Ds.length:=by omega
   obtain⟨a,ha,_,hv⟩:=(P.upd G fun _ h=>h.elim).at (al m)
   have pe:=(o i m (by omega)).1;refine Join.plain ⟨⟨by omega,by omega⟩,a,ha,_,hv 0 _ rfl,_,hv 1 _ rfl,_,hv 2 _ rfl,_,hv 3 _ rfl,_,hv 4 _ rfl,Ds[i].2.2.2.2.2,hv 5 _ rfl,?_⟩
   refine aV fun h32 b32 k32=>cy (c:= [.int .u32 0,.int .i64 0,.int .u64 0,.int .u64 0,.int .u64 0,.slice none 0 0]) (vs:=JF Ds[i]) b32 rfl fun h33 z u33=>⟨_,vc z 0,?_⟩
   have k33:Upd No h23 h33:=k32.own u33 (aj _);have ne:(Ds[i].1 !=id)=true:=by rw[pe];simpa using hnew i (by omega)
   rw[ne];refine ay.2 ⟨_,vc z 0,_,vc z 1,_,vc z 2,_,vc z 3,_,vc z 4,Ds[i].2.2.2.2.2,vc z 5,aV fun h41 b41 U=>?_⟩
   refine PZ (f:=JF) (t:=Ds[i]) (so:=so) (ho.upd (k33.tr U) fun _ _ h=>h) b41 rfl rfl ⟨by omega,by omega⟩ (by simp;omega) fun s43 h44 o44 u44 Y=>?_
   rw[bN (n:=Ds.length) m (by omega)];have H:=k33.tr U;have s41:=H.size;refine hI (i+1,s43) _ _ ⟨rfl,m,by rw[ax m];exact o44,fun y C=>?_,(G.tr H).fresh u44 fun y C=>F y C⟩ (by simp only;omega)
   rcases(Y y C).1 with h|h
   ·exact F y h
   ·omega
  ·have hil:i=Ds.length:=by omega
   subst hil;rw[ba]at ho;have E:=G.get0 z1;refine⟨_,vc E 0,_,vc E 1,_,vc E 2,_,vc E 3,r.2.2.2.2,vc E 4,aV fun h52 b52 Q=>?_⟩
   refine PZ (f:=JF) (t:=(id,r)) (so:=so) (ho.upd Q fun _ _ h=>h) b52 rfl rfl ⟨by omega,by omega⟩ (by omega) fun s54 J o55 u55 hs55=>?_
   have d:Upd No s J:=(G.tr Q).fresh u55 fun y C=>F y C
   refine⟨_,rfl,yP (i:=6) (f18 J d) (by simp) rfl fun h57 b57 B=>?_⟩
   have N:∀y,y=xp→W y∨J.size≤y:=fun y e=>.inl (e▸g.wx)
   have s52:=Q.size;have nW:∀y,sb s54 y→y<J.size→¬W y:=fun y C _ T=>by
    have:=lt y T;rcases(hs55 y C).1 with h|h
    ·have:=F y h;omega
    ·omega
   have r57:RefAt W h57 xg (gA L nx id ps).2.1 (gA L nx id ps).2.2:=(R.upd0 d).upd B fun b e=>.inl ⟨e▸g.wx,fun e'=>g.gx (e'.symm.trans e)⟩
   refine hk h57 s54 (Ds++ [(id,r)]) ((ku.tr d.wide).tr (B.mono fun y C=>.inl (.inr C))) fun t=>⟨r57,g.wx,g.gx,b57,(e18.upd0 d).updM B N,(o55.sl nW).upd B N,?_,fun i S O=>?_⟩
   ·rw[D0 (fun hm=>by obtain⟨p,hp,e⟩:=bE.1 hm;exact e3 (e▸hD p hp)),ae,ae,Z];rfl
   ·simp only[D0 (fun hm=>by obtain⟨p,hp,e⟩:=bE.1 hm;exact e3 (e▸hD p hp):id∉D.map (·.1))]at O⊢
    by_cases m:i<Ds.length
    ·rw[List.getElem_append_left m,List.getElem_append_left (by omega)]
     exact⟨(o i m (by omega)).1,((o i m (by omega)).2.upd0 d).updM B N⟩
    ·have:i=Ds.length:=by simp at S;omega
     subst this;rw[List.getElem_append_right (aj _),List.getElem_append_right (by omega)];simp only[nX,Z,jC,true_and];exact(((j.upd0 v).updM u T).upd0 d).updM B N
 ·have e:(gA L nx id ps).1≠0:=by simpa using e
  have e2:=Dc e;simp only[if_neg e]at hk;rw[e2]at hk R;exact hk s ts Ds ku fun _=>⟨R,g.wx,g.gx,A,e18,P,g.n,o⟩
end
end Go.Proofs
namespace Go.Proofs
end Go.Proofs
namespace Go.Proofs
open Go Go.Lift
end Go.Proofs
namespace Go.Proofs
open Go Go.Lift
theorem mr{h:ac}{b:Nat}{cs:List Value}{t:TypeId}(hb:h[b]? =some (.cells cs.toArray t (0,0))):SRow h (some ⟨b,0,none⟩) cs.length cs:=
 ⟨rfl,.inr ⟨_,rfl,np hb fun i v hv=>by rw[aA,List.getElem?_toArray];exact hv⟩⟩
end Go.Proofs
namespace Go.Proofs
open Go Go.Lift
theorem ON(x:Hs)(lev:Nat)(l:List Pr):(jo x lev l).length+(j8 x lev l).flatten.length=l.length:=by
 have h:=wQ x lev l 32;have d:(l.filter fun p=>decide (ck x lev p.1<32))=l:=List.filter_eq_self.2 fun p _=>decide_eq_true (IH ..)
 rw[d]at h;have:∀n,(fm (fun c=>gE (part x lev c l)) n).length+(fm (fun c=>ge (part x lev c l)) n).flatten.length=((List.range n).map fun c=>(part x lev c l).length).sum:=by
  intro n;induction n with
  |zero=>simp[fm]
  |succ n ih=>
   rw[iK,iK,List.range_succ,List.map_append,List.sum_append];simp only[ae,eD,bT,List.map_nil,List.sum_cons,List.sum_nil,df];generalize part x lev n l=q;have:(gE q).toList.length+(ge q).toList.flatten.length=q.length:=by
    match q with
    | []=>simp[gE,ge]
    | [a]=>simp[gE,ge]
    |a::b::q=>simp[gE,ge]
   omega
 have:=this 32;unfold jo j8;omega
theorem KA{W:Nat→Prop}{x:Hs}{h:ac}{m:Nat}{ks:List (Option Addr)}:∀{ls:List (List Pr)},KidsAt W x h m ks ls→ks.length=ls.length∧∀i (hi:i<ls.length),∃b,ks[i]? =some (some ⟨b,0,none⟩)∧TrieAt W x h m b ls[i]:=by
 induction ks with
 |nil=>intro ls;cases ls with
  |nil=>intro _;exact⟨rfl,fun i hi=>absurd hi (Nat.not_lt_zero _)⟩
  |cons a ls=>intro h;exact h.elim
 |cons k ks ihk=>intro ls;cases ls with
  |nil=>intro h;exact h.elim
  |cons a ls=>
   rintro⟨⟨b,rfl,tk⟩,h⟩;obtain⟨e,c⟩:=ihk h;refine⟨by simp[e],fun i hi=>?_⟩
   cases i with
   |zero=>exact⟨b,rfl,tk⟩
   |succ i=>simp only[List.getElem?_cons_succ,List.getElem_cons_succ];exact c i (by simpa using hi)
theorem Rl{x:Hs}{W:Nat→Prop}:∀(m:Nat),m≤13→∀{b:Nat} {l:List Pr} {h:ac},TrieAt W x h m b l→l.length≤60000→∀{K:Int→ac→Prop},(∀h',Upd No h h'→K (l.length:Int) h')→HC PG sd [.pointer (some ⟨b,0,none⟩)] [.c (.int .i64)] K h:=by
 intro m;induction m with
 |zero=>
  intro _ b l h t Y K J;refine wF _ ?_;unfold sV aR cx;have S:∀{h'},Upd No h h'→BuckAt W h' b l:=fun k=>BuckAt.upd t k fun _ h=>h.elim
  obtain⟨sp,sk,ow,hb,o,hsk,_⟩:=(S (Upd.refl No h)).ex;refine vK hb o (by omega) fun Z h1 q k1=>?_
  obtain⟨N,D,E,s,hsp1,j,_⟩:=(S k1).ex;refine GF s j (by simp) fun U w p z=>?_
  have y:=p.len;rw[cc]at y;refine LoopP.ghost (fun(_:Unit) (t:Int×Int) h'=>t=((Z.len:Int),0)∧h'=w) (fun _=>0) () ⟨rfl,rfl⟩ ?_
  rintro I _ t A ⟨rfl,e⟩ X;rw[e];refine aw (fun f=>absurd f (by simp only;omega)) fun _=>?_
  simp only;rw[q.len];exact J w (k1.tr z)
 |succ m ih=>
  intro hm b l h t Y K J;refine wF _ ?_;unfold sV aR cx;obtain⟨sl,nd,G⟩:=t;have V:∀c,c<32→SlotIs W x h m sl c (part x (12-m) c l):=G;have hd:∀{h'},Upd No h h'→∃d n sp sk ow,h'[b]? =some (.cells (eZ d n sp sk false ow) bo (0,0))∧Sl il 2 W h' sp (jo x (12-m) l)∧Sl qL 1 W h' sk (fm sl.k 32):=fun{h'} k=>by
   obtain⟨d,n,sp,sk,ow,hb,bits,A,T,_⟩:=(nd.upd k fun _ h=>h.elim).ex
   refine⟨d,n,sp,sk,ow,hb,?_,T⟩;rw[←L2 V];exact A
  have Q:KidsAt W x h m (fm sl.k 32) (j8 x (12-m) l):=KB 32 V;have u:∀L∈j8 x (12-m) l,L.length≤60000:=fun L hL=>by
   obtain⟨_,c,rfl⟩:=oH hL;exact aW pv Y
  have H:=ON x (12-m) l;obtain⟨C,v⟩:=KA Q;generalize jo x (12-m) l=So at hd H;generalize j8 x (12-m) l=Ma at u H C v;obtain⟨d,n,sp,sk,ow,hb,o,_⟩:=hd (Upd.refl No h);refine vK hb o (by omega) fun Z h1 q k1=>?_
  obtain⟨d1,n1,N,D,E,s,_,j⟩:=hd k1;have R:=BI (g:=sl.k);refine GF s j (by omega) fun U w p z=>?_
  have S2:Sl qL 1 No w U (fm sl.k 32):=p.sl fun _ _ _ h=>h
  have hlk:=S2.len;refine LoopP.ghost (fun(i:Nat) (t:Int×Int) h'=>t.1=((So.length+(Ma.take i).flatten.length:Nat):Int)∧t.2=(i:Int)∧i≤Ma.length∧Upd No w h') (fun i=>Ma.length-i) 0 ⟨by rw[q.len];simp,rfl,aP _,Upd.refl _ _⟩ ?_
  rintro I i ⟨tn,ti⟩ A ⟨e1,y,hi,B⟩ X;simp only at e1 y;subst e1 y;refine aw (fun f=>?_) fun F=>?_
  ·have f:i<Ma.length:=by simp only at f;omega
   obtain⟨kb,P,tk⟩:=v i f;obtain⟨a,ha,_,hv⟩:=(S2.upd B fun _ h=>h.elim).at0 P
   refine⟨⟨by simp only;omega,by simp only;omega⟩,a,ha,some ⟨kb,0,none⟩,hv,?_⟩
   have o:(Ma.take i).flatten.length+Ma[i].length≤Ma.flatten.length:=by
    have e:Ma=Ma.take i++Ma[i]::Ma.drop (i+1):=by rw[List.getElem_cons_drop,List.take_append_drop]
    have:=congrArg (fun L=>(List.flatten L).length) e
    simp only[eD,fx,ae]at this;omega
   refine ih (by omega) (TrieAt.upd0 ((k1.tr z).tr B) tk) (u _ (aU f)) fun T k4=>?_
   simp only;rw[bN f (by omega),kE (by omega)];refine X (i+1) _ _ ⟨?_,rfl,f,B.tr k4⟩ (by omega);rw[ax f,eD];simp only[fx,List.flatten_nil,List.append_nil,ae];omega
  ·have O:i=Ma.length:=by simp only at F;omega
   subst O;simp only;rw[ba,H];exact J A ((k1.tr z).tr B)
theorem QP{W:Nat→Prop}{x:Hs}{h:ac}{kind:Int}{t:Tr}{l:List Pr}(i:TreeIs W h kind x t l)(g:dL l)(d:l.length≤60000){K:Int→ac→Prop}(c:∀h',Upd No h h'→K (l.length:Int) h'):HC PG iz [Hm t] [.c (.int .i64)] K h:=by
 rcases i with⟨rfl,b,rfl,a⟩|⟨rfl,b,rfl,a⟩
 ·refine qi _ ?_
  unfold mz az ag ol;refine aV fun j b1 k1=>⟨_,vc b1 0,ah.2 ⟨_,vc b1 4,?_⟩⟩
  exact Rl 13 (aj _) (TrieAt.upd0 k1 a) d fun f e=>c f (k1.tr e)
 ·exact OJ (x:=x) (.inr ⟨rfl,b,rfl,a⟩) g d c
end Go.Proofs
namespace Go.Proofs
open Go Go.Lift
theorem LK(n:Nat):IntKind.wrap .u64 (n:Int)=((n%18446744073709551616:Nat):Int):=by rw[IntKind.wrap_u64];omega
theorem yO{n:Nat}(h:n<18446744073709551616):IntKind.wrap .u64 (n:Int)=(n:Int):=by rw[LK,cW h]
theorem De{a b:Nat}(c:a<18446744073709551616)(hb:b<18446744073709551616):Dg a b=((a|||b:Nat):Int):=by
 unfold Dg;rw[show IntKind.bits .u64=64 from rfl,gd,gd,BitVec.toNat_or,BitVec.toNat_ofNat,BitVec.toNat_ofNat,cW (show a<2^64 from c),cW (show b<2^64 from hb)]
 exact yO (Nat.or_lt_two_pow (n:=64) c hb)
theorem Df{n a b:Nat}(hb:b<2^n)(c:a*2^n+b<18446744073709551616):Dg ((a*2^n:Nat):Int) (b:Int)=((a*2^n+b:Nat):Int):=by
 rw[De (by omega) (by omega),gR a,Nat.two_pow_add_eq_or_of_lt hb]
def JQ(x:Nat):Nat:=x*2%18446744073709551616+x/9223372036854775808
def C9:Nat→Nat→Nat
 |0,x=>x
 |n+1,x=>JQ (C9 n x)
theorem QY{n:Nat}(q:n≤64){x a b:Nat}(hb:b<2^(64-n))(p:a<2^n)(e:x=a*2^(64-n)+b):C9 n x=b*2^n+a:=by
 induction n generalizing a b with
 |zero=>
  have:a=0:=by simpa using p
  subst this;rw[e];simp[C9]
 |succ n ih=>
  have g:(2:Nat)^(64-n)=2*2^(64-(n+1)):=by rw[show 64-n=(64-(n+1))+1 by omega,nY,gR]
  have o:(2:Nat)^(n+1)=2*2^n:=by rw[nY,gR]
  have i:(2:Nat)^(64-(n+1))*2^n=9223372036854775808:=by rw[←nb,show 64-(n+1)+n=63 by omega]
  have s:a%2<2:=oY _ (by omega);have f:=Nat.div_add_mod a 2;have d:a/2<2^n:=by omega
  have k:a%2*2^(64-(n+1))+b<2^(64-n):=by
   rw[g];have:a%2*2^(64-(n+1))≤1*2^(64-(n+1)):=bP _ (by omega);omega
  have j:x=a/2*2^(64-n)+(a%2*2^(64-(n+1))+b):=by
   rw[e,g,←mo,←pm,←iT,gR (a/2) 2,f]
  have:=ih (by omega) k d j;show JQ (C9 n x)=_
  rw[this,iT,pm,i,o];unfold JQ;have c:b*2^n+2^n≤2^(64-(n+1))*2^n:=by
   rw[←gQ];exact bP _ hb
  rw[i]at c;have m:b*(2*2^n)=2*(b*2^n):=by rw[Nat.mul_left_comm]
  rw[m];generalize b*2^n=B at c;generalize 2^n=N at d c;have:a%2=0∨a%2=1:=by omega
  rcases this with h|h<;>rw[h]at f⊢<;>omega
theorem QX(n:Nat){x:Nat}(hx:x<18446744073709551616):C9 n x<18446744073709551616:=by
 induction n with
 |zero=>exact hx
 |succ n ih=>show JQ _<_;unfold JQ;omega
theorem Ud{n:Nat}(h:n<64):IL (IntKind.wrap .u64 (n:Int)) 63=(n:Int):=by
 rw[yO (by omega)];unfold IL;have:∀n:Fin 64,(af (IntKind.bits .u64) ((n.val:Nat):Int)&&&af (IntKind.bits .u64) 63).toNat=n.val:=by decide
 rw[this ⟨n,h⟩];exact yO (by omega)
theorem QW{n x:Nat}(b:n<64)(hx:x<18446744073709551616):C8 (x:Int) (n:Int)=((C9 n x:Nat):Int):=by
 unfold C8;rw[Ud b];rw[show((64:Int)-(n:Int))=((64-n:Nat):Int) by omega,yO (by omega)]
 simp only[show IntKind.bits .u64=64 from rfl,aF,bf (jB b),bf (Nat.sub_le 64 n)]
 have c:(2:Nat)^(64-n)*2^n=18446744073709551616:=by rw[←nb,show 64-n+n=64 by omega]
 have hd:=Nat.div_add_mod x (2^(64-n));have hm:x%2^(64-n)<2^(64-n):=oY _ (Nat.two_pow_pos _);have d:x/2^(64-n)<2^n:=by
  rw[Nat.div_lt_iff_lt_mul (Nat.two_pow_pos _),gR,c];exact hx
 rw[gR]at hd;rw[QY (jB b) hm d hd.symm];rw[show((x:Int)*2^n)=((x*2^n:Nat):Int) by rw[Int.natCast_mul,qn];rfl,LK]
 rw[show Int.fdiv (x:Int) (2^(64-n))=((x/2^(64-n):Nat):Int) by rw[show((2:Int)^(64-n))=((2^(64-n):Nat):Int) by rw[qn];rfl];exact Int.ofNat_fdiv x _▸rfl]
 have a:x%2^(64-n)*2^n+2^n≤2^(64-n)*2^n:=by
  rw[←gQ];exact bP _ hm
 rw[c]at a;have e:x*2^n%18446744073709551616=x%2^(64-n)*2^n:=by
  rw[←c,Nat.mul_mod_mul_right]
 rw[e];exact Df d (by omega)
end Go.Proofs
namespace Go.Proofs
open Go Go.Lift
def Ew(s:ByteArray)(i:Nat):Nat:=if h:i<s.size then(s[i]'h).toNat else 0
def hv(s:ByteArray):Nat→Nat→Nat
 |_,0=>0
 |p,c+1=>hv s (p+1) c*256+Ew s p
theorem PU(s:ByteArray)(i:Nat):Ew s i<256:=by
 unfold Ew;split
 ·exact UInt8.toNat_lt _
 ·omega
theorem MA(s:ByteArray)(i:Nat):IK s i=(Ew s i:Int):=by
 unfold IK Ew;by_cases h:i<s.size
 ·rw[dif_pos h,getElem?_pos s i h]
 ·rw[dif_neg h,getElem?_neg s i h];rfl
theorem DW{s:ByteArray}{i:Nat}(h:s.size≤i):Ew s i=0:=dif_neg (by omega)
theorem FA(s:ByteArray):∀(c p:Nat),hv s p c<256^c
 |0,_=>by show(0:Nat)<1;omega
 |c+1,p=>by
  have:=FA s c (p+1);have:=PU s p;rw[nY];show hv s (p+1) c*256+Ew s p<_
  omega
theorem Mh{s:ByteArray}:∀{c p:Nat},s.size≤p→hv s p c=0
 |0,_,_=>rfl
 |c+1,p,h=>by
  show hv s (p+1) c*256+Ew s p=0
  rw[Mh (by omega),DW h]
theorem GK{s:ByteArray}{d:Nat}:∀{c p:Nat},s.size≤p+c→hv s p (c+d)=hv s p c
 |0,p,h=>by rw[Mh (by omega)];rfl
 |c+1,p,h=>by
  rw[show c+1+d=(c+d)+1 by omega]
  show hv s (p+1) (c+d)*256+_=hv s (p+1) c*256+_
  rw[GK (by omega)]
theorem RI{s:ByteArray}{a b i:Nat}(hb:b≤s.size):Ew (s.extract a b) i=if a+i<b then Ew s (a+i)else 0:=by
 unfold Ew;have e:(s.extract a b).size=b-a:=by rw[eh];omega
 by_cases h:a+i<b
 ·rw[if_pos h,dif_pos (by omega),dif_pos (by omega),ByteArray.getElem_extract]
 ·rw[if_neg h,dif_neg (by omega)]
theorem KM{s:ByteArray}{a:Nat}:∀{c p b:Nat},b≤s.size→(b=s.size∨a+p+c≤b)→hv (s.extract a b) p c=hv s (a+p) c
 |0,_,_,_,_=>rfl
 |c+1,p,b,hb,h=>by
  show hv _ (p+1) c*256+_=hv s (a+p+1) c*256+_
  rw[KM hb (h.imp id fun h=>by omega),RI hb,mo]
  congr 1
  split
  ·rfl
  ·exact(DW (by omega)).symm
theorem RS{s:ByteArray}:∀{k c:Nat},k+c≤8→wj s k ((hv s k c*2^(8*k):Nat):Int)=((hv s 0 (k+c):Nat):Int)
 |0,c,_=>by
  show((hv s 0 c*2^(8*0):Nat):Int)=_
  rw[aA];simp
 |k+1,c,h=>by
  have hb:=PU s k;have hc:=FA s c (k+1);have f:(2:Nat)^(8*(k+1))=256*2^(8*k):=by rw[show 8*(k+1)=8+8*k by omega,nb]
  have d:256^c*2^(8*(k+1))≤18446744073709551616:=by
   rw[show(256:Nat)=2^8 from rfl,←Nat.pow_mul,←nb]
   exact fh (by omega) (show 8*c+8*(k+1)≤64 by omega)
  have j:hv s (k+1) c*2^(8*(k+1))+2^(8*(k+1))≤18446744073709551616:=by
   rw[←gQ];exact aW (bP _ hc) d
  have g:Ew s k*2^(8*k)<2^(8*(k+1)):=by rw[f];exact Nat.mul_lt_mul_of_pos_right hb (Nat.two_pow_pos _)
  have a:hv s (k+1) c*2^(8*(k+1))+Ew s k*2^(8*k)=hv s k (c+1)*2^(8*k):=by
   rw[f,←pm,←iT];rfl
  have b:(if k=0 then IntKind.wrap .u64 (IK s 0)else RZ (IK s k) ((8*k:Nat):Int))=((Ew s k*2^(8*k):Nat):Int):=by
   split
   ·rename_i e
    subst e;rw[MA,IntKind.wrap_u64];simp;omega
   ·unfold RZ
    rw[MA,aF,show IntKind.bits .u64=64 from rfl,bf (by omega)]
    have i:IntKind.wrap .u64 ((Ew s k:Nat):Int)=((Ew s k:Nat):Int):=by rw[IntKind.wrap_u64];omega
    rw[i,show((Ew s k:Int)*2^(8*k))=((Ew s k*2^(8*k):Nat):Int) by rw[Int.natCast_mul,qn];rfl,IntKind.wrap_u64]
    omega
  show wj s k (Dg _ (if k=0 then _ else _))=_
  rw[b,Df g (by omega),a,RS (by omega),show k+(c+1)=k+1+c by omega]
theorem Hv{s:ByteArray}(h:s.size≤8):xu s=((hv s 0 8:Nat):Int):=by
 have:=RS (s:=s) (k:=s.size) (c:=0) (by omega);rw[show hv s s.size 0=0 from rfl,Nat.zero_mul]at this
 unfold xu;rw[show((0:Nat):Int)=0 from rfl]at this
 rw[this,df];have e:=GK (s:=s) (d:=8-s.size) (c:=s.size) (p:=0) (by omega);rw[show s.size+(8-s.size)=8 by omega]at e
 rw[e]
def nN:Nat→ByteArray→Nat→Q4→Nat×Q4
 |0,_,a,q=>(a,q)
 |n+1,s,a,q=>if a+8≤s.size then nN n s (a+8) (qo (hv s a 8:Nat) q)else(a,q)
theorem HI:∀{n:Nat} {s:ByteArray} {a:Nat} {q:Q4},a≤s.size→Bt n (s.extract a s.size) q=(s.extract (nN n s a q).1 s.size,(nN n s a q).2)
 |0,_,_,_,_=>rfl
 |n+1,s,a,q,h=>by
  have e:(s.extract a s.size).size=s.size-a:=by rw[eh];omega
  show(if 8≤(s.extract a s.size).size then _ else _)=_
  rw[e];by_cases hc:a+8≤s.size
  ·rw[if_pos (show 8≤s.size-a by omega),ByteArray.extract_extract,ByteArray.extract_extract]
   rw[show nN (n+1) s a q=nN n s (a+8) (qo (hv s a 8:Nat) q)from if_pos hc]
   rw[show min (a+(s.size-a)) s.size=s.size by omega,show min (a+8) s.size=a+8 by omega,df]
   rw[Hv (by rw[eh];omega),KM (by omega) (.inr (by omega)),df];exact HI hc
  ·rw[if_neg (show ¬8≤s.size-a by omega),show nN (n+1) s a q=(a,q)from if_neg hc]
theorem FK:∀{n:Nat} {s:ByteArray} {a:Nat} {q:Q4},s.size≤a+n→a≤s.size→s.size<(nN n s a q).1+8∧(nN n s a q).1≤s.size
 |0,_,_,_,h,h'=>⟨by show _<_+8;simp only[nN];omega,h'⟩
 |n+1,s,a,q,h,h'=>by
  by_cases hc:a+8≤s.size
  ·rw[show nN (n+1) s a q=nN n s (a+8) (qo (hv s a 8:Nat) q)from if_pos hc]
   exact FK (by omega) hc
  ·rw[show nN (n+1) s a q=(a,q)from if_neg hc]
   exact⟨by simp only;omega,h'⟩
theorem QQ{k0 k1:Int}{s:ByteArray}:JG k0 k1 s=(let g:=nN s.size s 0 (cN k0 8317987319222330741,cN k1 7237128888997146477,cN k0 7816392313619706465,cN k1 8387220255154660723)
  RD (qo ((hv s g.1 8+s.size%256*72057594037927936:Nat):Int) g.2)):=by
 unfold JG Tx;generalize (cN k0 8317987319222330741,cN k1 7237128888997146477,cN k0 7816392313619706465,cN k1 8387220255154660723)=q;have e:=HI (n:=s.size) (s:=s) (a:=0) (q:=q) (aP _);rw[ByteArray.extract_zero_size]at e;rw[e];have⟨m,k⟩:=FK (n:=s.size) (s:=s) (a:=0) (q:=q) (by omega) (aP _);generalize nN s.size s 0 q=g at m k;obtain⟨a,r⟩:=g;simp only at m k⊢
 rw[Hv (by rw[eh];omega),KM (aj _) (.inl rfl),df];congr 2
 have hc:hv s a 8<2^56:=by
  have e:=GK (s:=s) (d:=1) (c:=7) (p:=a) (by omega);rw[show(7+1:Nat)=8 from rfl]at e
  rw[e];exact FA s 7 a
 have i:RZ (s.size:Int) 56=((s.size%256*2^56:Nat):Int):=by
  unfold RZ;rw[show min ((56:Int)).toNat (IntKind.bits .u64)=56 from rfl,LK]
  rw[show(((s.size%18446744073709551616:Nat):Int)*2^56)=((s.size%18446744073709551616*72057594037927936:Nat):Int) by rw[Int.natCast_mul];rfl,LK]
  omega
 have hm:s.size%256*2^56+hv s a 8<18446744073709551616:=by omega
 have f:∀{a b:Nat},a<18446744073709551616→b<18446744073709551616→Dg a b=Dg b a:=fun j hb=>by rw[De j hb,De hb j,Nat.or_comm]
 rw[i,f (Nat.lt_trans hc (by decide)) (Nat.lt_of_le_of_lt (Nat.le_add_right _ _) hm),Df hc hm,Nat.add_comm]
end Go.Proofs
namespace Go.Proofs
open Go Go.Lift
abbrev Rg(x:Int):Prop:=0≤x∧x<18446744073709551616
theorem QV(x n:Int):Rg (C8 x n):=Av _
theorem sW(x n:Int):Rg (cN x n):=Av _
theorem P5(x n:Int):Rg (P6 x n):=Av _
theorem wM{x:Int}(hx:Rg x){n:Nat}(f:n<64){h:ac}{K:Int→ac→Prop}(c:K (C8 x n) h):HC PG kX [.int .u64 x,.int .i64 (n:Int)] [.c (.int .u64)] K h:=by
 obtain⟨X,rfl⟩:=nf hx.1;have d:X<18446744073709551616:=by have:=hx.2;omega
 rw[QW f d]at c;refine Lq X n ?_;unfold En;refine LoopP.ghost (fun(i:Nat) (t:Int×Int) h'=>t=(((C9 i X:Nat):Int),(i:Int))∧i≤n∧h'=h) (fun i=>n-i) 0 ⟨rfl,aP _,rfl⟩ ?_
 rintro I i t h' ⟨rfl,hi,rfl⟩ g;refine aw (fun a=>?_) fun b=>?_
 ·have a:i<n:=by have:(i:Int)<(n:Int):=a;omega
  have j:=QX i d;refine⟨by decide,?_⟩;have e:IntKind.wrap .u64 (IntKind.wrap .u64 (((C9 i X:Nat):Int)*2)+IntKind.wrap .u64 (jj ((C9 i X:Nat):Int) 9223372036854775808))=((C9 (i+1) X:Nat):Int):=by
   show _=((JQ (C9 i X):Nat):Int)
   unfold JQ;rw[dX (by omega),IntKind.wrap_u64,IntKind.wrap_u64,IntKind.wrap_u64];omega
  simp only[Bd];rw[e,bN a (by omega)];exact g (i+1) _ _ ⟨rfl,a,rfl⟩ (by omega)
 ·obtain rfl:i=n:=by have:¬(i:Int)<(n:Int):=b;omega
  exact c
theorem tK{s:Q4}(f:Rg s.2.1)(g:Rg s.2.2.2){h:ac}{K:Q4→ac→Prop}(c:∀h',Upd No h h'→K (jw s) h'):HC PG jt [.agg #[.int .u64 s.1,.int .u64 s.2.1,.int .u64 s.2.2.1,.int .u64 s.2.2.2]] [.agg [.int .u64,.int .u64,.int .u64,.int .u64]] K h:=by
 refine Ja s ?_;unfold B1 aR cx ad eB om MF MK Pb;refine aV fun e b1 k1=>aV fun i b2 b=>?_
 have c1:=b.get0 b1;have j:=k1.size;refine⟨by decide,_,vc c1 0,by decide,_,vc c1 1,by decide,_,vc c1 2,by decide,_,vc c1 3,?_⟩
 refine wM (n:=13) f (by omega) (wM (n:=32) (P5 _ _) (by omega) (wM (n:=16) g (by omega) (wM (n:=21) (sW _ _) (by omega) (wM (n:=17) (sW _ _) (by omega) (wM (n:=32) (P5 _ _) (by omega) ?_)))));refine cy b2 (by rfl) fun a b3 d=>?_
 refine⟨_,vc b3 0,_,vc b3 1,_,vc b3 2,_,vc b3 3,?_⟩;exact c a ((k1.tr b).own d (by omega))
abbrev Rq(q:Q4):Prop:=Rg q.1∧Rg q.2.1∧Rg q.2.2.1∧Rg q.2.2.2
theorem vI(s:Q4):Rq (jw s):=⟨P5 _ _,sW _ _,QV _ _,sW _ _⟩
theorem OC(m:Int)(s:Q4):Rq (qo m s):=⟨sW _ _,(vI _).2⟩
theorem S3{s:ByteArray}{i:Nat}(h:i<s.size):∃b:UInt8,s[i]? =some b∧Ew s i=b.toNat:=⟨s[i],getElem?_pos s i h,by unfold Ew;rw[dif_pos h]⟩
theorem PL{n:Nat}{s:ByteArray}{a:Nat}{q:Q4}(h:s.size≤a+n)(hc:a+8≤s.size):∃m,nN n s a q=nN m s (a+8) (qo (hv s a 8:Nat) q)∧s.size≤a+8+m:=by
 cases n with
 |zero=>omega
 |succ n=>exact⟨n,if_pos hc,by omega⟩
theorem KY{n:Nat}{s:ByteArray}{a:Nat}{q:Q4}(hc:s.size<a+8):nN n s a q=(a,q):=by
 cases n with
 |zero=>rfl
 |succ n=>exact if_neg (by omega)
theorem Q0{k0 k1:Int}{s:ByteArray}(hs:s.size≤1000000000){h:ac}{K:Int→ac→Prop}(o:∀h',Upd No h h'→K (JG k0 k1 s) h'):HC PG AY [.int .u64 k0,.int .u64 k1,.string s] [.c (.int .u64)] K h:=by
 rw[QQ]at o;refine NX k0 k1 s ?_;unfold F5 aR cx ad eB nv c9 MF MK Sk Nh Pb;simp only[Bd,show((0:Int)).toNat*1=0 from rfl,show((1:Int)).toNat*1=1 from rfl,show((2:Int)).toNat*1=2 from rfl,show((3:Int)).toNat*1=3 from rfl]
 have eq0:∃D:Q4,D=(cN k0 8317987319222330741,cN k1 7237128888997146477,cN k0 7816392313619706465,cN k1 8387220255154660723):=⟨_,rfl⟩;obtain⟨D,T⟩:=eq0;rw[←T]at o;have hq0:Rq D:=by rw[T];exact⟨sW _ _,sW _ _,sW _ _,sW _ _⟩
 refine aV fun h1 b1 k1=>?_
 refine cy b1 (by rfl) fun h2 b2 u2=>?_
 have b2':h2[h.size]? =some (.cells (q4 D) ul (0,0)):=by rw[T];exact b2
 clear b2 T;have hex:∃G:Nat×Q4,G=nN s.size s 0 D:=⟨_,rfl⟩;obtain⟨G,eG⟩:=hex;rw[←eG]at o;simp only at o;refine LoopP.ghost (fun(g:Nat×Q4) (t:Int) h'=>t=(g.1:Int)∧h'[h.size]? =some (.cells (q4 g.2) ul (0,0))∧Upd No h h'∧Rq g.2∧
  ((∃n,nN n s g.1 g.2=G∧s.size≤g.1+n∧g.1≤s.size)∨(s.size<g.1∧g.2=qo ((hv s G.1 8+s.size%256*72057594037927936:Nat):Int) G.2))) (fun g=>s.size+1-g.1) (0,D) ⟨rfl,b2',k1.own u2 (aj _),hq0,.inl ⟨s.size,eG.symm,by omega,aP _⟩⟩ ?_
 rintro I ⟨a,q⟩ t h' ⟨rfl,hb,hu,V,v⟩ hI;simp only at hb V v;refine aw (fun hle=>?_) fun hgt=>?_
 ·have hle:a≤s.size:=by omega
  obtain⟨n,y,hn,_⟩:=v.resolve_right fun h=>by omega
  refine LoopP.ghost (fun(j:Nat) (t:Int×Int) w=>t=(((hv s (a+(8-j)) j:Nat):Int),(7:Int)-(j:Int))∧j≤8∧w=h') (fun j=>8-j) 0 ⟨rfl,by omega,rfl⟩ ?_
  rintro I2 j t w ⟨rfl,hj,rfl⟩ hI2;refine aw (fun Y=>?_) fun X=>?_
  ·have hj7:j≤7:=by have:(7:Int)-(j:Int)≥0:=Y;omega
   have ei:IntKind.wrap .i64 ((a:Int)+(7-(j:Int)))=((a+(7-j):Nat):Int):=by rw[kE (by omega)];omega
   have A:=FA s (j+1) (a+(8-(j+1)));have hp:256^(j+1)≤256^8:=fh (by omega) (by omega);have C:hv s (a+(8-(j+1))) (j+1)=hv s (a+(8-j)) j*256+Ew s (a+(7-j)):=by
    rw[show a+(8-(j+1))=a+(7-j) by omega]
    show hv s (a+(7-j)+1) j*256+_=_
    rw[show a+(7-j)+1=a+(8-j) by omega]
   rw[C]at A;refine Join.intro (fun t P=>t=((hv s (a+(8-(j+1))) (j+1):Nat):Int)∧P=w) (fun R S=>?_) ?_
   ·simp only
    rw[ei];refine aw (fun u=>?_) fun J=>?_
    ·have u:a+(7-j)<s.size:=by omega
     obtain⟨b,hb1,H⟩:=S3 u;refine⟨b,by omega,by rw[aF];exact hb1,S _ _ ⟨?_,rfl⟩⟩
     rw[C,H,IntKind.wrap_u64,IntKind.wrap_u64,IntKind.wrap_u64];rw[H]at A;omega
    ·have hz:Ew s (a+(7-j))=0:=DW (by omega)
     refine S _ _ ⟨?_,rfl⟩;rw[hz]at A;rw[C,hz,IntKind.wrap_u64];omega
   ·rintro t P ⟨rfl,rfl⟩
    simp only;have e7:IntKind.wrap .i64 ((7:Int)-(j:Int)-1)=(7:Int)-((j+1:Nat):Int):=by rw[kE (by omega)];omega
    rw[e7];exact hI2 (j+1) _ _ ⟨rfl,by omega,rfl⟩ (by omega)
  ·obtain rfl:j=8:=by have:¬(7:Int)-(j:Int)≥0:=X;omega
   simp only[nX,df];have h8:=FA s 8 a;have e8:IntKind.wrap .i64 ((a:Int)+8)=((a+8:Nat):Int):=by rw[kE (by omega)];omega
   rw[e8];refine Join.intro (fun(t:Int) P=>P=w∧∃m:Nat,t=(m:Int)∧((a+8≤s.size∧m=hv s a 8)∨(s.size<a+8∧m=hv s a 8+s.size%256*72057594037927936))) (fun R S=>?_) ?_
   ·refine aw (fun u=>?_) fun J=>?_
    ·have u:s.size<a+8:=by omega
     have hc:hv s a 8<2^56:=by
      have e:=GK (s:=s) (d:=1) (c:=7) (p:=a) (by omega);rw[show(7+1:Nat)=8 from rfl]at e
      rw[e];exact FA s 7 a
     refine⟨by decide,S _ _ ⟨rfl,_,?_,.inr ⟨u,rfl⟩⟩⟩;rw[lj (by omega),IntKind.wrap_u64,IntKind.wrap_u64,IntKind.wrap_u64];omega
    ·exact S _ _ ⟨rfl,_,rfl,.inl ⟨by omega,rfl⟩⟩
   ·rintro t P ⟨rfl,m,rfl,hm⟩
    refine⟨by decide,_,vc hb 3,by decide,?_⟩
    refine yP (i:=3) (c':=q4 (q.1,q.2.1,q.2.2.1,cN q.2.2.2 (m:Int))) hb (show 3<4 by decide) rfl fun h4 k u4=>?_
    refine⟨_,vc k 0,_,vc k 1,_,vc k 2,_,vc k 3,?_⟩;refine tK (s:=(q.1,q.2.1,q.2.2.1,cN q.2.2.2 (m:Int))) V.2.1 (sW _ _) fun h5 O=>?_
    have f:=vI (q.1,q.2.1,q.2.2.1,cN q.2.2.2 (m:Int));have et:qo (m:Int) q=(cN (jw (jw (q.1,q.2.1,q.2.2.1,cN q.2.2.2 (m:Int)))).1 m,(jw (jw (q.1,q.2.1,q.2.2.1,cN q.2.2.2 (m:Int)))).2):=rfl;refine tK f.2.1 f.2.2.2 fun h6 E=>?_
    obtain⟨r,U⟩:∃r,r=jw (jw (q.1,q.2.1,q.2.2.1,cN q.2.2.2 (m:Int))):=⟨_,rfl⟩;rw[←U]at et⊢;have b6:=E.get0 (O.get0 k);have z6:=bF b6;refine cy (vs:=(q4 r).toList) b6 rfl fun h7 b7 u7=>?_
    have Q:h7[h.size]? =some (.cells (q4 r) ul (0,0)):=b7;refine⟨by decide,_,vc Q 0,by decide,?_⟩
    refine yP (i:=0) (c':=q4 (cN r.1 m,r.2)) Q (show 0<4 by decide) rfl fun h8' W u8=>?_
    have uu:Upd No h h8':=((((hu.own u4 (aj _)).tr O).tr E).own u7 (aj _)).own u8 (aj _);rw[←et]at W;refine hI (a+8,qo m q) _ _ ⟨rfl,W,uu,OC _ _,?_⟩ (by simp only;omega);rcases hm with⟨hc,rfl⟩|⟨hc,rfl⟩
    ·obtain⟨n',hd,Z⟩:=PL hn hc
     exact .inl ⟨n',hd.symm.trans y,Z,hc⟩
    ·refine .inr ⟨by simp only;omega,?_⟩
     have:=KY (n:=n) (q:=q) hc;rw[y]at this;rw[this]
 ·obtain⟨_,eq⟩:=v.resolve_left fun⟨_,_,_,h⟩=>by omega
  rw[←eq]at o;clear eq v;refine⟨by decide,_,vc hb 2,by decide,?_⟩
  refine yP (i:=2) (c':=q4 (q.1,q.2.1,cN q.2.2.1 255,q.2.2.2)) hb (show 2<4 by decide) rfl fun h4 k u4=>?_
  refine⟨_,vc k 0,_,vc k 1,_,vc k 2,_,vc k 3,?_⟩;have ef:RD q=SU (jw (jw (jw (jw (q.1,q.2.1,cN q.2.2.1 255,q.2.2.2))))):=rfl;rw[ef]at o;refine tK (s:=(q.1,q.2.1,cN q.2.2.1 255,q.2.2.2)) V.2.1 V.2.2.2 fun h5 O=>?_
  have f:=vI (q.1,q.2.1,cN q.2.2.1 255,q.2.2.2);obtain⟨r1,L⟩:∃r,r=jw (q.1,q.2.1,cN q.2.2.1 255,q.2.2.2):=⟨_,rfl⟩;rw[←L]at o f⊢;clear L;refine tK f.2.1 f.2.2.2 fun h6 E=>?_
  have z:=vI r1;obtain⟨r2,F⟩:∃r,r=jw r1:=⟨_,rfl⟩;rw[←F]at o z⊢;clear F;refine tK z.2.1 z.2.2.2 fun h7 k7=>?_
  have B:=vI r2;obtain⟨r3,N⟩:∃r,r=jw r2:=⟨_,rfl⟩;rw[←N]at o B⊢;clear N;refine tK B.2.1 B.2.2.2 fun h8 k8=>?_
  obtain⟨r,U⟩:∃r,r=jw r3:=⟨_,rfl⟩;rw[←U]at o⊢;clear U;have W:=k8.get0 (k7.get0 (E.get0 (O.get0 k)));refine cy (vs:=(q4 r).toList) W rfl fun h9 b9 u9=>?_
  have x:h9[h.size]? =some (.cells (q4 r) ul (0,0)):=b9;refine⟨by decide,_,vc x 0,by decide,_,vc x 1,by decide,_,vc x 2,by decide,_,vc x 3,?_⟩
  exact o h9 ((((((hu.own u4 (aj _)).tr O).tr E).tr k7).tr k8).own u9 (aj _))
theorem O5{x:Hs}{s:ByteArray}(d:s.size≤1000000000){h:ac}{K:Int→ac→Prop}(b:∀h',Upd No h h'→K (im x s) h'):HC PG yh [.agg #[.int .u64 x.k0,.int .u64 x.k1,.int .u64 x.mask],.string s] [.c (.int .u64)] K h:=by
 refine Ln (x.k0,x.k1,x.mask) s ?_;unfold Ek ad Cv Sf;refine aV fun e b1 k1=>⟨_,vc b1 0,_,vc b1 1,_,vc b1 2,Q0 d fun c a=>⟨vc (a.get0 b1) 2,?_⟩⟩
 exact b c (k1.tr a)
theorem SG{hv:Int}(f:0≤hv∧hv<18446744073709551616){lev:Nat}(k:lev<13){h:ac}{K:Int→ac→Prop}(c:K (((hv.toNat>>>(5*lev))%32:Nat):Int) h):HC PG zo [.int .u64 hv,.int .i64 lev] [.c (.int .i64)] K h:=by
 obtain⟨n,rfl⟩:=nf f.1;rw[aF]at c;refine Qb n lev ?_;unfold Jk;refine Join.plain (aw (fun h=>by omega) fun _=>?_)
 rw[decide_eq_false (by omega)];refine ah.2 ?_;refine LoopP.ghost (fun(i:Nat) (t:Int×Int) h'=>t=(((n>>>(5*i):Nat):Int),(i:Int))∧i≤lev∧h'=h) (fun i=>lev-i) 0 ⟨rfl,aP _,rfl⟩ ?_
 rintro I i t h' ⟨rfl,hi,rfl⟩ j;refine aw (fun a=>?_) fun b=>?_
 ·have a:i<lev:=by have:(i:Int)<(lev:Int):=a;omega
  have d:n>>>(5*i)≤n:=Nat.shiftRight_le _ _;have e:n>>>(5*(i+1))=n>>>(5*i)/32:=by rw[Nat.mul_add,Nat.shiftRight_add,Nat.shiftRight_eq_div_pow _ (5*1)]
  have m:n<18446744073709551616:=by have:=f.2;omega
  have g:IntKind.wrap .u64 (jj ((n>>>(5*i):Nat):Int) 32)=((n>>>(5*(i+1)):Nat):Int):=by
   rw[e];generalize n>>>(5*i)=y at d;rw[dX (by omega),IntKind.wrap_u64];omega
  refine⟨by decide,?_⟩;simp only;rw[g,bN a (by omega)];exact j (i+1) _ _ ⟨rfl,a,rfl⟩ (by omega)
 ·obtain rfl:i=lev:=by have:¬(i:Int)<(lev:Int):=b;omega
  refine⟨by decide,?_⟩;simp only;generalize n>>>(5*i)=y at c;rw[lj (by omega),kE (by omega)];exact_mod_cast c
theorem TA{x:Hs}{k:ByteArray}{lev:Nat}(a:lev<13){h:ac}{K:Int→ac→Prop}(b:K (ck x lev k:Int) h):HC PG zo [.int .u64 (im x k),.int .i64 lev] [.c (.int .i64)] K h:=SG (BG x k) a b
end Go.Proofs
