/- A part of the proof that the named laws of this program answer true, whatever the input. -/
import Derived.Test.YtakmnggbneeicaaGreatPart1
open Go.IntKind renaming wrap→ac
open Int renaming le_refl→fE,toNat_natCast→bf
open List renaming flatMap_cons→aU,take_succ_eq_append_getElem→av,mem_append→aF,mem_singleton→al,length_drop→aX,length_singleton→bh,drop_zero→cE,length_take→aQ,length_cons→au,mem_map→aP,length_filter_le→bF,mem_cons_self→ar,pairwise_cons→ay,mem_cons→aq,getElem_mem→aH,drop_eq_getElem_cons→fL,getElem_map→ir,take_append_drop→bJ,getElem_of_mem→bD,getElem_take→oN,pairwise_iff_getElem→bR,mem_cons_of_mem→ax,map_cons→bX,pairwise_append→ct,any_eq_true→bT,mem_filter→bE,append_eq_nil_iff→ia,append_nil→be,length_set→gK,getElem_set→pA,mem_of_getElem→mD,take_succ_cons→fu,drop_succ_cons→d8,append_assoc→aE,drop_left'→cA
open List.Pairwise renaming nil→cf
open Nat renaming zero_le→aN,le_refl→ai,le_trans→aW,not_lt→de,lt_of_lt_of_le→az,le_of_eq→cC,lt_or_ge→cr,le_of_lt→oJ,zero_add→aO
open Option renaming isSome_iff_exists→gj,some→bK
open UInt8 renaming toNat_inj→ni
namespace Go.Proofs
open Go.Lift
theorem vt{α:Type}{p:α→Bool}:∀(l:List α) (i:Nat),i≤l.length→(∀v∈l.take i,p v=true)→(∀h:i<l.length,p l[i]=false)→l.takeWhile p=l.take i∧l.dropWhile p=l.drop i
 | [],i,_,_,_=>by simp
 |x::l,0,_,_,h=>by
  have:=h (by simp);simp only[List.getElem_cons_zero]at this;simp[this]
 |x::l,i+1,hi,h1,h2=>by
  have hx:=h1 x (by simp);have:=vt l i (by simpa using hi) (fun v hv=>h1 v (by simp[hv])) (fun h=>h2 (by simpa using h))
  simp[hx,this]
theorem qW:∀xs:List (Int×SliceV),cx (xs.flatMap vf)=true
 | []=>rfl
 |x::xs=>by rw[aU];exact qW xs
theorem MK{W:Nat→Prop}{h:ad}{u:Nat}{L:cT}{nx:Int}(g:RefAt W h u L nx)(hL:L.length≤100000){id:Int}(hid:0≤id∧id<4294967295){s:SliceV}{ps:List Int}(hs:Nums W h s ps)(hn:ps.length*4≤140737488355328)
  {K:Unit→ad→Prop}(hk:∀h',Upd (· =u) h h'→RefAt W h' u (um L id ps) (if nx≤id then id+1 else nx)→K () h'):
  dd 191 [gS u,.int .u32 id,.slice s.a s.len s.cap] K h:=by
 refine cW (Bh (some ⟨u,0,none⟩) id s) Ku Tryz.func191 Tryz.call191 ?_;dsimp only[Bh,dR,cV,cg,IS,MW,jA,fQ,cH,l8,gU,mN,sQ,zC];obtain⟨C,t0,Ls,h1,z,h3,F⟩:=g.blk;have D:=h3.len;have y:=g.lt;refine LoopP.ghost (fun(i:Nat) (t:Int) h'=>t=(i:Int)∧h'=h∧i≤L.length∧∀v∈L.take i,decide (v.1<id)=true) (fun i=>L.length-i) 0 ⟨rfl,rfl,aN _,by simp⟩ ?_
 rintro I i t h' ⟨rfl,rfl,hi,hp⟩ hI;have c0:aK h' (adr ⟨u,0,none⟩ 0)=some (.slice C.a C.len C.cap):=by rw[ce,bd h1];rfl
 refine Join.intro (fun t z=>z=h'∧(t=true→∃y:i<L.length,L[i].1<id)∧(t=false→∀y:i<L.length,¬L[i].1<id)) (fun R hR=>?_) ?_
 ·refine⟨_,rfl,C,c0,ao (fun A=>?_) fun A=>?_⟩
  ·rw[z.len,D]at A
   have A:i<L.length:=by omega
   obtain⟨a,ha,c1,_⟩:=Jd z (D▸A);refine⟨_,rfl,C,c0,by rw[z.len,D];omega,a,ha,_,c1,hR _ _ ⟨rfl,?_⟩⟩
   rw[(h3.get (D▸A) A).1];exact⟨fun e=>⟨A,by simpa using e⟩,fun e _=>by simpa using e⟩
  ·rw[z.len,D]at A
   exact hR _ _ ⟨rfl,fun e=>(by cases e),fun _ h5=>(by omega)⟩
 ·rintro t x ⟨rfl,e1,e2⟩
  refine CondP.intro (fun e=>?_) fun e=>?_
  ·obtain⟨A,h5⟩:=e1 e
   rw[cp A (by omega)];refine hI (i+1) _ _ ⟨rfl,rfl,A,?_⟩ (by omega);rw[av A];intro v hv;rcases aF.1 hv with P|P
   ·exact hp v P
   ·rw[al.1 P];exact decide_eq_true h5
  ·obtain⟨w1,w2⟩:=vt (p:=fun v=>decide (v.1<id)) L i hi hp (fun A=>decide_eq_false (e2 e A))
   have Y:um L id ps=L.take i++(id,ps)::L.drop i:=by unfold um;rw[w1,w2]
   refine Join.plain ?_;refine⟨_,rfl,C,c0,by rw[z.len,D];omega,?_⟩
   have k1:=Upd.hnew No x [] 31;refine⟨k1.cell0 c0,_,(hs.upd k1 fun _ h=>h.elim).srow,?_⟩
   refine AppP.own (f:=u32) (M:=fun b=>x.size≤b) (xs:= []) (ys:=ps) ⟨rfl,jp,ai _,.inl rfl⟩ hs.len rfl (om ps) rfl (by omega) (by simpa using hn) (by rw[dC];omega) fun j n o18 k2=>?_
   have H:Upd No x n:=k1.trans k2 fun b hb=>.inr hb
   have c19:=H.cell0 c0;refine⟨c19,?_⟩;have k3:=Upd.hnew No n [.int .u32 id,.slice j.a j.len j.cap] 129;have Z:=H.tr k3;have h2a:Sl vf 2 W _ C Ls:=z.upd Z fun _ h=>h.elim
   refine⟨Z.cell0 c0,_,(h2a.sub (l:=i) (hi:=C.len) (m:=C.cap) (c:=0) (by rw[z.len,D];exact hi) (by rw[z.len];exact ai _) F).srow,?_⟩;have er:(Ls.drop i).take (C.len-i)=Ls.drop i:=by rw[z.len];exact List.take_of_length_le (by simp)
   rw[er];have hnw:=bU n [.int .u32 id,.slice j.a j.len j.cap] 129;refine AppP.own (f:=vf) (M:=fun b=>n.size≤b) (xs:= [(id,j)]) (ys:=Ls.drop i) ⟨rfl,KM,ai _,.inr ⟨n.size,[],rfl,ai _,hnw,rfl⟩⟩
    (by rw[aX,z.len];rfl) rfl (qW _) rfl (by omega) (by rw[aX,D];simp only[bh];omega) (by rw[dC];omega) fun s22 o o22 k4=>?_
   have V:Upd (fun b=>n.size≤b) n o:=k3.wide.tr k4
   have q:Upd No x o:=H.trans V fun b hb=>.inr (aW H.size hb)
   refine⟨q.cell0 c0,Join.plain ?_⟩;have k5:=Upd.hnew No o [] 129;refine⟨_,rfl,C,(q.tr k5).cell0 c0,by rw[z.len,D]at F;omega,?_⟩
   have h2b:Sl vf 2 W _ C Ls:=z.upd (q.tr k5) fun _ h=>h.elim
   refine⟨_,(h2b.sub (l:=0) (hi:=i) (m:=C.cap) (c:=0) (by omega) (by omega) (by rw[z.len,D]at F;omega)).srow,?_⟩;rw[cE,Nat.sub_zero];refine AppP.own (f:=vf) (M:=fun b=>o.size≤b) (xs:= []) (ys:=Ls.take i) ⟨rfl,KM,ai _,.inl rfl⟩ (by rw[aQ];simp;omega) rfl (qW _) rfl (by omega)
    (by rw[aQ];simp only[List.length_nil];omega) (by rw[dC];omega) fun s31 h32 o31 k6=>?_
   have O:Upd (fun b=>o.size≤b) o h32:=k5.wide.tr k6
   have hr:Sl vf 2 (fun b=>o.size≤b) o s22 ((id,j)::Ls.drop i):=o22.sl fun b _ y=>Nat.not_le.2 y
   refine⟨_,(hr.upd O fun b hb=>.inl hb).srow,?_⟩
   refine AppP.own (f:=vf) (M:=fun b=>o.size≤b) (xs:=Ls.take i) (ys:=(id,j)::Ls.drop i) o31 hr.len rfl (qW _) rfl (by omega)
    (by rw[aQ,au,aX];omega) O.size fun d w T k7=>?_
   have U:Upd (fun b=>o.size≤b) o w:=O.tr k7
   have G:Upd No x w:=q.trans U fun b hb=>.inr (aW q.size hb)
   have N:=G.get0 h1;refine⟨_,rfl,by rw[ce];exact eC N (by simp),?_⟩
   have e0:adr ⟨u,0,none⟩ 0=⟨u,0,none⟩:=rfl;rw[e0];have k8:Upd (· =u) w (hset w ⟨u,0,none⟩ (.slice d.a d.len d.cap)):=Upd.hset _ _ rfl
   have E:(hset w ⟨u,0,none⟩ (.slice d.a d.len d.cap))[u]? =some (.cells #[.slice d.a d.len d.cap,.int .u32 nx] t0 (0,0)):=by
    rw[ju N,dE N];rfl
   have kx:Upd (· =u) x (hset w ⟨u,0,none⟩ (.slice d.a d.len d.cap)):=G.wide.tr k8
   have X:∀b,b=u→W b∨x.size≤b:=fun b hb=>.inl (hb▸g.wp)
   have J:∀{h':ad},Upd (· =u) w h'→Sl vf 2 W h' d (Ls.take i++(id,j)::Ls.drop i)∧Par W h' (Ls.take i++(id,j)::Ls.drop i) (um L id ps):=fun{h'} k=>by
    refine⟨?_,?_⟩
    ·refine(T.sl (W:=W) fun b hb _ S=>absurd (y b S) (de.2 (aW q.size hb))).upd k fun b hb=>.inl (hb▸g.wp)
    ·have kk:Upd (· =u) x h':=G.wide.tr k
     rw[Y];refine Par.app (Par.upd kk X (h3.take i)) ⟨rfl,?_,Par.upd kk X (h3.drop i)⟩;have Q:Nums (fun b=>W b∨n.size≤b) n j ps:=o18.sl fun b hb D S=>S.elim (fun S=>absurd (y b S) (de.2 hb)) fun hge=>absurd D (de.2 hge)
     have k19':Upd (fun b=>W b∨n.size≤b) n h':=((V.mono fun b hb=>.inl (.inr hb)).tr (U.mono fun b hb=>.inr hb)).tr (k.mono fun b hb=>.inl (.inl (hb▸g.wp)))
     exact(Q.upd k19' fun b hb=>.inl hb).less fun b hb=>.inl (.inl hb)
   have B:=T.cap;refine⟨_,rfl,nx,by rw[ce,bd E];rfl,ao (fun P=>?_) fun P=>?_⟩
   ·refine⟨_,rfl,eC E (by simp),?_⟩
    rw[show ac .u32 (id+1)=id+1 from Go.IntWalk.u32_in _ (by omega)]
    rw[if_pos P]at hk;have k9:Upd (· =u) _ (hset (hset w ⟨u,0,none⟩ (.slice d.a d.len d.cap)) ⟨u,1,none⟩ (.int .u32 (id+1))):=Upd.hset _ _ rfl
    obtain⟨f1,f2⟩:=J (k8.tr k9);refine hk _ (kx.tr k9) ⟨⟨d,t0,_,?_,f1,f2,B⟩,g.wp,fun b hb=>az (y b hb) (kx.tr k9).size⟩
    rw[ce,ju E,dE E];rfl
   ·rw[if_neg P]at hk
    obtain⟨f1,f2⟩:=J k8;exact hk _ kx ⟨⟨d,t0,_,E,f1,f2,B⟩,g.wp,fun b hb=>az (y b hb) kx.size⟩
theorem Ui{W:Nat→Prop}{h:ad}{d:Nat}{L:cT}{nx:Int}(g:RefAt W h d L nx)(q:0≤nx)(o:L.length≤100000){s:SliceV}{ps:List Int}(i:Nums W h s ps)(p:ps.length*4≤140737488355328)
  {K:Int×Int→ad→Prop}(b:∀h',Upd (· =d) h h'→RefAt W h' d (eZ L nx ps).2.1 (eZ L nx ps).2.2→K (eZ L nx ps).1 h'):
  Eu 132 [gS d,.slice s.a s.len s.cap] K h:=by
 refine cW (IH (some ⟨d,0,none⟩) s) .nil Tryz.func132 Tryz.call132 ?_;dsimp only[IH,yR,W3,zC,dR,cH];refine Uh i (CondP.intro (fun a=>?_) fun a=>?_)
 ·have a:uk ps≠0:=by simpa using a
  rw[show eZ L nx ps=_ from if_pos a]at b
  exact b h (Upd.refl _ _) g
 ·have a:¬uk ps≠0:=by simpa using a
  refine PY g (by omega) i (by omega) fun h' e=>?_
  have f:=g.upd0 e;have m:=i.upd e fun _ h=>h.elim
  refine CondP.intro (fun c=>?_) fun c=>?_
  ·have c:nK L ps≠0:=by simpa using c
   rw[show eZ L nx ps=_ from(if_neg a).trans (if_pos c)]at b
   exact b h' e.wide f
  ·have c:¬nK L ps≠0:=by simpa using c
   obtain⟨v,u,Ls,b1,_⟩:=f.blk;have c1:aK h' (adr ⟨d,0,none⟩ 1)=some (.int .u32 nx):=by rw[ce,bd b1];rfl
   refine⟨_,rfl,_,c1,ao (fun j=>?_) fun j=>?_⟩
   ·rw[show eZ L nx ps=_ from(if_neg a).trans ((if_neg c).trans (if_pos j))]at b
    exact b h' e.wide f
   ·refine⟨_,rfl,_,c1,MK f o (by omega) m p fun t k n=>?_⟩
    rw[show eZ L nx ps=_ from(if_neg a).trans ((if_neg c).trans (if_neg j))]at b
    rw[if_pos (fE nx)]at n;exact b _ (e.wide.tr k) n
end Go.Proofs
namespace Go.Proofs
open Go.Lift
abbrev iv(n:Int):Value:=.int .i64 n
theorem M8{M:Nat→Prop}(h:ad)(x:Int)(a:M h.size):OwnS u32 1 31 M (hnew h [.int .u32 x] 31) ⟨some (aL h),1,1⟩ [x]:=
 ⟨rfl,jp,ai _,.inr ⟨h.size,[],rfl,a,bU ..,rfl⟩⟩
structure Small(L:cT):Prop where
 two:∀v∈L,v.2.length≤2
 len:L.length≤100000
theorem zo{W:Nat→Prop}{h:ad}{gp gm:Nat}{L:cT}{nx:Int}(g:GraphAt W h gp gm L nx)(d:Small L)(a:Int)
  {K:Option Nat→ad→Prop}(j:∀r h' m,h.size≤r→MapAt KE iv h' r m→(∀y,y∈m.map (·.1)↔UpG L a y)→(∀y v,bC m y=some v→v=1)→Upd No h h'→K (some r) h'):
  N0 44 [gS gp,.slice (some (aL h)) 1 1] K (hnew h [.int .u32 a] 31):=by
 have k:=Upd.hnew No h [.int .u32 a] 31;have o:=g.more (Q:=(· =h.size)) k fun b hb=>by rw[dC];omega
 have c:∀b,W b→b≠h.size:=fun b hb e=>absurd (g.lt b hb) (by omega)
 refine H9 (Q:=(· =h.size)) o (fun b hb=>⟨.inr hb,fun e=>c _ g.wp (e▸hb),fun e=>c _ g.wm (e▸hb)⟩) d.two d.len (s:=⟨some (aL h),1,1⟩) (M8 h a (.inl rfl)) (by simp) fun r h' m f hm i n p=>?_
 refine j r h' m (by rw[dC]at f;omega) hm (fun y=>(i y).trans ?_) n (k.trans p fun b hb=>.inr (cC hb.symm))
 simp
theorem Ia{W:Nat→Prop}{h:ad}{gp gm:Nat}{L:cT}{nx:Int}(g:GraphAt W h gp gm L nx)(d:Small L)(a c:Int)
  {K:Bool→ad→Prop}(f:∀b h',(b=true↔UpG L a c)→Upd No h h'→K b h'):
  fI 13 [gS gp,.int .u32 a,.int .u32 c] K h:=by
 refine cW (qQ (some ⟨gp,0,none⟩) a c) .nil Tryz.func13 Tryz.call13 ?_;dsimp only[qQ,qs];refine zo g d a fun r h' m k hm e i j=>⟨_,_,hm.get c 0,f _ _ ?_ j⟩
 rw[←e c];cases hl:bC m c with
 |none=>simp[dN.1 hl]
 |some v=>
  rw[i c v hl];simp only[Option.getD_some,gt_iff_lt,Int.zero_lt_one,decide_true,true_iff];exact aP.2 ⟨_,(eB hm.nodup).1 hl,rfl⟩
theorem AS{κ β:Type}[DecidableEq κ]{l:List (κ×β)}{k:κ}{v:β}(hm:(k,v)∈l):(jP l k).length<l.length:=by
 unfold jP;exact List.length_filter_lt_length_iff_exists.2 ⟨_,hm,by simp⟩
theorem G9{h:ad}{r:Nat}{m:List (Int×Int)}(hm:MapAt KE iv h r m){D:Value}(p:Int→Int→Bool)
  (O:∀h' k v (K:Bool→ad→Prop),Upd (· =r) h h'→bC m k=some v→(∀q,Upd No h' q→K (p k v) q)→HV PG D [.int .u32 k,.int .i64 v] [.c .bool] K h')
  {K:Unit→ad→Prop}(P:∀h' m',Upd (· =r) h h'→MapAt KE iv h' r m'→(∀y,bC m' y=(bC m y).filter fun v=> !p y v)→K () h'):
  dd 118 [.map (some r),D] K h:=by
 refine cW (ik (some r) D) mW Tryz.func118 Tryz.call118 ?_;dsimp only[ik,nZ,Mq];obtain⟨c,⟨es,E⟩,x⟩:=hm.range;refine⟨c,.inr ⟨r,es,rfl,E⟩,?_⟩;refine LoopP.ghost (fun(g:List (Int×Int)×List (Int×Int)) (_:Unit) h'=>IterSt KE iv h' h.size r g.1 g.2∧Upd (· =r) h h'∧(∀y v,bC g.2 y=some v→bC m y=some v)∧
   (∀y,bC g.1 y=if(bC g.2 y).isSome then bC m y else(bC m y).filter fun v=> !p y v)) (fun g=>g.2.length) (m,m) ⟨x,(Upd.push _ h _),fun _ _ e=>e,fun y=>?_⟩ ?_
 ·cases bC m y<;>simp
 ·rintro I ⟨w,d⟩ ⟨⟩ h' ⟨hi,J,ht,a⟩ H
  (try simp only at hi ht a)
  have B:=hi.nodup;refine NextP.at (M:=(· =h.size)) hi rfl (fun N=>?_) fun k v i e q ek L hit z C=>?_
  ·subst N
   refine P h' w J hi.at fun y=>?_
   rw[a y];rfl
  ·refine⟨rfl,e,k,v,hit,ek,L,?_⟩
   have u:Upd (· =r) h q:=J.trans C fun b hb=>.inr (cC hb.symm)
   have s:bC d k=some v:=(eB B).2 i;have n:=ht k v s;refine O q k v _ u n fun Q t=>?_
   have j:=z.upd t id id;have o:=u.tr t.wide;refine CondP.intro (fun A=>?_) fun A=>?_
   ·refine .inr ⟨r,rfl,j.at.isMap,?_⟩
    have F:=j.del k;refine H (jP w k,jP (jP d k) k) () _ ⟨F,o.tr (uD _ _ rfl),fun y G f=>?_,fun y=>?_⟩ ?_
    ·simp only[nM]at f
     split at f
     ·cases f
     ·exact ht y G f
    ·simp only[nM]
     by_cases f:y=k
     ·subst f;rw[if_pos rfl,if_pos rfl,n];simp[Option.filter,A]
     ·simp only[f,if_false];exact a y
    ·show(jP (jP d k) k).length<d.length
     exact Nat.lt_of_le_of_lt (bF ..) (AS i)
   ·refine H (w,jP d k) () _ ⟨j,o,fun y G f=>?_,fun y=>?_⟩ (AS i)
    ·simp only[nM]at f
     split at f
     ·cases f
     ·exact ht y G f
    ·simp only[nM]
     by_cases f:y=k
     ·subst f;rw[if_pos rfl,a y,s,n];simp[Option.filter,A]
     ·simp only[f,if_false];exact a y
theorem SY{W:Nat→Prop}{h:ad}{gp gm:Nat}{L:cT}{nx:Int}(g:GraphAt W h gp gm L nx)(hs:Small L)(a b:Int)
  {K:Int×Bool→ad→Prop}(hk:∀best h',(∀c,UpG L a c→UpG L b c→c≤best)→(best=0∨UpG L a best∧UpG L b best)→0≤best→Upd No h h'→K (best,decide (best>0)) h'):
  G8 69 [gS gp,.int .u32 a,.int .u32 b] K h:=by
 refine cW (sA (some ⟨gp,0,none⟩) a b) zV Tryz.func69 Tryz.call69 ?_;dsimp only[sA,Mq,qs];refine zo g hs a fun r1 h3 m1 hr1 z T ho1 J=>?_
 have g3:=g.upd0 J;refine zo g3 hs b fun O f G hr2 x X ho2 n=>?_
 have p:=z.upd n id;have k7:=Upd.hnew No f [.map none] 105;have Q:=bU f [.map none] 105;refine⟨by rw[cz];exact eC Q (by simp),?_⟩;have k8:Upd (· =f.size) (hnew f [.map none] 105) (hset (hnew f [.map none] 105) (aL f) (.map (some O))):=Upd.hset _ _ rfl
 have b8:(hset (hnew f [.map none] 105) (aL f) (.map (some O)))[f.size]? =some (.cells #[.map (some O)] 105 (0,0)):=by
  rw[cz,ju Q,dE Q];rfl
 have s:Upd No f (hset (hnew f [.map none] 105) (aL f) (.map (some O))):=k7.trans k8 fun b hb=>.inr (cC hb.symm)
 have l1:=z.lt;have l2:=x.lt;have l6:=p.lt;refine G9 (p.upd s id) (fun k _=>decide ((bC G k).getD 0=0)) (fun h' k v K' P hk1 Z=>?_) fun m A N U w=>?_
 ·refine HV.mk' (cW (qg k v ⟨f.size,0,none⟩) .nil Tryz.func119 Tryz.call119 ?_)
  unfold qg;have F:=(x.upd s id).upd P (fun e=>by omega)
  refine⟨some O,by rw[bd (P.get b8 (by omega))];rfl,_,_,F.get k 0,?_⟩
  have e:((bC G k).getD 0==(0:Int))=decide ((bC G k).getD 0=0):=by
   rw[Bool.eq_iff_iff,decide_eq_true_iff];simp
  rw[e];exact Z h' (Upd.refl _ _)
 ·have D:∀y,(∃v,bC A y=some v)↔UpG L a y∧UpG L b y:=fun y=>by
   rw[w y,←T y,←X y];cases C:bC m1 y with
   |none=>simp[dN.1 C]
   |some v=>
    have S:y∈m1.map (·.1):=aP.2 ⟨_,(eB z.nodup).1 C,rfl⟩
    cases j:bC G y with
    |none=>simp[dN.1 j,Option.filter]
    |some u=>
     have R:y∈G.map (·.1):=aP.2 ⟨_,(eB x.nodup).1 j,rfl⟩
     have:=ho2 y u j;subst this;simp only[S,R,and_self,iff_true];exact⟨v,rfl⟩
  have q:Upd No h m:=((J.tr n).tr s).trans N fun b hb=>.inr (by omega)
  obtain⟨c,⟨es,hes⟩,V⟩:=U.range;refine⟨c,.inr ⟨r1,es,rfl,hes⟩,?_⟩;refine LoopP.ghost (fun(d:List (Int×Int)) (t:Int) h'=>IterSt KE iv h' m.size r1 A d∧Upd No h h'∧(∀y v,bC A y=some v→bC d y=none→y≤t)∧(t=0∨∃v,bC A t=some v)∧0≤t∧
    (∀y v,bC d y=some v→bC A y=some v)) (fun d=>d.length) A ⟨V,q.tr (Upd.push _ _ _),fun y v C j=>(by rw[C]at j;cases j),.inl rfl,fE _,fun _ _ e=>e⟩ ?_
  rintro I d t h' ⟨hi,P,H,i,h0,o⟩ hI;have hnd:=hi.nodup;have hge:h.size≤m.size:=q.size;refine NextP.at (M:=(· =m.size)) hi rfl (fun he=>?_) fun k v E e h2 ek ev hit Y n=>?_
  ·subst he
   refine hk t h' (fun c S R=>?_) ?_ h0 P
   ·obtain⟨v,hv⟩:=(D c).2 ⟨S,R⟩
    exact H c v hv rfl
   ·exact i.imp id fun hb=>(D t).1 hb
  ·have hlk:bC d k=some v:=(eB hnd).2 E
   refine⟨rfl,e,k,v,hit,ek,ev,hI (jP d k) _ _ ⟨Y,P.trans n fun b hb=>.inr (by omega),fun y u C j=>?_,?_,?_,fun y u B=>?_⟩ (AS E)⟩
   ·rw[nM]at j
    split at j
    ·rename_i B;subst B;split<;>omega
    ·have:=H y u C j;split<;>omega
   ·split
    ·exact .inr ⟨v,o k v hlk⟩
    ·exact i
   ·split<;>omega
   ·rw[nM]at B
    split at B
    ·cases B
    ·exact o y u B
end Go.Proofs
namespace Go.Proofs
open Go.Lift
structure Good(L:cT):Prop extends Small L where
 up:(dF L).Pairwise (· < ·)
 par:∀v∈L,∀p∈v.2,p∈dF L∧p<v.1
theorem Good.nd{L:cT}(g:Good L):(dF L).Nodup:=g.up.imp fun h=>Int.ne_of_lt h
theorem Good.parV{L:cT}(g:Good L){a p:Int}(h:p∈parV L a):p∈dF L∧p<a∧a∈dF L:=by
 unfold Proofs.parV at h;cases hl:bC L a with
 |none=>rw[hl]at h;simp at h
 |some ps=>
  rw[hl]at h;have hm:=(eB g.nd).1 hl;have:=g.par _ hm p (by simpa using h);exact⟨this.1,this.2,aP.2 ⟨_,hm,rfl⟩⟩
theorem UpG.snoc{L:cT}{a z w:Int}(h:UpG L a z)(b:w∈Proofs.parV L z)(hi:w∈dF L):UpG L a w:=by
 induction h with
 |refl h1=>exact .step h1 b (.refl hi)
 |step h1 h2 _ ih=>exact .step h1 h2 (ih b)
theorem UpG.right{L:cT}{a b:Int}(h:UpG L a b):b∈dF L:=by
 induction h with
 |refl h=>exact h
 |step _ _ _ ih=>exact ih
theorem UpG.last{L:cT}{a b:Int}(h:UpG L a b):b=a∨∃z,UpG L a z∧b∈Proofs.parV L z:=by
 induction h with
 |refl _=>exact .inl rfl
 | @step a p b h1 h2 h3 ih=>
  rcases ih with rfl|⟨z,c,hb⟩
  ·exact .inr ⟨a,.refl h1,h2⟩
  ·exact .inr ⟨z,.step h1 h2 c,hb⟩
theorem UpG.le{L:cT}(g:Good L){a b:Int}(h:UpG L a b):b≤a:=by
 induction h with
 |refl _=>exact fE _
 |step _ h2 _ ih=>have:=(g.parV h2).2.1;omega
theorem UpG.trans{L:cT}{a b c:Int}(h:UpG L a b)(k:UpG L b c):UpG L a c:=by
 induction h with
 |refl _=>exact k
 |step h1 h2 _ ih=>exact .step h1 h2 (ih k)
theorem E4:∀{xs ys:List Int},xs.Pairwise (· < ·)→ys.Pairwise (· < ·)→(∀y,y∈xs↔y∈ys)→xs=ys
 | [],[],_,_,_=>rfl
 | [],y::ys,_,_,h=>by have:=(h y).2 (ar ..);cases this
 |x::xs,[],_,_,h=>by have:=(h x).1 (ar ..);cases this
 |x::xs,y::ys,hx,hy,h=>by
  rw[ay]at hx hy;have e:x=y:=by
   rcases aq.1 ((h x).1 (ar ..))with e|e
   ·exact e
   ·rcases aq.1 ((h y).2 (ar ..))with b|b
    ·exact b.symm
    ·have:=hy.1 x e;have:=hx.1 y b;omega
  subst e;congr 1
  refine E4 hx.2 hy.2 fun z=>?_
  have:=h z;simp only[aq]at this;constructor
  ·intro a
   rcases this.1 (.inr a)with e|e
   ·subst e;exact absurd (hx.1 _ a) (Int.lt_irrefl _)
   ·exact e
  ·intro a
   rcases this.2 (.inr a)with e|e
   ·subst e;exact absurd (hy.1 _ a) (Int.lt_irrefl _)
   ·exact e
theorem UK{L:cT}(g:(dF L).Nodup){i:Nat}(hi:i<L.length):parV L L[i].1=L[i].2:=by
 have:bC L L[i].1=some L[i].2:=(eB g).2 (aH hi);simp[parV,this]
theorem uz{W:Nat→Prop}{h:ad}{xp:Nat}{L:cT}{nx:Int}(g:RefAt W h xp L nx)(X:Good L)(id:Int)
  {K:SliceV→ad→Prop}(hk:∀s' h' xs,xs.Pairwise (· < ·)→(∀y,y∈xs↔UpG L id y)→Nums (fun b=>b<h.size) h' s' xs→Upd No h h'→K s' h'):
  eP 127 [gS xp,.int .u32 id] K h:=by
 refine cW (Dm (some ⟨xp,0,none⟩) id) MD Tryz.func127 Tryz.call127 ?_;dsimp only[Dm,gn,dM,rz,cB,fQ,sQ,cg,cH,Q7,dR,nv,IS,MW,jA,qs,TQ];obtain⟨s0,t0,Ls,h1,V,h3,hcap⟩:=g.blk;have U:=h3.len;have hL:=X.len;have k0:=Upd.push No h (.map #[] 0);have m0:MapAt KE iv (h.push (.map #[] 0)) h.size []:=MapAt.new h;have k1:Upd No h (lY (h.push (.map #[] 0)) h.size (.int .u32 id) (.int .i64 1)):=k0.trans (M':=(· =h.size)) (mI _ _ _ rfl) fun b hb=>.inr (cC hb.symm)
 refine⟨_,rfl,m0.isMap,_,rfl,s0,by rw[ce,bd (k1.get0 h1)];rfl,?_⟩
 refine LoopP.ghost (fun(f:Nat×List Int×List (Int×Int)) (t:SliceV×Int) h'=>t.2=(f.1:Int)-1∧f.1≤L.length∧Upd No h h'∧Nums (fun b=>b≤h.size) h' t.1 f.2.1∧MapAt KE iv h' h.size f.2.2∧
   (∀y v,bC f.2.2 y=some v→v=1)∧f.2.1.Pairwise (· < ·)∧f.2.1.length≤L.length-f.1∧
   (∀y,y∈f.2.1↔y∈(dF L).drop f.1∧UpG L id y)∧(∀y,y∈f.2.2.map (·.1)↔y=id∨∃z∈(dF L).drop f.1,UpG L id z∧y∈parV L z)) (fun f=>f.1) (L.length,[],[(id,1)])
  ⟨?_,ai _,k1,Sl.nil jp,m0.put id 1,?_,cf,aN _,?_,?_⟩ ?_
 ·show ac .i64 ((s0.len:Int)-1)=_
  rw[V.len,U,Go.IntWalk.i64_in _ (by omega)]
 ·intro y v hv
  simp only[bC]at hv;split at hv
  ·cases hv;rfl
  ·cases hv
 ·intro y
  rw[List.drop_of_length_le (by simp)];simp
 ·intro y
  rw[List.drop_of_length_le (by simp)];simp
 rintro I ⟨n,out,m⟩ ⟨so,ti⟩ h' ⟨hti,hn,hu,w,hm,u,o,hlen,p,F⟩ hI;(try simp only at hti hn w hm u o hlen p F)
 subst hti;refine ao (fun R=>?_) fun O=>?_
 ·obtain⟨i,rfl⟩:∃i,n=i+1:=⟨n-1,by have R:(n:Int)-1≥0:=R;omega⟩
  have hi:i<L.length:=by omega
  have ei:((i+1:Nat):Int)-1=(i:Int):=by omega
  simp only[ei];have H:=V.upd hu fun _ h=>h.elim
  obtain⟨a,ha,c0,c1⟩:=Jd H (U▸hi);obtain⟨e1,e2⟩:=h3.get (U▸hi) hi;obtain⟨q1,Z,q3⟩:=Na h' 129 (.int .u32 0) (.slice none 0 0) (Ls[i]'(U▸hi));rw[e1]at c0 q1 Z q3;have hw:ac .i64 ((i:Int)-1)=(i:Int)-1:=Go.IntWalk.i64_in _ (by omega);have d:(dF L).drop i=L[i].1::(dF L).drop (i+1):=by
   rw[fL (by simpa using hi),ir]
  have hbig:∀z,z∈dF L→L[i].1<z→z∈(dF L).drop (i+1):=fun z k q=>by
   have B:z∈(dF L).take (i+1)++(dF L).drop (i+1):=by rw[bJ];exact k
   rcases aF.1 B with B|B
   ·exfalso
    obtain⟨j,hj,ej⟩:=bD B;rw[oN]at ej;have hj':j≤i:=by simp at hj;omega
    rcases cr j i with hji|hji
    ·have:=bR.1 X.up j i (by simp;omega) (by simpa using hi) hji
     rw[ej,ir]at this;omega
    ·have:j=i:=by omega
     subst this;rw[ir]at ej;omega
   ·exact B
  have P:L[i].1∈m.map (·.1)↔UpG L id L[i].1:=by
   rw[F];constructor
   ·rintro(e|⟨z,k,E,hz3⟩)
    ·rw[←e];exact .refl (aP.2 ⟨_,aH hi,rfl⟩)
    ·exact E.snoc hz3 (aP.2 ⟨_,aH hi,rfl⟩)
   ·intro o
    rcases o.last with e|⟨z,k,E⟩
    ·exact .inl e
    ·exact .inr ⟨z,hbig z k.right (X.parV E).2.1,k,E⟩
  have C:=hm.upd q3 fun h=>h
  have S:=hu.tr q3;have hml:=hm.lt;refine Join.plain ⟨_,rfl,s0,by rw[ce,bd (hu.get0 h1)];rfl,by rw[V.len,U];omega,a,ha,_,c0,_,c1,q1,_,jN Z 0,_,_,C.get _ 0,?_⟩
  rw[hw];refine CondP.intro (fun k=>?_) fun hnz=>?_
  ·have N:¬UpG L id L[i].1:=fun o=>by
    obtain⟨x,hx,ex⟩:=aP.1 (P.2 o);have A:bC m L[i].1=some x.2:=(eB hm.nodup).2 (by rw[←ex];exact hx);rw[A,u _ _ A]at k;exact absurd k (by decide)
   refine hI (i,out,m) _ _ ⟨rfl,oJ hi,S,w.upd q3 fun _ h=>h.elim,C,u,o,by(try simp only);omega,fun y=>?_,fun y=>?_⟩ (by simp)
   ·rw[p,d,aq]
    constructor
    ·exact fun h=>⟨.inr h.1,h.2⟩
    ·rintro⟨rfl|h,Y⟩
     ·exact absurd Y N
     ·exact⟨h,Y⟩
   ·rw[F,d]
    refine or_congr Iff.rfl ⟨fun⟨z,k,D⟩=>⟨z,ax _ k,D⟩,fun⟨z,k,D⟩=>?_⟩
    rcases aq.1 k with rfl|k
    ·exact absurd D.1 N
    ·exact⟨z,k,D⟩
  ·have Q:UpG L id L[i].1:=by
    rw[←P];cases A:bC m L[i].1 with
    |none=>rw[A]at hnz;exact absurd hnz (by decide)
    |some v=>exact aP.2 ⟨_,(eB hm.nodup).1 A,rfl⟩
   refine Join.plain ⟨_,jN Z 0,_,(((w.upd q3 fun _ h=>h.elim).upd (Upd.hnew No _ _ _) fun _ h=>h.elim).less (W':=No) fun _ h=>h.elim).srow,?_⟩
   have l16:=bw Z;have lh:=hu.size;refine AppP.own (M8 (M:=fun b=>Array.size h'+1≤b) _ L[i].1 l16) w.len rfl (om out) rfl (by omega) (by simp only[bh];omega) (by rw[dC];omega) fun s' G ho3 k3=>?_
   have hu3:Upd No h G:=(S.tr (Upd.hnew No _ _ _)).trans k3 fun b hb=>.inr (by omega)
   have hs3:Nums (fun b=>b≤h.size) G s' ([L[i].1]++out):=ho3.sl fun b hb _ hw=>by omega
   have hm3:MapAt KE iv G h.size m:=(C.upd (Upd.hnew No _ _ _) fun h=>h).upd k3 fun hb=>by omega
   have b3:=k3.get ((Upd.hnew No _ [.int .u32 L[i].1] 31).get0 Z) fun hb=>by omega
   refine⟨_,jN b3 1,?_⟩;have hps:L[i].2.length≤2:=X.two _ (aH hi);have hpv:parV L L[i].1=L[i].2:=UK X.nd hi;refine LoopP.ghost (fun(f:Nat×List (Int×Int)) (t:Int) V=>t=(f.1:Int)∧f.1≤L[i].2.length∧Upd (· =h.size) G V∧MapAt KE iv V h.size f.2∧(∀y v,bC f.2 y=some v→v=1)∧(∀y,y∈f.2.map (·.1)↔y∈m.map (·.1)∨y∈L[i].2.take f.1)) (fun f=>L[i].2.length-f.1) (0,m)
    ⟨rfl,aN _,Upd.refl _ _,hm3,u,fun y=>by simp⟩ ?_
   rintro I2 ⟨j,m2⟩ t H ⟨ht,hj,T,J,s,c⟩ hI2;(try simp only at ht hj J s c)
   subst ht;have hu4:Upd No h H:=hu3.trans T fun b hb=>.inr (cC hb.symm)
   have hnum:Nums W H (Ls[i]'(U▸hi)).2 L[i].2:=e2.upd hu4 fun _ h=>h.elim
   refine ao (fun q=>?_) fun hge=>?_
   ·rw[e2.len]at q
    have q:j<L[i].2.length:=by omega
    obtain⟨a2,ha2,_,hx⟩:=Nums.at hnum q;refine⟨by rw[e2.len];omega,a2,ha2,_,hx,_,rfl,J.isMap,?_⟩;rw[cp q (by omega)];have hput:=J.put L[i].2[j] 1;refine hI2 (j+1,j5 m2 L[i].2[j] 1) _ _ ⟨rfl,q,T.tr (mI _ _ _ rfl),hput,fun y v hv=>?_,fun y=>?_⟩ (by(try simp only);omega)
    ·rw[uQ]at hv
     split at hv
     ·cases hv;rfl
     ·exact s y v hv
    ·(try simp only)
     rw[uP,av q];split
     ·rename_i hmem
      rw[c y,aF,al];constructor
      ·exact fun h=>h.imp (fun h=>h) .inl
      ·rintro(h|h|rfl)
       ·exact .inl h
       ·exact .inr h
       ·exact(c _).1 hmem
     ·rw[aF,aF,al,c y,or_assoc]
   ·rw[e2.len]at hge
    have:j=L[i].2.length:=by omega
    subst this;rw[List.take_length]at c;refine hI (i,L[i].1::out,m2) _ _ ⟨rfl,oJ hi,hu4,hs3.upd T fun b hb=>.inl (cC hb),J,s,?_,?_,fun y=>?_,fun y=>?_⟩ (by simp)
    ·refine ay.2 ⟨fun y Y=>?_,o⟩
     have hyd:=((p y).1 Y).1;have:=X.up.sublist (List.drop_sublist i (dF L));rw[d,ay]at this;exact this.1 y hyd
    ·simp only[au];omega
    ·rw[aq,p,d,aq]
     constructor
     ·rintro(rfl|h)
      ·exact⟨.inl rfl,Q⟩
      ·exact⟨.inr h.1,h.2⟩
     ·rintro⟨rfl|h,Y⟩
      ·exact .inl rfl
      ·exact .inr ⟨h,Y⟩
    ·(try simp only)
     rw[c y,F,d];constructor
     ·rintro((h|⟨z,k,D⟩)|h)
      ·exact .inl h
      ·exact .inr ⟨z,ax _ k,D⟩
      ·exact .inr ⟨_,ar ..,Q,by rw[hpv];exact h⟩
     ·rintro(h|⟨z,k,D⟩)
      ·exact .inl (.inl h)
      ·rcases aq.1 k with rfl|k
       ·rw[hpv]at D;exact .inr D.2
       ·exact .inl (.inr ⟨z,k,D⟩)
 ·have:n=0:=by have O:¬(n:Int)-1≥0:=O;omega
  subst this;refine hk so h' out o (fun y=>(p y).trans ?_) (w.less fun b hb=>.inl (oJ hb)) hu
  rw[cE];exact⟨fun h=>h.2,fun h=>⟨h.right,h⟩⟩
end Go.Proofs
namespace Go.Proofs
open Go.Lift
structure Inv(L:cT)(nx:Int):Prop where
 good:Good L
 pos:∀id∈dF L,1≤id∧id<nx
 nx1:1≤nx
 nx2:nx≤2147483648
 few:L.length≤1024
theorem Inv.nil:Inv [] 1:=⟨⟨⟨fun v hv=>(by cases hv),by simp⟩,cf,fun v hv=>(by cases hv)⟩,fun v hv=>(by cases hv),by omega,by omega,by simp⟩
theorem JX{id:Int}:∀{L:cT},(dF L).Pairwise (· < ·)→id∉dF L→∀v∈L.dropWhile (fun v=>decide (v.1<id)),id<v.1
 | [],_,_,v,hv=>by cases hv
 |u::L,hp,hn,v,hv=>by
  simp only[dF,bX,ay,aq,not_or]at hp hn;rw[List.dropWhile_cons]at hv;split at hv
  ·exact JX hp.2 hn.2 v hv
  ·rename_i h
   have h:¬u.1<id:=by simpa using h
   rcases aq.1 hv with rfl|hv
   ·omega
   ·have:=hp.1 v.1 (aP.2 ⟨v,hv,rfl⟩);omega
theorem O0{id:Int}:∀{L:cT},∀v∈L.takeWhile (fun v=>decide (v.1<id)),v.1<id
 | [],v,hv=>by cases hv
 |u::L,v,hv=>by
  rw[List.takeWhile_cons]at hv;split at hv
  ·rename_i h
   rcases aq.1 hv with rfl|hv
   ·simpa using h
   ·exact O0 v hv
  ·cases hv
theorem H4{L:cT}(g:Good L){id:Int}{ps:List Int}(e:id∉dF L)(f:∀p∈ps,p∈dF L∧p<id)(i:ps.length≤2)(k:L.length<100000):Good (um L id ps):=by
 have a:=xY L id ps;refine⟨⟨fun v hv=>?_,by rw[a.length_eq];simp;omega⟩,?_,fun v hv p b=>?_⟩
 ·rcases aq.1 (a.mem_iff.1 hv)with rfl|hv
  ·exact i
  ·exact g.two v hv
 ·unfold um dF
  rw[List.map_append,bX,ct];refine⟨(g.up.sublist ((List.takeWhile_sublist _).map _)),ay.2 ⟨fun y c=>?_,g.up.sublist ((List.dropWhile_sublist _).map _)⟩,fun x hx y c=>?_⟩
  ·obtain⟨v,hv,rfl⟩:=aP.1 c
   exact JX g.up e v hv
  ·obtain⟨u,j,rfl⟩:=aP.1 hx
   have d:=O0 u j;rcases aq.1 c with rfl|c
   ·exact d
   ·obtain⟨v,hv,rfl⟩:=aP.1 c
    have:=JX g.up e v hv;omega
 ·rw[insV_ids.mem_iff]
  rcases aq.1 (a.mem_iff.1 hv)with rfl|hv
  ·exact⟨ax _ (f p b).1,(f p b).2⟩
  ·have:=g.par v hv p b
   exact⟨ax _ this.1,this.2⟩
theorem FG{L:cT}{ps:List Int}(h:nK L ps=0):(∀p∈ps,p∈dF L)∧L.length<1024:=by
 unfold nK at h;split at h
 ·cases h
 ·rename_i h1
  split at h
  ·cases h
  ·rename_i h2
   refine⟨fun p a=>?_,by omega⟩
   by_cases hm:p∈dF L
   ·exact hm
   ·exact absurd (bT.2 ⟨p,a,by simpa using hm⟩) h1
theorem HT{ps:List Int}(h:uk ps=0):ps.length≤2:=by
 unfold uk at h;split at h
 ·cases h
 ·rename_i h1
  have:=not_or.1 h1;omega
theorem Inv.add{L:cT}{nx:Int}(v:Inv L nx)(ps:List Int):Inv (eZ L nx ps).2.1 (eZ L nx ps).2.2:=by
 unfold eZ;split
 ·exact v
 ·rename_i b
  split
  ·exact v
  ·rename_i c
   split
   ·exact v
   ·rename_i h3
    have b:uk ps=0:=by omega
    have c:nK L ps=0:=by omega
    obtain⟨f1,f⟩:=FG c;have e:nx∉dF L:=fun hm=>by have:=(v.pos nx hm).2;omega
    show Inv (um L nx ps) (nx+1)
    refine⟨H4 v.good e (fun p d=>⟨f1 p d,(v.pos p (f1 p d)).2⟩) (HT b) (by have:=v.few;omega),fun id a=>?_,by have:=v.nx1;omega,by omega,?_⟩
    ·rcases aq.1 (insV_ids.mem_iff.1 a)with rfl|h
     ·have:=v.nx1;omega
     ·have:=v.pos id h;omega
    ·rw[(xY L nx ps).length_eq];simp;omega
theorem Inv.put{L:cT}{nx:Int}(v:Inv L nx){id:Int}(m:0≤id)(ps:List Int):Inv (Wf L nx id ps).2.1 (Wf L nx id ps).2.2:=by
 unfold Wf;split
 ·exact v
 ·rename_i b
  have b:=not_or.1 b;have g:=b.1;have c:=not_or.1 b.2;have d:=not_or.1 c.2;split
  ·exact v
  ·rename_i h2
   split
   ·exact v
   ·rename_i e
    have n:uk ps=0:=by omega
    have e:nK L ps=0:=by omega
    obtain⟨f1,o⟩:=FG e;have i:=v.nx1;refine⟨H4 v.good h2 (fun p f=>⟨f1 p f,?_⟩) (HT n) (by have:=v.few;omega),fun j k=>?_,by simp only;split<;>omega,?_,?_⟩
    ·by_cases a:p<id
     ·exact a
     ·exact absurd (bT.2 ⟨p,f,by simpa using a⟩) d.2
    ·rcases aq.1 (insV_ids.mem_iff.1 k)with rfl|h
     ·simp only;split<;>omega
     ·have:=v.pos j h;simp only;split<;>omega
    ·have:=v.nx2;simp only;split<;>omega
    ·rw[(xY L id ps).length_eq];simp;omega
theorem Inv.drop{L:cT}{nx:Int}(v:Inv L nx){keep st:List Int}(c:∀y,y∈st↔∃k∈keep,UpG L k y):Inv (L.filter fun v=>decide (v.1∈st)) nx:=by
 have a:∀id,id∈dF (L.filter fun v=>decide (v.1∈st))↔id∈dF L∧id∈st:=fun id=>by
  unfold dF;simp only[aP,bE,decide_eq_true_iff];constructor
  ·rintro⟨u,⟨b,d⟩,rfl⟩;exact⟨⟨u,b,rfl⟩,d⟩
  ·rintro⟨⟨u,b,rfl⟩,d⟩;exact⟨u,⟨b,d⟩,rfl⟩
 refine⟨⟨⟨fun u f=>v.good.two u (bE.1 f).1,aW (bF ..) v.good.len⟩,v.good.up.sublist ((List.filter_sublist).map _),fun u f p j=>?_⟩,fun id e=>v.pos id ((a id).1 e).1,v.nx1,v.nx2,aW (bF ..) v.few⟩
 obtain⟨b,d⟩:=bE.1 f;obtain⟨i,n⟩:=v.good.par u b p j;refine⟨(a p).2 ⟨i,?_⟩,n⟩;obtain⟨k,m,g⟩:=(c _).1 (of_decide_eq_true d);refine(c p).2 ⟨k,m,g.snoc ?_ i⟩;have:bC L u.1=some u.2:=(eB v.good.nd).2 b;simp[parV,this,j]
end Go.Proofs
namespace Go.Proofs
inductive Fo where
 |nil:Fo
 |cons (lab:List UInt8) (val:Option ByteArray) (kids rest:Fo):Fo
abbrev Bn:=List UInt8×Option ByteArray×Fo
def Fo.toL:Fo→List Bn
 | .nil=> []
 | .cons lab w kids rest=>(lab,w,kids)::rest.toL
theorem Fo.toL_cons(lab:List UInt8)(w:Option ByteArray)(a b:Fo):(Fo.cons lab w a b).toL=(lab,w,a)::b.toL:=rfl
def Fo.ofL:List Bn→Fo
 | []=>.nil
 |(lab,w,kids)::l=>.cons lab w kids (Fo.ofL l)
theorem Fo.to_of:∀l:List Bn,(Fo.ofL l).toL=l
 | []=>rfl
 |(_,_,_)::l=>by show _::(Fo.ofL l).toL=_;rw[Fo.to_of l]
theorem Fo.of_to:∀F:Fo,Fo.ofL F.toL=F
 | .nil=>rfl
 | .cons lab w kids rest=>by show Fo.cons lab w kids (Fo.ofL rest.toL)=_;rw[Fo.of_to rest]
def sX:Fo→List UInt8→ByteArray→Prop
 | .nil,_,_=>False
 | .cons lab w kids rest,k,v=>(∃r,k=lab++r∧((r= []∧w=some v)∨sX kids r v))∨sX rest k v
def uT(w:Option ByteArray)(F:Fo)(k:List UInt8)(v:ByteArray):Prop:=(k= []∧w=some v)∨sX F k v
def wK(n:Bn)(k:List UInt8)(v:ByteArray):Prop:=∃r,k=n.1++r∧uT n.2.1 n.2.2 r v
theorem gB:∀{F:Fo} {k:List UInt8} {v:ByteArray},sX F k v↔∃n∈F.toL,wK n k v
 | .nil,_,_=>by simp[sX,Fo.toL]
 | .cons lab w kids rest,k,v=>by
  rw[Fo.toL_cons];unfold sX;rw[gB (F:=rest)];constructor
  ·rintro(h|⟨n,a,h⟩)
   ·exact⟨_,ar ..,h⟩
   ·exact⟨n,ax _ a,h⟩
  ·rintro⟨n,a,h⟩
   rcases aq.1 a with rfl|a
   ·exact .inl h
   ·exact .inr ⟨n,a,h⟩
def hd(k:List UInt8):Nat:=(k.headD 0).toNat
theorem pi{a b:List UInt8}(h:a≠[]):hd (a++b)=hd a:=by
 cases a with
 |nil=>exact absurd rfl h
 |cons x a=>rfl
theorem VO(a:List UInt8):hd a<256:=UInt8.toNat_lt _
def gA:Fo→Prop
 | .nil=>True
 | .cons lab w kids rest=>lab≠[]∧(w.isSome∨2≤kids.toL.length)∧gA kids∧(∀n∈rest.toL,hd lab<hd n.1)∧gA rest
def Ra(n:Bn):Prop:=n.1≠[]∧(n.2.1.isSome∨2≤n.2.2.toL.length)∧gA n.2.2
theorem dA:∀{F:Fo},gA F↔F.toL.Pairwise (fun m n=>hd m.1<hd n.1)∧∀n∈F.toL,Ra n
 | .nil=>by simp[gA,Fo.toL]
 | .cons lab w kids rest=>by
  rw[Fo.toL_cons,ay];show(lab≠[]∧(w.isSome∨2≤kids.toL.length)∧gA kids∧(∀n∈rest.toL,hd lab<hd n.1)∧gA rest)↔_
  rw[dA (F:=rest)];constructor
  ·rintro⟨e,g,f,c,d,b⟩
   refine⟨⟨c,d⟩,fun n a=>?_⟩
   rcases aq.1 a with rfl|a
   ·exact⟨e,g,f⟩
   ·exact b n a
  ·rintro⟨⟨c,d⟩,b⟩
   have:=b _ (ar ..);exact⟨this.1,this.2.1,this.2.2,c,d,fun n a=>b n (ax _ a)⟩
theorem rL:∀{F:Fo},gA F→∀n∈F.toL,∃r v,uT n.2.1 n.2.2 r v
 | .nil,_,n,a=>by simp[Fo.toL]at a
 | .cons lab w kids rest,h,n,a=>by
  rcases aq.1 a with rfl|a
  ·rcases h.2.1 with e|b
   ·obtain⟨v,hv⟩:=gj.1 e
    exact⟨[],v,.inl ⟨rfl,hv⟩⟩
   ·have c:=rL h.2.2.1
    have⟨m,hm⟩:∃m,m∈kids.toL:=by
     cases hl:kids.toL with
     |nil=>rw[hl]at b;simp at b
     |cons m l=>exact⟨m,ar ..⟩
    obtain⟨r,v,d⟩:=c m hm;exact⟨m.1++r,v,.inr (gB.2 ⟨m,hm,r,rfl,d⟩)⟩
  ·exact rL h.2.2.2.2 n a
theorem vG{F:Fo}(h:gA F){k:List UInt8}{v:ByteArray}(hi:sX F k v):k≠[]:=by
 obtain⟨n,a,r,rfl,_⟩:=gB.1 hi;have:=((dA.1 h).2 n a).1;intro e;exact this (ia.1 e).1
theorem vH{F:Fo}(h:gA F){k:List UInt8}{v:ByteArray}(hi:sX F k v):∃n∈F.toL,hd n.1=hd k∧wK n k v:=by
 obtain⟨n,a,r,e,b⟩:=gB.1 hi;exact⟨n,a,by rw[e,pi ((dA.1 h).2 n a).1],r,e,b⟩
theorem yb{F:Fo}(h:gA F){m n:Bn}(hm:m∈F.toL)(f:n∈F.toL)(e:hd m.1=hd n.1):m=n:=by
 have d:=(dA.1 h).1;revert hm f;generalize F.toL=l at*;clear h;induction l with
 |nil=>intro hm;simp at hm
 |cons a l ih=>
  have d:=ay.1 d;intro hm f;rcases aq.1 hm with i|c
  ·rcases aq.1 f with g|b
   ·rw[i,g]
   ·have:=d.1 n b;rw[←i]at this;omega
  ·rcases aq.1 f with g|b
   ·have:=d.1 m c;rw[←g]at this;omega
   ·exact ih d.2 c b
def Br(P:List UInt8→ByteArray→Prop):Prop:=(∃v,P [] v)∨∃j k u v,P j u∧P k v∧j≠[]∧k≠[]∧hd j≠hd k
theorem TB{w:Option ByteArray}{F:Fo}(h:gA F):(w.isSome∨2≤F.toL.length)↔Br (uT w F):=by
 constructor
 ·rintro(z|x)
  ·obtain⟨v,hv⟩:=gj.1 z
   exact .inl ⟨v,.inl ⟨rfl,hv⟩⟩
  ·right
   have c:=rL h;have hc:=dA.1 h;match hL:F.toL,x with
   |a::b::l,_=>
    have d:a∈F.toL:=by rw[hL];simp
    have hb:b∈F.toL:=by rw[hL];simp
    obtain⟨r,v,t⟩:=c a d;obtain⟨s,u,c⟩:=c b hb;have o:=(hc.2 a d).1;have p:=(hc.2 b hb).1;have:=hc.1;rw[hL]at this;have A:=(ay.1 this).1 b (ar ..);refine⟨a.1++r,b.1++s,v,u,.inr (gB.2 ⟨a,d,r,rfl,t⟩),.inr (gB.2 ⟨b,hb,s,rfl,c⟩),?_,?_,?_⟩
    ·intro e;exact o (ia.1 e).1
    ·intro e;exact p (ia.1 e).1
    ·rw[pi o,pi p];omega
 ·rintro(⟨v,hv⟩|⟨j,k,u,v,f,g,y,nk,q⟩)
  ·rcases hv with⟨_,hv⟩|hv
   ·left;rw[hv];rfl
   ·exact absurd rfl (vG h hv)
  ·right
   rcases f with⟨e,_⟩|f
   ·exact absurd e y
   rcases g with⟨e,_⟩|g
   ·exact absurd e nk
   obtain⟨m,hm,em,_⟩:=vH h f;obtain⟨n,i,en,_⟩:=vH h g;match hL:F.toL with
   | []=>rw[hL]at hm;simp at hm
   | [a]=>
    rw[hL]at hm i;rw[al.1 hm]at em;rw[al.1 i]at en;omega
   |a::b::l=>simp
end Go.Proofs
namespace Go.Proofs
def uo(P a:List UInt8→ByteArray→Prop)(k:List UInt8)(v:ByteArray):Prop:=∀k' v',a k' v'↔(k'=k∧v'=v)∨(k'≠k∧P k' v')
theorem HI{w:Option ByteArray}{F:Fo}(h:gA F)(v:ByteArray):uo (uT w F) (uT (some v) F) [] v:=by
 intro k' a;unfold uT;constructor
 ·rintro(⟨e,f⟩|hi)
  ·exact .inl ⟨e,(bK.inj f).symm⟩
  ·exact .inr ⟨vG h hi,.inr hi⟩
 ·rintro(⟨e,f⟩|⟨e,⟨f,_⟩|hi⟩)
  ·exact .inl ⟨e,by rw[f]⟩
  ·exact absurd f e
  ·exact .inr hi
theorem BW{w:Option ByteArray}{F F':Fo}{k:List UInt8}{v:ByteArray}(b:k≠[])(h:uo (sX F) (sX F') k v):uo (uT w F) (uT w F') k v:=by
 intro k' c;unfold uT;rw[h k' c];constructor
 ·rintro(⟨e,f⟩|hi|hi)
  ·exact .inr ⟨fun a=>b (a.symm.trans e),.inl ⟨e,f⟩⟩
  ·exact .inl hi
  ·exact .inr ⟨hi.1,.inr hi.2⟩
 ·rintro(hi|⟨e,hi|hi⟩)
  ·exact .inr (.inl hi)
  ·exact .inl hi
  ·exact .inr (.inr ⟨e,hi⟩)
theorem Qk{F:Fo}{k:List UInt8}{v:ByteArray}{i:Nat}(h:gA F)(u:k≠[])(hi:∀j (d:j<F.toL.length),j<i→hd F.toL[j].1<hd k)(g:∀j (d:j<F.toL.length),i≤j→hd k<hd F.toL[j].1):gA (.ofL (F.toL.take i++(k,some v,.nil)::F.toL.drop i))∧uo (sX F) (sX (.ofL (F.toL.take i++(k,some v,.nil)::F.toL.drop i))) k v:=by
 have hc:=dA.1 h;have t:∀n∈F.toL.take i,hd n.1<hd k:=fun n c=>by
  obtain⟨j,d,e⟩:=bD c;rw[aQ]at d;rw[←e,oN];exact hi j (by omega) (by omega)
 have x:∀n∈F.toL.drop i,hd k<hd n.1:=fun n c=>by
  obtain⟨j,d,e⟩:=bD c;rw[aX]at d;rw[←e,List.getElem_drop];exact g _ (by omega) (by omega)
 have mem:∀n,n∈F.toL.take i++(k,some v,.nil)::F.toL.drop i↔n=(k,some v,Fo.nil)∨n∈F.toL:=fun n=>by
  conv=>rhs;rw[←bJ i F.toL]
  simp only[aF,aq];exact⟨fun h=>h.elim (fun h=>.inr (.inl h)) fun h=>h.elim .inl fun h=>.inr (.inr h),fun h=>h.elim (fun h=>.inr (.inl h)) fun h=>h.elim .inl fun h=>.inr (.inr h)⟩
 refine⟨dA.2 ⟨?_,?_⟩,fun k' w=>?_⟩
 ·rw[Fo.to_of]
  have m:=hc.1;rw[←bJ i F.toL,ct]at m;refine ct.2 ⟨m.1,ay.2 ⟨x,m.2.1⟩,fun a s b hb=>?_⟩
  rcases aq.1 hb with rfl|hb
  ·exact t a s
  ·exact m.2.2 a s b hb
 ·rw[Fo.to_of]
  intro n c;rcases(mem n).1 c with rfl|c
  ·exact⟨u,.inl rfl,trivial⟩
  ·exact hc.2 n c
 ·rw[gB,gB,Fo.to_of]
  constructor
  ·rintro⟨n,c,r,e,p⟩
   rcases(mem n).1 c with rfl|c
   ·rcases p with⟨rfl,f⟩|f
    ·exact .inl ⟨by rw[e];exact be _,(bK.inj f).symm⟩
    ·exact f.elim
   ·right
    refine⟨fun y=>?_,n,c,r,e,p⟩
    have z:hd k=hd n.1:=by rw[←y,e,pi (hc.2 n c).1]
    obtain⟨j,d,q⟩:=bD c;rcases cr j i with o|o
    ·have:=hi j d o;rw[q]at this;omega
    ·have:=g j d o;rw[q]at this;omega
  ·rintro(⟨rfl,rfl⟩|⟨_,n,c,h⟩)
   ·exact⟨(k',some w,.nil),(mem _).2 (.inl rfl),[],(be _).symm,.inl ⟨rfl,rfl⟩⟩
   ·exact⟨n,(mem _).2 (.inr c),h⟩
theorem lq{α:Type}{l:List α}{i:Nat}(hi:i<l.length){a x:α}(nd:∀j (c:j<l.length),j≠i→l[j]≠l[i]):x∈l.set i a↔x=a∨(x∈l∧x≠l[i]):=by
 constructor
 ·intro h
  obtain⟨j,c,e⟩:=bD h;rw[gK]at c;rw[pA]at e;split at e
  ·exact .inl e.symm
  ·rename_i b
   exact .inr ⟨by rw[←e];exact aH c,by rw[←e];exact nd j c fun e=>b e.symm⟩
 ·rintro(rfl|⟨h,b⟩)
  ·exact mD (i:=i) (h:=by simpa using hi) (by simp)
  ·obtain⟨j,c,e⟩:=bD h
   have:i≠j:=by rintro rfl;exact b e.symm
   exact mD (i:=j) (h:=by simpa using c) (by rw[List.getElem_set_ne this];exact e)
theorem PN{F:Fo}{i:Nat}{m:Bn}(h:gA F)(hi:i<F.toL.length)(hm:Ra m)(e:hd m.1=hd F.toL[i].1):gA (.ofL (F.toL.set i m)):=by
 have hc:=dA.1 h;rw[dA,Fo.to_of];refine⟨?_,fun n f=>?_⟩
 ·rw[bR]at hc⊢
  intro a b d hb c;rw[gK]at d hb;rw[pA,pA];split
  ·rename_i ea;subst ea
   rw[if_neg (by omega),e];exact hc.1 _ _ d hb c
  ·split
   ·rename_i eb;subst eb
    rw[e];exact hc.1 _ _ d hb c
   ·exact hc.1 _ _ d hb c
 ·rcases List.mem_or_eq_of_mem_set f with f|rfl
  ·exact hc.2 n f
  ·exact hm
theorem vD{F:Fo}(h:gA F){i:Nat}(hi:i<F.toL.length)(j:Nat)(c:j<F.toL.length)(a:j≠i):F.toL[j]≠F.toL[i]:=by
 have hc:=(dA.1 h).1;rw[bR]at hc;intro e;rcases Nat.lt_or_gt_of_ne a with b|b
 ·have:=hc j i c hi b;rw[e]at this;omega
 ·have:=hc i j hi c b;rw[e]at this;omega
theorem Lr{F:Fo}{i:Nat}{m:Bn}{k:List UInt8}{v:ByteArray}(h:gA F)(hi:i<F.toL.length)(ek:hd F.toL[i].1=hd k)(g:uo (wK F.toL[i]) (wK m) k v):uo (sX F) (sX (.ofL (F.toL.set i m))) k v:=by
 intro k' f;have hc:=dA.1 h;rw[gB,gB,Fo.to_of];constructor
 ·rintro⟨n,a,c⟩
  rcases(lq hi (vD h hi)).1 a with rfl|⟨a,d⟩
  ·rcases(g k' f).1 c with b|⟨b,j⟩
   ·exact .inl b
   ·exact .inr ⟨b,_,aH hi,j⟩
  ·refine .inr ⟨fun e=>d ?_,n,a,c⟩
   obtain⟨r,o,_⟩:=c;refine yb h a (aH hi) ?_;rw[ek,←e,o,pi (hc.2 n a).1]
 ·rintro(b|⟨b,n,a,c⟩)
  ·exact⟨m,(lq hi (vD h hi)).2 (.inl rfl),(g k' f).2 (.inl b)⟩
  ·by_cases e:n=F.toL[i]
   ·exact⟨m,(lq hi (vD h hi)).2 (.inl rfl),(g k' f).2 (.inr ⟨b,by rw[←e];exact c⟩)⟩
   ·exact⟨n,(lq hi (vD h hi)).2 (.inr ⟨a,e⟩),c⟩
theorem Qj{lab r:List UInt8}{w f:Option ByteArray}{F F':Fo}{v:ByteArray}(h:uo (uT w F) (uT f F') r v):uo (wK (lab,w,F)) (wK (lab,f,F')) (lab++r) v:=by
 intro k' c;constructor
 ·rintro⟨s,e,a⟩
  rcases(h s c).1 a with⟨rfl,rfl⟩|⟨b,g⟩
  ·exact .inl ⟨e,rfl⟩
  ·exact .inr ⟨fun d=>b (List.append_cancel_left (e.symm.trans d)),s,e,g⟩
 ·rintro(⟨rfl,rfl⟩|⟨b,s,e,a⟩)
  ·exact⟨r,rfl,(h r c).2 (.inl ⟨rfl,rfl⟩)⟩
  ·exact⟨s,e,(h s c).2 (.inr ⟨fun d=>b (by rw[e,d]),a⟩)⟩
def cm:List UInt8→List UInt8→Nat
 |a::x,b::y=>if a=b then cm x y+1 else 0
 |_,_=>0
theorem VQ:∀(x y:List UInt8),cm x y≤x.length∧cm x y≤y.length
 | [],_=>by simp[cm]
 |_::_,[]=>by simp[cm]
 |a::x,b::y=>by unfold cm;have:=VQ x y;split<;>simp<;>omega
theorem PL:∀(x y:List UInt8),x.take (cm x y)=y.take (cm x y)
 | [],_=>by simp[cm]
 |_::_,[]=>by simp[cm]
 |a::x,b::y=>by
  unfold cm;split
  ·rename_i e;rw[fu,fu,PL x y,e]
  ·simp
theorem PM:∀(x y:List UInt8),cm x y<x.length→cm x y<y.length→hd (x.drop (cm x y))≠hd (y.drop (cm x y))
 | [],_=>by simp[cm]
 |_::_,[]=>by simp[cm]
 |a::x,b::y=>by
  unfold cm;split
  ·rename_i e
   intro d c;rw[au]at d c;rw[d8,d8];exact PM x y (by omega) (by omega)
  ·rename_i e
   intro _ _ h;exact e (ni.1 h)
theorem WB{x y:List UInt8}(hx:x≠[])(c:y≠[])(h:hd x=hd y):0<cm x y:=by
 match x,y,hx,c with
 |a::x,b::y,_,_=>
  unfold cm;rw[if_pos (show a=b from ni.1 h)]
  omega
theorem H6{lab:List UInt8}{w:Option ByteArray}{F:Fo}(c:Nat):∀k v,wK (lab.take c,none,.cons (lab.drop c) w F .nil) k v↔wK (lab,w,F) k v:=by
 intro k v;constructor
 ·rintro⟨r,e,⟨_,h⟩|(⟨s,rfl,h⟩|h)⟩
  ·cases h
  ·exact⟨s,by rw[e];simp only;rw[←aE,bJ],h⟩
  ·exact h.elim
 ·rintro⟨s,e,h⟩
  exact⟨lab.drop c++s,by rw[e];simp only;rw[←aE,bJ],.inr (.inl ⟨s,rfl,h⟩)⟩
theorem TA{lab r:List UInt8}{w f:Option ByteArray}{F F':Fo}{v:ByteArray}(b:lab≠[])(hb:w.isSome∨2≤F.toL.length)(j:gA F)(a:r≠[]→hd r≠hd lab)(h:uo (uT none (.cons lab w F .nil)) (uT f F') r v):Br (uT f F'):=by
 by_cases e:r= []
 ·subst e
  exact .inl ⟨v,(h [] v).2 (.inl ⟨rfl,rfl⟩)⟩
 ·have hc:gA (.cons lab w F .nil):=⟨b,hb,j,fun n i=>by simp[Fo.toL]at i,trivial⟩
  obtain⟨s,u,d⟩:=rL hc _ (ar ..);simp only at d;have g:hd (lab++s)=hd lab:=pi b;refine .inr ⟨r,lab++s,v,u,(h r v).2 (.inl ⟨rfl,rfl⟩),(h _ u).2 (.inr ⟨fun c=>a e (by rw[←c,g]),.inr (.inl ⟨s,rfl,d⟩)⟩),e,fun c=>b (ia.1 c).1,by rw[g];exact a e⟩
theorem Vn{P d:List UInt8→ByteArray→Prop}{k:List UInt8}{v:ByteArray}(hb:Br P)(h:uo P d k v):Br d:=by
 have keep:∀j u,P j u→∃c,d j c:=fun j u f=>by
  by_cases e:j=k
  ·exact⟨v,(h j v).2 (.inl ⟨e,rfl⟩)⟩
  ·exact⟨u,(h j u).2 (.inr ⟨e,f⟩)⟩
 rcases hb with⟨u,m⟩|⟨j,k',u,c,f,g,r⟩
 ·obtain⟨c,h'⟩:=keep [] u m
  exact .inl ⟨c,h'⟩
 ·obtain⟨a,i⟩:=keep j u f
  obtain⟨b,hb⟩:=keep k' c g;exact .inr ⟨j,k',a,b,i,hb,r⟩
end Go.Proofs
namespace Go.Proofs
open Go.Lift
theorem uC{β:Type}{g:Nat→Option β}{i:Nat}(h:g i=none):upd g i none=g:=by
 funext j;unfold upd;split
 ·rename_i e;rw[e,h]
 ·rfl
theorem dS{h:ad}{b:Nat}{c:Array Value}{t:TypeId}{i:Nat}(hb:h[b]? =some (.cells c t (0,0))):aK h ⟨b,0+i,none⟩=c[i]?:=by rw[aO];exact bd hb
theorem Ua{h:ad}{b:Nat}{c:Array Value}{t:TypeId}{i:Nat}(hb:h[b]? =some (.cells c t (0,0))) (hi:i<c.size):Wr h ⟨b,0+i,none⟩:=by rw[aO];exact eC hb hi
theorem GZ{h:ad}{b:Nat}{c c':Array Value}{t:TypeId}{i:Nat}{v:Value}{k:ad→Prop}(hb:h[b]? =some (.cells c t (0,0))) (e:c.setIfInBounds i v=c')
 (d:∀h',h'[b]? =some (.cells c' t (0,0))→Upd (· =b) h h'→k h'):At (hset h ⟨b,i,none⟩ v) k:=zA hb fun h' a f=>d h' (e▸a) f
theorem JW{M:Nat→Prop}{h:ad}{b d n:Nat}{sp sk:SliceV}{s:Slots}{ow:Option Addr}(o:OwnN M h b d n sp sk s ow){i:Nat}(hi:i<32){K:Unit→ad→Prop}
  (X:∀h' F n' sp' sk',OwnN M h' b F n' sp' sk' ⟨upd s.p i none,upd s.k i none⟩ ow→Upd M h h'→K () h'):dd 244 [gS b,.int .i64 i] K h:=by
 obtain⟨A,B,V,T,a,m⟩:=o.ex;have bits:=o.bits;refine A5 _ i ?_;dsimp only[tP,dR,cV,cg,nZ,z6,cH,gU,pn,zC];have S:∀k:Nat,k≤100→ac .i64 ((k:Int)+1)=((k+1:Nat):Int):=fun k X=>by rw[df (by omega)];omega
 have hc1:=zx i d;have Z:=zx i n;have I:∀x,A x→M x∨h.size≤x:=fun x hx=>.inl (a x hx).1
 refine Join.intro (fun _ h'=>∃sp',h'[b]? =some (.cells (dY d n sp' sk false ow) 324 (0,0))∧OwnS dQ 2 33 A h' sp' (fm (upd s.p i none) 32)∧OwnS qp 1 50 B h' sk (fm s.k 32)∧Upd M h h') (fun R C=>?_) ?_
 ·refine⟨_,rfl,_,dS (i:=0) o.blk,B7 bits.d32 hi ?_⟩
  rw[bits.dp i hi];cases hp:s.p i with
  |none=>exact ag.2 (C _ _ ⟨sp,o.blk,by rw[uC hp];exact V,T,Upd.refl _ _⟩)
  |some y=>
   refine aw.2 ⟨_,rfl,_,dS (i:=0) o.blk,pH bits.d32 hi ⟨_,rfl,sp,dS (i:=2) o.blk,?_⟩⟩;rw[S _ (by omega)];refine Oc V (Ig hi bits.dp hp) (by have:=AG (g:=s.p);omega) fun D W t f=>?_
   rw[←S7 hi bits.dp hp]at t;have b2:=f.get o.blk fun hb=>(a b hb).2.2.1 rfl
   refine⟨_,rfl,Ua (i:=2) b2 (show 2<6 by decide),GZ (i:=2) (c':=dY d n D sk false ow) b2 rfl fun U b3 j=>?_⟩
   refine C _ _ ⟨D,b3,t.upd j fun x hx e=>(a x hx).2.2.1 e,(T.upd f fun x hx O=>(a x O).2.1 hx).upd j fun x hx e=>(m x hx).2.1 e,(f.mono I).tr (j.mono fun x e=>.inl (e▸o.mb))⟩
 rintro _ h1 ⟨q,b1,v,w,E⟩;refine Join.intro (fun _ h'=>∃sk',h'[b]? =some (.cells (dY d n q sk' false ow) 324 (0,0))∧OwnS dQ 2 33 A h' q (fm (upd s.p i none) 32)∧OwnS qp 1 50 B h' sk' (fm (upd s.k i none) 32)∧Upd M h1 h') (fun R C=>?_) ?_
 ·refine⟨_,rfl,_,dS (i:=1) b1,B7 bits.n32 hi ?_⟩
  rw[bits.nk i hi];cases hp:s.k i with
  |none=>exact ag.2 (C _ _ ⟨sk,b1,v,by rw[uC hp];exact w,Upd.refl _ _⟩)
  |some y=>
   refine aw.2 ⟨_,rfl,_,dS (i:=1) b1,pH bits.n32 hi ⟨_,rfl,sk,dS (i:=3) b1,?_⟩⟩;rw[S _ (by omega)];refine Od w (Ig hi bits.nk hp) (by have:=AG (g:=s.k);omega) fun D W t f=>?_
   rw[←S7 hi bits.nk hp]at t;have b2:=f.get b1 fun hb=>(m b hb).2.1 rfl
   refine⟨_,rfl,Ua (i:=3) b2 (show 3<6 by decide),GZ (i:=3) (c':=dY d n q D false ow) b2 rfl fun U b3 j=>?_⟩
   refine C _ _ ⟨D,b3,(v.upd f fun x hx O=>(a x hx).2.1 O).upd j fun x hx e=>(a x hx).2.2.1 e,t.upd j fun x hx e=>(m x hx).2.1 e,(f.mono fun x hx=>.inl (m x hx).1).tr (j.mono fun x e=>.inl (e▸o.mb))⟩
 rintro _ W ⟨u,b2,P,N,f⟩;refine⟨_,rfl,_,dS (i:=0) b2,_,rfl,_,dS (i:=1) b2,?_⟩;refine EF bits.d32 hi fun F Q G=>⟨dS (i:=1) b2,?_⟩
 refine EF bits.n32 hi fun n' H J=>?_
 refine⟨_,rfl,Ua (i:=0) b2 (show 0<6 by decide),GZ (i:=0) (c':=dY F n q u false ow) b2 rfl fun U b3 j=>?_⟩
 refine⟨_,rfl,Ua (i:=1) b3 (show 1<6 by decide),GZ (i:=1) (c':=dY F n' q u false ow) b3 rfl fun Y b4 L=>?_⟩
 have p:=j.tr L;have z:=(E.tr (f.tr (p.mono (M':=M) fun x e=>.inl (e▸o.mb)))).size
 refine X Y F n' q u ⟨b4,⟨Q,H,fun c hc=>?_,fun c hc=>?_⟩,⟨A,B,P.upd p fun x hx e=>(a x hx).2.2.1 e,N.upd p fun x hx e=>(m x hx).2.1 e,fun x hx=>⟨(a x hx).1,(a x hx).2.1,(a x hx).2.2.1,by have:=(a x hx).2.2.2;omega⟩,fun x hx=>⟨(m x hx).1,(m x hx).2.1,by have:=(m x hx).2.2;omega⟩⟩,o.mb⟩ (E.tr (f.tr (p.mono fun x e=>.inl (e▸o.mb))))
 ·rw[G,bits.dp c hc];simp only[upd];split<;>simp[*]
 ·rw[J,bits.nk c hc];simp only[upd];split<;>simp[*]
end Go.Proofs
namespace Go.Proofs
open Go.Lift
theorem OwnS.setAt{α:Type}{f:α→List Value}{sz:Nat}{t:TypeId}{M:Nat→Prop}{h:ad}{s:SliceV}{xs:List α}(g:OwnS f sz t M h s xs){k:Nat}(o:k<xs.length)(x:α):
  ∃a,s.a=some a∧M a.block∧pk h (some (adr a (k*sz))) 0 (f x)∧OwnS f sz t M (eN h (adr a (k*sz)) 0 (f x)) s (xs.take k++x::xs.drop (k+1))∧Upd (· =a.block) h (eN h (adr a (k*sz)) 0 (f x)):=by
 have i:∀x,(f x).length=sz∧0<sz:=g.ne;have p:=g.len;have e:=g.cap;rcases g.blk with z|⟨b,d,q,hb,hc,v⟩
 ·omega
 have m:((xs.take k).flatMap f).length=k*sz:=by rw[iV i,aQ,Nat.min_eq_left (by omega)]
 have w:xs.flatMap f=(xs.take k).flatMap f++(f xs[k]++(xs.drop (k+1)).flatMap f):=by
  rw[←aU,←fL o];exact xr xs k
 rw[w]at hc;have y:=(i xs[k]).1;have D:=(i x).1;have c:(xs.take k++x::xs.drop (k+1)).flatMap f=(xs.take k).flatMap f++(f x++(xs.drop (k+1)).flatMap f):=by rw[List.flatMap_append,aU]
 generalize (xs.take k).flatMap f=A at m hc c;generalize (xs.drop (k+1)).flatMap f=B at hc c;generalize f xs[k]=X at y hc;have u:k*sz+0+(f x).length≤(A++(X++B)++d).length:=by simp only[List.length_append];omega
 have n:adr ⟨b,0,none⟩ (k*sz)=⟨b,k*sz,none⟩:=by rw[ce,aO]
 refine⟨⟨b,0,none⟩,q,hb,?_,?_,?_⟩
 ·rw[n]
  refine .inr ⟨_,rfl,fun j C=>?_⟩
  rw[ce];exact eC hc (by rw[List.size_toArray];omega)
 ·rw[n,gC (f x) h 0 (k*sz) _ hc u]
  refine⟨by simp;omega,i,e,.inr ⟨b,d,q,hb,?_,?_⟩⟩
  ·rw[dE hc,c]
   congr 3
   rw[Nat.add_zero,aE A,List.take_left' m,←List.drop_drop,cA m,aE X,cA (by omega)];simp only[aE]
  ·exact v
 ·rw[n,gC (f x) h 0 (k*sz) _ hc u]
  exact Upd.set h _ rfl
theorem OwnN.node{M W:Nat→Prop}{h:ad}{b d n:Nat}{sp sk:SliceV}{s:Slots}{ow:Option Addr}(o:OwnN M h b d n sp sk s ow)(a:∀x,M x→¬W x):NodeAt W h b s:=by
 obtain⟨A,B,c,e,f,g⟩:=o.ex;exact⟨⟨d,n,sp,sk,ow,o.blk,o.bits,c.sl fun x hx _=>a _ (f x hx).1,e.sl fun x hx _=>a _ (g x hx).1,c.cap,e.cap⟩,a _ o.mb⟩
theorem FA{W:Nat→Prop}{h:ad}{b:Nat}{s:Slots}(nd:NodeAt W h b s){i:Nat}(hi:i<32){K:Bool→ad→Prop}(a:K true h):fI 243 [gS b,.int .i64 i] K h:=by
 obtain⟨d,n,sp,sk,ow,hb,_⟩:=nd.ex;refine A6 _ i ?_;dsimp only[tQ,gl,cH];refine aw.2 ⟨_,rfl,_,dS (i:=4) hb,aw.2 ?_⟩;refine ao (fun _=>?_) fun h=>absurd (Int.natCast_nonneg i) h
 rw[decide_eq_true (by omega)];exact a
theorem OV{β:Type}{g:Nat→Option β}{i:Nat}{x y:Option β}:upd (upd g i x) i y=upd g i y:=by
 funext j;unfold upd;split<;>rfl
theorem gk{β:Type}{g:Nat→Option β}{i:Nat}{x:Option β}:upd g i x i=x:=by simp[upd]
theorem rD{W:Nat→Prop}{h:ad}{b:Nat}{s:Slots}(nd:NodeAt W h b s)(hW:∀x,W x→x<h.size){i:Nat}(hi:i<32)(hx:∀y,s.p i=some y→s.k i=none)(p:Pr){K:Option Addr→ad→Prop}
  (hk:∀h' b',NodeAt W h' b' ⟨upd s.p i (some p),upd s.k i none⟩→Upd No h h'→K (some ⟨b',0,none⟩) h'):
  eT 174 [gS b,.pointer none,.int .i64 i,.agg #[.string p.1,.string p.2]] K h:=by
 refine yk _ none i p ?_;dsimp only[qO,dR,bi,kq,cV,kJ,cg,jK,nZ,cH,mF,gU,Gb,DF,jA,fQ,xx,p8,yg,Km];have k1:=Upd.hnew No h [.string p.1,.string p.2] 33;have b1:=bU h [.string p.1,.string p.2] 33;refine bL ?_;simp only[cz h];generalize hnew h [.string p.1,.string p.2] 33=h1 at k1 b1;have z1:=bw b1;have V:=nd.upd k1 fun _ h=>h.elim
 refine FA V hi (ag.2 ?_);refine ND V fun h2 d n sp sk o I=>?_
 have bits:=o.bits;obtain⟨A,B,hA,hB,q,L⟩:=o.ex;have F:=k1.tr I;have u:=I.get0 b1;have T:∀x,h1.size≤x→¬W x:=fun x hx P=>by have:=hW x P;omega
 refine⟨_,rfl,_,dS (i:=0) o.blk,B7 bits.d32 hi ?_⟩;rw[bits.dp i hi];cases hp:s.p i with
 |some y=>
  refine aw.2 ⟨_,rfl,sp,dS (i:=2) o.blk,_,rfl,_,dS (i:=0) o.blk,p.1,by rw[ce,bd u];rfl,p.2,by rw[ce,bd u];rfl,?_⟩
  refine pH bits.d32 hi ⟨⟨by rw[ce,bd u];rfl,by rw[ce,bd u];rfl⟩,dS (i:=2) o.blk,?_⟩
  have hlt:=Ig hi bits.dp hp;obtain⟨a,ha,J,P,U,m⟩:=OwnS.setAt hA hlt p;have hlen:=hA.len;refine⟨by omega,a,ha,?_⟩;rw[bf];refine⟨P,bL ?_⟩;rw[←S5 hi bits.dp hp]at U;have ob:=m.get o.blk fun e=>(q _ J).2.2.1 e.symm
  have z3:=m.size;have D:OwnN (fun x=>h1.size≤x) _ h1.size d n sp sk ⟨upd s.p i (some p),upd s.k i none⟩ none:=⟨ob,⟨bits.d32,bits.n32,fun c hc=>by
    rw[bits.dp c hc];simp only[upd];split
    ·rename_i e;rw[e,hp];rfl
    ·rfl,fun c hc=>by rw[bits.nk c hc,uC (hx y hp)]⟩,
   ⟨A,B,U,by rw[uC (hx y hp)];exact hB.upd m fun x hx e=>(q _ J).2.1 (e▸hx),fun x hx=>⟨(q x hx).1,(q x hx).2.1,(q x hx).2.2.1,by have:=(q x hx).2.2.2;omega⟩,fun x hx=>⟨(L x hx).1,(L x hx).2.1,by have:=(L x hx).2.2;omega⟩⟩,o.mb⟩
  refine hk _ _ (D.node T) (F.trans m fun x hx=>.inr ?_)
  have:=(q _ J).1;have hx:x=a.block:=hx;omega
 |none=>
  refine ag.2 ⟨_,rfl,JW o hi fun C d3 n3 z H D m=>?_⟩
  have f:=D.bits;obtain⟨A3,B3,hA3,hB3,j,k⟩:=D.ex;have z2:=I.size;have z3:=m.size;have E:=m.get u (show ¬h1.size≤h.size by omega)
  have R:Upd No h C:=F.trans m fun x hx=>.inr (aW (oJ z1) hx)
  refine⟨_,rfl,z,dS (i:=2) D.blk,_,rfl,_,dS (i:=0) D.blk,p.1,by rw[ce,bd E];rfl,p.2,by rw[ce,bd E];rfl,?_⟩
  have Z:=Upd.hnew No C [.string p.1,.string p.2] 33;have b4:=bU C [.string p.1,.string p.2] 33;have z4:=dC C [.string p.1,.string p.2] 33;have N:=D.upd Z fun _ h=>h.elim
  have fin:eP 245 [.slice z.a z.len z.cap,.int .i64 (vo i d3),.slice (some (aL C)) 1 1] (fun(G:SliceV) X=>
       ∃a34:Addr,some (⟨h1.size,0,none⟩:Addr)=some a34∧
       (Wr X (adr (adr a34 0) 2)∧
        At (hset X (adr (adr a34 0) 2) (.slice G.a G.len G.cap)) (fun O=>
         ∃a36:Addr,some (⟨h1.size,0,none⟩:Addr)=some a36∧
         ∃v37:Int,aK O (adr (adr a36 0) 0)=some (.int .u32 v37)∧
         xf 246 [.int .u32 v37,.int .i64 i] (fun(e38:Int) Q=>
          ∃a40:Addr,some (⟨h1.size,0,none⟩:Addr)=some a40∧
          (Wr Q (adr (adr a40 0) 0)∧
           At (hset Q (adr (adr a40 0) 0) (.int .u32 e38)) (fun h41=>
            K (some ⟨h1.size,0,none⟩) h41))) O))) (hnew C [.string p.1,.string p.2] 33):=by
   generalize hnew C [.string p.1,.string p.2] 33=h4 at Z b4 z4 N;rw[cz C];have hA4:=(hA3.upd Z fun _ _ h=>h).more (M':=fun x=>A3 x∨h4.size≤x) fun x hx=>.inl hx
   have hpn:(⟨upd s.p i none,upd s.k i none⟩:Slots).p i=none:=gk;refine NV hA4 (VP hi f.dp) (by have:=AG (g:=(⟨upd s.p i none,upd s.k i none⟩:Slots).p);omega) (x:=p) b4 (fun e=>e.elim (fun e=>by have:=(j _ e).2.2.2;omega) fun e=>by omega) (fun x hx=>.inr hx) fun s5 h5 S v=>?_
   rw[←S6 hi f.dp hpn p]at S;have hbl:h1.size<C.size:=bw D.blk;have b5:=v.get N.blk fun e=>e.elim (fun e=>(j _ e).2.2.1 rfl) fun e=>by omega
   refine⟨_,rfl,Ua (i:=2) b5 (show 2<6 by decide),GZ (i:=2) (c':=dY d3 n3 s5 H false none) b5 rfl fun h6 b6 hu6=>?_⟩
   refine⟨_,rfl,_,dS (i:=0) b6,OQ f.d32 hi fun w P hwt=>?_⟩
   refine⟨_,rfl,Ua (i:=0) b6 (show 0<6 by decide),GZ (i:=0) (c':=dY w n3 s5 H false none) b6 rfl fun h7 b7 hu7=>?_⟩
   have t:=hu6.tr hu7;have z5:=v.size;have z7:=t.size;have Y:=S.within;have e1:(⟨upd (⟨upd s.p i none,upd s.k i none⟩:Slots).p i (some p),upd s.k i none⟩:Slots)=⟨upd s.p i (some p),upd s.k i none⟩:=by rw[OV]
   have o7:OwnN (fun x=>h1.size≤x) h7 h1.size w n3 s5 H ⟨upd s.p i (some p),upd s.k i none⟩ none:=by
    rw[←e1];refine⟨b7,⟨P,f.n32,fun c hc=>?_,f.nk⟩,⟨fun x=>(A3 x∨h4.size≤x)∧x<h5.size,B3,Y.upd t fun x hx e=>?_,((hB3.upd Z fun _ _ h=>h).upd v fun x hx e=>?_).upd t fun x hx e=>(k x hx).2.1 e,fun x hx=>⟨?_,?_,?_,by omega⟩,fun x hx=>⟨(k x hx).1,(k x hx).2.1,by have:=(k x hx).2.2;omega⟩⟩,o.mb⟩
    ·rw[hwt,f.dp c hc];simp only[upd];split<;>simp[*]
    ·have e:x=h1.size:=e
     rcases hx.1 with h|h
     ·exact(j x h).2.2.1 e
     ·omega
    ·rcases e with e|e
     ·exact(j x e).2.1 hx
     ·have:=(k x hx).2.2;omega
    ·rcases hx.1 with h|h
     ·exact(j x h).1
     ·omega
    ·rcases hx.1 with h|h
     ·exact(j x h).2.1
     ·exact fun hb=>by have:=(k x hb).2.2;omega
    ·rcases hx.1 with h|h
     ·exact(j x h).2.2.1
     ·omega
   refine hk _ _ (o7.node T) (((R.tr Z).trans v fun x hx=>.inr ?_).trans t fun x hx=>.inr ?_)
   ·rcases hx with h|h
    ·have:=(j x h).1;omega
    ·omega
   ·have hx:x=h1.size:=hx
    omega
  refine⟨pH f.d32 hi ⟨⟨by rw[ce,bd E];rfl,by rw[ce,bd E];rfl⟩,dS (i:=2) D.blk,bL ⟨dS (i:=2) N.blk,fin⟩⟩,bL ⟨dS (i:=0) N.blk,dS (i:=2) N.blk,pH f.d32 hi ⟨dS (i:=2) N.blk,fin⟩⟩⟩
end Go.Proofs
namespace Go.Proofs
open Go.Lift
theorem Tt{W:Nat→Prop}{h:ad}{b:Nat}{s:Slots}(nd:NodeAt W h b s)(g:∀x,W x→x<h.size){i:Nat}(hi:i<32){K:Option Addr→ad→Prop}
  (f:∀h' b',NodeAt W h' b' ⟨upd s.p i none,upd s.k i none⟩→Upd No h h'→K (some ⟨b',0,none⟩) h'):
  eT 247 [gS b,.pointer none,.int .i64 i] K h:=by
 refine A9 _ none i ?_;dsimp only[tT,kq,jK,cH];refine FA nd hi (ag.2 ?_);refine ND nd fun u d n sp sk o c=>⟨_,rfl,JW o hi fun q p t k e j a=>?_⟩
 exact f _ _ (j.node fun x hx m=>by have:=g x m;omega) (c.trans a fun x hx=>.inr hx)
theorem xM{W:Nat→Prop}{h:ad}{b:Nat}{s:Slots}(nd:NodeAt W h b s)(hW:∀x,W x→x<h.size){i:Nat}(hi:i<32)(hx:∀y,s.k i=some y→s.p i=none)(kid:Addr){K:Option Addr→ad→Prop}
  (hk:∀h' b',NodeAt W h' b' ⟨upd s.p i none,upd s.k i (some (some kid))⟩→Upd No h h'→K (some ⟨b',0,none⟩) h'):
  eT 175 [gS b,.pointer none,.int .i64 i,.pointer (some kid)] K h:=by
 refine zO _ none i (some kid) ?_;dsimp only[sw,dR,kq,cV,cg,Ja,jK,nZ,jA,fQ,cH,gU,Kl];refine ag.2 ?_;refine FA nd hi (ag.2 ?_);refine ND nd fun h2 d n sp sk o G=>?_
 have bits:=o.bits;obtain⟨A,B,hA,hB,q,t⟩:=o.ex;have P:∀x,h.size≤x→¬W x:=fun x hx v=>by have:=hW x v;omega
 refine⟨_,rfl,_,dS (i:=1) o.blk,B7 bits.n32 hi ?_⟩;rw[bits.nk i hi];cases hp:s.k i with
 |some y=>
  refine aw.2 ⟨_,rfl,sk,dS (i:=3) o.blk,_,rfl,_,dS (i:=1) o.blk,?_⟩;refine pH bits.n32 hi ⟨dS (i:=3) o.blk,?_⟩;have hlt:=Ig hi bits.nk hp;obtain⟨a,ha,H,v,Q,m⟩:=OwnS.setAt hB hlt (some kid);have hlen:=hB.len;refine⟨by omega,a,ha,?_⟩;rw[bf];have X:Wr h2 (adr a (vo i n*1)):=by
   rcases v with v|⟨b',hb',v⟩
   ·cases v
   ·cases hb';exact v 0 (by simp)
  refine⟨X,bL ?_⟩;rw[←S5 hi bits.nk hp]at Q;have ob:=m.get o.blk fun e=>(t _ H).2.1 e.symm
  have z3:=m.size;have D:OwnN (fun x=>h.size≤x) _ h.size d n sp sk ⟨upd s.p i none,upd s.k i (some (some kid))⟩ none:=⟨ob,⟨bits.d32,bits.n32,fun c hc=>by rw[bits.dp c hc,uC (hx y hp)],fun c hc=>by
    rw[bits.nk c hc];simp only[upd];split
    ·rename_i e;rw[e,hp];rfl
    ·rfl⟩,
   ⟨A,B,by rw[uC (hx y hp)];exact hA.upd m fun x hx e=>(q _ hx).2.1 (e▸H),Q,fun x hx=>⟨(q x hx).1,(q x hx).2.1,(q x hx).2.2.1,by have:=(q x hx).2.2.2;omega⟩,fun x hx=>⟨(t x hx).1,(t x hx).2.1,by have:=(t x hx).2.2;omega⟩⟩,o.mb⟩
  refine hk _ _ (D.node P) (G.trans m fun x hx=>.inr ?_)
  have:=(t _ H).1;have hx:x=a.block:=hx;omega
 |none=>
  refine ag.2 ⟨_,rfl,JW o hi fun z d3 n3 F C D m=>?_⟩
  have f:=D.bits;obtain⟨A3,B3,hA3,hB3,j,k⟩:=D.ex;have z2:=G.size;have z3:=m.size;have N:Upd No h z:=G.trans m fun x hx=>.inr hx
  refine⟨_,rfl,C,dS (i:=3) D.blk,_,rfl,_,dS (i:=1) D.blk,?_⟩;have T:=Upd.hnew No z [.pointer (some kid)] 50;have b4:=bU z [.pointer (some kid)] 50;have z4:=dC z [.pointer (some kid)] 50;have I:=D.upd T fun _ h=>h.elim
  have fin:eP 248 [.slice C.a C.len C.cap,.int .i64 (vo i n3),.slice (some (aL z)) 1 1] (fun(E:SliceV) R=>
       ∃a34:Addr,some (⟨h.size,0,none⟩:Addr)=some a34∧
       (Wr R (adr (adr a34 0) 3)∧
        At (hset R (adr (adr a34 0) 3) (.slice E.a E.len E.cap)) (fun J=>
         ∃a36:Addr,some (⟨h.size,0,none⟩:Addr)=some a36∧
         ∃v37:Int,aK J (adr (adr a36 0) 1)=some (.int .u32 v37)∧
         xf 246 [.int .u32 v37,.int .i64 i] (fun(Y:Int) L=>
          ∃a40:Addr,some (⟨h.size,0,none⟩:Addr)=some a40∧
          (Wr L (adr (adr a40 0) 1)∧
           At (hset L (adr (adr a40 0) 1) (.int .u32 Y)) (fun h41=>
            K (some ⟨h.size,0,none⟩) h41))) J))) (hnew z [.pointer (some kid)] 50):=by
   generalize hnew z [.pointer (some kid)] 50=h4 at T b4 z4 I;rw[cz z];have hB4:=(hB3.upd T fun _ _ h=>h).more (M':=fun x=>B3 x∨h4.size≤x) fun x hx=>.inl hx
   have U:(⟨upd s.p i none,upd s.k i none⟩:Slots).k i=none:=gk;refine NW hB4 (VP hi f.nk) (by have:=AG (g:=(⟨upd s.p i none,upd s.k i none⟩:Slots).k);omega) (x:=some kid) b4 (fun e=>e.elim (fun e=>by have:=(k _ e).2.2;omega) fun e=>by omega) (fun x hx=>.inr hx) fun s5 h5 O u=>?_
   rw[←S6 hi f.nk U (some kid)]at O;have hbl:h.size<z.size:=bw D.blk;have b5:=u.get I.blk fun e=>e.elim (fun e=>(k _ e).2.1 rfl) fun e=>by omega
   refine⟨_,rfl,Ua (i:=3) b5 (show 3<6 by decide),GZ (i:=3) (c':=dY d3 n3 F s5 false none) b5 rfl fun h6 Z V=>?_⟩
   refine⟨_,rfl,_,dS (i:=1) Z,OQ f.n32 hi fun w v hwt=>?_⟩
   refine⟨_,rfl,Ua (i:=1) Z (show 1<6 by decide),GZ (i:=1) (c':=dY d3 w F s5 false none) Z rfl fun h7 b7 hu7=>?_⟩
   have p:=V.tr hu7;have z5:=u.size;have z7:=p.size;have S:=O.within;have e1:(⟨upd s.p i none,upd (⟨upd s.p i none,upd s.k i none⟩:Slots).k i (some (some kid))⟩:Slots)=⟨upd s.p i none,upd s.k i (some (some kid))⟩:=by rw[OV]
   have o7:OwnN (fun x=>h.size≤x) h7 h.size d3 w F s5 ⟨upd s.p i none,upd s.k i (some (some kid))⟩ none:=by
    rw[←e1];refine⟨b7,⟨f.d32,v,f.dp,fun c hc=>?_⟩,⟨A3,fun x=>(B3 x∨h4.size≤x)∧x<h5.size,((hA3.upd T fun _ _ h=>h).upd u fun x hx e=>?_).upd p fun x hx e=>(j x hx).2.2.1 e,S.upd p fun x hx e=>?_,fun x hx=>⟨(j x hx).1,?_,(j x hx).2.2.1,by have:=(j x hx).2.2.2;omega⟩,fun x hx=>⟨?_,?_,by omega⟩⟩,o.mb⟩
    ·rw[hwt,f.nk c hc];simp only[upd];split<;>simp[*]
    ·rcases e with e|e
     ·exact(j x hx).2.1 e
     ·have:=(j x hx).2.2.2;omega
    ·have e:x=h.size:=e
     rcases hx.1 with h|h
     ·exact(k x h).2.1 e
     ·omega
    ·rintro⟨h|h,_⟩
     ·exact(j x hx).2.1 h
     ·have:=(j x hx).2.2.2;omega
    ·rcases hx.1 with h|h
     ·exact(k x h).1
     ·omega
    ·rcases hx.1 with h|h
     ·exact(k x h).2.1
     ·omega
   refine hk _ _ (o7.node P) (((N.tr T).trans u fun x hx=>.inr ?_).trans p fun x hx=>.inr ?_)
   ·rcases hx with h|h
    ·exact(k x h).1
    ·omega
   ·have hx:x=h.size:=hx
    omega
  refine⟨pH f.n32 hi ⟨dS (i:=3) D.blk,bL ⟨dS (i:=3) I.blk,fin⟩⟩,bL ⟨dS (i:=1) I.blk,dS (i:=3) I.blk,pH f.n32 hi ⟨dS (i:=3) I.blk,fin⟩⟩⟩
end Go.Proofs
