/- A part of the proof that the named laws of this program answer true, whatever the input. -/
import Derived.Test.YtcpiahjlddmfiaaGreatPart4
import Derived.Test.YtcpiahjlddmfiaaGreatLift3
import Derived.Test.YtcpiahjlddmfiaaGreatPart3
open Int renaming toNat_natCast→aF,tmod→rN
open List renaming replicate→dM,getElem_mem→aU,take_succ_eq_append_getElem→ax,mem_append→bc,mem_singleton→aB,take_length→ba,mem_cons→aq,length_append→ae,length_map→cZ,length_set→mB,length_take→aJ,append_assoc→ao,drop_drop→cS,drop_left'→cn,filter_append→dh,getElem?_eq_getElem→al,mem_cons_of_mem→aG,mem_cons_self→au,length_filter_le→dq,length_singleton→aD,cons_append→cM,filter_cons→cf,mem_filter→cY,append_nil→bI,nil_append→gD,pairwise_append→cz,map_append→eU,sum_append→mA,getElem?_cons_zero→cp
open List.Pairwise renaming nil→cQ
open Nat renaming le_refl→aj,zero_le→aP,le_trans→aW,pow_add→nb,mul_comm→gR,mul_assoc→pm,mul_le_mul_left→fA
open Option renaming some→bC
open Prod renaming mk→nU
namespace Go.Proofs
open Go Go.Lift
section
variable {W:Nat→Prop} {h:ac} {vp:Nat} {s:VS}
abbrev pV(a:Nat):Value:=.pointer (some ⟨a,0,none⟩)
theorem QG(v:VaultAt W h vp s)(id:Int){K:Bool→ac→Prop}(a:K (decide (id=0∨id∈kC s.L)) h):HC PG ke [pV vp,.int .u32 id] [.c .bool] K h:=by
 refine zF (some ⟨vp,0,none⟩) id ?_;unfold sx bw rP;refine CondP.intro (fun e=>?_) fun e=>⟨_,rfl,_,vc v.blk 6,CC v.g id ?_⟩
 ·rw[decide_eq_true (.inl (by simpa using e))]at a;exact a
 ·have e:id≠0:=by simpa using e
  rw[show decide (id=0∨id∈kC s.L)=decide (id∈kC s.L)from by simp[e]]at a;exact a
theorem E4(v:VaultAt W h vp s)(id fr:Int){K:Bool→ac→Prop}(a:∀b h',(b=true↔id=0∨UpG s.L fr id)→Upd No h h'→K b h'):HC PG gF [pV vp,.int .u32 id,.int .u32 fr] [.c .bool] K h:=by
 refine xa (some ⟨vp,0,none⟩) id fr ?_;unfold qw bw On;refine CondP.intro (fun e=>a _ _ ⟨fun _=>.inl (by simpa using e),fun _=>rfl⟩ (Upd.refl _ _)) fun e=>⟨_,rfl,_,vc v.blk 6,Ny v.g v.inv.good.toSmall fr id fun b h' hb c=>a b h' ?_ c⟩
 have e:id≠0:=by simpa using e
 simp[hb,e]
theorem CQ(v:VaultAt W h vp s)(n:ByteArray){K:Int×Bool→ac→Prop}(a:K ((cE s.B n).getD 0,(cE s.B n).isSome) h):HC PG dH [pV vp,.string n] [.c (.int .u32),.c .bool] K h:=by
 refine ry (some ⟨vp,0,none⟩) n ?_;unfold mX aR;exact CondP.intro (fun e=>by cases e) fun _=>⟨_,rfl,_,vc v.blk 8,_,_,v.b.get n 0,a⟩
theorem oC(v:VaultAt W h vp s){K:Tr→ac→Prop}(d:∀h',Upd No h h'→K s.e h'):HC PG cF [pV vp] [.agg [.int .i64,.int .u64,.int .u64,.int .u64,.ptr,.ptr]] K h:=by
 refine qv (some ⟨vp,0,none⟩) ?_;unfold lX az gT ad bO bw ag eB rO JB;refine aV fun f b1 k1=>CondP.intro (fun e=>by cases e) fun _=>⟨_,rfl,?_⟩
 have c:=k1.get0 v.blk;refine⟨_,iW c 0 0,_,iW c 0 1,_,iW c 0 2,_,iW c 0 3,_,iW c 0 4,_,iW c 0 5,?_⟩;refine cy (c:=kG qW) (vs:=kG s.e) b1 rfl fun b b2 a=>?_
 exact⟨_,vc b2 0,_,vc b2 1,_,vc b2 2,_,vc b2 3,_,vc b2 4,_,vc b2 5,d b (k1.own a (aj _))⟩
theorem vC(v:VaultAt W h vp s)(id:Int){K:Tr×Int→ac→Prop}(n:id=0→∀h',Upd No h h'→K (s.e,0) h')(i:∀d,cE s.D id=some d→id≠0→∀h',Upd No h h'→K (d.1,0) h')(j:cE s.D id=none→id≠0→∀h',Upd No h h'→K (qW,4) h'):
  HC PG dg [pV vp,.int .u32 id] [.agg [.int .i64,.int .u64,.int .u64,.int .u64,.ptr,.ptr],.c (.int .i64)] K h:=by
 refine rv (some ⟨vp,0,none⟩) id ?_;unfold mV aR az gT ad bO bw ag eB nv rO ol N6 uW JB;refine aV fun x b1 k1=>CondP.intro (fun e=>by cases e) fun _=>?_
 have c:=k1.get0 v.blk;refine CondP.intro (fun e=>⟨_,rfl,?_⟩) fun e=>⟨_,rfl,_,vc c 7,((cE s.D id).getD (qW,[])).1,_,(v.t.upd k1 fun h=>h).get id (qW,[]),aV fun p b2 o=>?_⟩
 ·refine⟨_,iW c 0 0,_,iW c 0 1,_,iW c 0 2,_,iW c 0 3,_,iW c 0 4,_,iW c 0 5,?_⟩
  refine cy (c:=kG qW) (vs:=kG s.e) b1 rfl fun p b2 k=>?_
  exact⟨_,vc b2 0,_,vc b2 1,_,vc b2 2,_,vc b2 3,_,vc b2 4,_,vc b2 5,n (by simpa using e) p (k1.own k (aj _))⟩
 ·have e:id≠0:=by simpa using e
  have u:=bF b1;have w:=k1.size;refine cy (c:=kG qW) (vs:=kG ((cE s.D id).getD (qW,[])).1) b2 rfl fun t b3 g=>?_
  have f:=g.oth (o.get0 b1) (by omega);have q:Upd No h t:=(k1.tr o).own g k1.size;cases hl:cE s.D id with
  |none=>
   refine ay.2 (cy (c:=kG qW) (vs:=kG qW) f rfl fun m a b=>?_)
   exact⟨_,vc a 0,_,vc a 1,_,vc a 2,_,vc a 3,_,vc a 4,_,vc a 5,j hl e m (q.own b (aj _))⟩
  |some d=>
   rw[hl]at b3;refine ah.2 ⟨_,vc b3 0,_,vc b3 1,_,vc b3 2,_,vc b3 3,_,vc b3 4,_,vc b3 5,?_⟩;refine cy (c:=kG qW) (vs:=kG d.1) f rfl fun m a b=>?_
   exact⟨_,vc a 0,_,vc a 1,_,vc a 2,_,vc a 3,_,vc a 4,_,vc a 5,i d hl e m (q.own b (aj _))⟩
theorem MQ(v:VaultAt W h vp s){K:Option Addr→ac→Prop}(c:∀h',Upd No h h'→GraphAt (fun b=>W b∨b=h.size+1∨b=h.size) h' (h.size+1) h.size s.L s.nx→K (some ⟨h.size+1,0,none⟩) h'):HC PG gH [pV vp] [.c .ptr] K h:=by
 refine qu (some ⟨vp,0,none⟩) ?_;unfold lW bw;exact CondP.intro (fun e=>by cases e) fun _=>⟨_,rfl,_,vc v.blk 6,Py v.g fun h' a _ g=>c h' a g⟩
theorem VaultAt.turn{M:Nat→Prop}{h':ac}{L:de}{nx:Int}{D:List (Int×TD)}{B G:List (ByteArray×Int)}(v:VaultAt W h vp s)(k:Upd M h h')(hm:∀b,M b→W b∨h.size≤b)(g:GraphAt W h' s.gp s.gm L nx)(t:MapAt KE Te h' s.tm D)(b:MapAt kStr Pq h' s.bm B)(n:MapAt kStr Pq h' s.nm G)
  (ts:∀d∈D,d∈s.D∨TreeIs W h' s.kind s.x d.2.1 d.2.2∧dL d.2.2∧Fit d.2.2)(sub:∀id,id∈D.map (·.1)↔id∈kC L)(inv:Inv L nx):VaultAt W h' vp {s with L:=L,nx:=nx,D:=D,B:=B,G:=G}:=by
 have hv:¬M vp:=fun hb=>(hm vp hb).elim (fun e=>v.wv e) fun e=>absurd (bF v.blk) (by omega)
 exact⟨k.get v.blk hv,g,t,b,n,v.w,v.wv,v.ne,v.em.updM k hm,fun d hd=>(ts d hd).elim (fun e=>⟨(v.ts d e).1.updM k hm,(v.ts d e).2⟩) id,sub,inv,v.kd⟩
end
end Go.Proofs
namespace Go.Proofs
open Go Go.Lift
def tQ(b:UInt8):Bool:=decide (33≤b.toNat)&&decide (b.toNat≤126)
def m5(n:ByteArray):Bool:=decide (1≤n.size)&&decide (n.size≤32)&&n.data.toList.all tQ
theorem PS{b:UInt8}{h:ac}{K:Bool→ac→Prop}(a:K (!tQ b) h):HC PG qb [.int .u8 b.toNat] [.c .bool] K h:=by
 refine Cg b.toNat ?_;unfold vg;refine aw (fun e=>?_) fun e=>?_
 ·rw[show(!tQ b)=true from by simp[tQ];omega]at a;exact a
 ·rw[show(!tQ b)=decide ((b.toNat:Int)>126)from by unfold tQ;rw[decide_eq_true (by omega:33≤b.toNat),Bool.true_and,←decide_not,decide_eq_decide];omega]at a;exact a
theorem E3{n:ByteArray}{h:ac}{K:Bool→ac→Prop}(f:∀h',Upd No h h'→K (m5 n) h'):HC PG pf [.string n] [.c .bool] K h:=by
 refine EN n ?_;unfold xH;refine Join.plain (aw (fun e=>ay.2 ?_) fun e=>aw (fun k=>?_) fun k=>?_)
 ·rw[show m5 n=false from by simp[m5];omega]at f;exact f _ (Upd.refl _ _)
 ·rw[show m5 n=false from by simp[m5];omega]at f;exact f _ (Upd.refl _ _)
 ·refine fun c hc=>?_
  have k1:=Upd.push No h (.cells (bv n++dM (c-n.size) (Value.int .u8 0)).toArray bX (c,c+1));have b1:=tL h (.cells (bv n++dM (c-n.size) (Value.int .u8 0)).toArray bX (c,c+1));generalize h.push (.cells (bv n++dM (c-n.size) (Value.int .u8 0)).toArray bX (c,c+1))=h1 at k1 b1;have a:n.data.toList.length=n.size:=Array.length_toList;refine nh ⟨some (aH h),n.size,c⟩ _ ?_
  unfold ir;refine oU ⟨some (aH h),n.size,c⟩ _ ?_;unfold jf aR cx;refine LoopP.ghost (fun(i:Nat) (t:Int) h'=>t=(i:Int)∧h'=h1∧i≤n.size∧∀b∈n.data.toList.take i,tQ b=true) (fun i=>n.size-i) 0 ⟨rfl,rfl,aP _,by simp⟩ ?_
  rintro I i t h' ⟨rfl,rfl,hi,j⟩ m;refine aw (fun d=>?_) fun g=>?_
  ·have d:i<n.data.toList.length:=by rw[a];simp only at d;omega
   refine⟨by simp only;omega,aH h,rfl,(n.data.toList[i].toNat:Int),?_,?_⟩
   ·rw[Dt b1,List.getElem?_toArray,aF,Nat.mul_one,List.getElem?_append_left (by simp[bv];omega)]
    simp[bv,a▸d]
   ·refine HV.mk' (PS (b:=n.data.toList[i]) (CondP.intro (fun e=>?_) fun e=>?_))
    ·rw[show m5 n=false from ?_]at f
     ·rw[decide_eq_true (by omega)];exact f _ k1
     ·unfold m5
      rw[show n.data.toList.all tQ=false from List.all_eq_false.2 ⟨_,aU d,by simpa using e⟩,Bool.and_false]
    ·rw[bN (n:=n.size) (by omega) (by omega)]
     refine m (i+1) _ _ ⟨rfl,rfl,by omega,?_⟩ (by omega)
     rw[ax d];intro b hb;rcases bc.1 hb with hb|hb
     ·exact j b hb
     ·rw[aB.1 hb];simpa using e
  ·have:i=n.size:=by simp only at g;omega
   subst this;rw[←a,ba]at j;rw[show m5 n=true from by unfold m5;rw[List.all_eq_true.2 j];simp;omega]at f
   exact f _ k1
def A8(B:List (ByteArray×Int))(L:de)(n:ByteArray)(id:Int)(no:Bool):Int:=if m5 n=false then 1 else if(cE B n).isSome then 7 else if no|| !decide (id=0∨id∈kC L)then 4 else if B.length≥256 then 6 else 0
theorem RP{W:Nat→Prop}{h:ac}{g:Nat}{s:VS}(v:VaultAt W h g s){r:Nat}{B:List (ByteArray×Int)}(m:MapAt kStr Pq h r B)(n:ByteArray)(id:Int)(no:Bool){K:Int→ac→Prop}
  (j:∀h',Upd (· =r) h h'→MapAt kStr Pq h' r (if A8 B s.L n id no=0 then jZ B n id else B)→K (A8 B s.L n id no) h'):HC PG j9 [.map (some r),pV g,.string n,.int .u32 id,.bool no] [.c (.int .i64)] K h:=by
 refine zE (some r) (some ⟨g,0,none⟩) n id no ?_;unfold sw rP;refine⟨_,_,m.get n 0,E3 fun o k1=>?_⟩
 have a:∀e h',A8 B s.L n id no=e→e≠0→Upd No h h'→K e h':=fun e h' q w k=>by
  have:=j h' k.wide;rw[q,if_neg w]at this;exact this (m.upd k fun h=>h)
 refine CondP.intro (fun e=>a 1 o ?_ (by decide) k1) fun e=>CondP.intro (fun c=>a 7 o ?_ (by decide) k1) fun c=>?_
 ·unfold A8;rw[if_pos (by simpa using e)]
 ·unfold A8;rw[if_neg (by simpa using e),if_pos c]
 ·have e:¬m5 n=false:=by simpa using e
  have c:¬(cE B n).isSome=true:=by simp[c]
  refine Join.intro (fun t h'=>t=(no|| !decide (id=0∨id∈kC s.L))∧Upd No h h') (fun R p=>?_) ?_
  ·refine CondP.intro (fun b=>p _ _ ⟨by rw[b];rfl,k1⟩) fun b=>QG (v.upd0 k1) id (p _ _ ⟨by rw[b];rfl,k1⟩)
  ·rintro t f ⟨rfl,d⟩
   refine CondP.intro (fun b=>a 4 f ?_ (by decide) d) fun b=>⟨_,(m.upd d fun h=>h).len,aw (fun u=>a 6 f ?_ (by decide) d) fun u=>?_⟩
   ·unfold A8;rw[if_neg e,if_neg c,if_pos b]
   ·unfold A8;rw[if_neg e,if_neg c,if_neg (by rw[b];decide),if_pos (by omega)]
   ·have i:=m.upd d fun h=>h
    have x:A8 B s.L n id no=0:=by unfold A8;rw[if_neg e,if_neg c,if_neg (by rw[b];decide),if_neg (by omega)]
    refine⟨r,rfl,i.isMap,?_⟩;have:=j _ ((d.wide).tr (pt (M:=(· =r)) f (.string n) (.int .u32 id) rfl))
    rw[x,if_pos rfl]at this;exact this (i.put n id)
theorem VS.neB{s:VS}(h: [s.gp,s.gm,s.tm,s.bm,s.nm].Nodup):s.gp≠s.gm∧s.gp≠s.tm∧s.gp≠s.bm∧s.gp≠s.nm∧s.gm≠s.tm∧s.gm≠s.bm∧s.gm≠s.nm∧s.tm≠s.bm∧s.tm≠s.nm∧s.bm≠s.nm:=by
 simp only[List.nodup_cons,aq,List.not_mem_nil,or_false,not_or]at h;exact⟨h.1.1,h.1.2.1,h.1.2.2.1,h.1.2.2.2,h.2.1.1,h.2.1.2.1,h.2.1.2.2,h.2.2.1.1,h.2.2.1.2,h.2.2.2.1⟩
theorem VaultAt.setB{W:Nat→Prop}{h h':ac}{g:Nat}{s:VS}{B:List (ByteArray×Int)}(v:VaultAt W h g s)(k:Upd (· =s.bm) h h')(b:MapAt kStr Pq h' s.bm B):VaultAt W h' g {s with B:=B}:=by
 obtain⟨o,q,m,p,u,j,n,i,t,c⟩:=VS.neB v.ne;have f:∀b,b=s.bm→W b:=fun b e=>v.w b (.inr (.inr (.inr (.inl e))))
 exact v.turn k (fun b e=>.inl (f b e)) (v.g.upd k fun b e=>.inl ⟨f b e,fun a=>m (a.symm.trans e),fun a=>j (a.symm.trans e)⟩) (v.t.upd k i) b (v.n.upd k fun e=>c e.symm) (fun d hd=>.inl hd) v.sub v.inv
theorem CR{W:Nat→Prop}{h:ac}{a:Nat}{s:VS}(v:VaultAt W h a s)(n:ByteArray)(id:Int){K:Int→ac→Prop}
  (c:∀h',Upd (· =s.bm) h h'→VaultAt W h' a {s with B:=if A8 s.B s.L n id false=0 then jZ s.B n id else s.B}→K (A8 s.B s.L n id false) h'):HC PG fa [pV a,.string n,.int .u32 id] [.c (.int .i64)] K h:=by
 refine pO (some ⟨a,0,none⟩) n id ?_;unfold kZ aR;exact CondP.intro (fun e=>by cases e) fun _=>⟨_,rfl,_,vc v.blk 8,RP v v.b n id false fun h' b m=>c h' b (v.setB b m)⟩
end Go.Proofs
namespace Go.Proofs
open Go Go.Lift
section
variable {M:Nat→Prop} {h:ac} {s:SliceV} {xs ys:List Int}
theorem Gd(l:List Int):l.flatMap u32=l.map fun x=>Value.int .u32 x:=by
 induction l with
 |nil=>rfl
 |cons x l ih=>rw[List.flatMap_cons,ih];rfl
theorem OwnS.put1(g:OwnS u32 1 eM M h s ys){i:Nat}(hi:i<ys.length)(x:Int){k:ac→Prop}(m:∀h',OwnS u32 1 eM M h' s (ys.set i x)→Upd M h h'→k h'):∃a,s.a=some a∧Wr h (adr a (i*1))∧At (hset h (adr a (i*1)) (.int .u32 x)) k:=by
 have c:=g.len;have f:=g.cap;rcases g.blk with q|⟨b,d,j,hb,hc,o⟩
 ·omega
 refine⟨_,j,?_⟩;rw[Nat.mul_one];refine yP hc (by rw[List.size_toArray,ae,Gd,cZ];omega) (List.setIfInBounds_toArray ..) fun n b2 p=>m n ⟨by rw[mB];exact c,qV,f,.inr ⟨b,d,j,hb,?_,o⟩⟩ (p.mono fun _ e=>.inl (e▸hb))
 rw[b2,Gd,List.set_append_left _ _ (by rw[cZ];exact hi),Gd,List.map_set]
theorem OwnS.cutZ(g:OwnS u32 1 eM M h s ys){i:Nat}(hi:i<ys.length){k:ac→Prop}(p:∀h',OwnS u32 1 eM M h' ⟨aS s.a 0 s.cap 1,i-0,s.cap-0⟩ (ys.take i)→Upd M h h'→k h'):
  uj h (aS s.a i s.cap 1) 0 (c8 (s.len-i) [.int .u32 0])∧At (eW h (aS s.a i s.cap 1) 0 (c8 (s.len-i) [.int .u32 0])) k:=by
 have m:=g.len;have o:=g.cap;rcases g.blk with v|⟨b,a,n,hb,hc,t⟩
 ·omega
 have d:((ys.take i).flatMap u32).length=i*1:=by rw[ko qV,aJ,Nat.min_eq_left (by omega)]
 have j:((ys.drop i).flatMap u32).length=(ys.length-i)*1:=by rw[ko qV,List.length_drop]
 rw[yq (f:=u32) ys i]at hc;rw[n,i9 (by omega)];have c:(c8 (s.len-i) [Value.int .u32 0]).length=(s.len-i)*1:=jG _ _;refine Gp hc (by rw[c,ae,ae,d,j];omega) fun q b2 u=>p q ⟨by rw[aJ];simp only;omega,qV,by simp only;omega,
  .inr ⟨b,c8 (s.len-i) [Value.int .u32 0]++a,by rw[n,sub_zero],hb,?_,?_⟩⟩ (u.mono fun _ e=>.inl (e▸hb))
 ·rw[b2]
  congr 2
  rw[ao,ao,List.take_left' (by rw[d];omega)];congr 2
  rw[←cS,cn (by rw[d];omega),cn (by rw[j,c];omega)]
 ·rw[ae,c,t];simp only;omega
def nz(xs:List Int):List Int:=xs.filter fun x=> !(x==0)
theorem OM{x:Int}{K:Bool→ac→Prop}(a:K (x==0) h):HV PG (.func (.func rk) #[] #[]) [.int .u32 x] [.c .bool] K h:=by
 refine HV.mk' (D6 x ?_);unfold wG;exact a
theorem Ow(m:OwnS u32 1 eM M h s xs)(R:xs.length≤1000000){K:SliceV→ac→Prop}(D:∀s' h',OwnS u32 1 eM M h' s' (nz xs)→Upd M h h'→K s' h'):HC PG uz [.slice s.a s.len s.cap] [.c .slice] K h:=by
 have o:=m.len;have F:=m.cap;refine G5 s ?_;unfold z8;refine pQ s _ ?_;unfold ju aR cx c9;refine jM s _ ?_;unfold gB aR cx;have G:Sl u32 1 No h s xs:=m.sl fun _ _ _ h=>h
 refine LoopP.ghost (fun(i:Nat) (t:Int) h'=>t=(i:Int)∧h'=h∧i≤xs.length∧nz (xs.take i)=xs.take i) (fun i=>xs.length-i) 0 ⟨rfl,rfl,aP _,by simp[nz]⟩ ?_
 rintro I i t h' ⟨rfl,rfl,hi,k⟩ N;refine aw (fun c=>?_) fun H=>?_
 ·have c:i<xs.length:=by omega
  obtain⟨a,B,_,hx⟩:=Nums.at G c;refine⟨by omega,a,B,_,hx,OM (CondP.intro (fun e=>?_) fun e=>?_)⟩
  ·
   have Q:nz (xs.take (i+1))=xs.take i:=by
    rw[ax c];unfold nz at k⊢;rw[dh,k];simp[e]
   refine CondP.intro (fun O=>?_) fun _=>?_
   ·simp at O
   rw[bN c (by omega)];refine LoopP.ghost (fun(g:Nat×Nat×List Int) (t:Int×Int) x=>t=((g.1:Int),(g.2.1:Int))∧g.1<g.2.1∧g.2.1≤xs.length∧OwnS u32 1 eM M x s g.2.2∧g.2.2.take g.1=nz (xs.take g.2.1)∧g.2.2.drop g.2.1=xs.drop g.2.1∧Upd M h' x) (fun g=>xs.length-g.2.1) (i,i+1,xs) ⟨rfl,by simp only;omega,by simp only;omega,m,Q.symm,rfl,Upd.refl _ _⟩ ?_
   rintro S ⟨p,j,ys⟩ t x ⟨rfl,y,J,d,v,hd,z⟩ u;have d:OwnS u32 1 eM M x s ys:=d;have L:ys.length=xs.length:=d.len.symm.trans o;simp only at y J v hd⊢;refine aw (fun b=>?_) fun E=>?_
   ·have b:j<xs.length:=by omega
    have A:ys[j]'(by omega)=xs[j]:=by
     have:=congrArg List.head? hd;simpa[List.head?_drop,al b,al (show j<ys.length by omega)]using this
    obtain⟨a,B,_,hx⟩:=Nums.at (d.sl (W:=No) fun _ _ _ h=>h) (show j<ys.length by omega)
    rw[A]at hx;have q:ys.drop (j+1)=xs.drop (j+1):=by rw[←cS,hd,cS]
    refine Join.plain ⟨by omega,a,B,_,hx,OM (CondP.intro (fun e=>?_) fun e=>?_)⟩
    ·have f:(!(xs[j]==0))=true:=e
     refine⟨by omega,?_⟩;rw[aF];refine OwnS.put1 d (i:=p) (by omega) xs[j] fun P w C=>?_
     rw[bN (i:=p) (n:=xs.length) (by omega) (by omega),bN b (by omega)];refine u (p+1,j+1,ys.set p xs[j]) _ _ ⟨rfl,by simp only;omega,by simp only;omega,w,?_,?_,z.tr C⟩ (by simp only;omega)
     ·simp only
      rw[ax (by rw[mB];omega),List.getElem_set_self,List.take_set_of_le (aj _),v,ax b];unfold nz;rw[dh];simp[f]
     ·simp only
      rw[List.drop_set_of_lt (by omega),q]
    ·have f:(!(xs[j]==0))=false:=e
     rw[bN b (by omega)];refine u (p,j+1,ys) _ _ ⟨rfl,by simp only;omega,by simp only;omega,d,?_,q,z⟩ (by simp only;omega)
     simp only;rw[v,ax b];unfold nz;rw[dh];simp[f]
   ·have:j=xs.length:=by omega
    subst this;rw[ba]at v;refine⟨by omega,?_⟩;rw[aF];refine OwnS.cutZ (ys:=ys) d (by omega) fun P w C=>⟨by omega,?_⟩
    rw[v]at w;exact D _ _ w (z.tr C)
  ·rw[bN c (by omega)]
   refine N (i+1) _ _ ⟨rfl,rfl,by omega,?_⟩ (by omega)
   rw[ax c];unfold nz at k⊢;rw[dh,k];simp[e]
 ·have:i=xs.length:=by omega
  subst this;rw[ba]at k;rw[←k]at m;exact ay.2 (D s _ m (Upd.refl _ _))
end
end Go.Proofs
namespace Go.Proofs
open Go Go.Lift
def Hz(s:VS)(n:ByteArray)(d:TD)(ps:List Int):(Int×Int)×VS:=
 if(mR s.L s.nx ps).1.2≠0 then((0,(mR s.L s.nx ps).1.2),s)
 else(((mR s.L s.nx ps).1.1,0),{s with L:=(mR s.L s.nx ps).2.1,nx:=(mR s.L s.nx ps).2.2,D:=jZ s.D (mR s.L s.nx ps).1.1 d,B:=jZ s.B n (mR s.L s.nx ps).1.1})
theorem P4{L:de}{nx:Int}{ps:List Int}(h:(mR L nx ps).1.2≠0):(mR L nx ps).2=(L,nx):=by
 unfold mR at h⊢;split
 ·rfl
 ·split
  ·rfl
  ·split
   ·rfl
   ·rename_i h1 h2 h3
    rw[if_neg h1,if_neg h2,if_neg h3]at h;exact absurd rfl h
theorem NO{L:de}{nx:Int}{ps:List Int}(h:(mR L nx ps).1.2=0):mR L nx ps=((nx,0),uw L nx ps,nx+1):=by
 unfold mR at h⊢;split at h
 ·rename_i h1;exact absurd h h1
 ·split at h
  ·rename_i h1;exact absurd h h1
  ·split at h
   ·have h:(6:Int)=0:=h
    omega
   ·rename_i h1 h2 h3;rw[if_neg h1,if_neg h2,if_neg h3]
theorem DZ{h:ac}{k:ac→Prop}(a:∀h',h'=h→k h'):At h k:=bq (a h rfl)
theorem zy{κ β:Type}[DecidableEq κ]{k:κ}{v:β}:∀{l:List (κ×β)} {p:κ×β},p∈jZ l k v→p=(k,v)∨p∈l
 | [],p,h=>.inl (by simpa[jZ]using h)
 |(k',u)::l,p,h=>by
  unfold jZ at h;split at h
  ·exact(aq.1 h).imp id (aG _)
  ·rcases aq.1 h with h|h
   ·exact .inr (h▸au)
   ·exact(zy h).imp id (aG _)
theorem D2{β:Type}{k:Int}{v:β}:∀{l:List (Int×β)},cE l k=some v→(k,v)∈l
 |(k',u)::l,h=>by
  unfold cE at h;split at h
  ·rename_i e;cases h;rw[e];exact au
  ·exact aG _ (D2 h)
section
variable {W:Nat→Prop} {h0 h:ac} {vp:Nat} {s:VS}
theorem VaultAt.size(v:VaultAt W h vp s){y:Nat}(a:s.M y):y<h.size:=v.g.lt y (v.w y a)
theorem VS.mG{s:VS}{y:Nat}(h:uP s.gp s.gm y):s.M y:=h.imp id .inl
theorem HA(v:VaultAt W h0 vp s)(k0:Upd No h0 h)(n:ByteArray){d:TD}(i:TreeIs W h0 s.kind s.x d.1 d.2)(hr:dL d.2)(hf:Fit d.2){pb:Nat}(T:h0.size≤pb)(hpb2:pb<h.size){sl:SliceV}{ps:List Int}(ho:OwnS u32 1 eM (· =pb) h sl ps)(hn:ps.length≤1000000)
  {K:Int×Int→ac→Prop}(E:∀h',Upd s.M h0 h'→VaultAt W h' vp (Hz s n d (nz ps)).2→K (Hz s n d (nz ps)).1 h'):
  HC PG fM [pV vp,.string n,Hm d.1,.slice sl.a sl.len sl.cap] [.c (.int .u32),.c (.int .i64)] K h:=by
 refine vu (some ⟨vp,0,none⟩) n d.1 sl ?_;unfold ox aR az ad bw ag ol vr tG;refine aV fun h1 b1 k1=>⟨_,rfl,_,vc (v.upd0 (k0.tr k1)).blk 6,?_⟩
 have s0:=k0.size;refine Ow (ho.upd k1 fun _ _ h=>h) hn fun s5 P o5 u5=>?_
 have I:Upd No h0 P:=(k0.tr k1).own u5 T;have t:=v.upd0 I;have b5:=u5.oth b1 (show h.size≠pb by omega)
 have hl5:(nz ps).length≤ps.length:=dq ..;have O:∀y,W y→y<h0.size:=v.g.lt;refine⟨vc t.blk 6,RB t.g (by have:=v.inv.nx1;omega) (fun hm=>by have:=(v.inv.pos _ hm).2;omega) (o5.sl (W:=W) fun b hb _ hw=>by have:=O b hw;omega) (by omega) fun G o H=>?_⟩
 have S:∀y,uP s.gp s.gm y→W y∨P.size≤y:=fun y a=>.inl (v.w y (VS.mG a))
 obtain⟨n1,n2,n3,n4,n5,n6,n7,n8,n9,R⟩:=VS.neB v.ne;have u:∀y,y≠s.gp→y≠s.gm→¬uP s.gp s.gm y:=fun y h1 h2 h=>h.elim h1 h2
 have V:=t.t.upd o (u _ n2.symm n5.symm);have m7:=t.b.upd o (u _ n3.symm n6.symm);have A:=t.n.upd o (u _ n4.symm n7.symm);refine CondP.intro (fun e=>?_) fun e=>?_
 ·have e:(mR s.L s.nx (nz ps)).1.2≠0:=by simpa using e
  have Y:=P4 e;have hv:Hz s n d (nz ps)=((0,(mR s.L s.nx (nz ps)).1.2),s):=by unfold Hz;rw[if_pos e]
  rw[hv]at E;rw[Y]at H;exact E G (I.wide.tr (o.mono fun y a=>.inl (VS.mG a))) (t.turn o S H V m7 A (fun d hd=>.inl hd) v.sub v.inv)
 ·have e:(mR s.L s.nx (nz ps)).1.2=0:=by simpa using e
  have Y:=NO e;have q:=v.inv.add (nz ps);have hv:Hz s n d (nz ps)=(((mR s.L s.nx (nz ps)).1.1,0),{s with L:=(mR s.L s.nx (nz ps)).2.1,nx:=(mR s.L s.nx (nz ps)).2.2,D:=jZ s.D (mR s.L s.nx (nz ps)).1.1 d,B:=jZ s.B n (mR s.L s.nx (nz ps)).1.1}):=by unfold Hz;rw[if_neg (by rw[e];simp)]
  rw[hv]at E;rw[Y]at H E q⊢;have F:∀y,s.M y→vp≠y:=fun y a e=>v.wv (e▸v.w y a)
  have c7:=o.get t.blk fun hm=>F _ (VS.mG hm) rfl
  have w:=o.get b5 fun hm=>by have:=v.size (VS.mG hm);omega
  refine⟨_,rfl,_,vc c7 7,_,vc w 0,_,vc w 1,_,vc w 2,_,vc w 3,_,vc w 4,_,vc w 5,_,rfl,V.isMap,DZ fun f k=>?_⟩
  have k:f=kP G s.tm (KE.enc s.nx) (Te d):=k;have g:Upd (· =s.tm) G f:=by rw[k];exact pt G _ _ rfl
  have t17:MapAt KE Te f s.tm (jZ s.D s.nx d):=by rw[k];exact V.put s.nx d
  have z:=m7.upd g (fun e=>n8 e.symm)
  have C:=A.upd g (fun e=>n9 e.symm)
  have N:=H.upd g fun b hb=>.inl ⟨v.w b (.inr (.inr (.inl hb))),fun e=>n2 (e.symm.trans hb),fun e=>n5 (e.symm.trans hb)⟩
  have Q:=g.get c7 fun e=>F _ (.inr (.inr (.inl rfl))) e
  refine⟨_,rfl,_,vc Q 8,_,rfl,z.isMap,DZ fun c m=>?_⟩
  have m:c=kP f s.bm (kStr.enc n) (Pq s.nx):=m;have j:Upd (· =s.bm) f c:=by rw[m];exact pt f _ _ rfl
  have Z:MapAt kStr Pq c s.bm (jZ s.B n s.nx):=by rw[m];exact z.put n s.nx
  have J:=t17.upd j n8;have x:=C.upd j (fun e=>R e.symm)
  have X:=N.upd j fun b hb=>.inl ⟨v.w b (.inr (.inr (.inr (.inl hb)))),fun e=>n3 (e.symm.trans hb),fun e=>n6 (e.symm.trans hb)⟩
  have U:Upd s.M P c:=((o.mono fun y a=>.inl (VS.mG a)).tr (g.mono fun y a=>.inl (.inr (.inr (.inl a))))).tr (j.mono fun y a=>.inl (.inr (.inr (.inr (.inl a)))))
  refine E c (I.wide.tr U) (t.turn U (fun y a=>.inl (v.w y a)) X J Z x (fun p hp=>(zy hp).elim (fun e=>.inr ?_) .inl) (fun id=>?_) q)
  ·subst e
   have ku:Upd s.M h0 c:=I.wide.tr U;exact⟨i.updM ku fun y a=>.inl (v.w y a),hr,hf⟩
  ·rw[tR,insV_ids.mem_iff,aq,←v.sub id]
   split
   ·rename_i hm
    exact⟨.inr,fun h=>h.elim (fun e=>e▸hm) fun h=>h⟩
   ·rw[bc,aB,Or.comm]
end
end Go.Proofs
namespace Go.Proofs
open Go Go.Lift
abbrev Uh:List Value:= [.string (⟨#[]⟩:ByteArray),.string (⟨#[]⟩:ByteArray)]
theorem Di{h:ac}{t:TypeId}{p:Pr}{k:ac→Prop}(d:∀h',h'[h.size]? =some (.cells #[.string p.1,.string p.2] t (0,0))→Upd No h h'→k h'):
  At (hnew h [.string (⟨#[]⟩:ByteArray),.string (⟨#[]⟩:ByteArray)] t) fun b=>uj b (some (aH h)) 0 [.string p.1,.string p.2]∧At (iJ b (aH h) 0 [.string p.1,.string p.2]) k:=by
 refine aV fun f b1 k1=>?_
 exact cy (c:=Uh) (vs:= [.string p.1,.string p.2]) b1 rfl fun e b2 a=>d e b2 (k1.own a (aj _))
theorem zz{t:TypeId}{M:Nat→Prop}{h:ac}{so:SliceV}{out:List Pr}{p:Pr}{K:SliceV→ac→Prop}(e:OwnS il 2 t M h so out)(hM:∀b,h.size≤b→M b)(g:out.length+1≤1000000000)
  (c:∀s' h',OwnS il 2 t M h' s' (out++ [p])→Upd M h h'→K s' h'):
  ∃xs,SRow (hnew h [.string p.1,.string p.2] t) (some (aH h)) (1*2) xs∧AppP (some [.string (⟨#[]⟩:ByteArray),.string (⟨#[]⟩:ByteArray)]) 2 32 t so.a so.len so.cap 1 xs (hnew h [.string p.1,.string p.2] t) K:=by
 have k:=Upd.hnew No h [.string p.1,.string p.2] t;have d:OwnS il 2 t (fun _=>True) (hnew h [.string p.1,.string p.2] t) ⟨some (aH h),1,1⟩ [p]:=⟨rfl,iu,aj _,.inr ⟨h.size,[],rfl,trivial,bG ..,rfl⟩⟩
 refine⟨_,(d.sl (W:=No) fun _ _ _ h=>h).srow,?_⟩
 refine AppP.own (ys:= [p]) (e.upd k fun _ _ h=>h) rfl rfl rfl rfl (by omega) (by simp only[aD];omega) (hM _ (by rw[eI];omega)) fun s' h' a f=>?_
 exact c s' h' a ((Upd.hnew M h _ _).tr f)
theorem Dq{p:Pr}:∀{A B:List Pr},(∀r∈A,kl r.1 p.1)→ij p (A++B)=A++ij p B
 | [],_,_=>rfl
 |r::A,B,h=>by
  rw[cM,gi,if_pos (h r (au ..)),Dq fun q a=>h q (aG _ a)];rfl
theorem Il{p q:Pr}:∀{A:List Pr},(∃r∈A,kl p.1 r.1)→ij p (A++ [q])=ij p A++ [q]
 | [],h=>by obtain⟨r,e,_⟩:=h;simp at e
 |r::A,h=>by
  rw[cM,gi,gi];by_cases b:kl r.1 p.1
  ·rw[if_pos b,if_pos b,Il]
   ·rfl
   ·obtain⟨f,a,d⟩:=h
    rcases aq.1 a with rfl|a
    ·exact absurd (kR b d) (dj _)
    ·exact⟨f,a,d⟩
  ·rw[if_neg b,if_neg b]
   by_cases c:r.1=p.1
   ·rw[if_pos c,if_pos c];rfl
   ·rw[if_neg c,if_neg c];rfl
theorem Ij{p:Pr}:∀{l:List Pr},(∀q∈l,kl p.1 q.1)→ij p l=p::l
 | [],_=>rfl
 |q::l,h=>by
  have a:=h q (au ..);rw[gi,if_neg fun b=>dj _ (kR a b),if_neg fun e=>by rw[e]at a;exact dj _ a]
theorem Fz{p:Pr}:∀{l:List Pr},dL l→ij p (l.filter fun q=>decide (q.1≠p.1))=ij p l
 | [],_=>rfl
 |r::l,a=>by
  have a:=List.pairwise_cons.1 a;have keep:∀{l:List Pr},(∀q∈l,kl p.1 q.1)→(l.filter fun q=>decide (q.1≠p.1))=l:=fun{l} h=>List.filter_eq_self.2 fun q c=>decide_eq_true fun e=>by have:=h q c;rw[e]at this;exact dj _ this
  rw[cf,gi];by_cases e:r.1=p.1
  ·have d:∀q∈l,kl p.1 q.1:=fun q c=>by rw[←e];exact a.1 q c
   rw[if_neg (by simp[e]),if_neg (by rw[e];exact dj _),if_pos e,keep d,Ij d]
  ·rw[if_pos (by simpa using e),gi]
   by_cases b:kl r.1 p.1
   ·rw[if_pos b,if_pos b,Fz a.2]
   ·rw[if_neg b,if_neg b,if_neg e,if_neg e]
    have f:=AL b e;rw[keep fun q c=>kR f (a.1 q c)]
theorem Fs{W W':Nat→Prop}{h h':ac}{kind:Int}{x:Hs}{t u:Tr}{l l':List Pr}(i:TreeIs W h kind x t l)(a:TreeIs W' h' kind x u l'):qq t u=true:=by
 rcases i with⟨rfl,b,rfl,_⟩|⟨rfl,b,rfl,_⟩<;>rcases a with⟨e,b',rfl,_⟩|⟨e,b',rfl,_⟩
 ·simp[qq]
 ·cases e
 ·cases e
 ·simp[qq]
theorem Kt(t:Tr):qq t t=true:=by simp[qq]
theorem TM{k:Int}(a:0≤k)(b:k≤255):IntKind.wrap .i64 (rN k 2)=0∨IntKind.wrap .i64 (rN k 2)=1:=by
 have:rN k 2=k%2:=Int.tmod_eq_emod_of_nonneg a;rw[this,kE (by omega)];omega
abbrev hsL(x:Hs):List Value:= [.int .u64 x.k0,.int .u64 x.k1,.int .u64 x.mask]
end Go.Proofs
namespace Go.Proofs
open Go Go.Lift
section
variable {W:Nat→Prop} {h:ac} {vp:Nat} {s:VS}
theorem CS(v:VaultAt W h vp s)(n:ByteArray){hd:Int}(hb:cE s.B n=some hd){d:TD}(i:TreeIs W h s.kind s.x d.1 d.2)(k:dL d.2)(j:Fit d.2)
  {K:Int×Int→ac→Prop}(e:∀h',Upd s.M h h'→VaultAt W h' vp (Hz s n d (nz [hd])).2→K (Hz s n d (nz [hd])).1 h'):
  HC PG fc [pV vp,.string n,Hm d.1] [.c (.int .u32),.c (.int .i64)] K h:=by
 refine pP (some ⟨vp,0,none⟩) n d.1 ?_;unfold ld az gT ad bO bw ag ol vA vr;refine aV fun p b1 k1=>CQ (v.upd0 k1) n ?_
 rw[hb];refine ah.2 ⟨_,vc b1 0,_,vc b1 1,_,vc b1 2,_,vc b1 3,_,vc b1 4,_,vc b1 5,_,rfl,?_⟩;have c1:=k1.get0 v.blk;refine⟨_,iW c1 0 0,_,iW c1 0 1,_,iW c1 0 2,_,iW c1 0 3,_,iW c1 0 4,_,iW c1 0 5,?_⟩;refine yW (t:=d.1) (u:=s.e) fun b c=>?_
 rw[Fs i v.em];have b2:=c.get0 b1;refine ah.2 ⟨_,vc b2 0,_,vc b2 1,_,vc b2 2,_,vc b2 3,_,vc b2 4,_,vc b2 5,aV fun q b3 m=>?_⟩
 have a:=k1.tr c;have g:=a.size;refine HA v (a.tr m) n i k j (pb:=b.size) g (bF b3) (sl:=⟨some (aH b),1,1⟩) (ps:= [hd]) ⟨rfl,qV,aj _,.inr ⟨b.size,[],rfl,rfl,b3,rfl⟩⟩ (by simp) fun h' o f=>e h' o f
end
end Go.Proofs
namespace Go.Proofs
open Go Go.Lift
end Go.Proofs
namespace Go.Proofs
open Go Go.Lift
theorem JL{W:Nat→Prop}{h:ac}{b:Nat}{sl:ByteArray}{w:Option ByteArray}{F:Fo}(r:RxN W h b sl w F){K:ByteArray×Bool→ac→Prop}(a:∀v,(∀u,w=some u→v=u)→K (v,w.isSome) h):HC PG mL [.pointer (some ⟨b,0,none⟩)] [.c .str,.c .bool] K h:=by
 refine yB _ ?_;unfold rE bK eY;obtain⟨val,s,ow,ks,hb,hv,_⟩:=r;exact ah.2 ⟨_,rfl,val,fL (i:=2) hb,_,rfl,w.isSome,fL (i:=1) hb,a val (vw hv)⟩
theorem M1{W:Nat→Prop}{h:ac}{b:Nat}{sl:ByteArray}{w:Option ByteArray}{F:Fo}(r:RxN W h b sl w F)(j:F.toL.length≤256){K:SliceV→ac→Prop}(d:∀s' h' ks,OwnS xB 1 bJ (fun y=>h.size≤y) h' s' ks→RxL W h' ks F.toL→Upd No h h'→K s' h'):HC PG nD [.pointer (some ⟨b,0,none⟩)] [.c .slice] K h:=by
 refine zL _ ?_;unfold sF bj;obtain⟨val,s,ow,ks,hb,hv,g,_,e⟩:=r;have a:=qI.1 e;refine ah.2 ⟨_,rfl,s,fL (i:=3) hb,?_⟩;refine FP g (by rw[a.1];omega) fun s' h' f c=>d s' h' ks f (a.upd0 c) c
theorem Nf(lab:List UInt8)(w:Option ByteArray)(a b:Fo):x9 (.cons lab w a b)=((w.map fun v=>(([]:List UInt8),v)).toList++x9 a).map (fun p=>(lab++p.1,p.2))++x9 b:=rfl
end Go.Proofs
namespace Go.Proofs
open Go Go.Lift
end Go.Proofs
namespace Go.Proofs
open Go Go.Lift
end Go.Proofs
namespace Go.Proofs
structure WO{α:Type}(lt:α→α→Bool):Prop where
 irr:∀a,lt a a=false
 asy:∀a b,lt a b=true→lt b a=false
 ntr:∀a b c,lt a b=false→lt b c=false→lt a c=false
section
variable {α:Type} {lt:α→α→Bool}
def NF(lt:α→α→Bool)(x a:α):Bool:= !lt a x&& !lt x a
def Srt(lt:α→α→Bool)(l:List α):Prop:=l.Pairwise fun a b=>lt b a=false
structure Eqf(lt:α→α→Bool)(l l':List α):Prop where
 len:l'.length=l.length
 flt:∀x,l'.filter (NF lt x)=l.filter (NF lt x)
structure St(lt:α→α→Bool)(l l':List α):Prop where
 eqf:Eqf lt l l'
 srt:Srt lt l'
theorem Eqf.rfl(l:List α):Eqf lt l l:=⟨_root_.rfl,fun _=>_root_.rfl⟩
theorem Eqf.tr{a b c:List α}(h:Eqf lt a b)(k:Eqf lt b c):Eqf lt a c:=⟨k.len.trans h.len,fun x=>(k.flt x).trans (h.flt x)⟩
theorem Eqf.app{a b a' b':List α}(h:Eqf lt a a')(k:Eqf lt b b'):Eqf lt (a++b) (a'++b'):=
 ⟨by rw[ae,ae,h.len,k.len],fun x=>by rw[dh,dh,h.flt,k.flt]⟩
theorem IG(w:WO lt)(a:α):NF lt a a=true:=by unfold NF;rw[w.irr];rfl
theorem Eqf.mem(w:WO lt){l l':List α}(h:Eqf lt l l'){a:α}:a∈l'↔a∈l:=by
 have e:=h.flt a;constructor
 ·intro hm
  have:a∈l'.filter (NF lt a):=cY.2 ⟨hm,IG w a⟩;rw[e]at this;exact(cY.1 this).1
 ·intro hm
  have:a∈l.filter (NF lt a):=cY.2 ⟨hm,IG w a⟩;rw[←e]at this;exact(cY.1 this).1
theorem RG(w:WO lt){x u v:α}(a:NF lt x u=true)(hv:NF lt x v=true):lt v u=false:=by
 unfold NF at a hv;simp only[Bool.and_eq_true,Bool.not_eq_true']at a hv;exact w.ntr v x u hv.1 a.2
theorem Eqf.swap(w:WO lt){U V:List α}(h:∀u∈U,∀v∈V,lt v u=true):Eqf lt (U++V) (V++U):=by
 refine⟨by rw[ae,ae,Nat.add_comm],fun x=>?_⟩
 rw[dh,dh];cases hU:U.filter (NF lt x)with
 |nil=>rw[bI,gD]
 |cons u us=>
  cases hV:V.filter (NF lt x)with
  |nil=>rw[bI,gD]
  |cons v vs=>
   have d:u∈U.filter (NF lt x):=by rw[hU];exact au ..
   have hv:v∈V.filter (NF lt x):=by rw[hV];exact au ..
   have b:=cY.1 d;have a:=cY.1 hv;have c:=h u b.1 v a.1;rw[RG w b.2 a.2]at c;cases c
theorem Srt.app{a b:List α}(h:Srt lt a)(k:Srt lt b)(c:∀x∈a,∀y∈b,lt y x=false):Srt lt (a++b):=cz.2 ⟨h,k,c⟩
theorem Srt.left{a b:List α}(h:Srt lt (a++b)):Srt lt a:=(cz.1 h).1
theorem Srt.right{a b:List α}(h:Srt lt (a++b)):Srt lt b:=(cz.1 h).2.1
theorem Srt.nil:Srt lt ([]:List α):=cQ
theorem Srt.one(a:α):Srt lt [a]:=List.pairwise_singleton ..
end
end Go.Proofs
namespace Go.Proofs
open Go Go.Lift
section
variable {α:Type} {f:α→List Value} {sz:Nat} {t:TypeId} {M:Nat→Prop} {h:ac} {s:SliceV} {P Q:List α} {x:α}
end
structure Cmp{α:Type}(lt:α→α→Bool)(f:α→List Value)(M:Nat→Prop)(Iv:ac→Prop)(V:Value):Prop where
 call:∀(a b:α) {h:ac} {K:Int→ac→Prop},Iv h→(∀h' e,Upd No h h'→decide (e<0)=lt a b→K e h')→HV PG V [.agg (f a).toArray,.agg (f b).toArray] [.c (.int .i64)] K h
 step:∀{h h':ac},Upd M h h'→Iv h→Iv h'
end Go.Proofs
namespace Go.Proofs
open Go Go.Lift
end Go.Proofs
namespace Go.Proofs
open Go Go.Lift
variable {z0:Hs}
end Go.Proofs
namespace Go.Proofs
open Go Go.Lift
end Go.Proofs
namespace Go.Proofs
open Go Go.Lift
end Go.Proofs
namespace Go.Proofs
open Go Go.Lift
def wl(x:Hs):Nat→List Pr→List Pr
 |0,l=>l
 |m+1,l=>jo x (12-m) l++(j8 x (12-m) l).flatMap (wl x m)
def cw(x:Hs):Nat→List Pr→Nat
 |0,_=>2
 |m+1,l=>2+((j8 x (12-m) l).map (cw x m)).sum
structure Fr where
 sp:SliceV
 sk:SliceV
 n:Nat
 ps:List Pr
 ks:List (Nat×List Pr)
def Fr.raw(f:Fr):SliceV×SliceV:=(f.sp,f.sk)
def Fr.rem(x:Hs)(f:Fr):List Pr:=f.ps++f.ks.flatMap fun k=>wl x (f.n-1) k.2
end Go.Proofs
namespace Go.Proofs
open Go Go.Lift
end Go.Proofs
namespace Go.Proofs
open Go Go.Lift
def Below(W:Nat→Prop)(x:Hs)(h:ac)(m:Nat)(r:Option Addr)(l:List Pr):Prop:=(r=none∧l= [])∨∃b,r=some ⟨b,0,none⟩∧TrieAt W x h m b l
theorem Below.upd0{W:Nat→Prop}{x:Hs}{h h':ac}{m:Nat}{r:Option Addr}{l:List Pr}(k:Upd No h h')(t:Below W x h m r l):Below W x h' m r l:=t.imp id fun⟨b,e,t⟩=>⟨b,e,TrieAt.upd0 k t⟩
theorem Below.less{W W':Nat→Prop}{x:Hs}{h:ac}{m:Nat}{r:Option Addr}{l:List Pr}(hm:∀b,W' b→W b∨h.size≤b)(t:Below W x h m r l):Below W' x h m r l:=t.imp id fun⟨b,e,t⟩=>⟨b,e,TrieAt.less hm t⟩
theorem Below.updM{W M:Nat→Prop}{x:Hs}{h h':ac}{m:Nat}{r:Option Addr}{l:List Pr}(k:Upd M h h')(hm:∀b,M b→W b∨h.size≤b)(t:Below W x h m r l):Below W x h' m r l:=t.imp id fun⟨b,e,t⟩=>⟨b,e,TrieAt.updM k hm t⟩
end Go.Proofs
namespace Go.Proofs
open Go.Lift
abbrev Ch:=ByteArray×ByteArray×ByteArray×Bool×Bool
abbrev UP(c:Ch):List Value:= [.string c.1,.string c.2.1,.string c.2.2.1,.bool c.2.2.2.1,.bool c.2.2.2.2]
end Go.Proofs
namespace Go.Proofs
open Go Go.Lift
end Go.Proofs
namespace Go.Proofs
open Go Go.Lift
theorem H5:∀F:Fo,(x9 F).length=(F.toL.map fun n=>(oq n.2.1 n.2.2).length).sum
 | .nil=>rfl
 | .cons lab w kids rest=>by
  rw[Nf,Fo.toL_cons,List.map_cons,List.sum_cons,←H5 rest,ae,cZ];rfl
def Tb(n:Bn):Prop:=∀{W:Nat→Prop} {h:ac} {b:Nat} {sl:ByteArray},RxN W h b sl n.2.1 n.2.2→(oq n.2.1 n.2.2).length≤1000000000→∀{K:Int→ac→Prop},(∀h',Upd No h h'→K (((oq n.2.1 n.2.2).length:Nat):Int) h')→HC PG r6 [.pointer (some ⟨b,0,none⟩)] [.c (.int .i64)] K h
theorem Md{lab:List UInt8}{w:Option ByteArray}{F:Fo}(L:F.toL.length≤256)(O:∀n∈F.toL,Tb n):Tb (lab,w,F):=by
 intro W h b sl r N K C;simp only at r N C;refine IT (some ⟨b,0,none⟩) ?_;unfold BT aR cx;have g:(oq w F).length=(w.map fun v=>(([]:List UInt8),v)).toList.length+(F.toL.map fun n=>(oq n.2.1 n.2.2).length).sum:=by
  rw[←H5,←ae];rfl
 refine Join.intro (fun t h'=>t=(((w.map fun v=>(([]:List UInt8),v)).toList.length:Nat):Int)∧h'=h) (fun R E=>?_) ?_
 ·refine JL r fun v _=>?_
  cases w with
  |none=>exact ah.2 (E _ _ ⟨rfl,rfl⟩)
  |some u=>exact ay.2 (E _ _ ⟨rfl,rfl⟩)
 ·rintro t h' ⟨rfl,rfl⟩
  generalize (w.map fun v=>(([]:List UInt8),v)).toList.length=c0 at g
  refine M1 r L fun s x ks y f k1=>?_
  have j:Sl xB 1 No x s ks:=y.sl fun _ _ _ h=>h
  have d:=j.len;rw[f.1]at d;refine LoopP.ghost (fun(i:Nat) (t:Int×Int) q=>t.1=((c0+((F.toL.take i).map fun n=>(oq n.2.1 n.2.2).length).sum:Nat):Int)∧t.2=(i:Int)∧i≤F.toL.length∧Upd No x q) (fun i=>F.toL.length-i) 0 ⟨by simp,rfl,aP _,Upd.refl _ _⟩ ?_
  rintro I i ⟨T,U⟩ q ⟨D,G,hi,k⟩ J;simp only at D G;subst D G;have z:∀i,((F.toL.take i).map fun n=>(oq n.2.1 n.2.2).length).sum≤(F.toL.map fun n=>(oq n.2.1 n.2.2).length).sum:=fun i=>by
   conv=>rhs;rw[←List.take_append_drop i F.toL,eU,mA]
   omega
  refine aw (fun c=>?_) fun o=>?_
  ·have c:i<F.toL.length:=by have:(i:Int)<(s.len:Int):=c;omega
   obtain⟨Q,S,B,_,m⟩:=(f.upd0 k).at c;obtain⟨a,P,_,hv⟩:=(j.upd k fun _ h=>h.elim).at0 B
   refine⟨⟨by simp only;omega,by simp only;omega⟩,a,P,some ⟨Q,0,none⟩,hv,?_⟩
   have H:((F.toL.take (i+1)).map fun n=>(oq n.2.1 n.2.2).length).sum=((F.toL.take i).map fun n=>(oq n.2.1 n.2.2).length).sum+(oq F.toL[i].2.1 F.toL[i].2.2).length:=by
    rw[ax c,eU,mA];simp
   have x:=z (i+1);refine O _ (aU c) m (by omega) fun V p=>?_
   rw[bN c (by omega)];have e:IntKind.wrap .i64 (((c0+((F.toL.take i).map fun n=>(oq n.2.1 n.2.2).length).sum:Nat):Int)+((oq F.toL[i].2.1 F.toL[i].2.2).length:Int))=((c0+((F.toL.take (i+1)).map fun n=>(oq n.2.1 n.2.2).length).sum:Nat):Int):=by
    rw[kE (by omega)];omega
   rw[e];exact J (i+1) _ _ ⟨rfl,rfl,c,k.tr p⟩ (by omega)
  ·have A:i=F.toL.length:=by have:¬(i:Int)<(s.len:Int):=o;omega
   subst A;rw[ba,←g];exact C q (k1.tr k)
theorem Dl:∀{F:Fo},gf F→∀n∈F.toL,Tb n
 | .nil,_,n,a=>by simp[Fo.toL]at a
 | .cons lab w kids rest,h,n,a=>by
  rcases aq.1 a with rfl|a
  ·exact Md (pj h.2.2.1) (Dl h.2.2.1)
  ·exact Dl h.2.2.2.2 n a
theorem OJ{W:Nat→Prop}{x:Hs}{h:ac}{t:Tr}{l:List Pr}(i:TreeIs W h 1 x t l)(m:dL l)(o:l.length≤60000){K:Int→ac→Prop}(f:∀h',Upd No h h'→K (l.length:Int) h'):HC PG iz [Hm t] [.c (.int .i64)] K h:=by
 refine qi t ?_;unfold mz az ag ol;rcases i with⟨e,_⟩|⟨_,b,rfl,t⟩
 ·cases e
 refine aV fun p b1 k1=>⟨_,vc b1 0,ay.2 ⟨_,vc b1 5,?_⟩⟩
 obtain⟨w,F,g,c,d⟩:=(t.upd0 k1).ex;have n:=Gj c m d;have a:=congrArg List.length n;unfold LV at a;rw[cZ]at a;refine Md (lab:= []) (pj c) (Dl c) g (by simp only;omega) fun k j=>?_
 simp only;rw[a];exact f k (k1.tr j)
end Go.Proofs
namespace Go.Proofs
open Go Go.Lift
theorem Fv:∀{x y:List UInt8} {i:Nat} {a b:UInt8},(∀j,j<i→x[j]? =y[j]?)→x[i]? =some a→y[i]? =some b→a≠b→Op.bytesLess x y=decide (a.toNat<b.toNat)
 | [],_,_,_,_,_,h,_,_=>by simp at h
 |_::_,[],_,_,_,_,_,h,_=>by simp at h
 |c::x,d::y,0,a,b,_,h1,h2,hne=>by
  simp only[cp,bC.injEq]at h1 h2;subst h1 h2;simp only[Op.bytesLess];rw[beq_false_of_ne hne];simp[UInt8.lt_iff_toNat_lt]
 |c::x,d::y,i+1,a,b,he,h1,h2,hne=>by
  have e:=he 0 (by omega);simp only[cp,bC.injEq]at e;subst e;simp only[List.getElem?_cons_succ]at h1 h2;simp only[Op.bytesLess];rw[Fv (i:=i) (fun j f=>by simpa using he (j+1) (by omega)) h1 h2 hne]
  simp[UInt8.lt_irrefl]
theorem Ft:∀{x y:List UInt8} {i:Nat},(∀j,j<i→x[j]? =y[j]?)→i≤x.length→i≤y.length→(i=x.length∨i=y.length)→Op.bytesLess x y=decide (x.length<y.length)
 | [],[],_,_,_,_,_=>by simp[Op.bytesLess]
 | [],_::_,_,_,_,_,_=>by simp[Op.bytesLess]
 |_::_,[],_,_,_,_,_=>by simp[Op.bytesLess]
 |c::x,d::y,0,_,_,_,h=>by simp at h
 |c::x,d::y,i+1,he,h1,h2,h3=>by
  have e:=he 0 (by omega);simp only[cp,bC.injEq]at e;subst e;simp only[Op.bytesLess];rw[Ft (i:=i) (fun j a=>by simpa using he (j+1) (by omega)) (by simpa using h1) (by simpa using h2) (by simpa using h3)]
  simp[UInt8.lt_irrefl]
theorem O4{a b:ByteArray}(C:a.size≤1000000){h:ac}{K:Bool→ac→Prop}(x:K (decide (kl a b)) h):HC PG yi [.string a,.string b] [.c .bool] K h:=by
 refine Lo a b ?_;unfold El;have A:a.data.toList.length=a.size:=by simp
 have B:b.data.toList.length=b.size:=by simp
 have f:∀{p:Prop} [Decidable p],Op.bytesLess a.data.toList b.data.toList=decide p→K (decide p) h:=fun{p} _ e=>by
  have:decide (kl a b)=decide p:=by
   rw[←e,←ByteArray.toList_eq,←ByteArray.toList_eq];exact Bool.eq_iff_iff.2 (by rw[decide_eq_true_iff];exact Iff.rfl)
  rw[←this];exact x
 refine LoopP.ghost (fun(i:Nat) (t:Int) h'=>t=(i:Int)∧i≤a.size∧i≤b.size∧h'=h∧∀j,j<i→a.data.toList[j]? =b.data.toList[j]?) (fun i=>a.size-i) 0 ⟨rfl,aP _,aP _,rfl,fun j n=>absurd n (Nat.not_lt_zero _)⟩ ?_
 rintro I i t h' ⟨rfl,z,y,rfl,m⟩ w;refine Join.intro (fun t q=>t=decide (i<a.size∧i<b.size)∧q=h') (fun R u=>?_) ?_
 ·refine aw (fun c=>u _ _ ⟨?_,rfl⟩) fun k=>u _ _ ⟨?_,rfl⟩
  ·rw[decide_eq_decide];omega
  ·rw[eq_comm,decide_eq_false_iff_not];omega
 ·rintro t q ⟨rfl,rfl⟩
  refine aw (fun c=>?_) fun k=>?_
  ·have s:a.data.toList[i]? =some a[i]:=by rw[←Ir,getElem?_pos a i c.1]
   have v:b.data.toList[i]? =some b[i]:=by rw[←Ir,getElem?_pos b i c.2]
   refine⟨a[i],by omega,by rw[aF,getElem?_pos a i c.1],b[i],by omega,by rw[aF,getElem?_pos b i c.2],?_⟩
   refine CondP.intro (fun g=>?_) fun d=>?_
   ·refine⟨a[i],by omega,by rw[aF,getElem?_pos a i c.1],b[i],by omega,by rw[aF,getElem?_pos b i c.2],?_⟩
    refine f ?_;rw[Fv m s v fun e=>by rw[e]at g;simp at g]
    rw[decide_eq_decide];omega
   ·have d:a[i]=b[i]:=by
     have:((a[i].toNat:Int))=(b[i].toNat:Int):=by simpa using d
     exact UInt8.toNat_inj.1 (by omega)
    rw[bN c.1 (by omega)];refine w (i+1) _ _ ⟨rfl,by omega,by omega,rfl,fun j n=>?_⟩ (by omega)
    rcases Nat.lt_or_ge j i with o|o
    ·exact m j o
    ·have:j=i:=by omega
     subst this;rw[s,v,d]
  ·refine f ?_
   rw[Ft m (by omega) (by omega) (by omega),decide_eq_decide];omega
theorem O6{W:Nat→Prop}{h:ac}{s:SliceV}{l:List Pr}(z:Sl il 2 W h s l)(G:l.length≤1000000)(k:ByteArray){K:SliceV→ac→Prop}
  (C:∀s' h',OwnS il 2 bL (fun y=>h.size≤y) h' s' (l.filter fun p=>decide (p.1≠k))→Upd No h h'→K s' h'):HC PG yj [.slice s.a s.len s.cap,.string k] [.c .slice] K h:=by
 refine Lp s k ?_;unfold Em cx nv aC pq bK qT;have x:=z.len;refine LoopP.ghost (fun(i:Nat) (t:SliceV×Int) h'=>t.2=(i:Int)∧i≤l.length∧OwnS il 2 bL (fun y=>h.size≤y) h' t.1 ((l.take i).filter fun p=>decide (p.1≠k))∧Upd No h h') (fun i=>l.length-i) 0 ⟨rfl,aP _,by simpa using OwnS.nil iu,Upd.refl _ _⟩ ?_
 rintro I i ⟨so,H⟩ h' ⟨A,hi,m,f⟩ B;simp only at A m;subst A;refine aw (fun b=>?_) fun q=>?_
 ·have b:i<l.length:=by have:(i:Int)<(s.len:Int):=b;omega
  obtain⟨a,D,_,hv⟩:=(z.upd f fun _ h=>h.elim).at (al b)
  have n:((l.take i).filter fun p=>decide (p.1≠k)).length≤l.length:=aW (dq ..) (by rw[aJ];omega)
  refine Join.intro (fun t g=>OwnS il 2 bL (fun y=>h.size≤y) g t ((l.take (i+1)).filter fun p=>decide (p.1≠k))∧Upd No h g) (fun R d=>⟨⟨by simp only;omega,by simp only;omega⟩,a,D,l[i].1,hv 0 _ rfl,l[i].2,hv 1 _ rfl,?_⟩) ?_
  ·refine Di (p:=l[i]) fun g b2 j=>⟨_,vc b2 0,?_⟩
   have c:=m.upd j fun _ _ h=>h
   rw[ax b,dh,cf,List.filter_nil]at d;rw[mc];by_cases e:l[i].1=k
   ·rw[decide_eq_true e]
    rw[decide_eq_false (not_not_intro e)]at d;rw[if_neg (by simp),bI]at d;exact ah.2 (d _ _ ⟨c,f.tr j⟩)
   ·rw[decide_eq_false e]
    rw[decide_eq_true e,if_pos rfl]at d;refine ay.2 ⟨_,vc b2 0,_,vc b2 1,bq ?_⟩;refine zz (p:=l[i]) c (fun y v=>aW (f.tr j).size v) (aW (Nat.add_le_add_right n 1) (by omega)) fun F J w u=>d _ _ ⟨w,(f.tr j).trans u fun y v=>.inr v⟩
  ·rintro t g ⟨c,o⟩
   rw[bN b (by omega)];exact B (i+1) _ _ ⟨rfl,b,c,o⟩ (by omega)
 ·have E:i=l.length:=by have:¬(i:Int)<(s.len:Int):=q;omega
  rw[List.take_of_length_le (by omega)]at m;exact C _ _ m f
theorem Q2{W:Nat→Prop}{h:ac}{s:SliceV}{l:List Pr}(hs:Sl il 2 W h s l)(hr:dL l)(hn:l.length≤1000000)(p:Pr)(hp:p.1.size≤1000000){K:SliceV→ac→Prop}
  (X:∀s' h',OwnS il 2 bL (fun y=>h.size≤y) h' s' (ij p l)→Upd No h h'→K s' h'):HC PG AX [.slice s.a s.len s.cap,.agg #[.string p.1,.string p.2]] [.c .slice] K h:=by
 refine NW s p ?_;unfold F4 cx nv aC BB pq bK xQ qT;refine aV fun h1 b1 k1=>⟨p.1,vc b1 0,?_⟩
 refine O6 (hs.upd k1 fun _ h=>h.elim) hn p.1 fun s4 u F k4=>?_
 rw[←Fz hr]at X;have hrf:dL (l.filter fun q=>decide (q.1≠p.1)):=hr.sublist List.filter_sublist
 have hnl:(l.filter fun q=>decide (q.1≠p.1)).length≤1000000:=aW (dq ..) hn
 have E:∀q∈l.filter fun q=>decide (q.1≠p.1),q.1≠p.1:=fun q v=>of_decide_eq_true (cY.1 v).2
 generalize l.filter (fun q=>decide (q.1≠p.1))=L at X F hrf hnl E
 have z:=k1.tr k4;have N:Sl il 2 No u s4 L:=F.sl fun _ _ _ h=>h
 have hlen:=N.len;have z4:=z.size;refine LoopP.ghost (fun(g:Nat×Bool) (t:SliceV×Bool×Int) h'=>t.2.2=(g.1:Int)∧t.2.1=g.2∧g.1≤L.length∧(∃out,OwnS il 2 bL (fun y=>u.size≤y) h' t.1 out∧out.length≤g.1+1∧(g.2=false→out=L.take g.1∧∀q∈L.take g.1,kl q.1 p.1)∧(g.2=true→out=ij p (L.take g.1)∧∃q∈L.take g.1,kl p.1 q.1))∧Upd No u h') (fun g=>L.length-g.1) (0,false) ⟨rfl,rfl,aP _,⟨[],OwnS.nil iu,by simp,fun _=>⟨by simp,by simp⟩,fun h=>by cases h⟩,Upd.refl _ _⟩ ?_
 rintro I ⟨i,pl⟩ ⟨so,tp,ti⟩ h' ⟨e1,e2,hi,⟨out,V,G,Y,Z⟩,x⟩ hI;simp only at e1 e2 hi V G Y Z;subst e1 e2;have b':=x.get0 (k4.get0 b1);refine aw (fun f=>?_) fun hge=>?_
 ·have f:i<L.length:=by have:(i:Int)<(s4.len:Int):=f;omega
  obtain⟨a,ha,_,hv⟩:=(N.upd x fun _ h=>h.elim).at (al f)
  have d:=ax f;have O:L[i]∈L:=aU f;refine Join.intro (fun t D=>(∃out,OwnS il 2 bL (fun y=>u.size≤y) D t.1 out∧out.length≤i+1+1∧(t.2=false→out=L.take (i+1)∧∀q∈L.take (i+1),kl q.1 p.1)∧(t.2=true→out=ij p (L.take (i+1))∧∃q∈L.take (i+1),kl p.1 q.1))∧Upd No u D) (fun R hR=>⟨⟨by simp only;omega,by simp only;omega⟩,a,ha,L[i].1,hv 0 _ rfl,L[i].2,hv 1 _ rfl,?_⟩) ?_
  ·refine Di (p:=L[i]) fun D b2 k2=>?_
   have o:=V.upd k2 fun _ _ h=>h
   have n:=x.tr k2;have zb:=bF b2;have z2:=x.size;have hoM:=(V.within.upd k2 fun _ _ h=>h).more (M':=fun y=>(u.size≤y∧y<h'.size)∨D.size≤y) fun y b=>.inl b
   have c2:=k2.get0 b';refine Join.intro (fun t C=>(∃out,OwnS il 2 bL (fun y=>u.size≤y) C t.1 out∧out.length≤i+1∧(t.2=false→out=L.take i∧∀q∈L.take (i+1),kl q.1 p.1)∧(t.2=true→out++ [L[i]]=ij p (L.take (i+1))∧∃q∈L.take (i+1),kl p.1 q.1))∧C[h'.size]? =some (.cells #[.string L[i].1,.string L[i].2] bL (0,0))∧Upd No u C) (fun R2 w=>?_) ?_
   ·refine Join.intro (fun t C=>t=(!tp&&decide (kl p.1 L[i].1))∧C=D) (fun R3 U=>?_) ?_
    ·cases tp with
     |false=>exact ay.2 ⟨p.1,vc c2 0,L[i].1,vc b2 0,O4 hp (U _ _ ⟨by simp,rfl⟩)⟩
     |true=>exact ah.2 (U _ _ ⟨by simp,rfl⟩)
    ·rintro t C ⟨rfl,rfl⟩
     cases tp with
     |true=>
      obtain⟨e,q,v,S⟩:=Z rfl;refine ah.2 (w _ _ ⟨⟨out,o,G,fun h=>(by cases h),fun _=>?_⟩,b2,n⟩)
      rw[d,e];exact⟨(Il ⟨q,v,S⟩).symm,q,List.mem_append_left _ v,S⟩
     |false=>
      obtain⟨e,c⟩:=Y rfl;subst e;by_cases k:kl p.1 L[i].1
      ·rw[decide_eq_true k]
       refine ay.2 ⟨p.1,vc c2 0,p.2,vc c2 1,bq ?_⟩;refine zz (p:=p) hoM (fun y b=>.inr b) (by rw[aJ];omega) fun s5 h5 m j=>w _ _ ⟨⟨_,m.more (fun y b=>by rcases b with b|b<;>omega),by rw[ae,aJ,aD];omega,fun h=>(by cases h),fun _=>?_⟩,j.get b2 (by rintro(hx|hx)<;>omega),n.trans j fun y b=>.inr (by rcases b with b|b<;>omega)⟩
       ·rw[d,Dq c]
        refine⟨?_,L[i],List.mem_append_right _ (aB.2 rfl),k⟩;rw[ao,Ij (l:= [L[i]]) fun q v=>by rw[aB.1 v];exact k]
        rfl
      ·rw[decide_eq_false k]
       have v:kl L[i].1 p.1:=AL k fun e=>E _ O e.symm
       refine ah.2 (w _ _ ⟨⟨_,o,by rw[aJ];omega,fun _=>⟨rfl,fun q P=>?_⟩,fun h=>(by cases h)⟩,b2,n⟩)
       rw[d]at P;rcases bc.1 P with h|h
       ·exact c q h
       ·rw[aB.1 h];exact v
   ·rintro⟨t1,t2⟩ C ⟨⟨out3,T,hol3,H,Q⟩,b3,J⟩
    simp only at T H Q;refine⟨_,vc b3 0,_,vc b3 1,bq ?_⟩;refine zz (p:=L[i]) T (fun y b=>aW J.size b) (by omega) fun s5 h5 m j=>hR _ _ ⟨⟨_,m,by rw[ae,aD];omega,fun h=>?_,fun h=>Q h⟩,J.trans j fun y b=>.inr b⟩
    obtain⟨e,c⟩:=H h;exact⟨by rw[e,d],c⟩
  ·rintro⟨t1,t2⟩ D ⟨o,n⟩
   rw[bN f (by omega)];exact hI (i+1,t2) _ _ ⟨rfl,rfl,f,o,n⟩ (by simp only;omega)
 ·have hil:i=L.length:=by have:¬(i:Int)<(s4.len:Int):=hge;omega
  subst hil;rw[ba]at Y Z;cases tp with
  |true=>
   obtain⟨e,_⟩:=Z rfl;subst e;exact ah.2 (X _ _ (V.more fun y b=>aW z4 b) (z.tr x))
  |false=>
   obtain⟨e,c⟩:=Y rfl;subst e;refine ay.2 ⟨p.1,vc b' 0,p.2,vc b' 1,bq ?_⟩;refine zz (p:=p) V (fun y b=>aW x.size b) (by omega) fun s5 h5 m j=>X _ _ ?_ ((z.tr x).trans j fun y b=>.inr (aW z4 b))
   have:=Dq (p:=p) (A:=out) (B:= []) c;rw[bI]at this;rw[this];exact m.more fun y b=>aW z4 b
end Go.Proofs
namespace Go.Proofs
open Go Go.Lift
abbrev Rt:=Int×Int×Int×Int×SliceV
abbrev xC(r:Rt):List Value:= [.int .i64 r.1,.int .u64 r.2.1,.int .u64 r.2.2.1,.int .u64 r.2.2.2.1,.slice r.2.2.2.2.a r.2.2.2.2.len r.2.2.2.2.cap]
abbrev Th(r:Rt):Value:=.agg #[.int .i64 r.1,.int .u64 r.2.1,.int .u64 r.2.2.1,.int .u64 r.2.2.2.1,.slice r.2.2.2.2.a r.2.2.2.2.len r.2.2.2.2.cap]
abbrev OX:Rt:=(0,0,0,0,⟨none,0,0⟩)
def hx(kind v:Int):Int:=if kind=0 then v else 0
def RefIs(W:Nat→Prop)(h:ac)(kind:Int)(x:Hs)(r:Rt)(l:List Pr):Prop:=∃s,r=(kind,hx kind x.k0,hx kind x.k1,hx kind x.mask,s)∧Sl il 2 W h s l∧s.len≤s.cap
theorem RefIs.upd0{W:Nat→Prop}{h h':ac}{kind:Int}{x:Hs}{r:Rt}{l:List Pr}(k:Upd No h h')(i:RefIs W h kind x r l):RefIs W h' kind x r l:=
 let⟨s,e,a⟩:=i;⟨s,e,a.1.upd k fun _ h=>h.elim,a.2⟩
theorem RefIs.less{W W':Nat→Prop}{h:ac}(hm:∀b,W' b→W b∨h.size≤b){kind:Int}{x:Hs}{r:Rt}{l:List Pr}(i:RefIs W h kind x r l):RefIs W' h kind x r l:=
 let⟨s,e,a⟩:=i;⟨s,e,a.1.less hm,a.2⟩
theorem RefIs.updM{W M:Nat→Prop}{h h':ac}(k:Upd M h h')(hm:∀b,M b→W b∨h.size≤b){kind:Int}{x:Hs}{r:Rt}{l:List Pr}(i:RefIs W h kind x r l):RefIs W h' kind x r l:=
 let⟨s,e,a⟩:=i;⟨s,e,a.1.upd k hm,a.2⟩
theorem Q3{W:Nat→Prop}{x:Hs}{h:ac}{kind:Int}(e:kind=0∨kind=1){K:Rt×Int→ac→Prop}(g:∀h' r,RefIs W h' kind x r []→Upd No h h'→K (r,0) h'):HC PG AW [.int .i64 kind,.agg #[.int .u64 x.k0,.int .u64 x.k1,.int .u64 x.mask]] [.agg [.int .i64,.int .u64,.int .u64,.int .u64,.slice],.c (.int .i64)] K h:=by
 refine NU kind (x.k0,x.k1,x.mask) ?_;unfold F1 az ad eB Cv Hq f7;refine aV fun m b1 k1=>aV fun k b2 i=>?_
 have c1:=i.get0 b1;have j:=k1.size;have d:=k1.tr i;rcases e with rfl|rfl
 ·refine ay.2 ⟨_,vc c1 0,_,vc c1 1,_,vc c1 2,?_⟩
  refine cy (c:=xC OX) (vs:=xC (0,x.k0,x.k1,x.mask,⟨none,0,0⟩)) b2 rfl fun f a b=>?_
  exact⟨_,vc a 0,_,vc a 1,_,vc a 2,_,vc a 3,⟨none,0,0⟩,vc a 4,g f (0,x.k0,x.k1,x.mask,⟨none,0,0⟩) ⟨_,rfl,Sl.nil iu,aj _⟩ (d.own b j)⟩
 ·refine ah.2 (ay.2 ?_)
  refine cy (c:=xC OX) (vs:=xC (1,0,0,0,⟨none,0,0⟩)) b2 rfl fun f a b=>?_
  exact⟨_,vc a 0,_,vc a 1,_,vc a 2,_,vc a 3,⟨none,0,0⟩,vc a 4,g f (1,0,0,0,⟨none,0,0⟩) ⟨_,rfl,Sl.nil iu,aj _⟩ (d.own b j)⟩
theorem M8{k v:ByteArray}(c:k.size≤256)(b:v.size≤4096){h:ac}{K:Int→ac→Prop}(a:K 0 h):HC PG wh [.string k,.string v] [.c (.int .i64)] K h:=by
 refine I9 k v ?_;unfold B0;refine aw (fun h=>absurd h (by omega)) fun _=>aw (fun h=>absurd h (by omega)) fun _=>a
theorem O1{W:Nat→Prop}{x:Hs}{h:ac}{kind:Int}{r:Rt}{l:List Pr}(i:RefIs W h kind x r l)(D:∀y,W y→y<h.size)(I:dL l)(G:l.length≤1000000)(p:Pr)(u:p.1.size≤256)(t:p.2.size≤4096){K:Rt×Int→ac→Prop}
  (F:∀h' r',RefIs W h' kind x r' (ij p l)→Upd No h h'→K (r',0) h'):HC PG oL [Th r,.agg #[.string p.1,.string p.2]] [.agg [.int .i64,.int .u64,.int .u64,.int .u64,.slice],.c (.int .i64)] K h:=by
 refine Li r p ?_;unfold Ed az ad eB rQ Hq Ho aC c9 BB pq f7 Td;refine aV fun A b1 k1=>aV fun z b2 v=>aV fun S b3 n=>?_
 have N:=bF b1;have P:=bF b2;have J:=bF b3;have R:h.size≤A.size:=k1.size;have T:A.size≤z.size:=v.size;have Q:=n.size;have g:=(k1.tr v).tr n;have B:=n.get0 (v.get0 b1);have o:=n.get0 b2;obtain⟨s,rfl,E,_⟩:=i;refine⟨_,vc o 0,_,vc o 1,M8 u t (ah.2 ?_)⟩;refine⟨s,vc B 4,p.1,vc o 0,p.2,vc o 1,?_⟩;refine Q2 (E.upd g fun _ h=>h.elim) I G p (by omega) fun d L q a=>?_
 refine yP (i:=4) (c':=(xC (kind,hx kind x.k0,hx kind x.k1,hx kind x.mask,d)).toArray) (a.get0 B) (show 4<5 by decide) rfl fun O k b=>?_
 refine⟨_,vc k 0,_,vc k 1,_,vc k 2,_,vc k 3,d,vc k 4,?_⟩;refine cy (c:=xC OX) (vs:=xC (kind,hx kind x.k0,hx kind x.k1,hx kind x.mask,d)) (b.oth (a.get0 b3) (by omega)) rfl fun H j f=>?_
 refine⟨_,vc j 0,_,vc j 1,_,vc j 2,_,vc j 3,d,vc j 4,?_⟩;have m:=(q.upd b fun y w e=>by have e:y=h.size:=e;omega).upd f fun y w e=>by have e:y=z.size:=e;omega
 refine F H (kind,hx kind x.k0,hx kind x.k1,hx kind x.mask,d) ⟨d,rfl,m.sl fun y w _ C=>by have:=D y C;omega,m.cap⟩ (((g.tr a).own b (aj _)).own f (by omega))
def Mc(r q:Rt):Bool:=(r.1==q.1)&&((r.2.1==q.2.1)&&((r.2.2.1==q.2.2.1)&&((r.2.2.2.1==q.2.2.2.1)&&true)))
theorem O3{r q:Rt}{h:ac}{K:Bool→ac→Prop}(c:∀h',Upd No h h'→K (Mc r q) h'):HC PG yf [Th r,Th q] [.c .bool] K h:=by
 refine Lj r q ?_;unfold Ee az bO Ho;refine aV fun d b1 k1=>aV fun b b2 a=>?_
 have c1:=a.get0 b1;refine⟨_,vc c1 0,_,vc b2 0,?_⟩;have:=c b (k1.tr a);unfold Mc at this;rcases hb:(r.1==q.1)with _|_
 ·rw[hb]at this
  exact ah.2 this
 ·rw[hb]at this
  exact ay.2 ⟨_,iW c1 1 0,_,iW c1 1 1,_,iW c1 1 2,_,iW b2 1 0,_,iW b2 1 1,_,iW b2 1 2,this⟩
end Go.Proofs
namespace Go.Proofs
open Go Go.Lift
end Go.Proofs
namespace Go.Proofs
open Go Go.Lift
end Go.Proofs
namespace Go.Proofs
open Go Go.Lift
theorem Ke{h:ac}{b:Nat}{c:Array Value}{t:TypeId}(hb:h[b]? =some (.cells c t (0,0))) (hc:0<c.size):f8 h ⟨b,0,none⟩:=⟨c,t,hb,hc⟩
theorem TrieAt.plain{W:Nat→Prop}{x:Hs}{h:ac}:∀{m b:Nat} {l:List Pr},TrieAt W x h m b l→f8 h ⟨b,0,none⟩
 |0,_,_,t=>by obtain⟨_,_,_,hb,_⟩:=BuckAt.ex t;exact Ke hb (by simp[eZ])
 |m+1,_,_,⟨s,nd,_⟩=>by obtain⟨_,_,_,_,_,hb,_⟩:=nd.ex;exact Ke hb (by simp[eZ])
end Go.Proofs
namespace Go.Proofs
open Go Go.Lift
def mkK(a:List UInt8):ByteArray:=⟨a.toArray⟩
def T1(a:List UInt8)(p:List UInt8×ByteArray):Pr:=(mkK (a++p.1),p.2)
def pp(a:List UInt8)(n:Bn):List Pr:=(oq n.2.1 n.2.2).map (T1 (a++n.1))
end Go.Proofs
namespace Go.Proofs
open Go Go.Lift
theorem RxN.plain{W:Nat→Prop}{h:ac}{b:Nat}{sl:ByteArray}{w:Option ByteArray}{F:Fo}(r:RxN W h b sl w F):f8 h ⟨b,0,none⟩:=by
 obtain⟨val,s,ow,ks,hb,_⟩:=r;exact Ke hb (by simp[EE])
end Go.Proofs
namespace Go.Proofs
open Go Go.Lift
end Go.Proofs
namespace Go.Proofs
open Go Go.Lift
abbrev Rn:ByteArray:=⟨#[0,1,2,2,3,3,3,3,4,4,4,4,4,4,4,4,5,5,5,5,5,5,5,5,5,5,5,5,5,5,5,5,6,6,6,6,6,6,6,6,6,6,6,6,6,6,6,6,6,6,6,6,6,6,6,6,6,6,6,6,6,6,6,6,7,7,7,7,7,7,7,7,7,7,7,7,7,7,7,7,7,7,7,7,7,7,7,7,7,7,7,7,7,7,7,7,7,7,7,7,7,7,7,7,7,7,7,7,7,7,7,7,7,7,7,7,7,7,7,7,7,7,7,7,7,7,7,7,8,8,8,8,8,8,8,8,8,8,8,8,8,8,8,8,8,8,8,8,8,8,8,8,8,8,8,8,8,8,8,8,8,8,8,8,8,8,8,8,8,8,8,8,8,8,8,8,8,8,8,8,8,8,8,8,8,8,8,8,8,8,8,8,8,8,8,8,8,8,8,8,8,8,8,8,8,8,8,8,8,8,8,8,8,8,8,8,8,8,8,8,8,8,8,8,8,8,8,8,8,8,8,8,8,8,8,8,8,8,8,8,8,8,8,8,8,8,8,8,8,8,8,8,8,8,8,8]⟩
theorem Rm:∀x:Nat,x<256→∃c:UInt8,Rn[x]? =some c∧c.toNat≤8∧(1≤x→2^c.toNat≤2*x)∧(x=0→c.toNat=0):=by
 have key:∀x:Fin 256,∃c:UInt8,Rn[x.val]? =some c∧c.toNat≤8∧(1≤x.val→2^c.toNat≤2*x.val)∧(x.val=0→c.toNat=0):=by
  intro x;have:∀x:Fin 256,(match Rn[x.val]? with|some c=>decide (c.toNat≤8∧(1≤x.val→2^c.toNat≤2*x.val)∧(x.val=0→c.toNat=0))|none=>false)=true:=by decide+kernel
  have hx:=this x;split at hx
  ·rename_i c hc
   exact⟨c,hc,of_decide_eq_true hx⟩
  ·cases hx
 exact fun x hx=>key ⟨x,hx⟩
theorem Pn{h:ac}{n:Nat}(v:n<4294967296){K:Int→ac→Prop}(m:∀L:Nat,L≤64→(1≤n→2^L≤2*n)→K (L:Int) h):HC PG nH [.int .u64 n] [.c (.int .i64)] K h:=by
 refine zR n ?_;unfold sK;have fd:∀(x k:Nat),Int.fdiv (x:Int) (2^k)=((x/2^k:Nat):Int):=fun x k=>by
  rw[Int.fdiv_eq_ediv_of_nonneg _ (Int.pow_nonneg (by omega))];rw[Int.natCast_ediv,Int.natCast_pow];rfl
 refine Join.intro (fun t h'=>h'=h∧t=((n:Int),(0:Int))) (fun R d=>?_) ?_
 ·exact aw (fun a=>by omega) fun a=>d _ _ ⟨rfl,rfl⟩
 ·rintro t h' ⟨rfl,rfl⟩
  refine Join.intro (fun t i=>i=h'∧∃x s:Nat,t=((x:Int),(s:Int))∧x*2^s≤n∧(1≤n→1≤x)∧x<65536∧s≤16) (fun R d=>?_) ?_
  ·refine aw (fun a=>?_) fun a=>d _ _ ⟨rfl,n,0,rfl,by simp,fun h=>h,by have a:¬(n:Int)≥65536:=a;omega,by omega⟩
   have a:65536≤n:=by have a:(n:Int)≥65536:=a;omega
   refine⟨by omega,d _ _ ⟨rfl,n/2^16,16,?_,Nat.div_mul_le_self ..,fun _=>by omega,by omega,by omega⟩⟩
   simp only[nU.injEq];exact⟨fd n 16,by decide⟩
  ·rintro t i ⟨rfl,x,s,rfl,hx,b,e,g⟩
   refine Join.intro (fun t j=>j=i∧∃x s:Nat,t=((x:Int),(s:Int))∧x*2^s≤n∧(1≤n→1≤x)∧x<256∧s≤24) (fun R d=>?_) ?_
   ·refine aw (fun a=>?_) fun a=>d _ _ ⟨rfl,x,s,rfl,hx,b,by have a:¬(x:Int)≥256:=a;omega,by omega⟩
    have a:256≤x:=by have a:(x:Int)≥256:=a;omega
    refine⟨by omega,d _ _ ⟨rfl,x/2^8,s+8,?_,?_,fun _=>by omega,by omega,by omega⟩⟩
    ·simp only[nU.injEq]
     exact⟨fd x 8,by rw[kE (by omega)];omega⟩
    ·rw[nb,gR (2^s),←pm]
     exact aW (Nat.mul_le_mul_right _ (Nat.div_mul_le_self ..)) hx
   ·rintro t j ⟨rfl,x,s,rfl,hx,b,e,g⟩
    obtain⟨c,hc,p,f,q⟩:=Rm x e;have wx:IntKind.wrap .u8 (x:Int)=(x:Int):=by
     simp[IntKind.wrap,IntKind.bits,IntKind.signed];omega
    show∃b10:UInt8,(0:Int)≤IntKind.wrap .u8 (x:Int)∧Rn[(IntKind.wrap .u8 (x:Int)).toNat]? =some b10∧_
    rw[wx];refine⟨c,by omega,by simpa using hc,?_⟩
    have u:IntKind.wrap .i64 (c.toNat:Int)=(c.toNat:Int):=kE (by omega);have o:IntKind.wrap .i64 ((s:Int)+IntKind.wrap .i64 (c.toNat:Int))=((s+c.toNat:Nat):Int):=by rw[u,kE (by omega)];omega
    show K (IntKind.wrap .i64 ((s:Int)+IntKind.wrap .i64 (c.toNat:Int))) j
    rw[o];refine m _ (by omega) fun a=>?_
    have:=f (b a);rw[nb];calc 2^s*2^c.toNat≤2^s*(2*x):=fA _ this
     _=2*(x*2^s):=by rw[gR (2^s),pm]
     _≤2*n:=fA _ hx
theorem SL{h:ac}{n:Nat}(b:n<4294967296){K:Int→ac→Prop}(a:∀L:Nat,L≤64→(1≤n→2^L≤2*n)→K (L:Int) h):HC PG qf [.int .u64 n] [.c (.int .i64)] K h:=by
 refine Cl n ?_;unfold vl;exact Pn b a
def Uw(a b:Ch):Bool:=decide (kl a.1 b.1)
theorem T9(M:Nat→Prop):Cmp Uw UP M (fun _=>True) (.func (.func wq) #[] #[]):=by
 refine⟨fun a b h K _ e=>HV.mk' (Jf a b ?_),fun _ h=>h⟩
 unfold B7 aC pq SK;refine aV fun f b1 k1=>aV fun d b2 c=>?_
 refine⟨a.1,vc (c.get0 b1) 0,b.1,vc b2 0,DP (e d _ (k1.tr c) ?_)⟩;unfold GT Uw;split
 ·rename_i h;rw[decide_eq_true h];rfl
 ·rename_i h
  rw[decide_eq_false h];split<;>rfl
end Go.Proofs
namespace Go.Proofs
open Go Go.Lift
end Go.Proofs
namespace Go.Proofs
open Go Go.Lift
end Go.Proofs
namespace Go.Proofs
open Go Go.Lift
end Go.Proofs
