/- A part of the proof that the named laws of this program answer true, whatever the input. -/
import Derived.Test.YtcpiahjlddmfiaaGreatPart4
import Derived.Test.YtcpiahjlddmfiaaGreatLift3
import Derived.Test.YtcpiahjlddmfiaaGreatPart3
open ByteArray renaming size_extract→kD
open Int renaming toNat_natCast→aM,tmod→cC
open List renaming replicate→dU,take_succ_eq_append_getElem→aP,mem_append→aS,mem_singleton→ay,take_length→bJ,mem_cons→ao,length_append→ae,length_map→fP,length_set→jG,length_take→aY,length_drop→aH,append_assoc→aj,drop_drop→cz,drop_left'→bL,filter_append→fB,getElem?_eq_getElem→au,mem_cons_of_mem→aC,mem_cons_self→aq,mem_filter→dt,pairwise_append→cd,pairwise_singleton→cH,cons_append→cR,mem_append_left→cy,mem_append_right→cS,nodup_nil→kC,length_singleton→aN,mem_of_getElem?→bw,getElem?_eq_some_iff→bj
open List.Pairwise renaming nil→dV
open Nat renaming le_refl→ar,zero_le→bB,le_trans→bI,lt_of_lt_of_le→aK,not_lt→gM
namespace Go.Proofs
open Go Go.Lift
section
variable {W:Nat→Prop} {h:ac} {vp:Nat} {s:VS}
abbrev pV(a:Nat):Value:=.pointer (some ⟨a,0,none⟩)
theorem Dt(v:VaultAt W h vp s)(id:Int){K:Bool→ac→Prop}(a:K (decide (id=0∨id∈jZ s.L)) h):HC PG hG [pV vp,.int .u32 id] [.c .bool] K h:=by
 refine tN (some ⟨vp,0,none⟩) id ?_;unfold nU dw wZ;refine CondP.intro (fun e=>?_) fun e=>⟨_,rfl,_,vc v.blk 6,Ai v.g id ?_⟩
 ·rw[decide_eq_true (.inl (by simpa using e))]at a;exact a
 ·have e:id≠0:=by simpa using e
  rw[show decide (id=0∨id∈jZ s.L)=decide (id∈jZ s.L)from by simp[e]]at a;exact a
theorem uB(v:VaultAt W h vp s)(id fr:Int){K:Bool→ac→Prop}(a:∀b h',(b=true↔id=0∨UpG s.L fr id)→Upd No h h'→K b h'):HC PG eV [pV vp,.int .u32 id,.int .u32 fr] [.c .bool] K h:=by
 refine rk (some ⟨vp,0,none⟩) id fr ?_;unfold mf dw GB;refine CondP.intro (fun e=>a _ _ ⟨fun _=>.inl (by simpa using e),fun _=>rfl⟩ (Upd.refl _ _)) fun e=>⟨_,rfl,_,vc v.blk 6,EA v.g v.inv.good.toSmall fr id fun b h' d c=>a b h' ?_ c⟩
 have e:id≠0:=by simpa using e
 simp[d,e]
theorem qe(v:VaultAt W h vp s)(n:ByteArray){K:Int×Bool→ac→Prop}(a:K ((bP s.B n).getD 0,(bP s.B n).isSome) h):HC PG dA [pV vp,.string n] [.c (.int .u32),.c .bool] K h:=by
 refine sE (some ⟨vp,0,none⟩) n ?_;unfold m4 bA;exact CondP.intro (fun e=>by cases e) fun _=>⟨_,rfl,_,vc v.blk 8,_,_,v.b.get n 0,a⟩
theorem yO(v:VaultAt W h vp s){K:Tr→ac→Prop}(f:∀h',Upd No h h'→K s.e h'):HC PG f6 [pV vp] [.agg [.int .i64,.int .u64,.int .u64,.int .u64,.ptr,.ptr]] K h:=by
 refine rp (some ⟨vp,0,none⟩) ?_;unfold ml av ad dw af gw rh AP yY eM;refine bO fun g b1 k1=>CondP.intro (fun e=>by cases e) fun _=>⟨_,rfl,?_⟩
 have c:=k1.get0 v.blk;refine⟨_,sU c 0 0,_,sU c 0 1,_,sU c 0 2,_,sU c 0 3,_,sU c 0 4,_,sU c 0 5,?_⟩;refine ei (c:=j2 w7) (vs:=j2 s.e) b1 rfl fun d b2 a=>?_
 exact⟨_,vc b2 0,_,vc b2 1,_,vc b2 2,_,vc b2 3,_,vc b2 4,_,vc b2 5,f d (k1.own a (ar _))⟩
theorem AR(v:VaultAt W h vp s)(id:Int){K:Tr×Int→ac→Prop}(o:id=0→∀h',Upd No h h'→K (s.e,0) h')(n:∀d,bP s.D id=some d→id≠0→∀h',Upd No h h'→K (d.1,0) h')(k:bP s.D id=none→id≠0→∀h',Upd No h h'→K (w7,4) h'):
  HC PG fp [pV vp,.int .u32 id] [.agg [.int .i64,.int .u64,.int .u64,.int .u64,.ptr,.ptr],.c (.int .i64)] K h:=by
 refine sD (some ⟨vp,0,none⟩) id ?_;unfold m0 bA av ad dw af gw nv rh qn AP ym yY eM H3;refine bO fun x b1 k1=>CondP.intro (fun e=>by cases e) fun _=>?_
 have c:=k1.get0 v.blk;refine CondP.intro (fun e=>⟨_,rfl,?_⟩) fun e=>⟨_,rfl,_,vc c 7,((bP s.D id).getD (w7,[])).1,_,(v.t.upd k1 fun h=>h).get id (w7,[]),bO fun p b2 q=>?_⟩
 ·refine⟨_,sU c 0 0,_,sU c 0 1,_,sU c 0 2,_,sU c 0 3,_,sU c 0 4,_,sU c 0 5,?_⟩
  refine ei (c:=j2 w7) (vs:=j2 s.e) b1 rfl fun p b2 j=>?_
  exact⟨_,vc b2 0,_,vc b2 1,_,vc b2 2,_,vc b2 3,_,vc b2 4,_,vc b2 5,o (by simpa using e) p (k1.own j (ar _))⟩
 ·have e:id≠0:=by simpa using e
  have w:=bG b1;have y:=k1.size;refine ei (c:=j2 w7) (vs:=j2 ((bP s.D id).getD (w7,[])).1) b2 rfl fun u b3 g=>?_
  have i:=g.oth (q.get0 b1) (by omega);have t:Upd No h u:=(k1.tr q).own g k1.size;cases hl:bP s.D id with
  |none=>
   refine aA.2 (ei (c:=j2 w7) (vs:=j2 w7) i rfl fun m a f=>?_)
   exact⟨_,vc a 0,_,vc a 1,_,vc a 2,_,vc a 3,_,vc a 4,_,vc a 5,k hl e m (t.own f (ar _))⟩
  |some d=>
   rw[hl]at b3;refine ak.2 ⟨_,vc b3 0,_,vc b3 1,_,vc b3 2,_,vc b3 3,_,vc b3 4,_,vc b3 5,?_⟩;refine ei (c:=j2 w7) (vs:=j2 d.1) i rfl fun m a f=>?_
   exact⟨_,vc a 0,_,vc a 1,_,vc a 2,_,vc a 3,_,vc a 4,_,vc a 5,n d hl e m (t.own f (ar _))⟩
theorem uA(v:VaultAt W h vp s){K:Option Addr→ac→Prop}(a:∀h',Upd No h h'→GraphAt (fun b=>W b∨b=h.size+1∨b=h.size) h' (h.size+1) h.size s.L s.nx→K (some ⟨h.size+1,0,none⟩) h'):HC PG eW [pV vp] [.c .ptr] K h:=by
 refine rm (some ⟨vp,0,none⟩) ?_;unfold mh dw;exact CondP.intro (fun e=>by cases e) fun _=>⟨_,rfl,_,vc v.blk 6,F5 v.g fun h' c _ g=>a h' c g⟩
theorem VaultAt.turn{M:Nat→Prop}{h':ac}{L:dI}{nx:Int}{D:List (Int×TD)}{B G:List (ByteArray×Int)}(v:VaultAt W h vp s)(k:Upd M h h')(hm:∀b,M b→W b∨h.size≤b)(g:GraphAt W h' s.gp s.gm L nx)(t:MapAt KE JH h' s.tm D)(b:MapAt kStr FY h' s.bm B)(n:MapAt kStr FY h' s.nm G)
  (ts:∀d∈D,d∈s.D∨TreeIs W h' s.kind s.x d.2.1 d.2.2∧dJ d.2.2∧Fit d.2.2)(sub:∀id,id∈D.map (·.1)↔id∈jZ L)(inv:Inv L nx):VaultAt W h' vp {s with L:=L,nx:=nx,D:=D,B:=B,G:=G}:=by
 have a:¬M vp:=fun c=>(hm vp c).elim (fun e=>v.wv e) fun e=>absurd (bG v.blk) (by omega)
 exact⟨k.get v.blk a,g,t,b,n,v.w,v.wv,v.ne,v.em.updM k hm,fun d hd=>(ts d hd).elim (fun e=>⟨(v.ts d e).1.updM k hm,(v.ts d e).2⟩) id,sub,inv,v.kd⟩
end
end Go.Proofs
namespace Go.Proofs
open Go Go.Lift
def vM(b:UInt8):Bool:=decide (33≤b.toNat)&&decide (b.toNat≤126)
def qo(n:ByteArray):Bool:=decide (1≤n.size)&&decide (n.size≤32)&&n.data.toList.all vM
theorem Gl{b:UInt8}{h:ac}{K:Bool→ac→Prop}(a:K (!vM b) h):HC PG l3 [.int .u8 b.toNat] [.c .bool] K h:=by
 refine wq b.toNat ?_;unfold pW;refine aU (fun e=>?_) fun e=>?_
 ·rw[show(!vM b)=true from by simp[vM];omega]at a;exact a
 ·rw[show(!vM b)=decide ((b.toNat:Int)>126)from by unfold vM;rw[decide_eq_true (by omega:33≤b.toNat),Bool.true_and,←decide_not,decide_eq_decide];omega]at a;exact a
theorem D5{n:ByteArray}{h:ac}{K:Bool→ac→Prop}(f:∀h',Upd No h h'→K (qo n) h'):HC PG oy [.string n] [.c .bool] K h:=by
 refine yA n ?_;unfold rM;refine Join.plain (aU (fun e=>aA.2 ?_) fun e=>aU (fun m=>?_) fun m=>?_)
 ·rw[show qo n=false from by simp[qo];omega]at f;exact f _ (Upd.refl _ _)
 ·rw[show qo n=false from by simp[qo];omega]at f;exact f _ (Upd.refl _ _)
 ·refine fun c hc=>?_
  have k1:=Upd.push No h (.cells (cg n++dU (c-n.size) (Value.int .u8 0)).toArray cT (c,c+1));have b1:=qm h (.cells (cg n++dU (c-n.size) (Value.int .u8 0)).toArray cT (c,c+1));generalize h.push (.cells (cg n++dU (c-n.size) (Value.int .u8 0)).toArray cT (c,c+1))=h1 at k1 b1;have a:n.data.toList.length=n.size:=Array.length_toList;refine jY ⟨some (aZ h),n.size,c⟩ _ ?_
  unfold fH;refine lf ⟨some (aZ h),n.size,c⟩ _ ?_;unfold gq bA fc;refine LoopP.ghost (fun(i:Nat) (t:Int) h'=>t=(i:Int)∧h'=h1∧i≤n.size∧∀b∈n.data.toList.take i,vM b=true) (fun i=>n.size-i) 0 ⟨rfl,rfl,bB _,by simp⟩ ?_
  rintro I i t h' ⟨rfl,rfl,hi,k⟩ o;refine aU (fun d=>?_) fun j=>?_
  ·have d:i<n.data.toList.length:=by rw[a];simp only at d;omega
   refine⟨by simp only;omega,aZ h,rfl,(n.data.toList[i].toNat:Int),?_,?_⟩
   ·rw[CS b1,List.getElem?_toArray,aM,Nat.mul_one,List.getElem?_append_left (by simp[cg];omega)]
    simp[cg,a▸d]
   ·refine HV.mk' (Gl (b:=n.data.toList[i]) (CondP.intro (fun e=>?_) fun e=>?_))
    ·rw[show qo n=false from ?_]at f
     ·rw[decide_eq_true (by omega)];exact f _ k1
     ·unfold qo
      rw[show n.data.toList.all vM=false from List.all_eq_false.2 ⟨_,List.getElem_mem d,by simpa using e⟩,Bool.and_false]
    ·rw[dg (n:=n.size) (by omega) (by omega)]
     refine o (i+1) _ _ ⟨rfl,rfl,by omega,?_⟩ (by omega)
     rw[aP d];intro b g;rcases aS.1 g with g|g
     ·exact k b g
     ·rw[ay.1 g];simpa using e
  ·have:i=n.size:=by simp only at j;omega
   subst this;rw[←a,bJ]at k;rw[show qo n=true from by unfold qo;rw[List.all_eq_true.2 k];simp;omega]at f
   exact f _ k1
def sC(B:List (ByteArray×Int))(L:dI)(n:ByteArray)(id:Int)(no:Bool):Int:=if qo n=false then 1 else if(bP B n).isSome then 7 else if no|| !decide (id=0∨id∈jZ L)then 4 else if B.length≥256 then 6 else 0
theorem HJ{W:Nat→Prop}{h:ac}{i:Nat}{s:VS}(v:VaultAt W h i s){r:Nat}{B:List (ByteArray×Int)}(m:MapAt kStr FY h r B)(n:ByteArray)(id:Int)(no:Bool){K:Int→ac→Prop}
  (k:∀h',Upd (· =r) h h'→MapAt kStr FY h' r (if sC B s.L n id no=0 then ic B n id else B)→K (sC B s.L n id no) h'):HC PG j9 [.map (some r),pV i,.string n,.int .u32 id,.bool no] [.c (.int .i64)] K h:=by
 refine tM (some r) (some ⟨i,0,none⟩) n id no ?_;unfold nT wZ;refine⟨_,_,m.get n 0,D5 fun q k1=>?_⟩
 have a:∀e h',sC B s.L n id no=e→e≠0→Upd No h h'→K e h':=fun e h' w u p=>by
  have:=k h' p.wide;rw[w,if_neg u]at this;exact this (m.upd p fun h=>h)
 refine CondP.intro (fun e=>a 1 q ?_ (by decide) k1) fun e=>CondP.intro (fun d=>a 7 q ?_ (by decide) k1) fun d=>?_
 ·unfold sC;rw[if_pos (by simpa using e)]
 ·unfold sC;rw[if_neg (by simpa using e),if_pos d]
 ·have e:¬qo n=false:=by simpa using e
  have d:¬(bP B n).isSome=true:=by simp[d]
  refine Join.intro (fun t h'=>t=(no|| !decide (id=0∨id∈jZ s.L))∧Upd No h h') (fun R j=>?_) ?_
  ·refine CondP.intro (fun c=>j _ _ ⟨by rw[c];rfl,k1⟩) fun c=>Dt (v.upd0 k1) id (j _ _ ⟨by rw[c];rfl,k1⟩)
  ·rintro t g ⟨rfl,f⟩
   refine CondP.intro (fun c=>a 4 g ?_ (by decide) f) fun c=>⟨_,(m.upd f fun h=>h).len,aU (fun x=>a 6 g ?_ (by decide) f) fun x=>?_⟩
   ·unfold sC;rw[if_neg e,if_neg d,if_pos c]
   ·unfold sC;rw[if_neg e,if_neg d,if_neg (by rw[c];decide),if_pos (by omega)]
   ·have o:=m.upd f fun h=>h
    have y:sC B s.L n id no=0:=by unfold sC;rw[if_neg e,if_neg d,if_neg (by rw[c];decide),if_neg (by omega)]
    refine⟨r,rfl,o.isMap,?_⟩;have:=k _ ((f.wide).tr (lz (M:=(· =r)) g (.string n) (.int .u32 id) rfl))
    rw[y,if_pos rfl]at this;exact this (o.put n id)
theorem VS.neB{s:VS}(h: [s.gp,s.gm,s.tm,s.bm,s.nm].Nodup):s.gp≠s.gm∧s.gp≠s.tm∧s.gp≠s.bm∧s.gp≠s.nm∧s.gm≠s.tm∧s.gm≠s.bm∧s.gm≠s.nm∧s.tm≠s.bm∧s.tm≠s.nm∧s.bm≠s.nm:=by
 simp only[List.nodup_cons,ao,List.not_mem_nil,or_false,not_or]at h;exact⟨h.1.1,h.1.2.1,h.1.2.2.1,h.1.2.2.2,h.2.1.1,h.2.1.2.1,h.2.1.2.2,h.2.2.1.1,h.2.2.1.2,h.2.2.2.1⟩
theorem VaultAt.setB{W:Nat→Prop}{h h':ac}{f:Nat}{s:VS}{B:List (ByteArray×Int)}(v:VaultAt W h f s)(k:Upd (· =s.bm) h h')(b:MapAt kStr FY h' s.bm B):VaultAt W h' f {s with B:=B}:=by
 obtain⟨n1,n,i,p,o,j,q,m,t,c⟩:=VS.neB v.ne;have g:∀b,b=s.bm→W b:=fun b e=>v.w b (.inr (.inr (.inr (.inl e))))
 exact v.turn k (fun b e=>.inl (g b e)) (v.g.upd k fun b e=>.inl ⟨g b e,fun a=>i (a.symm.trans e),fun a=>j (a.symm.trans e)⟩) (v.t.upd k m) b (v.n.upd k fun e=>c e.symm) (fun d hd=>.inl hd) v.sub v.inv
theorem pl{W:Nat→Prop}{h:ac}{a:Nat}{s:VS}(v:VaultAt W h a s)(n:ByteArray)(id:Int){K:Int→ac→Prop}
  (d:∀h',Upd (· =s.bm) h h'→VaultAt W h' a {s with B:=if sC s.B s.L n id false=0 then ic s.B n id else s.B}→K (sC s.B s.L n id false) h'):HC PG dE [pV a,.string n,.int .u32 id] [.c (.int .i64)] K h:=by
 refine qI (some ⟨a,0,none⟩) n id ?_;unfold lP bA;exact CondP.intro (fun e=>by cases e) fun _=>⟨_,rfl,_,vc v.blk 8,HJ v v.b n id false fun h' c m=>d h' c (v.setB c m)⟩
end Go.Proofs
namespace Go.Proofs
open Go Go.Lift
section
variable {M:Nat→Prop} {h:ac} {s:SliceV} {xs ys:List Int}
theorem zF(l:List Int):l.flatMap u32=l.map fun x=>Value.int .u32 x:=by
 induction l with
 |nil=>rfl
 |cons x l ih=>rw[List.flatMap_cons,ih];rfl
theorem OwnS.put1(g:OwnS u32 1 c5 M h s ys){i:Nat}(hi:i<ys.length)(x:Int){k:ac→Prop}(n:∀h',OwnS u32 1 c5 M h' s (ys.set i x)→Upd M h h'→k h'):∃a,s.a=some a∧Wr h (adr a (i*1))∧At (hset h (adr a (i*1)) (.int .u32 x)) k:=by
 have c:=g.len;have f:=g.cap;rcases g.blk with t|⟨b,d,j,m,hc,q⟩
 ·omega
 refine⟨_,j,?_⟩;rw[Nat.mul_one];refine H4 hc (by rw[List.size_toArray,ae,zF,fP];omega) (List.setIfInBounds_toArray ..) fun o b2 p=>n o ⟨by rw[jG];exact c,j1,f,.inr ⟨b,d,j,m,?_,q⟩⟩ (p.mono fun _ e=>.inl (e▸m))
 rw[b2,zF,List.set_append_left _ _ (by rw[fP];exact hi),zF,List.map_set]
theorem OwnS.cutZ(g:OwnS u32 1 c5 M h s ys){i:Nat}(hi:i<ys.length){k:ac→Prop}(q:∀h',OwnS u32 1 c5 M h' ⟨aF s.a 0 s.cap 1,i-0,s.cap-0⟩ (ys.take i)→Upd M h h'→k h'):
  qH h (aF s.a i s.cap 1) 0 (cq (s.len-i) [.int .u32 0])∧At (dy h (aF s.a i s.cap 1) 0 (cq (s.len-i) [.int .u32 0])) k:=by
 have j:=g.len;have n:=g.cap;rcases g.blk with w|⟨b,a,m,p,hc,v⟩
 ·omega
 have c:((ys.take i).flatMap u32).length=i*1:=by rw[ia j1,aY,Nat.min_eq_left (by omega)]
 have o:((ys.drop i).flatMap u32).length=(ys.length-i)*1:=by rw[ia j1,aH]
 rw[sy (f:=u32) ys i]at hc;rw[m,gg (by omega)];have d:(cq (s.len-i) [Value.int .u32 0]).length=(s.len-i)*1:=gQ _ _;refine zS hc (by rw[d,ae,ae,c,o];omega) fun t b2 u=>q t ⟨by rw[aY];simp only;omega,j1,by simp only;omega,
  .inr ⟨b,cq (s.len-i) [Value.int .u32 0]++a,by rw[m,sub_zero],p,?_,?_⟩⟩ (u.mono fun _ e=>.inl (e▸p))
 ·rw[b2]
  congr 2
  rw[aj,aj,List.take_left' (by rw[c];omega)];congr 2
  rw[←cz,bL (by rw[c];omega),bL (by rw[o,d];omega)]
 ·rw[ae,d,v];simp only;omega
def nz(xs:List Int):List Int:=xs.filter fun x=> !(x==0)
theorem Fx{x:Int}{K:Bool→ac→Prop}(a:K (x==0) h):HV PG (.func (.func mV) #[] #[]) [.int .u32 x] [.c .bool] K h:=by
 refine HV.mk' (ya x ?_);unfold qN;exact a
theorem Fj(k:OwnS u32 1 c5 M h s xs)(S:xs.length≤1000000){K:SliceV→ac→Prop}(D:∀s' h',OwnS u32 1 c5 M h' s' (nz xs)→Upd M h h'→K s' h'):HC PG px [.slice s.a s.len s.cap] [.c .slice] K h:=by
 have u:=k.len;have E:=k.cap;refine AA s ?_;unfold ug;refine lO s _ ?_;unfold gF bA fc dL;refine gU s _ ?_;unfold eU bA fc;have J:Sl u32 1 No h s xs:=k.sl fun _ _ _ h=>h
 refine LoopP.ghost (fun(i:Nat) (t:Int) h'=>t=(i:Int)∧h'=h∧i≤xs.length∧nz (xs.take i)=xs.take i) (fun i=>xs.length-i) 0 ⟨rfl,rfl,bB _,by simp[nz]⟩ ?_
 rintro I i t h' ⟨rfl,rfl,hi,m⟩ P;refine aU (fun d=>?_) fun G=>?_
 ·have d:i<xs.length:=by omega
  obtain⟨a,A,_,hx⟩:=Nums.at J d;refine⟨by omega,a,A,_,hx,Fx (CondP.intro (fun e=>?_) fun e=>?_)⟩
  ·
   have N:nz (xs.take (i+1))=xs.take i:=by
    rw[aP d];unfold nz at m⊢;rw[fB,m];simp[e]
   refine CondP.intro (fun O=>?_) fun _=>?_
   ·simp at O
   rw[dg d (by omega)];refine LoopP.ghost (fun(g:Nat×Nat×List Int) (t:Int×Int) x=>t=((g.1:Int),(g.2.1:Int))∧g.1<g.2.1∧g.2.1≤xs.length∧OwnS u32 1 c5 M x s g.2.2∧g.2.2.take g.1=nz (xs.take g.2.1)∧g.2.2.drop g.2.1=xs.drop g.2.1∧Upd M h' x) (fun g=>xs.length-g.2.1) (i,i+1,xs) ⟨rfl,by simp only;omega,by simp only;omega,k,N.symm,rfl,Upd.refl _ _⟩ ?_
   rintro R ⟨p,j,ys⟩ t x ⟨rfl,z,H,o2,v,hd,y⟩ o;have o2:OwnS u32 1 c5 M x s ys:=o2;have L:ys.length=xs.length:=o2.len.symm.trans u;simp only at z H v hd⊢;refine aU (fun c=>?_) fun F=>?_
   ·have c:j<xs.length:=by omega
    have B:ys[j]'(by omega)=xs[j]:=by
     have:=congrArg List.head? hd;simpa[List.head?_drop,au c,au (show j<ys.length by omega)]using this
    obtain⟨a,A,_,hx⟩:=Nums.at (o2.sl (W:=No) fun _ _ _ h=>h) (show j<ys.length by omega)
    rw[B]at hx;have q:ys.drop (j+1)=xs.drop (j+1):=by rw[←cz,hd,cz]
    refine Join.plain ⟨by omega,a,A,_,hx,Fx (CondP.intro (fun e=>?_) fun e=>?_)⟩
    ·have f:(!(xs[j]==0))=true:=e
     refine⟨by omega,?_⟩;rw[aM];refine OwnS.put1 o2 (i:=p) (by omega) xs[j] fun Q w C=>?_
     rw[dg (i:=p) (n:=xs.length) (by omega) (by omega),dg c (by omega)];refine o (p+1,j+1,ys.set p xs[j]) _ _ ⟨rfl,by simp only;omega,by simp only;omega,w,?_,?_,y.tr C⟩ (by simp only;omega)
     ·simp only
      rw[aP (by rw[jG];omega),List.getElem_set_self,List.take_set_of_le (ar _),v,aP c];unfold nz;rw[fB];simp[f]
     ·simp only
      rw[List.drop_set_of_lt (by omega),q]
    ·have f:(!(xs[j]==0))=false:=e
     rw[dg c (by omega)];refine o (p,j+1,ys) _ _ ⟨rfl,by simp only;omega,by simp only;omega,o2,?_,q,y⟩ (by simp only;omega)
     simp only;rw[v,aP c];unfold nz;rw[fB];simp[f]
   ·have:j=xs.length:=by omega
    subst this;rw[bJ]at v;refine⟨by omega,?_⟩;rw[aM];refine OwnS.cutZ (ys:=ys) o2 (by omega) fun Q w C=>⟨by omega,?_⟩
    rw[v]at w;exact D _ _ w (y.tr C)
  ·rw[dg d (by omega)]
   refine P (i+1) _ _ ⟨rfl,rfl,by omega,?_⟩ (by omega)
   rw[aP d];unfold nz at m⊢;rw[fB,m];simp[e]
 ·have:i=xs.length:=by omega
  subst this;rw[bJ]at m;rw[←m]at k;exact aA.2 (D s _ k (Upd.refl _ _))
end
end Go.Proofs
namespace Go.Proofs
open Go Go.Lift
def vZ(s:VS)(n:ByteArray)(d:TD)(ps:List Int):(Int×Int)×VS:=
 if(iW s.L s.nx ps).1.2≠0 then((0,(iW s.L s.nx ps).1.2),s)
 else(((iW s.L s.nx ps).1.1,0),{s with L:=(iW s.L s.nx ps).2.1,nx:=(iW s.L s.nx ps).2.2,D:=ic s.D (iW s.L s.nx ps).1.1 d,B:=ic s.B n (iW s.L s.nx ps).1.1})
theorem Gy{L:dI}{nx:Int}{ps:List Int}(h:(iW L nx ps).1.2≠0):(iW L nx ps).2=(L,nx):=by
 unfold iW at h⊢;split
 ·rfl
 ·split
  ·rfl
  ·split
   ·rfl
   ·rename_i h1 h2 h3
    rw[if_neg h1,if_neg h2,if_neg h3]at h;exact absurd rfl h
theorem ER{L:dI}{nx:Int}{ps:List Int}(h:(iW L nx ps).1.2=0):iW L nx ps=((nx,0),tn L nx ps,nx+1):=by
 unfold iW at h⊢;split at h
 ·rename_i h1;exact absurd h h1
 ·split at h
  ·rename_i h1;exact absurd h h1
  ·split at h
   ·have h:(6:Int)=0:=h
    omega
   ·rename_i h1 h2 h3;rw[if_neg h1,if_neg h2,if_neg h3]
theorem Av{h:ac}{k:ac→Prop}(a:∀h',h'=h→k h'):At h k:=aR (a h rfl)
theorem BM{κ β:Type}[DecidableEq κ]{k:κ}{v:β}:∀{l:List (κ×β)} {p:κ×β},p∈ic l k v→p=(k,v)∨p∈l
 | [],p,h=>.inl (by simpa[ic]using h)
 |(k',u)::l,p,h=>by
  unfold ic at h;split at h
  ·exact(ao.1 h).imp id (aC _)
  ·rcases ao.1 h with h|h
   ·exact .inr (h▸aq)
   ·exact(BM h).imp id (aC _)
theorem tH{β:Type}{k:Int}{v:β}:∀{l:List (Int×β)},bP l k=some v→(k,v)∈l
 |(k',u)::l,h=>by
  unfold bP at h;split at h
  ·rename_i e;cases h;rw[e];exact aq
  ·exact aC _ (tH h)
section
variable {W:Nat→Prop} {h0 h:ac} {vp:Nat} {s:VS}
theorem VaultAt.size(v:VaultAt W h vp s){y:Nat}(a:s.M y):y<h.size:=v.g.lt y (v.w y a)
theorem VS.mG{s:VS}{y:Nat}(h:x8 s.gp s.gm y):s.M y:=h.imp id .inl
theorem AQ(v:VaultAt W h0 vp s)(k0:Upd No h0 h)(n:ByteArray){d:TD}(i:TreeIs W h0 s.kind s.x d.1 d.2)(hr:dJ d.2)(hf:Fit d.2){pb:Nat}(hpb:h0.size≤pb)(hpb2:pb<h.size){sl:SliceV}{ps:List Int}(ho:OwnS u32 1 c5 (· =pb) h sl ps)(hn:ps.length≤1000000)
  {K:Int×Int→ac→Prop}(C:∀h',Upd s.M h0 h'→VaultAt W h' vp (vZ s n d (nz ps)).2→K (vZ s n d (nz ps)).1 h'):
  HC PG ee [pV vp,.string n,GC d.1,.slice sl.a sl.len sl.cap] [.c (.int .u32),.c (.int .i64)] K h:=by
 refine p8 (some ⟨vp,0,none⟩) n d.1 sl ?_;unfold kJ bA av ad dw af qn uu vY;refine bO fun h1 b1 k1=>⟨_,rfl,_,vc (v.upd0 (k0.tr k1)).blk 6,?_⟩
 have s0:=k0.size;refine Fj (ho.upd k1 fun _ _ h=>h) hn fun s5 U o5 u5=>?_
 have H:Upd No h0 U:=(k0.tr k1).own u5 hpb;have o:=v.upd0 H;have b5:=u5.oth b1 (show h.size≠pb by omega)
 have hl5:(nz ps).length≤ps.length:=List.length_filter_le ..;have T:∀y,W y→y<h0.size:=v.g.lt;refine⟨vc o.blk 6,Hu o.g (by have:=v.inv.nx1;omega) (fun hm=>by have:=(v.inv.pos _ hm).2;omega) (o5.sl (W:=W) fun b q _ hw=>by have:=T b hw;omega) (by omega) fun I t J=>?_⟩
 have hM7:∀y,x8 s.gp s.gm y→W y∨U.size≤y:=fun y a=>.inl (v.w y (VS.mG a))
 obtain⟨n1,n2,n3,n4,n5,n6,n7,n8,n9,Y⟩:=VS.neB v.ne;have w:∀y,y≠s.gp→y≠s.gm→¬x8 s.gp s.gm y:=fun y h1 h2 h=>h.elim h1 h2
 have O:=o.t.upd t (w _ n2.symm n5.symm);have m7:=o.b.upd t (w _ n3.symm n6.symm);have A:=o.n.upd t (w _ n4.symm n7.symm);refine CondP.intro (fun e=>?_) fun e=>?_
 ·have e:(iW s.L s.nx (nz ps)).1.2≠0:=by simpa using e
  have Q:=Gy e;have S:vZ s n d (nz ps)=((0,(iW s.L s.nx (nz ps)).1.2),s):=by unfold vZ;rw[if_pos e]
  rw[S]at C;rw[Q]at J;exact C I (H.wide.tr (t.mono fun y a=>.inl (VS.mG a))) (o.turn t hM7 J O m7 A (fun d hd=>.inl hd) v.sub v.inv)
 ·have e:(iW s.L s.nx (nz ps)).1.2=0:=by simpa using e
  have Q:=ER e;have u:=v.inv.add (nz ps);have S:vZ s n d (nz ps)=(((iW s.L s.nx (nz ps)).1.1,0),{s with L:=(iW s.L s.nx (nz ps)).2.1,nx:=(iW s.L s.nx (nz ps)).2.2,D:=ic s.D (iW s.L s.nx (nz ps)).1.1 d,B:=ic s.B n (iW s.L s.nx (nz ps)).1.1}):=by unfold vZ;rw[if_neg (by rw[e];simp)]
  rw[S]at C;rw[Q]at J C u⊢;have G:∀y,s.M y→vp≠y:=fun y a e=>v.wv (e▸v.w y a)
  have c7:=t.get o.blk fun hm=>G _ (VS.mG hm) rfl
  have x:=t.get b5 fun hm=>by have:=v.size (VS.mG hm);omega
  refine⟨_,rfl,_,vc c7 7,_,vc x 0,_,vc x 1,_,vc x 2,_,vc x 3,_,vc x 4,_,vc x 5,_,rfl,O.isMap,Av fun f m=>?_⟩
  have m:f=jh I s.tm (KE.enc s.nx) (JH d):=m;have g:Upd (· =s.tm) I f:=by rw[m];exact lz I _ _ rfl
  have Z:MapAt KE JH f s.tm (ic s.D s.nx d):=by rw[m];exact O.put s.nx d
  have F:=m7.upd g (fun e=>n8 e.symm)
  have E:=A.upd g (fun e=>n9 e.symm)
  have R:=J.upd g fun b q=>.inl ⟨v.w b (.inr (.inr (.inl q))),fun e=>n2 (e.symm.trans q),fun e=>n5 (e.symm.trans q)⟩
  have V:=g.get c7 fun e=>G _ (.inr (.inr (.inl rfl))) e
  refine⟨_,rfl,_,vc V 8,_,rfl,F.isMap,Av fun c j=>?_⟩
  have j:c=jh f s.bm (kStr.enc n) (FY s.nx):=j;have k:Upd (· =s.bm) f c:=by rw[j];exact lz f _ _ rfl
  have m21:MapAt kStr FY c s.bm (ic s.B n s.nx):=by rw[j];exact F.put n s.nx
  have X:=Z.upd k n8;have z:=E.upd k (fun e=>Y e.symm)
  have P:=R.upd k fun b q=>.inl ⟨v.w b (.inr (.inr (.inr (.inl q)))),fun e=>n3 (e.symm.trans q),fun e=>n6 (e.symm.trans q)⟩
  have N:Upd s.M U c:=((t.mono fun y a=>.inl (VS.mG a)).tr (g.mono fun y a=>.inl (.inr (.inr (.inl a))))).tr (k.mono fun y a=>.inl (.inr (.inr (.inr (.inl a)))))
  refine C c (H.wide.tr N) (o.turn N (fun y a=>.inl (v.w y a)) P X m21 z (fun p hp=>(BM hp).elim (fun e=>.inr ?_) .inl) (fun id=>?_) u)
  ·subst e
   have ku:Upd s.M h0 c:=H.wide.tr N;exact⟨i.updM ku fun y a=>.inl (v.w y a),hr,hf⟩
  ·rw[rb,insV_ids.mem_iff,ao,←v.sub id]
   split
   ·rename_i hm
    exact⟨.inr,fun h=>h.elim (fun e=>e▸hm) fun h=>h⟩
   ·rw[aS,ay,Or.comm]
end
end Go.Proofs
namespace Go.Proofs
open Go Go.Lift
abbrev JM:List Value:= [.string (⟨#[]⟩:ByteArray),.string (⟨#[]⟩:ByteArray)]
theorem Jd{h:ac}{t:TypeId}{p:Pr}{k:ac→Prop}(e:∀h',h'[h.size]? =some (.cells #[.string p.1,.string p.2] t (0,0))→Upd No h h'→k h'):
  At (hnew h [.string (⟨#[]⟩:ByteArray),.string (⟨#[]⟩:ByteArray)] t) fun d=>qH d (some (aZ h)) 0 [.string p.1,.string p.2]∧At (jd d (aZ h) 0 [.string p.1,.string p.2]) k:=by
 refine bO fun g b1 k1=>?_
 exact ei (c:=JM) (vs:= [.string p.1,.string p.2]) b1 rfl fun f b2 a=>e f b2 (k1.own a (ar _))
theorem wQ{i n:Nat}(h:i<n)(a:n≤9223372036854775807):IntKind.wrap .i64 ((i:Int)+1)=((i+1:Nat):Int):=by rw[Go.IntWalk.i64_in _ (by omega)];omega
theorem ze(p:Pr):∀{l:List Pr},(g9 p l).length≤l.length+1
 | []=>ar _
 |q::l=>by
  rw[iP];split
  ·have:=ze p (l:=l);simp only[List.length_cons];omega
  ·split<;>simp
theorem Et{W W':Nat→Prop}{h h':ac}{kind:Int}{x:Hs}{t u:Tr}{l l':List Pr}(i:TreeIs W h kind x t l)(a:TreeIs W' h' kind x u l'):oU t u=true:=by
 rcases i with⟨rfl,b,rfl,_⟩|⟨rfl,b,rfl,_⟩<;>rcases a with⟨e,b',rfl,_⟩|⟨e,b',rfl,_⟩
 ·simp[oU]
 ·cases e
 ·cases e
 ·simp[oU]
theorem CD(t:Tr):oU t t=true:=by simp[oU]
theorem Ji{k:Int}(a:0≤k)(c:k≤255):IntKind.wrap .i64 (cC k 2)=0∨IntKind.wrap .i64 (cC k 2)=1:=by
 have:cC k 2=k%2:=Int.tmod_eq_emod_of_nonneg a;rw[this,pL (by omega)];omega
end Go.Proofs
namespace Go.Proofs
open Go Go.Lift
section
variable {W:Nat→Prop} {h:ac} {vp:Nat} {s:VS}
theorem pm(v:VaultAt W h vp s)(n:ByteArray){hd:Int}(k:bP s.B n=some hd){d:TD}(i:TreeIs W h s.kind s.x d.1 d.2)(o:dJ d.2)(p:Fit d.2)
  {K:Int×Int→ac→Prop}(g:∀h',Upd s.M h h'→VaultAt W h' vp (vZ s n d (nz [hd])).2→K (vZ s n d (nz [hd])).1 h'):
  HC PG dF [pV vp,.string n,GC d.1] [.c (.int .u32),.c (.int .i64)] K h:=by
 refine qJ (some ⟨vp,0,none⟩) n d.1 ?_;unfold lQ av ad dw af qn uu wC yY eM;refine bO fun x b1 k1=>qe (v.upd0 k1) n ?_
 rw[k];refine ak.2 ⟨_,vc b1 0,_,vc b1 1,_,vc b1 2,_,vc b1 3,_,vc b1 4,_,vc b1 5,_,rfl,?_⟩;have c1:=k1.get0 v.blk;refine⟨_,sU c1 0 0,_,sU c1 0 1,_,sU c1 0 2,_,sU c1 0 3,_,sU c1 0 4,_,sU c1 0 5,?_⟩;refine AY (t:=d.1) (u:=s.e) fun c e=>?_
 rw[Et i v.em];have b2:=e.get0 b1;refine ak.2 ⟨_,vc b2 0,_,vc b2 1,_,vc b2 2,_,vc b2 3,_,vc b2 4,_,vc b2 5,bO fun w b3 q=>?_⟩
 have a:=k1.tr e;have f:=a.size;refine AQ v (a.tr q) n i o p (pb:=c.size) f (bG b3) (sl:=⟨some (aZ c),1,1⟩) (ps:= [hd]) ⟨rfl,j1,ar _,.inr ⟨c.size,[],rfl,rfl,b3,rfl⟩⟩ (by simp) fun h' j m=>g h' j m
theorem zE(v:VaultAt W h vp s)(n:ByteArray){hd:Int}(k:bP s.B n=some hd){id:Int}(hi:id=0∨id∈jZ s.L)(d:id=0∨UpG s.L hd id)
  {K:Int→ac→Prop}(j:∀h',Upd s.M h h'→VaultAt W h' vp {s with B:=ic s.B n id}→K 0 h'):HC PG gJ [pV vp,.string n,.int .u32 id] [.c (.int .i64)] K h:=by
 refine pI (some ⟨vp,0,none⟩) n id ?_;unfold kr bA wZ wC GB;refine qe v n ?_;rw[k];refine Join.plain (ak.2 (Dt v id ?_));rw[decide_eq_true hi];refine ak.2 (uB v id hd fun b g e k1=>?_)
 rw[e.2 d];have c:=v.upd0 k1;refine ak.2 ⟨_,rfl,_,vc c.blk 8,_,rfl,c.b.isMap,Av fun f a=>?_⟩
 have a:f=jh g s.bm (kStr.enc n) (FY id):=a;have i:Upd (· =s.bm) g f:=by rw[a];exact lz g _ _ rfl
 exact j f (k1.wide.tr (i.mono fun y m=>.inl (.inr (.inr (.inr (.inl m)))))) (c.setB i (by rw[a];exact c.b.put n id))
end
end Go.Proofs
namespace Go.Proofs
open Go Go.Lift
end Go.Proofs
namespace Go.Proofs
open Go Go.Lift
end Go.Proofs
namespace Go.Proofs
open Go Go.Lift
end Go.Proofs
namespace Go.Proofs
open Go Go.Lift
end Go.Proofs
namespace Go.Proofs
structure WO{α:Type}(lt:α→α→Bool):Prop where
 irr:∀a,lt a a=false
 asy:∀a b,lt a b=true→lt b a=false
 ntr:∀a b c,lt a b=false→lt b c=false→lt a c=false
section
variable {α:Type} {lt:α→α→Bool}
def IT(lt:α→α→Bool)(x a:α):Bool:= !lt a x&& !lt x a
def Srt(lt:α→α→Bool)(l:List α):Prop:=l.Pairwise fun a b=>lt b a=false
structure Eqf(lt:α→α→Bool)(l l':List α):Prop where
 len:l'.length=l.length
 flt:∀x,l'.filter (IT lt x)=l.filter (IT lt x)
structure St(lt:α→α→Bool)(l l':List α):Prop where
 eqf:Eqf lt l l'
 srt:Srt lt l'
theorem Eqf.rfl(l:List α):Eqf lt l l:=⟨_root_.rfl,fun _=>_root_.rfl⟩
theorem Eqf.tr{a b c:List α}(h:Eqf lt a b)(k:Eqf lt b c):Eqf lt a c:=⟨k.len.trans h.len,fun x=>(k.flt x).trans (h.flt x)⟩
theorem Eqf.app{a b a' b':List α}(h:Eqf lt a a')(k:Eqf lt b b'):Eqf lt (a++b) (a'++b'):=
 ⟨by rw[ae,ae,h.len,k.len],fun x=>by rw[fB,fB,h.flt,k.flt]⟩
theorem BJ(w:WO lt)(a:α):IT lt a a=true:=by unfold IT;rw[w.irr];rfl
theorem Eqf.mem(w:WO lt){l l':List α}(h:Eqf lt l l'){a:α}:a∈l'↔a∈l:=by
 have e:=h.flt a;constructor
 ·intro hm
  have:a∈l'.filter (IT lt a):=dt.2 ⟨hm,BJ w a⟩;rw[e]at this;exact(dt.1 this).1
 ·intro hm
  have:a∈l.filter (IT lt a):=dt.2 ⟨hm,BJ w a⟩;rw[←e]at this;exact(dt.1 this).1
theorem Srt.app{a b:List α}(h:Srt lt a)(k:Srt lt b)(c:∀x∈a,∀y∈b,lt y x=false):Srt lt (a++b):=cd.2 ⟨h,k,c⟩
theorem Srt.left{a b:List α}(h:Srt lt (a++b)):Srt lt a:=(cd.1 h).1
theorem Srt.right{a b:List α}(h:Srt lt (a++b)):Srt lt b:=(cd.1 h).2.1
theorem Srt.nil:Srt lt ([]:List α):=dV
theorem Srt.one(a:α):Srt lt [a]:=cH ..
end
end Go.Proofs
namespace Go.Proofs
open Go Go.Lift
section
variable {α:Type} {f:α→List Value} {sz:Nat} {t:TypeId} {M:Nat→Prop} {h:ac} {s:SliceV} {P Q:List α} {x:α}
end
end Go.Proofs
namespace Go.Proofs
open Go Go.Lift
end Go.Proofs
namespace Go.Proofs
open Go Go.Lift
variable {z0:Hs}
end Go.Proofs
namespace Go.Proofs
open Go Go.Lift
end Go.Proofs
namespace Go.Proofs
open Go Go.Lift
end Go.Proofs
namespace Go.Proofs
open Go Go.Lift
def wl(x:Hs):Nat→List Pr→List Pr
 |0,l=>l
 |m+1,l=>jT x (12-m) l++(mQ x (12-m) l).flatMap (wl x m)
def cw(x:Hs):Nat→List Pr→Nat
 |0,_=>2
 |m+1,l=>2+((mQ x (12-m) l).map (cw x m)).sum
structure Fr where
 sp:SliceV
 sk:SliceV
 n:Nat
 ps:List Pr
 ks:List (Nat×List Pr)
def Fr.raw(f:Fr):SliceV×SliceV:=(f.sp,f.sk)
def Fr.rem(x:Hs)(f:Fr):List Pr:=f.ps++f.ks.flatMap fun k=>wl x (f.n-1) k.2
end Go.Proofs
namespace Go.Proofs
open Go Go.Lift
end Go.Proofs
namespace Go.Proofs
open Go Go.Lift
def Below(W:Nat→Prop)(x:Hs)(h:ac)(m:Nat)(r:Option Addr)(l:List Pr):Prop:=(r=none∧l= [])∨∃b,r=some ⟨b,0,none⟩∧TrieAt W x h m b l
theorem Below.upd0{W:Nat→Prop}{x:Hs}{h h':ac}{m:Nat}{r:Option Addr}{l:List Pr}(k:Upd No h h')(t:Below W x h m r l):Below W x h' m r l:=t.imp id fun⟨b,e,t⟩=>⟨b,e,TrieAt.upd0 k t⟩
theorem Below.less{W W':Nat→Prop}{x:Hs}{h:ac}{m:Nat}{r:Option Addr}{l:List Pr}(hm:∀b,W' b→W b∨h.size≤b)(t:Below W x h m r l):Below W' x h m r l:=t.imp id fun⟨b,e,t⟩=>⟨b,e,TrieAt.less hm t⟩
theorem Below.updM{W M:Nat→Prop}{x:Hs}{h h':ac}{m:Nat}{r:Option Addr}{l:List Pr}(k:Upd M h h')(hm:∀b,M b→W b∨h.size≤b)(t:Below W x h m r l):Below W x h' m r l:=t.imp id fun⟨b,e,t⟩=>⟨b,e,TrieAt.updM k hm t⟩
end Go.Proofs
namespace Go.Proofs
open Go.Lift
end Go.Proofs
namespace Go.Proofs
open Go Go.Lift
end Go.Proofs
namespace Go.Proofs
open Go Go.Lift
end Go.Proofs
namespace Go.Proofs
open Go Go.Lift
end Go.Proofs
namespace Go.Proofs
open Go Go.Lift
abbrev Rt:=Int×Int×Int×Int×SliceV
abbrev IS(r:Rt):List Value:= [.int .i64 r.1,.int .u64 r.2.1,.int .u64 r.2.2.1,.int .u64 r.2.2.2.1,.slice r.2.2.2.2.a r.2.2.2.2.len r.2.2.2.2.cap]
abbrev JX:Rt:=(0,0,0,0,⟨none,0,0⟩)
def hx(kind v:Int):Int:=if kind=0 then v else 0
def RefIs(W:Nat→Prop)(h:ac)(kind:Int)(x:Hs)(r:Rt)(l:List Pr):Prop:=∃s,r=(kind,hx kind x.k0,hx kind x.k1,hx kind x.mask,s)∧Sl jq 2 W h s l∧s.len≤s.cap
theorem RefIs.upd0{W:Nat→Prop}{h h':ac}{kind:Int}{x:Hs}{r:Rt}{l:List Pr}(k:Upd No h h')(i:RefIs W h kind x r l):RefIs W h' kind x r l:=
 let⟨s,e,a⟩:=i;⟨s,e,a.1.upd k fun _ h=>h.elim,a.2⟩
theorem RefIs.less{W W':Nat→Prop}{h:ac}(hm:∀b,W' b→W b∨h.size≤b){kind:Int}{x:Hs}{r:Rt}{l:List Pr}(i:RefIs W h kind x r l):RefIs W' h kind x r l:=
 let⟨s,e,a⟩:=i;⟨s,e,a.1.less hm,a.2⟩
theorem RefIs.updM{W M:Nat→Prop}{h h':ac}(k:Upd M h h')(hm:∀b,M b→W b∨h.size≤b){kind:Int}{x:Hs}{r:Rt}{l:List Pr}(i:RefIs W h kind x r l):RefIs W h' kind x r l:=
 let⟨s,e,a⟩:=i;⟨s,e,a.1.upd k hm,a.2⟩
theorem G7{W:Nat→Prop}{x:Hs}{h:ac}{kind:Int}(f:kind=0∨kind=1){K:Rt×Int→ac→Prop}(i:∀h' r,RefIs W h' kind x r []→Upd No h h'→K (r,0) h'):HC PG uS [.int .i64 kind,.agg #[.int .u64 x.k0,.int .u64 x.k1,.int .u64 x.mask]] [.agg [.int .i64,.int .u64,.int .u64,.int .u64,.slice],.c (.int .i64)] K h:=by
 refine EV kind (x.k0,x.k1,x.mask) ?_;unfold zw av ad gw y2 uH E7;refine bO fun n b1 k1=>bO fun m b2 k=>?_
 have c1:=k.get0 b1;have j:=k1.size;have e:=k1.tr k;rcases f with rfl|rfl
 ·refine aA.2 ⟨_,vc c1 0,_,vc c1 1,_,vc c1 2,?_⟩
  refine ei (c:=IS JX) (vs:=IS (0,x.k0,x.k1,x.mask,⟨none,0,0⟩)) b2 rfl fun g a d=>?_
  exact⟨_,vc a 0,_,vc a 1,_,vc a 2,_,vc a 3,⟨none,0,0⟩,vc a 4,i g (0,x.k0,x.k1,x.mask,⟨none,0,0⟩) ⟨_,rfl,Sl.nil ip,ar _⟩ (e.own d j)⟩
 ·refine ak.2 (aA.2 ?_)
  refine ei (c:=IS JX) (vs:=IS (1,0,0,0,⟨none,0,0⟩)) b2 rfl fun g a d=>?_
  exact⟨_,vc a 0,_,vc a 1,_,vc a 2,_,vc a 3,⟨none,0,0⟩,vc a 4,i g (1,0,0,0,⟨none,0,0⟩) ⟨_,rfl,Sl.nil ip,ar _⟩ (e.own d j)⟩
def zp(s:ByteArray):ByteArray:=s.extract 0 (min s.size 30)
theorem xS(s:ByteArray):(zp s).size≤30:=by unfold zp;rw[kD];omega
end Go.Proofs
namespace Go.Proofs
open Go Go.Lift
def EE(p:Pr):Pr:=(zp p.1,zp p.2)
structure Few(n:Nat)(L:List Pr):Prop where
 up:dJ L
 len:L.length≤n
 fit:∀p∈L,p.1.size≤30∧p.2.size≤30
theorem Few.ins{n:Nat}{L:List Pr}(f:Few n L)(p:Pr)(d:p.1.size≤30)(a:p.2.size≤30):Few (n+1) (g9 p L):=
 ⟨uG p f.up,bI (ze p) (by have:=f.len;omega),fun q c=>(qp c).elim (fun e=>by rw[e];exact⟨d,a⟩) fun h=>f.fit q h⟩
theorem Few.fits{n:Nat}{L:List Pr}(f:Few n L):Fit L:=fun p a=>by have:=f.fit p a;omega
end Go.Proofs
namespace Go.Proofs
open Go Go.Lift
end Go.Proofs
namespace Go.Proofs
open Go Go.Lift
theorem Cv{h:ac}{b:Nat}{c:Array Value}{t:TypeId}(a:h[b]? =some (.cells c t (0,0))) (hc:0<c.size):eI h ⟨b,0,none⟩:=⟨c,t,a,hc⟩
theorem TrieAt.plain{W:Nat→Prop}{x:Hs}{h:ac}:∀{m b:Nat} {l:List Pr},TrieAt W x h m b l→eI h ⟨b,0,none⟩
 |0,_,_,t=>by obtain⟨_,_,_,a,_⟩:=BuckAt.ex t;exact Cv a (by simp[dN])
 |m+1,_,_,⟨s,nd,_⟩=>by obtain⟨_,_,_,_,_,a,_⟩:=nd.ex;exact Cv a (by simp[dN])
end Go.Proofs
namespace Go.Proofs
open Go Go.Lift
end Go.Proofs
namespace Go.Proofs
open Go Go.Lift
theorem RxN.plain{W:Nat→Prop}{h:ac}{b:Nat}{sl:ByteArray}{w:Option ByteArray}{F:Fo}(r:RxN W h b sl w F):eI h ⟨b,0,none⟩:=by
 obtain⟨val,s,ow,ks,a,_⟩:=r;exact Cv a (by simp[yq])
end Go.Proofs
namespace Go.Proofs
open Go Go.Lift
end Go.Proofs
namespace Go.Proofs
open Go Go.Lift
end Go.Proofs
namespace Go.Proofs
open Go Go.Lift
end Go.Proofs
namespace Go.Proofs
open Go Go.Lift
end Go.Proofs
namespace Go.Proofs
open Go Go.Lift
end Go.Proofs
namespace Go.Proofs
open Go Go.Lift
theorem Hl{a b:ByteArray}:kl a b↔Op.bytesLess a.data.toList b.data.toList=true:=by unfold kl;rw[ByteArray.toList_eq,ByteArray.toList_eq]
theorem DY{a b:UInt8}{x y:List UInt8}:Op.bytesLess (a::x) (b::y)=true↔a.toNat<b.toNat∨(a=b∧Op.bytesLess x y=true):=by
 simp only[Op.bytesLess,Bool.or_eq_true,decide_eq_true_iff,Bool.and_eq_true,beq_iff_eq,UInt8.lt_iff_toNat_lt]
theorem Gp{x y:List UInt8}:∀pre:List UInt8,Op.bytesLess (pre++x) (pre++y)=true↔Op.bytesLess x y=true
 | []=>Iff.rfl
 |a::pre=>by rw[cR,cR,DY,Gp pre];simp
theorem JF{x y:List UInt8}(h:Op.bytesLess x y=true)(hx:x≠[])(c:y≠[]):hd x≤hd y:=by
 match x,y,hx,c with
 |a::x,b::y,_,_=>
  show a.toNat≤b.toNat
  rcases DY.1 h with h|⟨rfl,_⟩<;>omega
abbrev ky(p:Pr):List UInt8:=p.1.data.toList
def Kv(l:List Pr)(a k:List UInt8)(v:ByteArray):Prop:=∃p∈l,ky p=a++k∧p.2=v
structure Beg(l:List Pr)(pre:List UInt8):Prop where
 up:dJ l
 at_:∀p∈l,(ky p).take pre.length=pre∧pre.length<(ky p).length
theorem Beg.sub{l l':List Pr}{a:List UInt8}(b:Beg l a)(h:l'.Sublist l):Beg l' a:=⟨b.up.sublist h,fun p c=>b.at_ p (h.subset c)⟩
theorem Beg.split{l:List Pr}{a:List UInt8}(b:Beg l a){p:Pr}(d:p∈l):ky p=a++(ky p).drop a.length∧(ky p).drop a.length≠[]:=by
 obtain⟨c,f⟩:=b.at_ p d;refine⟨?_,fun e=>?_⟩
 ·conv=>lhs;rw[←List.take_append_drop a.length (ky p),c]
 ·have:=congrArg List.length e
  rw[aH,List.length_nil]at this;omega
def bt(n:Nat)(p:Pr):Nat:=hd ((ky p).drop n)
theorem Beg.mono{A B:List Pr}{a:List UInt8}(b:Beg (A++B) a){x y:Pr}(hx:x∈A)(c:y∈B):bt a.length x≤bt a.length y:=by
 have h:=(cd.1 b.up).2.2 x hx y c;rw[Hl]at h;obtain⟨f,n1⟩:=b.split (cy B hx);obtain⟨e,d⟩:=b.split (cS A c);change Op.bytesLess (ky x) (ky y)=true at h;rw[f,e,Gp]at h;exact JF h n1 d
structure Row(L:List Bn)(D T:List Pr)(pre:List UInt8):Prop where
 can:∀n∈L,HL n
 up:L.Pairwise fun m n=>hd m.1<hd n.1
 lo:∀n∈L,∀p∈T,hd n.1<bt pre.length p
 got:∀k v,(∃n∈L,vd n k v)↔Kv D pre k v
theorem Row.nil(T:List Pr)(a:List UInt8):Row [] [] T a:=⟨fun n h=>(by cases h),dV,fun n h=>(by cases h),fun k v=>⟨fun⟨n,h,_⟩=>(by cases h),fun⟨p,h,_⟩=>(by cases h)⟩⟩
theorem Row.more{L:List Bn}{D A B:List Pr}{c:List UInt8}{n:Bn}{p:Pr}(r:Row L D (A++B) c)(s:Beg (A++B) c)(t:p∈A)(y:∀a∈A,bt c.length a=bt c.length p)(w:∀b f,B=b::f→bt c.length b≠bt c.length p)(hc:HL n)(j:hd n.1=bt c.length p)(o:∀k v,vd n k v↔Kv A c k v):Row (L++ [n]) (D++A) B c:=by
 refine⟨fun m hm=>?_,cd.2 ⟨r.up,cH ..,fun a u b x=>?_⟩,fun m hm q d=>?_,fun k v=>?_⟩
 ·rcases aS.1 hm with hm|hm
  ·exact r.can m hm
  ·rw[ay.1 hm];exact hc
 ·rw[ay.1 x,j]
  exact r.lo a u p (cy _ t)
 ·rcases aS.1 hm with hm|hm
  ·exact r.lo m hm q (cS _ d)
  ·rw[ay.1 hm,j]
   rcases B with _|⟨i,f⟩
   ·cases d
   have C:=w i f rfl;have z:=s.mono t (aq (a:=i) (l:=f));rcases ao.1 d with rfl|d
   ·omega
   ·have g:Beg ([i]++f) c:=s.sub (List.sublist_append_right A _)
    have:=g.mono (ay.2 rfl) d;omega
 ·constructor
  ·rintro⟨m,hm,hi⟩
   rcases aS.1 hm with hm|hm
   ·obtain⟨q,d,e⟩:=(r.got k v).1 ⟨m,hm,hi⟩
    exact⟨q,cy _ d,e⟩
   ·rw[ay.1 hm]at hi
    obtain⟨q,d,e⟩:=(o k v).1 hi;exact⟨q,cS _ d,e⟩
  ·rintro⟨q,d,e⟩
   rcases aS.1 d with d|d
   ·obtain⟨m,hm,hi⟩:=(r.got k v).2 ⟨q,d,e⟩
    exact⟨m,cy _ hm,hi⟩
   ·exact⟨n,cS _ (ay.2 rfl),(o k v).2 ⟨q,d,e⟩⟩
theorem Row.done{L:List Bn}{D:List Pr}{a:List UInt8}(r:Row L D [] a):ff (.ofL L)∧∀k v,qc (.ofL L) k v↔Kv D a k v:=by
 refine⟨eX.2 ?_,fun k v=>?_⟩
 ·rw[Fo.to_of];exact⟨r.up,r.can⟩
 ·rw[fS,Fo.to_of];exact r.got k v
end Go.Proofs
namespace Go.Proofs
open Go Go.Lift
theorem Kid.less{W W':Nat→Prop}{h:ac}(hm:∀b,W' b→W b∨h.size≤b){a:Option Addr}{n:Bn}:Kid W h a n→Kid W' h a n
 |⟨b,sl,e1,e2,e3⟩=>⟨b,sl,e1,e2,e3.less hm⟩
theorem Kid.updM{W M:Nat→Prop}{h h':ac}(k:Upd M h h')(hm:∀b,M b→W b∨h.size≤b){a:Option Addr}{n:Bn}:Kid W h a n→Kid W h' a n
 |⟨b,sl,e1,e2,e3⟩=>⟨b,sl,e1,e2,e3.updM k hm⟩
theorem RxL.less{W W':Nat→Prop}{h:ac}(hm:∀b,W' b→W b∨h.size≤b){ks:List (Option Addr)}{L:List Bn}(r:RxL W h ks L):RxL W' h ks L:=⟨r.1,fun p a=>(r.2 p a).less hm⟩
theorem RxL.updM{W M:Nat→Prop}{h h':ac}(k:Upd M h h')(hm:∀b,M b→W b∨h.size≤b){ks:List (Option Addr)}{L:List Bn}(r:RxL W h ks L):RxL W h' ks L:=⟨r.1,fun p a=>(r.2 p a).updM k hm⟩
end Go.Proofs
namespace Go.Proofs
open Go Go.Lift
end Go.Proofs
namespace Go.Proofs
open Go Go.Lift
end Go.Proofs
namespace Go.Proofs
open Go Go.Lift
end Go.Proofs
namespace Go.Proofs
open Go Go.Lift
end Go.Proofs
namespace Go.Proofs
open Go Go.Lift
abbrev b1:ByteArray:=⟨#[49]⟩
abbrev b2:ByteArray:=⟨#[50]⟩
abbrev b3:ByteArray:=⟨#[51]⟩
end Go.Proofs
namespace Go.Proofs
open Go Go.Lift
def look(l:List Pr)(k:ByteArray):Option ByteArray:=(l.find? fun p=>decide (p.1=k)).map (·.2)
abbrev Jg:ByteArray:=⟨#[102,97,105,108]⟩
abbrev Je:ByteArray:=⟨#[111,117,114,115]⟩
abbrev Hf:ByteArray:=⟨#[116,104,101,105,114,115]⟩
abbrev Jf:ByteArray:=⟨#[107,101,101,112]⟩
def FS(p:Int):ByteArray:=if p=0 then Jg else if p=1 then Je else if p=2 then Hf else if p=3 then Jf else⟨#[]⟩
theorem FU{p:Int}{h:ac}{K:ByteArray→ac→Prop}(a:K (FS p) h):HC PG pB [.int .i64 p] [.c .str] K h:=by
 refine AG p ?_;unfold um;unfold FS at a;refine CondP.intro (fun e=>?_) fun e=>?_
 ·rw[if_pos (by simpa using e)]at a;exact a
 rw[if_neg (by simpa using e)]at a;refine CondP.intro (fun e=>?_) fun e=>?_
 ·rw[if_pos (by simpa using e)]at a;exact a
 rw[if_neg (by simpa using e)]at a;refine CondP.intro (fun e=>?_) fun e=>?_
 ·rw[if_pos (by simpa using e)]at a;exact a
 rw[if_neg (by simpa using e)]at a;refine CondP.intro (fun e=>?_) fun e=>?_
 ·rw[if_pos (by simpa using e)]at a;exact a
 ·rw[if_neg (by simpa using e)]at a;exact a
end Go.Proofs
namespace Go.Proofs
open Go Go.Lift
section
variable {W:Nat→Prop} {h:ac} {vp:Nat} {s:VS}
theorem B7(v:VaultAt W h vp s){n m:ByteArray}{a b:Int}(C:bP s.B n=some a)(A:bP s.B m=some b){p:Int}(F:((FS p).toList==(⟨#[]⟩:ByteArray).toList)=false)(E:(b=0∨UpG s.L a b)∨(a=0∨UpG s.L b a))
  {K:Int×SliceV×Int→ac→Prop}(i:(b=0∨UpG s.L a b)→∀h',Upd No h h'→K (a,⟨none,0,0⟩,0) h')(g:¬(b=0∨UpG s.L a b)→∀h',Upd s.M h h'→VaultAt W h' vp {s with B:=ic s.B n b}→K (b,⟨none,0,0⟩,0) h'):
  HC PG ji [pV vp,.string n,.string m,.int .i64 p] [.c (.int .u32),.c .slice,.c (.int .i64)] K h:=by
 refine rl (some ⟨vp,0,none⟩) n m p ?_;unfold mg bA av ad dw af gw nv rh qn wZ uu wC ym H3 GB JN;refine qe v n (qe v m ?_);rw[C,A];refine Join.plain (ak.2 (ak.2 (FU ?_)));rw[F];refine ak.2 (uB v b a fun c x hc k1=>CondP.intro (fun e=>i (hc.1 e) x k1) fun e=>?_)
 have u:¬(b=0∨UpG s.L a b):=fun D=>by rw[hc.2 D]at e;cases e
 have q:=v.upd0 k1;refine uB q a b fun G k o t=>?_
 rw[o.2 (E.resolve_left u)];have d:=q.upd0 t;refine aA.2 ⟨_,rfl,_,vc d.blk 8,_,rfl,d.b.isMap,Av fun j f=>?_⟩
 have f:j=jh k s.bm (kStr.enc n) (FY b):=f;have w:Upd (· =s.bm) k j:=by rw[f];exact lz k _ _ rfl
 exact g u j ((k1.tr t).wide.tr (w.mono fun y z=>.inl (.inr (.inr (.inr (.inl z)))))) (d.setB w (by rw[f];exact d.b.put n b))
end
end Go.Proofs
namespace Go.Proofs
open Go Go.Lift
structure NSt(h8:ac)(b:Nat)(t:Tr)(h:ac)(ps ms:List Nat):Prop where
 k:Upd No h8 h
 blk:h[b]? =some (.cells (j2 t).toArray aG (0,0))
 gs:∀p∈ps,GraphAt (x8 (p+1) p) h (p+1) p [] 1∧h8.size≤p
 mp:∀m∈ms,h[m]? =some (.map #[] 0)∧h8.size≤m
section
variable {h8 h h':ac} {b:Nat} {t:Tr} {ps ms:List Nat}
theorem NSt.upd(n:NSt h8 b t h ps ms)(k:Upd No h h'):NSt h8 b t h' ps ms:=
 ⟨n.k.tr k,k.get0 n.blk,fun p a=>⟨(n.gs p a).1.upd0 k,(n.gs p a).2⟩,fun m hm=>⟨k.get0 (n.mp m hm).1,(n.mp m hm).2⟩⟩
theorem NSt.rds(n:NSt h8 b t h ps ms):bc h (adr ⟨b,0,none⟩ 0)=some (.int .i64 t.1)∧bc h (adr ⟨b,0,none⟩ 1)=some (.int .u64 t.2.1)∧bc h (adr ⟨b,0,none⟩ 2)=some (.int .u64 t.2.2.1)∧bc h (adr ⟨b,0,none⟩ 3)=some (.int .u64 t.2.2.2.1)∧bc h (adr ⟨b,0,none⟩ 4)=some (.pointer t.2.2.2.2.1)∧bc h (adr ⟨b,0,none⟩ 5)=some (.pointer t.2.2.2.2.2):=
 ⟨vc n.blk 0,vc n.blk 1,vc n.blk 2,vc n.blk 3,vc n.blk 4,vc n.blk 5⟩
theorem NSt.map(n:NSt h8 b t h ps ms){k:ac→Prop}(d:∀h',NSt h8 b t h' ps (h.size::ms)→h.size<h'.size→k h'):At (Array.push h (.map #[] 0)) k:=by
 have c:=Upd.push No h (.map #[] 0);have a:=n.upd c;refine aR (d _ ⟨a.k,a.blk,a.gs,fun m hm=>?_⟩ (by simp))
 rcases ao.1 hm with rfl|hm
 ·exact⟨qm h _,n.k.size⟩
 ·exact a.mp m hm
theorem NSt.graph(n:NSt h8 b t h ps ms){K:Option Addr→ac→Prop}(e:∀h',NSt h8 b t h' (h.size::ps) ms→h.size+1<h'.size→K (some ⟨h.size+1,0,none⟩) h'):HC PG cr [] [.c .ptr] K h:=by
 refine Hr fun h' d g=>?_
 have a:=n.upd d;refine e h' ⟨a.k,a.blk,fun p c=>?_,a.mp⟩ (g.lt _ (.inl rfl))
 rcases ao.1 c with rfl|c
 ·exact⟨g,n.k.size⟩
 ·exact a.gs p c
theorem NSt.put(n:NSt h8 b t h ps ms){cs:List Value}{ty:TypeId}{k:ac→Prop}(a:∀h',NSt h8 b t h' ps ms→h'[h.size]? =some (.cells cs.toArray ty (0,0))→h8.size≤h.size→k h'):At (hnew h cs ty) k:=
 bO fun h' b' k'=>a h' (n.upd k') b' n.k.size
theorem NSt.done{W:Nat→Prop}{kind:Int}{x:Hs}(n:NSt h8 b t h ps ms)(z:∀y,W y→y<h8.size)(i:TreeIs W h8 kind x t [])(v:kind=0∨kind=1){c p f k j:Nat}{K:Option Addr×Int→ac→Prop}
  (C:∀h' vp gp gm tm bm nm,VaultAt (fun y=>W y∨VS.M ⟨gp,gm,tm,bm,nm,kind,x,t,[],1,[],[],[]⟩ y) h' vp ⟨gp,gm,tm,bm,nm,kind,x,t,[],1,[],[],[]⟩→h8.size≤vp→(∀y,VS.M ⟨gp,gm,tm,bm,nm,kind,x,t,[],1,[],[],[]⟩ y→h8.size≤y)→Upd No h8 h'→K (some ⟨vp,0,none⟩,0) h')
  (D:h[c]? =some (.cells (j2 t++ [Value.pointer (some ⟨p+1,0,none⟩),Value.map (some f),Value.map (some k),Value.map (some j)]).toArray bl (0,0)))
  (B:h8.size≤c) (o:∀m∈(p+1)::p::ms,c≠m) (F:p∈ps) (u:f∈ms) (s:k∈ms) (q:j∈ms) (ne: [p+1,p,f,k,j].Nodup):K (some ⟨c,0,none⟩,0) h:=by
 obtain⟨g,A⟩:=n.gs p F;have hM:∀y,VS.M ⟨p+1,p,f,k,j,kind,x,t,[],1,[],[],[]⟩ y→h8.size≤y∧y<h.size∧c≠y:=fun y a=>by
  rcases a with e|e|e|e|e<;>(simp only at e;subst e)
  ·exact⟨by omega,g.lt _ (.inl rfl),o _ (by simp)⟩
  ·exact⟨A,g.lt _ (.inr rfl),o _ (by simp)⟩
  ·exact⟨(n.mp _ u).2,bG (n.mp _ u).1,o _ (by simp[u])⟩
  ·exact⟨(n.mp _ s).2,bG (n.mp _ s).1,o _ (by simp[s])⟩
  ·exact⟨(n.mp _ q).2,bG (n.mp _ q).1,o _ (by simp[q])⟩
 obtain⟨m,hm,w⟩:=g.map;have em:∀{κ β:Type} {E:KeyE κ} {g:β→Value} {r:Nat},h[r]? =some (.map #[] 0)→MapAt E g h r []:=fun w=>⟨[],0,⟨w,kC,kC,fun _ h=>by cases h⟩,rfl⟩
 refine C h c (p+1) p f k j ⟨D,⟨g.blk,⟨m,hm,fun id=>(w id).elim (fun⟨_,_,_,e,_⟩=>by cases e) .inr⟩,.inr (.inl rfl),.inr (.inr (.inl rfl)),fun y a=>a.elim (fun e=>aK (z y e) n.k.size) fun e=>(hM y e).2.1,g.nd⟩,em (n.mp _ u).1,em (n.mp _ s).1,em (n.mp _ q).1,fun y a=>.inr a,fun a=>a.elim (fun e=>by have:=z _ e;omega) fun e=>(hM _ e).2.2 rfl,ne,?_,fun d hd=>(by cases hd),fun id=>Iff.rfl,Inv.nil,v⟩ B (fun y a=>(hM y a).1) n.k
 exact(i.less fun y a=>a.imp id fun e=>(hM y e).1).upd0 n.k
end
theorem Ds{W:Nat→Prop}{h:ac}(s:∀y,W y→y<h.size){kind:Int}(o:kind=0∨kind=1){x:Hs}{K:Option Addr×Int→ac→Prop}
  (A:∀h' f gp gm tm bm nm t,VaultAt (fun y=>W y∨VS.M ⟨gp,gm,tm,bm,nm,kind,x,t,[],1,[],[],[]⟩ y) h' f ⟨gp,gm,tm,bm,nm,kind,x,t,[],1,[],[],[]⟩→h.size≤f→(∀y,VS.M ⟨gp,gm,tm,bm,nm,kind,x,t,[],1,[],[],[]⟩ y→h.size≤y)→Upd No h h'→K (some ⟨f,0,none⟩,0) h'):
  HC PG nI [.int .i64 kind,.agg #[.int .u64 x.k0,.int .u64 x.k1,.int .u64 x.mask]] [.c .ptr,.c (.int .i64)] K h:=by
 refine BO kind (x.k0,x.k1,x.mask) ?_;unfold vP av ad af nv y2 zC rh qn;refine bO fun I b1 k1=>⟨_,vc b1 0,_,vc b1 1,_,vc b1 2,?_⟩
 refine GZ (W:=W) (x:=x) (fun y a=>aK (s y a) k1.size) o fun C t i w=>?_
 have m:=k1.tr w;refine bO fun J B u=>ei (c:=j2 w7) (vs:=j2 t) B rfl fun j g k=>ak.2 ?_
 have d:Upd No h j:=(m.tr u).own k m.size;have G:TreeIs W j kind x t []:=((i.less (W':=fun y=>W y∨y=C.size) fun y a=>a.imp id fun e=>Nat.le_of_eq e.symm).updM (u.wide.tr (k.mono fun _ e=>.inl (.inr e))) fun y a=>.inl a).less fun y a=>.inl (.inl a)
 have p:∀y,W y→y<j.size:=fun y a=>aK (s y a) d.size
 have q:∀h' f gp gm tm bm nm,VaultAt (fun y=>W y∨VS.M ⟨gp,gm,tm,bm,nm,kind,x,t,[],1,[],[],[]⟩ y) h' f ⟨gp,gm,tm,bm,nm,kind,x,t,[],1,[],[],[]⟩→j.size≤f→(∀y,VS.M ⟨gp,gm,tm,bm,nm,kind,x,t,[],1,[],[],[]⟩ y→j.size≤y)→Upd No j h'→K (some ⟨f,0,none⟩,0) h':=
  fun h' f gp gm tm bm nm v D hM H=>A h' f gp gm tm bm nm t v (bI d.size D) (fun y a=>bI d.size (hM y a)) (d.tr H)
 have n:NSt j C.size t j [] []:=⟨Upd.refl _ _,g,fun _ h=>(by cases h),fun _ h=>(by cases h)⟩
 refine⟨_,vc g 0,_,vc g 1,_,vc g 2,_,vc g 3,_,vc g 4,_,vc g 5,?_⟩;clear A d s g k m i w u B b1 k1;repeat' first
  |refine⟨n.rds,?_⟩
  |refine n.graph fun _ n z=>?_
  |refine n.map fun _ n z=>?_
  |refine n.put fun _ n E F=>?_
  |exact n.done p G o q E F (by simp;omega) (by simp) (by simp) (by simp) (by simp) (by simp;omega)
  |refine And.intro ?_ ?_
end Go.Proofs
namespace Go.Proofs
open Go Go.Lift
theorem FO{x:Hs}{h:ac}{K:Int×Int×Int→ac→Prop}(f:∀h',Upd No h h'→K (x.k0,x.k1,x.mask) h'):HC PG uT [.agg #[.int .u64 x.k0,.int .u64 x.k1,.int .u64 x.mask]] [.agg [.int .u64,.int .u64,.int .u64]] K h:=by
 refine EW (x.k0,x.k1,x.mask) ?_;unfold zx ad gw y2 eM zl0 vl0;refine bO fun j b1 k1=>bO fun i b2 e=>?_
 have c1:=e.get0 b1;refine⟨_,sU c1 0 0,_,sU c1 0 1,_,vc c1 2,?_⟩;refine ei (c:= [.int .u64 0,.int .u64 0,.int .u64 0]) (vs:= [.int .u64 x.k0,.int .u64 x.k1,.int .u64 x.mask]) b2 rfl fun g a d=>?_
 exact⟨_,vc a 0,_,vc a 1,_,vc a 2,f g ((k1.tr e).own d k1.size)⟩
theorem Gg(s:ByteArray):s.extract 0 ((if 30<(s.size:Int)then 30 else(s.size:Int)).toNat)=zp s:=by
 unfold zp;rw[show((if 30<(s.size:Int)then(30:Int)else(s.size:Int)).toNat)=min s.size 30 from by split<;>omega]
theorem Gb{p:Pr}{h:ac}{K:ByteArray×ByteArray→ac→Prop}(f:∀h',Upd No h h'→K (EE p) h'):HC PG uU [.agg #[.string p.1,.string p.2]] [.agg [.str,.str]] K h:=by
 refine EX p ?_;unfold zy aB gw uw wY wE;refine bO fun j b1 k1=>bO fun i b2 e=>?_
 have c1:=e.get0 b1;refine⟨_,vc c1 0,_,vc c1 0,⟨by split<;>omega,by split<;>omega⟩,_,vc c1 1,_,vc c1 1,⟨by split<;>omega,by split<;>omega⟩,?_⟩
 refine ei (c:= [.string ⟨#[]⟩,.string ⟨#[]⟩]) (vs:= [.string (p.1.extract 0 ((if 30<(p.1.size:Int)then 30 else(p.1.size:Int)).toNat)),.string (p.2.extract 0 ((if 30<(p.2.size:Int)then 30 else(p.2.size:Int)).toNat))]) b2 rfl fun g a d=>?_
 rw[Gg,Gg]at a;exact⟨_,vc a 0,_,vc a 1,f g ((k1.tr e).own d k1.size)⟩
theorem _root_.Go.Lift.Upd.fresh{M:Nat→Prop}{h c a:ac}(k:Upd No h c)(u:Upd M c a)(hM:∀y,M y→h.size≤y):Upd No h a:=k.trans u fun y d=>.inr (hM y d)
abbrev j8:ByteArray:=⟨#[109,97,105,110]⟩
abbrev pN:ByteArray:=⟨#[115,105,100,101]⟩
end Go.Proofs
namespace Go.Proofs
open Go Go.Lift
theorem C5{h:ac}{K:Bool→ac→Prop}(hk:∀h',Upd No h h'→K true h'):HC PG qC [] [.c .bool] K h:=by
 refine BT ?_;unfold vU av ad af nv rh qn GO uu rF zg0 ym JO;refine Ds (W:=No) (x:=⟨0,0,0⟩) (fun _ h=>h.elim) (.inr rfl) fun h1 vp gp gm tm bm nm t v zv B k1=>?_
 refine Join.plain (ak.2 (ak.2 (pl v j8 0 fun h2 u2 N=>?_)))
 have e1:sC [] [] j8 0 false=0:=by decide
 simp only[e1,if_true]at N⊢;have k2:=k1.fresh u2 fun y g=>B y (.inr (.inr (.inr (.inl g))))
 refine ak.2 (yO N fun h3 k3=>?_)
 have G:=N.upd0 k3;refine xe G.em G.g.lt dV (by simp) (⟨#[97]⟩,⟨#[]⟩) (by decide) (by decide) fun h4 F i4 _ P=>?_
 refine bO fun h5 b5 k5=>ei (c:=j2 w7) (vs:=j2 F) b5 rfl fun h6 o E=>⟨_,vc o 0,_,vc o 1,_,vc o 2,_,vc o 3,_,vc o 4,_,vc o 5,?_⟩
 have D:Upd No h3 h6:=(P.tr k5).own E P.size;have v6:=G.upd0 D;have i6:=i4.upd0 (k5.own E (ar _));refine pm v6 j8 (hd:=0) rfl (d:=(F,[(⟨#[97]⟩,⟨#[]⟩)])) i6 (cH _ _) (fun q z=>by rw[ay.1 z];decide) fun L u7 u=>?_
 have u:VaultAt _ L vp ⟨gp,gm,tm,bm,nm,1,⟨0,0,0⟩,t,[(1,[])],2,[(1,(F,[(⟨#[97]⟩,⟨#[]⟩)]))],[(j8,1)],[]⟩:=u;have Z:=u.ts (1,(F,[(⟨#[97]⟩,⟨#[]⟩)])) (ay.2 rfl);have w:=u7.get o fun hm=>by have:=G.size hm;have:=P.size;omega
 have k7:Upd No h L:=((k2.tr k3).tr D).fresh u7 fun y g=>B y g
 refine⟨_,vc w 0,_,vc w 1,_,vc w 2,_,vc w 3,_,vc w 4,_,vc w 5,?_⟩;refine xe Z.1 u.g.lt Z.2.1 (by simp) (⟨#[98]⟩,⟨#[]⟩) (by decide) (by decide) fun h8 S i8 _ O=>?_
 refine bO fun h9 b9 Y=>ei (c:=j2 w7) (vs:=j2 S) b9 rfl fun J R j=>?_
 have k:Upd No L J:=(O.tr Y).own j O.size;have C:=u.upd0 k;have X:=i8.upd0 (Y.own j (ar _));refine Join.plain (ak.2 (ak.2 (pl C pN 1 fun h11 s A=>?_)))
 have e2:sC [(j8,1)] [(1,[])] pN 1 false=0:=by decide
 simp only[e2,if_true]at A⊢;have f:=s.get R fun e=>by have:=u.size (y:=bm) (.inr (.inr (.inr (.inl rfl))));have:=O.size;have e:h8.size=bm:=e;omega
 have I:=X.updM s fun y g=>.inl (C.w y (.inr (.inr (.inr (.inl g)))))
 refine ak.2 ⟨_,vc f 0,_,vc f 1,_,vc f 2,_,vc f 3,_,vc f 4,_,vc f 5,?_⟩;refine pm A pN (hd:=1) rfl (d:=(S,g9 (⟨#[98]⟩,⟨#[]⟩) [(⟨#[97]⟩,⟨#[]⟩)])) I (uG _ (cH _ _)) (fun q z=>(qp z).elim (fun e=>by rw[e];decide) fun z=>by rw[ay.1 z];decide) fun T H i=>?_
 have i:VaultAt _ T vp ⟨gp,gm,tm,bm,nm,1,⟨0,0,0⟩,t,[(1,[]),(2,[1])],3,[(1,(F,[(⟨#[97]⟩,⟨#[]⟩)])),(2,(S,g9 (⟨#[98]⟩,⟨#[]⟩) [(⟨#[97]⟩,⟨#[]⟩)]))],[(j8,1),(pN,2)],[]⟩:=i;have U:UpG [(1,[]),(2,[1])] 2 1:=.step (p:=1) (by decide) (by decide) (.refl (by decide));have hn:¬((2:Int)=0∨UpG [(1,[]),(2,[1])] 1 2):=fun hh=>hh.elim (fun e=>by cases e) fun e=>absurd (UpG.le i.inv.good e) (by decide)
 refine B7 i (n:=j8) (m:=pN) (a:=1) (b:=2) rfl rfl (p:=0) (by rw[lM];decide) (.inr (.inr U)) (fun e=>absurd e hn) fun _ Q V v13=>?_
 refine aA.2 (aA.2 (aA.2 (hk Q ?_)));exact(((k7.tr k).fresh s fun y g=>B y (.inr (.inr (.inr (.inl g))))).fresh H fun y g=>B y g).fresh V fun y g=>B y g
end Go.Proofs
namespace Go.Proofs
open Go Go.Lift
def cL(n:Nat):dI:=(List.range n).map fun(i:Nat)=>((i:Int)+1,if i=0 then[]else[(i:Int)])
set_option maxRecDepth 20000 in
theorem II:∀n:Fin 16,iW (cL n.val) ((n.val:Int)+1) (nz [(n.val:Int)])=(((n.val:Int)+1,0),cL (n.val+1),(n.val:Int)+1+1):=by decide+kernel
set_option maxRecDepth 20000 in
theorem wO:∀n:Fin 17,∀j:Fin 17,1≤j.val→j.val≤n.val→(bP (cL n.val) (j.val:Int)).getD []=(if j.val=1 then[]else[(j.val:Int)-1])∧(j.val:Int)∈jZ (cL n.val):=by decide+kernel
set_option maxRecDepth 20000 in
theorem Hz:∀n:Fin 17,∀j:Fin 17,1≤j.val→j.val≤n.val→(iW (cL n.val) ((n.val:Int)+1) (nz [(j.val:Int)])).1=((n.val:Int)+1,0)∧(bP (iW (cL n.val) ((n.val:Int)+1) (nz [(j.val:Int)])).2.1 ((n.val:Int)+1)).getD []= [(j.val:Int)]:=by decide+kernel
theorem H1{n:Nat}(e:n≤16){k:Nat}(a:1≤k):∀d,k+d≤n→UpG (cL n) ((k+d:Nat):Int) (k:Int)
 |0,h=>.refl (wO ⟨n,by omega⟩ ⟨k,by omega⟩ a h).2
 |d+1,h=>by
  obtain⟨f,c⟩:=wO ⟨n,by omega⟩ ⟨k+(d+1),by omega⟩ (by simp only;omega) h
  refine .step (p:=((k+d:Nat):Int)) c ?_ (H1 e a d (by omega));show((k+d:Nat):Int)∈(bP (cL n) ((k+(d+1):Nat):Int)).getD []
  rw[f,if_neg (by simp only;omega),ay];simp only;omega
end Go.Proofs
namespace Go.Proofs
open Go Go.Lift
theorem Hi{α:Type}{l:List α}{i:Nat}{a b:α}(h:b∈l.set i a):b=a∨∃j,j≠i∧l[j]? =some b:=by
 obtain⟨j,c⟩:=List.getElem?_of_mem h;rw[List.getElem?_set]at c;split at c
 ·split at c
  ·cases c;exact .inl rfl
  ·cases c
 ·exact .inr ⟨j,by omega,c⟩
def sb(s:SliceV)(y:Nat):Prop:=s.cap≠0∧∃a,s.a=some a∧y=a.block
section
variable {α:Type} {f:α→List Value} {sz:Nat} {ty:TypeId} {M:Nat→Prop} {h:ac} {s so:SliceV} {xs out:List α}
theorem _root_.Go.Lift.OwnS.sub(o:OwnS f sz ty M h s xs):∀y,sb s y→M y∧y<h.size:=fun y ⟨hc,a,j,e⟩=>by
 rcases o.blk with i|⟨b,c,d,hm,g,_⟩
 ·exact absurd i hc
 ·rw[j]at d
  cases d;exact⟨e▸hm,e▸bG g⟩
theorem _root_.Go.Lift.OwnS.its(o:OwnS f sz ty M h s xs):OwnS f sz ty (sb s) h s xs:=by
 refine⟨o.len,o.ne,o.cap,?_⟩;by_cases hc:s.cap=0
 ·exact .inl hc
 ·rcases o.blk with e|⟨b,a,c,hm,d,g⟩
  ·exact absurd e hc
  ·exact .inr ⟨b,a,c,⟨hc,_,c,rfl⟩,d,g⟩
theorem zJ{a:Option Addr}{n:Nat}:∀y,¬sb ⟨a,n,0⟩ y:=fun _ h=>h.1 rfl
theorem _root_.Go.Lift.OwnS.one{x:α}{b:Nat}(a:∀x,(f x).length=sz∧0<sz)(c:h[b]? =some (.cells (f x).toArray ty (0,0))):OwnS f sz ty (sb ⟨some ⟨b,0,none⟩,1,1⟩) h ⟨some ⟨b,0,none⟩,1,1⟩ [x]:=
 ⟨rfl,a,ar _,.inr ⟨b,[],rfl,⟨by simp,_,rfl,rfl⟩,by simpa using c,by simp⟩⟩
theorem Gs{a:Nat}{z:List Value}{t:α}{b:Nat}{K:SliceV→ac→Prop}(i:OwnS f sz ty (sb so) h so out)(o:h[b]? =some (.cells (f t).toArray ty (0,0))) (c:bq (f t)=true) (k:z.length=sz) (e:0<a∧a≤64) (j:out.length+1≤1000000)
  (m:∀s' h',OwnS f sz ty (sb s') h' s' (out++ [t])→Upd (sb so) h h'→(∀y,sb s' y→(sb so y∨h.size≤y)∧y<h'.size)→K s' h'):
  ∃xs,SRow h (some ⟨b,0,none⟩) (1*sz) xs∧AppP (some z) sz a ty so.a so.len so.cap 1 xs h K:=by
 refine⟨_,((OwnS.one i.ne o).sl (W:=No) fun _ _ _ h=>h).srow,?_⟩
 refine AppP.own (M:=fun y=>sb so y∨h.size≤y) (ys:= [t]) (i.more fun y g=>.inl g) rfl rfl (by simpa using c) k e.1 ?_ (.inr (ar _)) fun s' h' d n=>m s' h' d.its (n.mono fun y g=>g) d.sub
 simp only[aN];calc (out.length+1)*a≤1000000*64:=Nat.mul_le_mul j e.2
  _≤140737488355328:=by omega
end
structure Sp where
 T:Nat→Prop
 Q:ac→Prop
 loc:∀{M:Nat→Prop} {h h':ac},Q h→Upd M h h'→(∀y,T y→¬M y)→Q h'
def vJ(b:Nat)(cs:List Value)(t:TypeId):Sp:=⟨(· =b),fun h=>h[b]? =some (.cells cs.toArray t (0,0)),fun q k a=>k.get q (a _ rfl)⟩
def kQ{α:Type}(f:α→List Value)(a:Nat)(ty:TypeId)(s:SliceV)(xs:List α):Sp:=⟨sb s,fun h=>OwnS f a ty (sb s) h s xs,fun q k c=>q.upd k c⟩
def AL(Ss:List Sp)(y:Nat):Prop:=∃s∈Ss,s.T y
structure Own(Ss:List Sp)(h:ac):Prop where
 q:∀s∈Ss,s.Q h
 lt:∀s∈Ss,∀y,s.T y→y<h.size
 pd:∀(i j:Nat) (a b:Sp),Ss[i]? =some a→Ss[j]? =some b→i≠j→∀y,a.T y→¬b.T y
section
variable {Ss:List Sp} {h h':ac} {M:Nat→Prop} {s s':Sp} {i:Nat}
theorem Own.get(o:Own Ss h)(hi:Ss[i]? =some s):s.Q h:=o.q s (bw hi)
theorem Own.away(o:Own Ss h)(k:Upd M h h')(hm:∀y,AL Ss y→¬M y):Own Ss h':=
 ⟨fun s a=>s.loc (o.q s a) k fun y c=>hm y ⟨s,a,c⟩,fun s a y c=>aK (o.lt s a y c) k.size,o.pd⟩
theorem Own.nil:Own [] h:=⟨(fun _ h=>by cases h),(fun _ h=>by cases h),(fun i j a b h=>by simp at h)⟩
theorem Own.set(o:Own Ss h)(hi:Ss[i]? =some s) (k:Upd M h h') (hm:∀y,M y→s.T y∨h.size≤y) (q:s'.Q h') (u:∀y,s'.T y→(s.T y∨h.size≤y)∧y<h'.size):Own (Ss.set i s') h':=by
 have z:i<Ss.length:=(bj.1 hi).1;have val:∀{j:Nat} {a:Sp},(Ss.set i s')[j]? =some a→(j=i∧a=s')∨(j≠i∧Ss[j]? =some a):=fun{j a} c=>by
  by_cases e:j=i
  ·subst e;rw[List.getElem?_set_self z]at c;cases c;exact .inl ⟨rfl,rfl⟩
  ·rw[List.getElem?_set_ne (Ne.symm e)]at c;exact .inr ⟨e,c⟩
 have one:∀{j:Nat} {a:Sp},j≠i→Ss[j]? =some a→∀y,a.T y→¬s'.T y:=fun{j a} f c y d h'=>
  (u y h').1.elim (o.pd j i a s c hi f y d) fun h=>by have:=o.lt a (bw c) y d;omega
 refine⟨fun a c=>?_,fun a c y d=>?_,fun p j a b c A m y d g=>?_⟩
 ·obtain⟨j,f⟩:=List.getElem?_of_mem c
  rcases val f with⟨_,rfl⟩|⟨x,f⟩
  ·exact q
  ·refine a.loc (o.get f) k fun y d hM=>?_
   rcases hm y hM with h|h
   ·exact o.pd j i a s f hi x y d h
   ·have:=o.lt a (bw f) y d;omega
 ·obtain⟨j,f⟩:=List.getElem?_of_mem c
  rcases val f with⟨_,rfl⟩|⟨x,f⟩
  ·exact(u y d).2
  ·exact aK (o.lt a (bw f) y d) k.size
 ·rcases val c with⟨t,rfl⟩|⟨t,w⟩<;>rcases val A with⟨n,rfl⟩|⟨n,v⟩
  ·exact m (t.trans n.symm)
  ·exact one n v y g d
  ·exact one t w y d g
  ·exact o.pd p j a b w v m y d g
theorem Own.push(o:Own Ss h)(k:Upd No h h')(q:s'.Q h')(f:∀y,s'.T y→h.size≤y∧y<h'.size):Own (Ss++ [s']) h':=by
 have val:∀{j:Nat} {a:Sp},(Ss++ [s'])[j]? =some a→(j=Ss.length∧a=s')∨Ss[j]? =some a:=fun{j a} c=>by
  rw[List.getElem?_append]at c;split at c
  ·exact .inr c
  ·have:j-Ss.length=0:=by have:=(bj.1 c).1;simp only[aN]at this;omega
   rw[this]at c;cases c;exact .inl ⟨by omega,rfl⟩
 have mem:∀{a},a∈Ss++ [s']→a∈Ss∨a=s':=fun h=>(aS.1 h).imp id ay.1
 refine⟨fun a c=>?_,fun a c y e=>?_,fun p j a b c n g y e d=>?_⟩
 ·rcases mem c with c|rfl
  ·exact a.loc (o.q a c) k fun _ _ h=>h
  ·exact q
 ·rcases mem c with c|rfl
  ·exact aK (o.lt a c y e) k.size
  ·exact(f y e).2
 ·rcases val c with⟨t,rfl⟩|m<;>rcases val n with⟨s,rfl⟩|i
  ·omega
  ·have:=o.lt b (bw i) y d;have:=(f y e).1;omega
  ·have:=o.lt a (bw m) y e;have:=(f y d).1;omega
  ·exact o.pd p j a b m i g y e d
theorem IP(hi:Ss[i]? =some s) {z:Nat} (d:∀y,s'.T y→s.T y∨z≤y):∀y,AL (Ss.set i s') y→AL Ss y∨z≤y:=fun y ⟨a,e,c⟩=>by
 rcases Hi e with rfl|⟨j,_,f⟩
 ·exact(d y c).imp (fun h=>⟨s,bw hi,h⟩) id
 ·exact .inl ⟨a,bw f,c⟩
end
theorem GraphAt.re{W W' M:Nat→Prop}{h h':ac}{gp gm:Nat}{L:dI}{nx:Int}(g:GraphAt W h gp gm L nx)(k:Upd M h h')(hm:∀b,M b→(W b∧b≠gp∧b≠gm)∨h.size≤b)(i:∀b,W' b→(W b∨h.size≤b)∧b<h'.size)(d:W' gp)(f:W' gm):GraphAt W' h' gp gm L nx:=by
 have q:=g.upd k hm;obtain⟨m,c,p⟩:=g.map;refine⟨q.blk,⟨m,c.upd k fun e=>(hm _ e).elim (fun e=>e.2.2 rfl) fun e=>absurd (g.lt _ g.wm) (gM.2 e),fun j=>?_⟩,d,f,fun b a=>(i b a).2,g.nd⟩
 rcases p j with⟨s,ps,d,f,o⟩|n
 ·exact .inl ⟨s,ps,d,f,((o.less (W':=fun b=>W b∨h.size≤b) fun b a=>a).upd k fun b a=>.inl ((hm b a).imp (·.1) id)).less fun b a=>.inl (i b a).1⟩
 ·exact .inr n
theorem TreeIs.re{W W' M:Nat→Prop}{h h':ac}{kind:Int}{x:Hs}{t:Tr}{l:List Pr}(i:TreeIs W h kind x t l)(k:Upd M h h')(hm:∀b,M b→W b∨h.size≤b)(c:∀b,W' b→W b∨h.size≤b):TreeIs W' h' kind x t l:=
 ((i.less (W':=fun b=>W b∨h.size≤b) fun b a=>a).updM k fun b a=>.inl (hm b a)).less fun b a=>.inl (c b a)
theorem VaultAt.re{W W' M:Nat→Prop}{h h':ac}{m:Nat}{s:VS}(v:VaultAt W h m s)(k:Upd M h h')(hm:∀b,M b→(W b∧¬s.M b)∨h.size≤b)(j:∀b,W' b→(W b∨h.size≤b)∧b<h'.size)(hM:∀y,s.M y→W' y):VaultAt W' h' m s:=by
 have g:=v.upd k hm;have c:∀b,M b→W b∨h.size≤b:=fun b f=>(hm b f).imp (·.1) id
 have a:∀b,W' b→W b∨h.size≤b:=fun b f=>(j b f).1
 exact⟨g.blk,v.g.re k (fun b f=>(hm b f).imp (fun e=>⟨e.1,fun i=>e.2 (.inl i),fun i=>e.2 (.inr (.inl i))⟩) id) j (hM _ (.inl rfl)) (hM _ (.inr (.inl rfl))),g.t,g.b,g.n,hM,fun n=>(a _ n).elim v.wv fun e=>absurd (bG v.blk) (by omega),v.ne,v.em.re k c a,fun d hd=>⟨(v.ts d hd).1.re k c a,(v.ts d hd).2⟩,v.sub,v.inv,v.kd⟩
structure Vw(Ss:List Sp)(h:ac)(vp:Nat)(s:VS):Prop where
 own:Own Ss h
 v:VaultAt (fun y=>s.M y∨AL Ss y) h vp s
 ap:∀y,AL Ss y→¬s.M y
section
variable {Ss:List Sp} {h h':ac} {vp:Nat} {s:VS} {p p':Sp} {i:Nat} {M:Nat→Prop}
theorem Vw.up0(w:Vw Ss h vp s)(k:Upd No h h'):Vw Ss h' vp s:=⟨w.own.away k fun _ _ h=>h,w.v.upd0 k,w.ap⟩
theorem Vw.lt(w:Vw Ss h vp s):∀y,(s.M y∨AL Ss y)→y<h.size:=w.v.g.lt
theorem Vw.set(w:Vw Ss h vp s)(hi:Ss[i]? =some p) (k:Upd M h h') (hm:∀y,M y→p.T y∨h.size≤y) (q:p'.Q h') (d:∀y,p'.T y→(p.T y∨h.size≤y)∧y<h'.size):Vw (Ss.set i p') h' vp s:=by
 have o:=w.own.set hi k hm q d;have f:=IP hi (z:=h.size) fun y c=>(d y c).1
 have g:∀y,p.T y→AL Ss y:=fun y c=>⟨p,bw hi,c⟩
 refine⟨o,w.v.re k (fun y c=>(hm y c).imp (fun e=>⟨.inr (g y e),w.ap y (g y e)⟩) id) (fun y c=>?_) fun y c=>.inl c,fun y c hM=>(f y c).elim (fun e=>w.ap y e hM) fun e=>absurd (w.lt y (.inl hM)) (gM.2 e)⟩
 rcases c with c|c
 ·exact⟨.inl (.inl c),aK (w.lt y (.inl c)) k.size⟩
 ·exact⟨(f y c).imp .inr id,let⟨a,j,c⟩:=c;o.lt a j y c⟩
theorem Vw.push(w:Vw Ss h vp s)(k:Upd No h h')(q:p'.Q h')(f:∀y,p'.T y→h.size≤y∧y<h'.size):Vw (Ss++ [p']) h' vp s:=by
 have o:=w.own.push k q f;have g:∀y,AL (Ss++ [p']) y→AL Ss y∨h.size≤y:=fun y ⟨a,d,c⟩=>by
  rcases aS.1 d with d|d
  ·exact .inl ⟨a,d,c⟩
  ·rw[ay.1 d]at c;exact .inr (f y c).1
 refine⟨o,w.v.re k (fun _ h=>h.elim) (fun y c=>?_) fun y c=>.inl c,fun y c hM=>(g y c).elim (fun e=>w.ap y e hM) fun e=>absurd (w.lt y (.inl hM)) (gM.2 e)⟩
 rcases c with c|c
 ·exact⟨.inl (.inl c),aK (w.lt y (.inl c)) k.size⟩
 ·exact⟨(g y c).imp .inr id,let⟨a,d,c⟩:=c;o.lt a d y c⟩
theorem Vw.cell(w:Vw Ss h vp s){b:Nat}{cs a:List Value}{t t':TypeId}(hi:Ss[i]? =some (vJ b cs t)) (k:Upd (· =b) h h') (q:h'[b]? =some (.cells a.toArray t' (0,0))):Vw (Ss.set i (vJ b a t')) h' vp s:=
 w.set (p':=vJ b a t') hi k (fun _ h=>.inl h) q fun y c=>⟨.inl c,(show y=b from c)▸bG q⟩
theorem Vw.slice(w:Vw Ss h vp s){α:Type}{f:α→List Value}{c:Nat}{ty:TypeId}{so a:SliceV}{xs ys:List α}(hi:Ss[i]? =some (kQ f c ty so xs)) (k:Upd (sb so) h h') (q:OwnS f c ty (sb a) h' a ys) (d:∀y,sb a y→(sb so y∨h.size≤y)∧y<h'.size):Vw (Ss.set i (kQ f c ty a ys)) h' vp s:=
 w.set (p':=kQ f c ty a ys) hi k (fun _ h=>.inl h) q d
theorem Vw.ed(w:Vw Ss h vp s){s':VS}(k:Upd s.M h h')(v:VaultAt (fun y=>s.M y∨AL Ss y) h' vp s')(e:s'.M=s.M):Vw Ss h' vp s':=
 ⟨w.own.away k fun y a=>w.ap y a,by rw[e];exact v,fun y a=>by rw[e];exact w.ap y a⟩
end
end Go.Proofs
namespace Go.Proofs
open Go Go.Lift
theorem Ej{x:Hs}{h:ac}{kind:Int}(f:kind=0∨kind=1){K:Option Addr×Int→ac→Prop}(o:∀h' a,Upd No h h'→K (a,0) h'):HC PG uR [.int .i64 kind,.agg #[.int .u64 x.k0,.int .u64 x.k1,.int .u64 x.mask]] [.c .ptr,.c (.int .i64)] K h:=by
 refine EU kind (x.k0,x.k1,x.mask) ?_;unfold zu av ad nv y2 zC uH E7 I9;refine bO fun w b1 k1=>⟨_,vc b1 0,_,vc b1 1,_,vc b1 2,?_⟩
 refine G7 (W:=No) (x:=x) f fun y r t k=>?_
 refine bO fun v p q=>ei (c:=IS JX) (vs:=IS r) p rfl fun u d i=>ak.2 ⟨_,vc d 0,_,vc d 1,_,vc d 2,_,vc d 3,r.2.2.2.2,vc d 4,?_⟩
 refine bO fun m n j=>bO fun g s e=>o g _ ?_
 exact(((k1.tr k).tr q).own i (k1.tr k).size).tr (j.tr e)
theorem Es{x:Hs}{h:ac}{kind:Int}(g:kind=0∨kind=1){K:Option Addr→ac→Prop}
  (s:∀h' d gp gm tm bm nm t st xp,VaultAt (fun y=>No y∨VS.M ⟨gp,gm,tm,bm,nm,kind,x,t,[],1,[],[],[]⟩ y) h' d ⟨gp,gm,tm,bm,nm,kind,x,t,[],1,[],[],[]⟩→h'[st]? =some (.cells #[.pointer (some ⟨d,0,none⟩),.pointer xp] qf (0,0))→h.size≤d→d≠st→
   (∀y,VS.M ⟨gp,gm,tm,bm,nm,kind,x,t,[],1,[],[],[]⟩ y→h.size≤y∧y<st)→Upd No h h'→K (some ⟨st,0,none⟩) h'):
  HC PG ss [.int .i64 kind,.agg #[.int .u64 x.k0,.int .u64 x.k1,.int .u64 x.mask]] [.c .ptr] K h:=by
 refine De kind (x.k0,x.k1,x.mask) ?_;unfold yh ad y2 zC E5 vt;refine bO fun w b1 k1=>⟨_,vc b1 0,_,vc b1 1,_,vc b1 2,?_⟩
 have A:=k1.size;refine Ds (W:=No) (x:=x) (fun _ h=>h.elim) g fun C d gp gm tm bm nm t v B q p=>?_
 have j:=p.get0 b1;refine⟨_,vc j 0,_,vc j 1,_,vc j 2,?_⟩;refine FO fun u f=>Ej (x:=x) g fun k a e=>?_
 refine Join.plain (ak.2 (ak.2 (bO fun i m n=>?_)))
 have c:=(f.tr e).tr n;have z:=(f.tr e).size;exact s i d gp gm tm bm nm t k.size a (v.upd0 c) m (by omega) (by have:=bG v.blk;omega) (fun y o=>⟨by have:=q y o;omega,by have:=v.size o;omega⟩) ((k1.tr p).tr c)
end Go.Proofs
