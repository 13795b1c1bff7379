/- A part of the proof that the named laws of this program answer true, whatever the input. -/
import Derived.Test.YtfmnhpbjeapjaaaGreatPart3
import Derived.Test.YtfmnhpbjeapjaaaGreatLift3
open Bool renaming false_eq_true→cf
open Int renaming toNat_natCast→aL,tmod→fA
open List renaming flatMap_cons→bi,length_append→ad,length_map→bd,length_set→eI,length_take→aK,append_assoc→ax,drop_drop→cV,drop_left'→cp,take_succ_eq_append_getElem→bF,filter_append→dY,getElem?_eq_getElem→ag,take_length→cQ,mem_cons→au,mem_cons_of_mem→aI,mem_cons_self→ay,mem_append→bq,mem_singleton→aw,length_singleton→bf,cons_append→gn,pairwise_cons→aQ,length_cons→az,flatMap_append→bV,append_nil→bG,map_append→ce,zip_cons_cons→iW,map_cons→be,cons→mZ,sum_cons→nn,mem_map→cX,length→fV,getElem?_append_right→aH,length_eq_zero_iff→aD,mem_filter→cF,nil_append→d4,pairwise_append→bP,getElem?_append_left→bL,getElem?_eq_some_iff→aV
open List.Pairwise renaming nil→dC
open Nat renaming zero_le→cj,le_refl→aq,sub_self→fO,le_of_eq→dG,lt_of_lt_of_le→aG,lt_or_ge→cd,add_zero→fe,le_trans→bQ
open Prod renaming mk→nh
namespace Go.Proofs
open Go Go.Lift
section
variable {M:Nat→Prop} {h:ac} {s:SliceV} {xs ys:List Int}
theorem Dv(l:List Int):l.flatMap u32=l.map fun x=>Value.int .u32 x:=by
 induction l with
 |nil=>rfl
 |cons x l ih=>rw[bi,ih];rfl
theorem OwnS.put1(g:OwnS u32 1 mD M h s ys){i:Nat}(hi:i<ys.length)(x:Int){k:ac→Prop}(p:∀h',OwnS u32 1 mD M h' s (ys.set i x)→Upd M h h'→k h'):∃a,s.a=some a∧Wr h (adr a (i*1))∧At (hset h (adr a (i*1)) (.int .u32 x)) k:=by
 have d:=g.len;have c:=g.cap;rcases g.blk with t|⟨b,f,m,j,hc,q⟩
 ·omega
 refine⟨_,m,?_⟩;rw[Nat.mul_one];refine Ak hc (by rw[List.size_toArray,ad,Dv,bd];omega) (List.setIfInBounds_toArray ..) fun n b2 o=>p n ⟨by rw[eI];exact d,uS,c,.inr ⟨b,f,m,j,?_,q⟩⟩ (o.mono fun _ e=>.inl (e▸j))
 rw[b2,Dv,List.set_append_left _ _ (by rw[bd];exact hi),Dv,List.map_set]
theorem OwnS.cutZ(c:OwnS u32 1 mD M h s ys){i:Nat}(hi:i<ys.length){k:ac→Prop}(u:∀h',OwnS u32 1 mD M h' ⟨aN s.a 0 s.cap 1,i-0,s.cap-0⟩ (ys.take i)→Upd M h h'→k h'):
  rk h (aN s.a i s.cap 1) 0 (db (s.len-i) [.int .u32 0])∧At (eJ h (aN s.a i s.cap 1) 0 (db (s.len-i) [.int .u32 0])) k:=by
 have o:=c.len;have m:=c.cap;rcases c.blk with w|⟨b,a,n,j,hc,v⟩
 ·omega
 have d:((ys.take i).flatMap u32).length=i*1:=by rw[iT uS,aK,Nat.min_eq_left (by omega)]
 have p:((ys.drop i).flatMap u32).length=(ys.length-i)*1:=by rw[iT uS,List.length_drop]
 rw[vz (f:=u32) ys i]at hc;rw[n,ip (by omega)];have g:(db (s.len-i) [Value.int .u32 0]).length=(s.len-i)*1:=jD _ _;refine DK hc (by rw[g,ad,ad,d,p];omega) fun q b2 t=>u q ⟨by rw[aK];simp only;omega,uS,by simp only;omega,
  .inr ⟨b,db (s.len-i) [Value.int .u32 0]++a,by rw[n,sub_zero],j,?_,?_⟩⟩ (t.mono fun _ e=>.inl (e▸j))
 ·rw[b2]
  congr 2
  rw[ax,ax,List.take_left' (by rw[d];omega)];congr 2
  rw[←cV,cp (by rw[d];omega),cp (by rw[p,g];omega)]
 ·rw[ad,g,v];simp only;omega
def nz(xs:List Int):List Int:=xs.filter fun x=> !(x==0)
theorem KH{x:Int}{K:Bool→ac→Prop}(a:K (x==0) h):HV PG (.func (.func pu) #[] #[]) [.int .u32 x] [.c .bool] K h:=by
 refine HV.mk' (Bu x ?_);unfold tM;exact a
theorem Kr(k:OwnS u32 1 mD M h s xs)(S:xs.length≤1000000){K:SliceV→ac→Prop}(F:∀s' h',OwnS u32 1 mD M h' s' (nz xs)→Upd M h h'→K s' h'):HC PG rP [.slice s.a s.len s.cap] [.c .slice] K h:=by
 have v:=k.len;have E:=k.cap;refine El s ?_;unfold xp;refine nK s _ ?_;unfold iK bB dw dJ;refine i7 s _ ?_;unfold f7 bB dw;have H:Sl u32 1 No h s xs:=k.sl fun _ _ _ h=>h
 refine LoopP.ghost (fun(i:Nat) (t:Int) h'=>t=(i:Int)∧h'=h∧i≤xs.length∧nz (xs.take i)=xs.take i) (fun i=>xs.length-i) 0 ⟨rfl,rfl,cj _,by simp[nz]⟩ ?_
 rintro I i t h' ⟨rfl,rfl,hi,m⟩ N;refine aE (fun c=>?_) fun Q=>?_
 ·have c:i<xs.length:=by omega
  obtain⟨a,y,_,hx⟩:=Nums.at H c;refine⟨by omega,a,y,_,hx,KH (CondP.intro (fun e=>?_) fun e=>?_)⟩
  ·
   have G:nz (xs.take (i+1))=xs.take i:=by
    rw[bF c];unfold nz at m⊢;rw[dY,m];simp[e]
   refine CondP.intro (fun L=>?_) fun _=>?_
   ·simp at L
   rw[ec c (by omega)];refine LoopP.ghost (fun(g:Nat×Nat×List Int) (t:Int×Int) x=>t=((g.1:Int),(g.2.1:Int))∧g.1<g.2.1∧g.2.1≤xs.length∧OwnS u32 1 mD M x s g.2.2∧g.2.2.take g.1=nz (xs.take g.2.1)∧g.2.2.drop g.2.1=xs.drop g.2.1∧Upd M h' x) (fun g=>xs.length-g.2.1) (i,i+1,xs) ⟨rfl,by simp only;omega,by simp only;omega,k,G.symm,rfl,Upd.refl _ _⟩ ?_
   rintro R ⟨p,j,ys⟩ t x ⟨rfl,B,O,d,q,hd,A⟩ o;have d:OwnS u32 1 mD M x s ys:=d;have P:ys.length=xs.length:=d.len.symm.trans v;simp only at B O q hd⊢;refine aE (fun b=>?_) fun D=>?_
   ·have b:j<xs.length:=by omega
    have C:ys[j]'(by omega)=xs[j]:=by
     have:=congrArg List.head? hd;simpa[List.head?_drop,ag b,ag (show j<ys.length by omega)]using this
    obtain⟨a,y,_,hx⟩:=Nums.at (d.sl (W:=No) fun _ _ _ h=>h) (show j<ys.length by omega)
    rw[C]at hx;have u:ys.drop (j+1)=xs.drop (j+1):=by rw[←cV,hd,cV]
    refine Join.plain ⟨by omega,a,y,_,hx,KH (CondP.intro (fun e=>?_) fun e=>?_)⟩
    ·have f:(!(xs[j]==0))=true:=e
     refine⟨by omega,?_⟩;rw[aL];refine OwnS.put1 d (i:=p) (by omega) xs[j] fun J w z=>?_
     rw[ec (i:=p) (n:=xs.length) (by omega) (by omega),ec b (by omega)];refine o (p+1,j+1,ys.set p xs[j]) _ _ ⟨rfl,by simp only;omega,by simp only;omega,w,?_,?_,A.tr z⟩ (by simp only;omega)
     ·simp only
      rw[bF (by rw[eI];omega),List.getElem_set_self,List.take_set_of_le (aq _),q,bF b];unfold nz;rw[dY];simp[f]
     ·simp only
      rw[List.drop_set_of_lt (by omega),u]
    ·have f:(!(xs[j]==0))=false:=e
     rw[ec b (by omega)];refine o (p,j+1,ys) _ _ ⟨rfl,by simp only;omega,by simp only;omega,d,?_,u,A⟩ (by simp only;omega)
     simp only;rw[q,bF b];unfold nz;rw[dY];simp[f]
   ·have:j=xs.length:=by omega
    subst this;rw[cQ]at q;refine⟨by omega,?_⟩;rw[aL];refine OwnS.cutZ (ys:=ys) d (by omega) fun J w z=>⟨by omega,?_⟩
    rw[q]at w;exact F _ _ w (A.tr z)
  ·rw[ec c (by omega)]
   refine N (i+1) _ _ ⟨rfl,rfl,by omega,?_⟩ (by omega)
   rw[bF c];unfold nz at m⊢;rw[dY,m];simp[e]
 ·have:i=xs.length:=by omega
  subst this;rw[cQ]at m;rw[←m]at k;exact aB.2 (F s _ k (Upd.refl _ _))
end
end Go.Proofs
namespace Go.Proofs
open Go Go.Lift
def sy(s:VS)(n:ByteArray)(d:TD)(ps:List Int):(Int×Int)×VS:=
 if(i5 s.L s.nx ps).1.2≠0 then((0,(i5 s.L s.nx ps).1.2),s)
 else(((i5 s.L s.nx ps).1.1,0),{s with L:=(i5 s.L s.nx ps).2.1,nx:=(i5 s.L s.nx ps).2.2,D:=ke s.D (i5 s.L s.nx ps).1.1 d,B:=ke s.B n (i5 s.L s.nx ps).1.1})
theorem LR{L:fu}{nx:Int}{ps:List Int}(h:(i5 L nx ps).1.2≠0):(i5 L nx ps).2=(L,nx):=by
 unfold i5 at h⊢;split
 ·rfl
 ·split
  ·rfl
  ·split
   ·rfl
   ·rename_i h1 h2 h3
    rw[if_neg h1,if_neg h2,if_neg h3]at h;exact absurd rfl h
theorem JN{L:fu}{nx:Int}{ps:List Int}(h:(i5 L nx ps).1.2=0):i5 L nx ps=((nx,0),rg L nx ps,nx+1):=by
 unfold i5 at h⊢;split at h
 ·rename_i h1;exact absurd h h1
 ·split at h
  ·rename_i h1;exact absurd h h1
  ·split at h
   ·have h:(6:Int)=0:=h
    omega
   ·rename_i h1 h2 h3;rw[if_neg h1,if_neg h2,if_neg h3]
theorem Hy{h:ac}{k:ac→Prop}(a:∀h',h'=h→k h'):At h k:=aX (a h rfl)
theorem FR{κ β:Type}[DecidableEq κ]{k:κ}{v:β}:∀{l:List (κ×β)} {p:κ×β},p∈ke l k v→p=(k,v)∨p∈l
 | [],p,h=>.inl (by simpa[ke]using h)
 |(k',u)::l,p,h=>by
  unfold ke at h;split at h
  ·exact(au.1 h).imp id (aI _)
  ·rcases au.1 h with h|h
   ·exact .inr (h▸ay)
   ·exact(FR h).imp id (aI _)
theorem FS{β:Type}{k:Int}{v:β}:∀{l:List (Int×β)},dh l k=some v→(k,v)∈l
 |(k',u)::l,h=>by
  unfold dh at h;split at h
  ·rename_i e;cases h;rw[e];exact ay
  ·exact aI _ (FS h)
section
variable {W:Nat→Prop} {h0 h:ac} {vp:Nat} {s:VS}
theorem VaultAt.size(v:VaultAt W h vp s){y:Nat}(a:s.M y):y<h.size:=v.g.lt y (v.w y a)
theorem VS.mG{s:VS}{y:Nat}(h:Bs s.gp s.gm y):s.M y:=h.imp id .inl
theorem EH(v:VaultAt W h0 vp s)(k0:Upd No h0 h)(n:ByteArray){d:TD}(i:TreeIs W h0 s.kind s.x d.1 d.2)(hr:di d.2)(hf:Fit d.2){pb:Nat}(hpb:h0.size≤pb)(hpb2:pb<h.size){sl:SliceV}{ps:List Int}(ho:OwnS u32 1 mD (· =pb) h sl ps)(hn:ps.length≤1000000)
  {K:Int×Int→ac→Prop}(F:∀h',Upd s.M h0 h'→VaultAt W h' vp (sy s n d (nz ps)).2→K (sy s n d (nz ps)).1 h'):
  HC PG jk [pV vp,.string n,H9 d.1,.slice sl.a sl.len sl.cap] [.c (.int .u32),.c (.int .i64)] K h:=by
 refine sw (some ⟨vp,0,none⟩) n d.1 sl ?_;unfold mE bB av ae ai ug gt EF EE;refine bA fun h1 b1 k1=>⟨_,rfl,_,vc (v.upd0 (k0.tr k1)).blk 6,?_⟩
 have s0:=k0.size;refine Kr (ho.upd k1 fun _ _ h=>h) hn fun s5 Y o5 u5=>?_
 have J:Upd No h0 Y:=(k0.tr k1).own u5 hpb;have u:=v.upd0 J;have b5:=u5.oth b1 (show h.size≠pb by omega)
 have hl5:(nz ps).length≤ps.length:=List.length_filter_le ..;have O:∀y,W y→y<h0.size:=v.g.lt;refine⟨vc u.blk 6,MM u.g (by have:=v.inv.nx1;omega) (fun hm=>by have:=(v.inv.pos _ hm).2;omega) (o5.sl (W:=W) fun b o _ hw=>by have:=O b hw;omega) (by omega) fun I t H=>?_⟩
 have U:∀y,Bs s.gp s.gm y→W y∨Y.size≤y:=fun y a=>.inl (v.w y (VS.mG a))
 obtain⟨n1,n2,n3,n4,n5,n6,n7,n8,n9,X⟩:=VS.neB v.ne;have w:∀y,y≠s.gp→y≠s.gm→¬Bs s.gp s.gm y:=fun y h1 h2 h=>h.elim h1 h2
 have Z:=u.t.upd t (w _ n2.symm n5.symm);have m7:=u.b.upd t (w _ n3.symm n6.symm);have C:=u.n.upd t (w _ n4.symm n7.symm);refine CondP.intro (fun e=>?_) fun e=>?_
 ·have e:(i5 s.L s.nx (nz ps)).1.2≠0:=by simpa using e
  have P:=LR e;have V:sy s n d (nz ps)=((0,(i5 s.L s.nx (nz ps)).1.2),s):=by unfold sy;rw[if_pos e]
  rw[V]at F;rw[P]at H;exact F I (J.wide.tr (t.mono fun y a=>.inl (VS.mG a))) (u.turn t U H Z m7 C (fun d hd=>.inl hd) v.sub v.inv)
 ·have e:(i5 s.L s.nx (nz ps)).1.2=0:=by simpa using e
  have P:=JN e;have q:=v.inv.add (nz ps);have V:sy s n d (nz ps)=(((i5 s.L s.nx (nz ps)).1.1,0),{s with L:=(i5 s.L s.nx (nz ps)).2.1,nx:=(i5 s.L s.nx (nz ps)).2.2,D:=ke s.D (i5 s.L s.nx (nz ps)).1.1 d,B:=ke s.B n (i5 s.L s.nx (nz ps)).1.1}):=by unfold sy;rw[if_neg (by rw[e];simp)]
  rw[V]at F;rw[P]at H F q⊢;have G:∀y,s.M y→vp≠y:=fun y a e=>v.wv (e▸v.w y a)
  have c7:=t.get u.blk fun hm=>G _ (VS.mG hm) rfl
  have x:=t.get b5 fun hm=>by have:=v.size (VS.mG hm);omega
  refine⟨_,rfl,_,vc c7 7,_,vc x 0,_,vc x 1,_,vc x 2,_,vc x 3,_,vc x 4,_,vc x 5,_,rfl,Z.isMap,Hy fun c j=>?_⟩
  have j:c=ns I s.tm (KE.enc s.nx) (Pm d):=j;have g:Upd (· =s.tm) I c:=by rw[j];exact wg I _ _ rfl
  have t17:MapAt KE Pm c s.tm (ke s.D s.nx d):=by rw[j];exact Z.put s.nx d
  have E:=m7.upd g (fun e=>n8 e.symm)
  have A:=C.upd g (fun e=>n9 e.symm)
  have T:=H.upd g fun b o=>.inl ⟨v.w b (.inr (.inr (.inl o))),fun e=>n2 (e.symm.trans o),fun e=>n5 (e.symm.trans o)⟩
  have Q:=g.get c7 fun e=>G _ (.inr (.inr (.inl rfl))) e
  refine⟨_,rfl,_,vc Q 8,_,rfl,E.isMap,Hy fun f k=>?_⟩
  have k:f=ns c s.bm (kStr.enc n) (MG s.nx):=k;have m:Upd (· =s.bm) c f:=by rw[k];exact wg c _ _ rfl
  have R:MapAt kStr MG f s.bm (ke s.B n s.nx):=by rw[k];exact E.put n s.nx
  have S:=t17.upd m n8;have z:=A.upd m (fun e=>X e.symm)
  have N:=T.upd m fun b o=>.inl ⟨v.w b (.inr (.inr (.inr (.inl o)))),fun e=>n3 (e.symm.trans o),fun e=>n6 (e.symm.trans o)⟩
  have uM:Upd s.M Y f:=((t.mono fun y a=>.inl (VS.mG a)).tr (g.mono fun y a=>.inl (.inr (.inr (.inl a))))).tr (m.mono fun y a=>.inl (.inr (.inr (.inr (.inl a)))))
  refine F f (J.wide.tr uM) (u.turn uM (fun y a=>.inl (v.w y a)) N S R z (fun p hp=>(FR hp).elim (fun e=>.inr ?_) .inl) (fun id=>?_) q)
  ·subst e
   have ku:Upd s.M h0 f:=J.wide.tr uM;exact⟨i.updM ku fun y a=>.inl (v.w y a),hr,hf⟩
  ·rw[Di,insV_ids.mem_iff,au,←v.sub id]
   split
   ·rename_i hm
    exact⟨.inr,fun h=>h.elim (fun e=>e▸hm) fun h=>h⟩
   ·rw[bq,aw,Or.comm]
end
end Go.Proofs
namespace Go.Proofs
open Go Go.Lift
abbrev zPrL:List Value:= [.string (⟨#[]⟩:ByteArray),.string (⟨#[]⟩:ByteArray)]
theorem uz{h:ac}{t:TypeId}{p:Pr}{k:ac→Prop}(d:∀h',h'[h.size]? =some (.cells #[.string p.1,.string p.2] t (0,0))→Upd No h h'→k h'):
  At (hnew h [.string (⟨#[]⟩:ByteArray),.string (⟨#[]⟩:ByteArray)] t) fun b=>rk b (some (bc h)) 0 [.string p.1,.string p.2]∧At (ie b (bc h) 0 [.string p.1,.string p.2]) k:=by
 refine bA fun f b1 k1=>?_
 exact dW (c:=zPrL) (vs:= [.string p.1,.string p.2]) b1 rfl fun e b2 a=>d e b2 (k1.own a (aq _))
theorem tB{t:TypeId}{M:Nat→Prop}{h:ac}{a:SliceV}{out:List Pr}{p:Pr}{K:SliceV→ac→Prop}(d:OwnS eA 2 t M h a out)(hM:∀b,h.size≤b→M b)(i:out.length+1≤1000000000)
  (g:∀s' h',OwnS eA 2 t M h' s' (out++ [p])→Upd M h h'→K s' h'):
  ∃xs,SRow (hnew h [.string p.1,.string p.2] t) (some (bc h)) (1*2) xs∧AppP (some [.string (⟨#[]⟩:ByteArray),.string (⟨#[]⟩:ByteArray)]) 2 32 t a.a a.len a.cap 1 xs (hnew h [.string p.1,.string p.2] t) K:=by
 have k:=Upd.hnew No h [.string p.1,.string p.2] t;have e:OwnS eA 2 t (fun _=>True) (hnew h [.string p.1,.string p.2] t) ⟨some (bc h),1,1⟩ [p]:=⟨rfl,ia,aq _,.inr ⟨h.size,[],rfl,trivial,bN ..,rfl⟩⟩
 refine⟨_,(e.sl (W:=No) fun _ _ _ h=>h).srow,?_⟩
 refine AppP.own (ys:= [p]) (d.upd k fun _ _ h=>h) rfl rfl rfl rfl (by omega) (by simp only[bf];omega) (hM _ (by rw[gX];omega)) fun s' h' c f=>?_
 exact g s' h' c ((Upd.hnew M h _ _).tr f)
theorem AU{p:Pr}:∀{A B:List Pr},(∀r∈A,kl r.1 p.1)→eX p (A++B)=A++eX p B
 | [],_,_=>rfl
 |r::A,B,h=>by
  rw[gn,fC,if_pos (h r (ay ..)),AU fun q a=>h q (aI _ a)];rfl
theorem Fy{p q:Pr}:∀{A:List Pr},(∃r∈A,kl p.1 r.1)→eX p (A++ [q])=eX p A++ [q]
 | [],h=>by obtain⟨r,f,_⟩:=h;simp at f
 |r::A,h=>by
  rw[gn,fC,fC];by_cases b:kl r.1 p.1
  ·rw[if_pos b,if_pos b,Fy]
   ·rfl
   ·obtain⟨e,a,d⟩:=h
    rcases au.1 a with rfl|a
    ·exact absurd (g5 b d) (cP _)
    ·exact⟨e,a,d⟩
  ·rw[if_neg b,if_neg b]
   by_cases c:r.1=p.1
   ·rw[if_pos c,if_pos c];rfl
   ·rw[if_neg c,if_neg c];rfl
theorem Fw{p:Pr}:∀{l:List Pr},(∀q∈l,kl p.1 q.1)→eX p l=p::l
 | [],_=>rfl
 |q::l,h=>by
  have a:=h q (ay ..);rw[fC,if_neg fun b=>cP _ (g5 a b),if_neg fun e=>by rw[e]at a;exact cP _ a]
theorem C6{p:Pr}:∀{l:List Pr},di l→eX p (l.filter fun q=>decide (q.1≠p.1))=eX p l
 | [],_=>rfl
 |r::l,b=>by
  have b:=aQ.1 b;have keep:∀{l:List Pr},(∀q∈l,kl p.1 q.1)→(l.filter fun q=>decide (q.1≠p.1))=l:=fun{l} h=>List.filter_eq_self.2 fun q c=>decide_eq_true fun e=>by have:=h q c;rw[e]at this;exact cP _ this
  rw[List.filter_cons,fC];by_cases e:r.1=p.1
  ·have d:∀q∈l,kl p.1 q.1:=fun q c=>by rw[←e];exact b.1 q c
   rw[if_neg (by simp[e]),if_neg (by rw[e];exact cP _),if_pos e,keep d,Fw d]
  ·rw[if_pos (by simpa using e),fC]
   by_cases a:kl r.1 p.1
   ·rw[if_pos a,if_pos a,C6 b.2]
   ·rw[if_neg a,if_neg a,if_neg e,if_neg e]
    have f:=qM a e;rw[keep fun q c=>g5 f (b.1 q c)]
theorem Ac{i n:Nat}(h:i<n)(a:n≤9223372036854775807):IntKind.wrap .i64 ((i:Int)+1)=((i+1:Nat):Int):=by rw[Go.IntWalk.i64_in _ (by omega)];omega
theorem C5(p:Pr):∀{l:List Pr},(eX p l).length≤l.length+1
 | []=>aq _
 |q::l=>by
  rw[fC];split
  ·have:=C5 p (l:=l);simp only[az];omega
  ·split<;>simp
theorem Js{W W':Nat→Prop}{h h':ac}{kind:Int}{x:Hs}{t u:Tr}{l c:List Pr}(i:TreeIs W h kind x t l)(a:TreeIs W' h' kind x u c):Fp t u=true:=by
 rcases i with⟨rfl,b,rfl,_⟩|⟨rfl,b,rfl,_⟩<;>rcases a with⟨e,b',rfl,_⟩|⟨e,b',rfl,_⟩
 ·simp[Fp]
 ·cases e
 ·cases e
 ·simp[Fp]
theorem O1{k:Int}(a:0≤k)(b:k≤255):IntKind.wrap .i64 (fA k 2)=0∨IntKind.wrap .i64 (fA k 2)=1:=by
 have:fA k 2=k%2:=Int.tmod_eq_emod_of_nonneg a;rw[this,gi (by omega)];omega
abbrev hsL(x:Hs):List Value:= [.int .u64 x.k0,.int .u64 x.k1,.int .u64 x.mask]
end Go.Proofs
namespace Go.Proofs
open Go Go.Lift
section
variable {W:Nat→Prop} {h:ac} {vp:Nat} {s:VS}
theorem Gs(v:VaultAt W h vp s)(n:ByteArray){hd:Int}(f:dh s.B n=some hd){d:TD}(i:TreeIs W h s.kind s.x d.1 d.2)(k:di d.2)(o:Fit d.2)
  {K:Int×Int→ac→Prop}(j:∀h',Upd s.M h h'→VaultAt W h' vp (sy s n d (nz [hd])).2→K (sy s n d (nz [hd])).1 h'):
  HC PG jN [pV vp,.string n,H9 d.1] [.c (.int .u32),.c (.int .i64)] K h:=by
 refine tG (some ⟨vp,0,none⟩) n d.1 ?_;unfold nO av CO ae ai ug gr gt oT EF;refine bA fun q b1 k1=>EI (v.upd0 k1) n ?_
 rw[f];refine ak.2 ⟨_,vc b1 0,_,vc b1 1,_,vc b1 2,_,vc b1 3,_,vc b1 4,_,vc b1 5,_,rfl,?_⟩;have c1:=k1.get0 v.blk;refine⟨_,wa c1 0 0,_,wa c1 0 1,_,wa c1 0 2,_,wa c1 0 3,_,wa c1 0 4,_,wa c1 0 5,?_⟩;refine KC (t:=d.1) (u:=s.e) fun b c=>?_
 rw[Js i v.em];have b2:=c.get0 b1;refine ak.2 ⟨_,vc b2 0,_,vc b2 1,_,vc b2 2,_,vc b2 3,_,vc b2 4,_,vc b2 5,bA fun w b3 p=>?_⟩
 have a:=k1.tr c;have e:=a.size;refine EH v (a.tr p) n i k o (pb:=b.size) e (aW b3) (sl:=⟨some (bc b),1,1⟩) (ps:= [hd]) ⟨rfl,uS,aq _,.inr ⟨b.size,[],rfl,rfl,b3,rfl⟩⟩ (by simp) fun h' g m=>j h' g m
end
end Go.Proofs
namespace Go.Proofs
open Go Go.Lift
abbrev Wk:=Option Addr×ByteArray×Bool
abbrev IR(x:Wk):List Value:= [.pointer x.1,.string x.2.1,.bool x.2.2]
theorem Dr(x:Wk):(IR x).length=3∧0<3:=⟨rfl,by omega⟩
theorem Ip:∀xs:List Wk,bR (xs.flatMap IR)=true
 | []=>rfl
 |x::xs=>by rw[bi];exact j3 rfl (Ip xs)
theorem KJ{α:Type}{l:List α}{i:Nat}(hi:i<l.length)(x:α):l.take i++x::l.drop (i+1)=l.set i x:=by rw[List.set_eq_take_append_cons_drop,if_pos hi]
theorem GN{M:Nat→Prop}{h:ac}{s:SliceV}{xs:List Wk}(L:OwnS IR 3 dk M h s xs)(hn:xs.length≤1000000000){K:Unit→ac→Prop}(o:∀h',OwnS IR 3 dk M h' s xs.reverse→Upd M h h'→K () h'):HC PG dX [.slice s.a s.len s.cap] [] K h:=by
 refine jR s ?_;unfold fT dw bD gt eh BT mB;have R:=L.len;have U:IntKind.wrap .i64 ((s.len:Int)-1)=(xs.length:Int)-1-((0:Nat):Int):=by rw[gi (by omega)];omega
 rw[U];refine LoopP.ghost (fun(i:Nat) (t:Int×Int) h'=>t.1=(i:Int)∧t.2=(xs.length:Int)-1-(i:Int)∧i≤xs.length∧(∃ys,OwnS IR 3 dk M h' s ys∧ys.length=xs.length∧∀k,k<xs.length→ys[k]? =if k<i∨xs.length-i≤k then xs[xs.length-1-k]? else xs[k]?)∧Upd M h h') (fun i=>xs.length-i) 0
  ⟨rfl,rfl,cj _,⟨xs,L,rfl,fun k o=>by rw[if_neg (by omega)]⟩,Upd.refl _ _⟩ ?_
 rintro I i ⟨ti,tj⟩ h' ⟨O,N,hi,⟨ys,d,E,f⟩,Q⟩ X;simp only at O N;subst O N;refine aE (fun w=>?_) fun C=>?_
 ·have w:2*i+1<xs.length:=by have:(i:Int)<(xs.length:Int)-1-(i:Int):=w;omega
  obtain⟨j,Y⟩:∃j:Nat,(xs.length:Int)-1-(i:Int)=(j:Int):=⟨xs.length-1-i,by omega⟩
  have V:j=xs.length-1-i:=by omega
  simp only;rw[Y];have c:i<ys.length:=by omega
  have m:j<ys.length:=by omega
  have sl:=d.sl (W:=No) fun _ _ _ h=>h
  obtain⟨a,g,_,G⟩:=sl.at (ag m);obtain⟨a',B,_,p⟩:=sl.at (ag c);rw[g]at B;cases B;refine⟨⟨by omega,by omega⟩,a,g,ys[j].1,G 0 _ rfl,ys[j].2.1,G 1 _ rfl,ys[j].2.2,G 2 _ rfl,⟨by omega,by omega⟩,a,g,ys[i].1,p 0 _ rfl,ys[i].2.1,p 1 _ rfl,ys[i].2.2,p 2 _ rfl,⟨by omega,by omega⟩,?_⟩
  obtain⟨b,x,v,Z,q,D⟩:=OwnS.setAt d c ys[j];rw[g]at x;cases x;rw[KJ c]at q;refine⟨a,g,Z,aX ⟨⟨by omega,by omega⟩,a,g,?_⟩⟩
  obtain⟨b,x,_,H,u,F⟩:=OwnS.setAt q (k:=j) (by rw[eI];omega) ys[i];rw[g]at x;cases x;rw[KJ (by rw[eI];omega)]at u;refine⟨H,aX ?_⟩;rw[ec (n:=xs.length) (by omega) (by omega)];have J:IntKind.wrap .i64 ((j:Int)-1)=(xs.length:Int)-1-((i+1:Nat):Int):=by rw[gi (by omega)];omega
  rw[J];refine X (i+1) _ _ ⟨rfl,rfl,by omega,⟨_,u,by rw[eI,eI];exact E,fun k o=>?_⟩,?_⟩ (by omega)
  ·rw[List.getElem?_set,eI]
   have P:=f i (by omega);have A:=f j (by omega);rw[if_neg (by omega),ag c]at P;rw[if_neg (by omega),ag m]at A;by_cases T:j=k
   ·rw[if_pos T,if_pos m,if_pos (by omega),P]
    congr 1;omega
   ·rw[if_neg T,List.getElem?_set]
    by_cases S:i=k
    ·rw[if_pos S,if_pos c,if_pos (by omega),A]
     congr 1;omega
    ·rw[if_neg S,f k o]
     by_cases z:k<i∨xs.length-i≤k
     ·rw[if_pos z,if_pos (by omega)]
     ·rw[if_neg z,if_neg (by omega)]
  ·exact(Q.trans D fun y d=>.inl (by have d:y=a.block:=d;rw[d];exact v)).trans F fun y d=>.inl (by have d:y=a.block:=d;rw[d];exact v)
 ·have C:xs.length≤2*i+1:=by have:¬(i:Int)<(xs.length:Int)-1-(i:Int):=C;omega
  have e:ys=xs.reverse:=by
   apply List.ext_getElem?;intro k;by_cases o:k<xs.length
   ·rw[f k o,List.getElem?_reverse o]
    by_cases z:k<i∨xs.length-i≤k
    ·rw[if_pos z]
    ·rw[if_neg z];congr 1;omega
   ·rw[List.getElem?_eq_none (by omega),List.getElem?_eq_none (by rw[List.length_reverse];omega)]
  subst e;exact o _ d Q
theorem OwnS.pop{α:Type}{f:α→List Value}{d:Nat}{t:TypeId}{M:Nat→Prop}{h:ac}{s:SliceV}{xs:List α}{x:α}(a:OwnS f d t M h s (xs++ [x])):OwnS f d t M h ⟨aN s.a 0 s.cap d,xs.length,s.cap⟩ xs:=by
 have i:=a.len;have hc:=a.cap;rw[ad,bf]at i;refine⟨rfl,a.ne,by simp only;omega,a.blk.imp id fun⟨b,c,j,e,aF,g⟩=>⟨b,f x++c,?_,e,?_,?_⟩⟩
 ·simp only;rw[j,sub_zero]
 ·rw[aF,bV,bi,List.flatMap_nil,bG,ax]
 ·rw[ad,(a.ne x).1,g]
  simp only;have:s.cap-xs.length=(s.cap-s.len)+1:=by omega
  rw[this,Nat.add_mul];omega
structure It where
 b:Nat
 ah:ByteArray
 own:Bool
 sl:ByteArray
 w:Option ByteArray
 F:Fo
def It.raw(i:It):Wk:=(some ⟨i.b,0,none⟩,i.ah,i.own)
def It.key(i:It):List UInt8:=i.ah.data.toList++i.sl.data.toList
def It.prs(i:It):List (List UInt8×ByteArray):=if i.own then(i.w.map fun v=>(i.key,v)).toList else(xV i.w i.F).map fun p=>(i.key++p.1,p.2)
def It.cost(i:It):Nat:=if i.own then 1 else 2+2*Bh i.F
def rM(l:List It):List (List UInt8×ByteArray):=l.reverse.flatMap It.prs
def iJ(l:List It):Nat:=(l.map It.cost).sum
theorem CM(l:List It)(i:It):rM (l++ [i])=i.prs++rM l:=by unfold rM;rw[List.reverse_append];rfl
theorem tZ(l m:List It):iJ (l++m)=iJ l+iJ m:=by unfold iJ;rw[ce,List.sum_append]
theorem KP(l m:List It):rM (l++m)=rM m++rM l:=by unfold rM;rw[List.reverse_append,bV]
end Go.Proofs
namespace Go.Proofs
open Go Go.Lift
theorem Az{W:Nat→Prop}{h:ac}{b:Nat}{sl:ByteArray}{w:Option ByteArray}{F:Fo}(r:RxN W h b sl w F){K:ByteArray→ac→Prop}(a:K sl h):HC PG iS [.pointer (some ⟨b,0,none⟩)] [.c .str] K h:=by
 refine vR _ ?_;unfold pW bD;obtain⟨val,s,ow,ks,c,_⟩:=r;exact ak.2 ⟨_,rfl,sl,gO (i:=0) c,a⟩
theorem GF{W:Nat→Prop}{h:ac}{b:Nat}{sl:ByteArray}{w:Option ByteArray}{F:Fo}(r:RxN W h b sl w F){K:ByteArray×Bool→ac→Prop}(c:∀v,(∀u,w=some u→v=u)→K (v,w.isSome) h):HC PG gA [.pointer (some ⟨b,0,none⟩)] [.c .str,.c .bool] K h:=by
 refine pI _ ?_;unfold lG bD eh;obtain⟨val,s,ow,ks,a,d,_⟩:=r;exact ak.2 ⟨_,rfl,val,gO (i:=2) a,_,rfl,w.isSome,gO (i:=1) a,c val (vw d)⟩
theorem EV{W:Nat→Prop}{h:ac}{b:Nat}{sl:ByteArray}{w:Option ByteArray}{F:Fo}(r:RxN W h b sl w F){K:ByteArray×Bool→ac→Prop}(c:K (w.getD ⟨#[]⟩,w.isSome) h):HC PG gA [.pointer (some ⟨b,0,none⟩)] [.c .str,.c .bool] K h:=by
 refine pI _ ?_;unfold lG bD eh;obtain⟨val,s,ow,ks,a,rfl,_⟩:=r;exact ak.2 ⟨_,rfl,_,gO (i:=2) a,_,rfl,w.isSome,gO (i:=1) a,c⟩
theorem Ja{W:Nat→Prop}{h:ac}{b:Nat}{sl:ByteArray}{w:Option ByteArray}{F:Fo}(r:RxN W h b sl w F)(k:F.toL.length≤256){K:SliceV→ac→Prop}(g:∀s' h' ks,OwnS xN 1 bv (fun y=>h.size≤y) h' s' ks→RxL W h' ks F.toL→Upd No h h'→K s' h'):HC PG l0 [.pointer (some ⟨b,0,none⟩)] [.c .slice] K h:=by
 refine xd _ ?_;unfold qy bW;obtain⟨val,s,ow,ks,f,m,e,_,j⟩:=r;have c:=oU.1 j;refine ak.2 ⟨_,rfl,s,gO (i:=3) f,?_⟩;refine Dh e (by rw[c.1];omega) fun s' h' d a=>g s' h' ks d (c.upd0 a) a
theorem Fq(x:List UInt8):Op.bytesLess x []=false:=by cases x<;>rfl
theorem Fi:(⟨#[]⟩:ByteArray).toList= []:=by rw[ByteArray.toList_eq]
theorem Ms{k:ByteArray}{h:ac}{K:Bool→ac→Prop}(b:∀h',Upd No h h'→K false h'):HC PG mN [.agg #[.string ⟨#[]⟩,.string ⟨#[]⟩,.bool true],.string k] [.c .bool] K h:=by
 refine yA (⟨#[]⟩,⟨#[]⟩,true) k ?_;unfold rv al kB cI B4;refine bA fun c b1 k1=>?_
 refine Join.intro (fun t h'=>t=false∧h'=c) (fun R a=>⟨true,vc b1 2,ak.2 (a _ _ ⟨rfl,rfl⟩)⟩) ?_
 rintro t h' ⟨rfl,rfl⟩;refine ak.2 ⟨_,vc b1 0,?_⟩;rw[Fi,Fq];exact ak.2 (b h' k1)
theorem FC{k:ByteArray}{h:ac}{K:Bool→ac→Prop}(b:∀h',Upd No h h'→K true h'):HC PG oh [.agg #[.string ⟨#[]⟩,.string ⟨#[]⟩,.bool true],.string k] [.c .bool] K h:=by
 refine zI (⟨#[]⟩,⟨#[]⟩,true) k ?_;unfold sh al cI B4;refine bA fun a b1 k1=>⟨_,vc b1 0,?_⟩
 rw[Fi,Fq];exact aB.2 ⟨true,vc b1 2,aB.2 (b a k1)⟩
def It.Ok(W:Nat→Prop)(h:ac)(i:It):Prop:=RxN W h i.b i.sl i.w i.F∧jb i.F∧i.key.length≤10000∧∀p∈xV i.w i.F,i.key.length+p.1.length≤10000
theorem It.Ok.updM{W M:Nat→Prop}{h h':ac}(k:Upd M h h')(hm:∀b,M b→W b∨h.size≤b){i:It}(o:It.Ok W h i):It.Ok W h' i:=⟨o.1.updM k hm,o.2⟩
theorem Iw{W:Nat→Prop}{h:ac}(ah:ByteArray):∀{ks:List (Option Addr)} {L:List Bn},RxL W h ks L→∃its:List It,its.map It.raw=ks.map (fun k=>(k,ah,false))∧its.map (fun i=>(i.sl.data.toList,i.w,i.F))=L∧∀i∈its,i.ah=ah∧i.own=false∧RxN W h i.b i.sl i.w i.F
 | [],[],_=>⟨[],rfl,rfl,by simp⟩
 | [],_::_,r=>absurd r.1 (by simp)
 |_::_,[],r=>absurd r.1 (by simp)
 |k::ks,n::L,r=>by
  obtain⟨its,f,j,g⟩:=Iw ah (ks:=ks) (L:=L) ⟨by simpa using r.1,fun p e=>r.2 p (by rw[iW];exact aI _ e)⟩
  obtain⟨b,sl,d,c,a⟩:=r.2 (k,n) (by rw[iW];exact ay ..);simp only at d c a;refine⟨⟨b,ah,false,sl,n.2.1,n.2.2⟩::its,?_,?_,?_⟩
  ·rw[be,be,f,d];rfl
  ·rw[be,j];simp only[c]
  ·intro i hi
   rcases au.1 hi with rfl|hi
   ·exact⟨rfl,rfl,a⟩
   ·exact g i hi
theorem Ji(lab:List UInt8)(w:Option ByteArray)(a b:Fo):vd (.cons lab w a b)=((w.map fun v=>(([]:List UInt8),v)).toList++vd a).map (fun p=>(lab++p.1,p.2))++vd b:=rfl
theorem JE(lab:List UInt8)(w:Option ByteArray)(a b:Fo):Bh (.cons lab w a b)=1+Bh a+Bh b:=rfl
theorem E8{ah:ByteArray}{key:List UInt8}(b:ah.data.toList=key):∀{F:Fo} {its:List It},its.map (fun i=>(i.sl.data.toList,i.w,i.F))=F.toL→(∀i∈its,i.ah=ah∧i.own=false)→its.flatMap It.prs=(vd F).map fun p=>(key++p.1,p.2)
 | .nil,its,h,_=>by
  have:its= []:=by simpa[Fo.toL]using h
  rw[this];rfl
 | .cons lab w kids rest,[],h,_=>by simp[Fo.toL]at h
 | .cons lab w kids rest,i::its,h,ha=>by
  rw[Fo.toL_cons,be,mZ.injEq]at h;obtain⟨a,g⟩:=h;simp only[nh.injEq]at a;obtain⟨m,f,c⟩:=a;rw[bi,E8 b g fun j e=>ha j (aI _ e)]
  obtain⟨k,d⟩:=ha i (ay ..);rw[Ji,ce,List.map_map];congr 1
  unfold It.prs It.key xV;rw[d,k,b,m,f,c];simp only[cf,if_false,ax,ce,Function.comp_def]
theorem FK:∀{F:Fo} {its:List It},its.map (fun i=>(i.sl.data.toList,i.w,i.F))=F.toL→(∀i∈its,i.own=false)→iJ its=2*Bh F
 | .nil,its,h,_=>by
  have:its= []:=by simpa[Fo.toL]using h
  rw[this];rfl
 | .cons lab w kids rest,[],h,_=>by simp[Fo.toL]at h
 | .cons lab w kids rest,i::its,h,ha=>by
  rw[Fo.toL_cons,be,mZ.injEq]at h;obtain⟨a,b⟩:=h;simp only[nh.injEq]at a;have e:=FK b fun j c=>ha j (aI _ c)
  unfold iJ at e⊢;rw[be,nn,e];rw[JE];unfold It.cost;rw[ha i (ay ..),a.2.2];simp only[cf,if_false];omega
theorem AO:∀l:List It,l.length≤iJ l
 | []=>aq _
 |i::l=>by
  have:=AO l;unfold iJ at this⊢;rw[be,nn,az];have:1≤i.cost:=by unfold It.cost;split<;>omega
  omega
abbrev MS(s:SliceV):Array Value:= #[sv s,.string (⟨#[]⟩:ByteArray),.string (⟨#[]⟩:ByteArray),.bool true,.bool false]
structure Cur(W:Nat→Prop)(h:ac)(cb:Nat)(C:Nat→Prop)(items:List It):Prop where
 ex:∃s,h[cb]? =some (.cells (MS s) uy (0,0))∧OwnS IR 3 dk C h s (items.map It.raw)
 ok:∀i∈items,It.Ok W h i
theorem NX{W:Nat→Prop}{h h':ac}{i:It}(d:It.Ok W h i)(q:i.own=false){its:List It}(e:its.map (fun i=>(i.sl.data.toList,i.w,i.F))=i.F.toL){ah:ByteArray}(n:ah.data.toList=i.key)(hi:∀j∈its,j.ah=ah∧j.own=false∧RxN W h' j.b j.sl j.w j.F):∀j∈its,It.Ok W h' j:=by
 intro j f;obtain⟨o,s,k⟩:=hi j f;have hm:(j.sl.data.toList,j.w,j.F)∈i.F.toL:=by rw[←e];exact cX.2 ⟨j,f,rfl⟩
 have b:=(fS.1 d.2.1).2 _ hm;have a:∀p∈xV j.w j.F,j.key.length+p.1.length≤10000:=fun p g=>by
  have c:xD i.F (j.sl.data.toList++p.1) p.2:=j4.2 ⟨_,hm,p.1,rfl,po.1 (show(p.1,p.2)∈_ from g)⟩
  have:=d.2.2.2 (j.sl.data.toList++p.1,p.2) (po.2 (.inr c));unfold It.key at this⊢;rw[o,n];unfold It.key;simp only[ad]at this⊢;omega
 obtain⟨r,v,m⟩:=sN d.2.1 _ hm;have:=a (r,v) (po.2 m);exact⟨k,b.2.2,by simp only at this;omega,a⟩
set_option maxHeartbeats 1000000 in
theorem Mq{W C:Nat→Prop}{h:ac}{A:Nat}{f:List It}{i:It}(Q:Cur W h A C f)(D:It.Ok W h i)(ho:i.own=false)(hC:∀b,h.size≤b→C b)(u:∀b,C b→W b)(y:W A)(Y:¬C A)(hcost:iJ f+i.cost≤100000000){K:Unit→ac→Prop}
  (hk:∀h' kids,Cur W h' A C (f++kids)→rM kids=i.prs→iJ kids<i.cost→Upd (fun b=>C b∨b=A) h h'→K () h'):HC PG lw [.pointer (some ⟨A,0,none⟩),.agg #[.pointer (some ⟨i.b,0,none⟩),.string i.ah,.bool i.own]] [] K h:=by
 refine vK (some ⟨A,0,none⟩) i.raw ?_;unfold pP bB dw bD al dJ ai eh bW EG BT Gj OT;obtain⟨s,aF,hst⟩:=Q.ex;refine bA fun h1 b1 k1=>?_
 have zc:=aW aF;have s1:=k1.size;refine⟨i.ah,vc b1 1,_,vc b1 0,?_⟩;have io1:=D.updM (k1.wide (M:=C)) fun b c=>.inl (u b c)
 refine Az io1.1 ⟨vc b1 1,?_,?_⟩
 ·have:=D.2.2.1
  unfold It.key at this;rw[ad]at this;have e1:i.ah.data.toList.length=i.ah.size:=by simp
  have e2:i.sl.data.toList.length=i.sl.size:=by simp
  omega
 have c1:=k1.get0 aF;refine⟨_,rfl,_,wa c1 1 0,_,wa c1 1 1,true,wa c1 1 2,?_⟩;refine Ms fun x k2=>ak.2 ⟨_,vc (k2.get0 b1) 0,i.ah,vc (k2.get0 b1) 1,?_⟩
 have N:=k1.tr k2;refine bA fun z b3 k3=>⟨_,vc (k3.get0 (k2.get0 b1)) 0,?_⟩
 have O:=N.tr k3;have z3:=aW b3;have s2:=N.size;have io3:=D.updM (O.wide (M:=C)) fun b c=>.inl (u b c)
 have hn:=Aa D.2.1;refine Ja io3.1 hn fun s4 g ks ho4 V k4=>?_
 have G:=O.tr k4;have P:Sl xN 1 (fun b=>x.size≤b∧b<z.size∨g.size≤b) g s4 ks:=ho4.sl fun b c o hx=>by rcases hx with hx|hx<;>omega
 have hlk:ks.length≤256:=by rw[V.1];exact hn
 have hlen4:=P.len;have s34:=k4.size;let own:It:=⟨i.b,i.ah,true,i.sl,i.w,i.F⟩
 have o3:OwnS IR 3 dk (fun b=>x.size≤b∧b<z.size∨g.size≤b) g ⟨some (bc x),1,1⟩ [own.raw]:=⟨rfl,Dr,aq _,.inr ⟨x.size,[],rfl,.inl ⟨aq _,z3⟩,k4.get0 b3,rfl⟩⟩
 have X:(i.ah++i.sl).data.toList=i.key:=by unfold It.key;rw[ByteArray.data_append,Array.toList_append]
 obtain⟨its,e1,e2,e3⟩:=Iw (i.ah++i.sl) V;have L:=(hst.within.upd G fun _ _ h=>h)
 have c4:=G.get0 aF;have hM:∀b,g.size≤b→(x.size≤b∧b<z.size∨g.size≤b):=fun b c=>.inr c
 refine LoopP.ghost (fun(n:Nat) (t:SliceV×Int) h'=>t.2=(n:Int)∧n≤ks.length∧OwnS IR 3 dk (fun b=>x.size≤b∧b<z.size∨g.size≤b) h' t.1 (own.raw::(ks.take n).map fun k=>(k,i.ah++i.sl,false))∧Upd (fun b=>x.size≤b∧b<z.size∨g.size≤b) g h') (fun n=>ks.length-n) 0 ⟨rfl,cj _,by simpa using o3,Upd.refl _ _⟩ ?_
 rintro I n ⟨so,ti⟩ h' ⟨et,hnk,B,S⟩ hI;simp only at et B;subst et;have hsz:=S.size;refine aE (fun o=>?_) fun hge=>?_
 ·have o:n<ks.length:=by have:(n:Int)<(s4.len:Int):=o;omega
  obtain⟨a,ha,_,hv⟩:=(P.upd S fun b c=>.inl c).at0 (ag o)
  refine Join.intro (fun t q=>OwnS IR 3 dk (fun b=>x.size≤b∧b<z.size∨g.size≤b) q t (own.raw::(ks.take (n+1)).map fun k=>(k,i.ah++i.sl,false))∧Upd (fun b=>x.size≤b∧b<z.size∨g.size≤b) g q) (fun R hR=>⟨⟨by simp only;omega,by simp only;omega⟩,a,ha,ks[n],hv,bA fun h5 b5 k5=>?_⟩) ?_
  ·have o5:OwnS IR 3 dk (fun _=>True) h5 ⟨some (bc h'),1,1⟩ [(ks[n],i.ah++i.sl,false)]:=⟨rfl,Dr,aq _,.inr ⟨h'.size,[],rfl,trivial,b5,rfl⟩⟩
   refine⟨_,(o5.sl (W:=No) fun _ _ _ h=>h).srow,?_⟩
   have s5:=k5.size;refine AppP.own (ys:= [(ks[n],i.ah++i.sl,false)]) (B.upd k5 fun _ _ h=>h) rfl rfl rfl rfl (by omega) (by rw[az,bd,aK,bf];omega) (.inr (by omega)) fun s6 h6 w d=>hR _ _ ⟨?_,(S.tr k5.wide).tr d⟩
   rw[bF o,ce];exact w
  ·rintro t q ⟨ho2,hu2⟩
   rw[ec o (by omega)];exact hI (n+1) _ _ ⟨rfl,o,ho2,hu2⟩ (by omega)
 ·have hnl:n=ks.length:=by have:¬(n:Int)<(s4.len:Int):=hge;omega
  subst hnl;rw[cQ,←e1]at B;have m:∀b,(x.size≤b∧b<z.size∨g.size≤b)→h.size≤b:=fun b c=>by rcases c with c|c<;>omega
  have hlits:its.length=ks.length:=by have:=congrArg fV e1;simpa using this
  refine Join.intro (fun _ q=>OwnS IR 3 dk (fun b=>x.size≤b∧b<z.size∨g.size≤b) q so (own.raw::its.map It.raw).reverse∧Upd (fun b=>x.size≤b∧b<z.size∨g.size≤b) g q) (fun R hR=>?_) ?_
  ·have c5:=S.get c4 (fun c=>by have:=m _ c;omega)
   refine⟨_,rfl,false,vc c5 4,aB.2 ?_⟩;exact GN B (by rw[az,bd];omega) fun h6 w d=>hR _ _ ⟨w,S.tr d⟩
  ·rintro _ h6 ⟨w,d⟩
   have c6:=d.get c4 (fun c=>by have:=m _ c;omega)
   have T:=L.upd d fun b c hx=>by have:=m _ hx;omega
   refine⟨_,rfl,s,vc c6 0,?_⟩;have s6:=d.size;refine⟨_,(w.sl (W:=No) fun _ _ _ h=>h).srow,?_⟩
   have hrl:=w.len;have hil:=AO f;have Z:(own.raw::its.map It.raw).reverse=(its.reverse++ [own]).map It.raw:=by rw[List.reverse_cons,ce,List.map_reverse];rfl
   refine AppP.own (M:=C) (ys:=(own.raw::its.map It.raw).reverse) (T.more fun b c=>c.1) hrl rfl (Ip _) rfl (by omega) (by rw[List.length_reverse,az,bd,bd];omega) (hC _ (by omega)) fun s7 h7 ho7 E=>?_
   have c7:=E.get c6 Y;refine⟨_,rfl,?_⟩;refine Ak (i:=0) (c':=MS s7) c7 (show 0<5 by decide) rfl fun h8 c8 H=>?_
   have U:=ho7.upd H fun b c e=>Y (by have e:b=A:=e;rw[←e];exact c)
   rw[Z,←ce]at U;have F:Upd (fun b=>C b∨b=A) h h8:=(((G.wide (M:=C)).trans d fun b c=>.inr (m b c)).tr E).mono (fun b c=>.inl (.inl c))|>.trans H fun b c=>.inl (.inr c)
   have J:∀{j:It},It.Ok W g j→It.Ok W h8 j:=fun oj=>((oj.updM d fun b c=>.inl (u b (hC b (m b c)))).updM E fun b c=>.inl (u b c)).updM H fun b c=>.inl (by have c:b=A:=c;rw[c];exact y)
   refine hk h8 (its.reverse++ [own]) ⟨⟨s7,c8,U⟩,fun j p=>?_⟩ ?_ ?_ F
   ·rcases bq.1 p with p|p
    ·exact(Q.ok j p).updM F fun b c=>.inl (c.elim (u b) fun e=>e▸y)
    ·rcases bq.1 p with p|p
     ·exact J (NX D ho e2 X e3 j (List.mem_reverse.1 p))
     ·rw[aw.1 p]
      exact It.Ok.updM (i:=own) F (fun b c=>.inl (c.elim (u b) fun e=>e▸y)) ⟨D.1,D.2⟩
   ·rw[CM]
    unfold rM;rw[List.reverse_reverse,E8 X e2 fun j p=>⟨(e3 j p).1,(e3 j p).2.1⟩]
    show(i.w.map fun v=>(own.key,v)).toList++_=It.prs i
    have hke:own.key=i.key:=rfl;unfold It.prs xV;rw[ho,hke];simp only[cf,if_false,ce];congr 1
    cases i.w with
    |none=>rfl
    |some v=>simp
   ·rw[tZ]
    have hc1:iJ its.reverse=iJ its:=by unfold iJ;rw[List.map_reverse,List.sum_reverse]
    rw[hc1,FK e2 fun j p=>(e3 j p).2.1]
    have:iJ [own]=1:=rfl;rw[this];unfold It.cost;rw[ho];simp only[cf,if_false];omega
end Go.Proofs
namespace Go.Proofs
open Go Go.Lift
theorem Cur.upd{W C M:Nat→Prop}{h h':ac}{f:Nat}{a:List It}(c:Cur W h f C a)(k:Upd M h h')(j:∀b,M b→W b∨h.size≤b)(e:∀b,C b→b<h.size→¬M b)(g:¬M f):Cur W h' f C a:=by
 obtain⟨s,m,n⟩:=c.ex;exact⟨⟨s,k.get m g,(n.within.upd k fun b d=>e b d.1 d.2).more fun b d=>d.1⟩,fun i hi=>(c.ok i hi).updM k j⟩
theorem Cur.sub{W C e:Nat→Prop}{h:ac}{f:Nat}{a:List It}(c:Cur W h f C a)(g:∀b,C b→b<h.size→e b):Cur W h f e a:=by
 obtain⟨s,i,j⟩:=c.ex;exact⟨⟨s,i,j.within.more fun b d=>g b d.1 d.2⟩,c.ok⟩
set_option maxHeartbeats 1000000 in
theorem Mz{W C:Nat→Prop}{h:ac}{m:Nat}{f:List It}(Y:Cur W h m C f)(hC:∀b,h.size≤b→C b)(Z:∀b,C b→W b)(J:W m)(hcb:¬C m)(hcost:iJ f≤100000000){K:(ByteArray×ByteArray)×Bool→ac→Prop}
  (hn:∀h',rM f= []→Upd (fun b=>C b∨b=m) h h'→K (((⟨#[]⟩:ByteArray),(⟨#[]⟩:ByteArray)),false) h')
  (hs:∀h' items' k v R,rM f=(k,v)::R→rM items'=R→iJ items'≤iJ f→Cur W h' m C items'→Upd (fun b=>C b∨b=m) h h'→K ((⟨k.toArray⟩,v),true) h'):
  HC PG lx [.pointer (some ⟨m,0,none⟩)] [.agg [.str,.str],.c .bool] K h:=by
 refine vL (some ⟨m,0,none⟩) ?_;unfold pQ bB dw bD al eg dJ nW kB cI ai eh bW EG BT Gj OF;refine bA fun h1 b1 k1=>ak.2 ?_
 have z1:=aW b1;obtain⟨s0,hc0,_⟩:=Y.ex;have zc:=aW hc0;have s1:=k1.size;have hC1:∀b,h1.size≤b→C b∧b≠h.size:=fun b g=>⟨hC b (by omega),by omega⟩
 have cur1:Cur W h1 m (fun b=>C b∧b≠h.size) f:=(Y.sub fun b g hlt=>(⟨g,by omega⟩:C b∧b≠h.size)).upd k1 (fun _ h=>h.elim) (fun _ _ _ h=>h) fun h=>h
 refine LoopP.ghost (fun(its:List It) (_:Unit) h'=>Cur W h' m (fun b=>C b∧b≠h.size) its∧rM its=rM f∧iJ its≤iJ f∧h'[h.size]? =some (.cells zPrL.toArray af (0,0))∧Upd (fun b=>C b∨b=m) h h'∧h1.size≤h'.size) iJ f ⟨cur1,rfl,aq _,b1,k1.wide,aq _⟩ ?_
 rintro I its ⟨⟩ h' ⟨cu,n,hco,bz,hu,hsz⟩ hI;obtain⟨s,aF,w⟩:=cu.ex;have G:=w.len;rw[bd]at G;refine⟨_,rfl,s,vc aF 0,?_⟩;refine aE (fun p=>?_) fun hnp=>?_
 ·have p:0<its.length:=by omega
  obtain⟨d,i,rfl⟩:∃d i,its=d++ [i]:=⟨its.dropLast,its.getLast (by intro e;rw[e]at p;simp at p),(List.dropLast_concat_getLast _).symm⟩;rw[ce]at w;rw[ad,bf]at G;have hil:=AO (d++ [i]);rw[ad,bf]at hil;have B:IntKind.wrap .i64 ((s.len:Int)-1)=((d.length:Nat):Int):=by rw[gi (by omega)];omega
  have sl:=w.sl (W:=No) fun _ _ _ h=>h
  obtain⟨a,ha,_,hv⟩:=sl.at (i:=d.length) (x:=i.raw) (by rw[aH (by rw[bd];omega),bd,fO];rfl);have hio:=cu.ok i (List.mem_append_right _ (aw.2 rfl));refine⟨_,rfl,s,vc aF 0,_,rfl,s,vc aF 0,?_⟩;rw[B];refine⟨⟨by omega,by omega⟩,a,ha,some ⟨i.b,0,none⟩,hv 0 _ rfl,i.ah,hv 1 _ rfl,i.own,hv 2 _ rfl,?_⟩
  refine bA fun h2 b2 k2=>?_
  have sl2:=sl.upd k2 fun _ h=>h.elim
  obtain⟨a',ha',_,L⟩:=sl2.at (i:=d.length) (x:=i.raw) (by rw[aH (by rw[bd];omega),bd,fO];rfl);rw[ha]at ha';cases ha';have c2:=k2.get0 aF;refine⟨⟨L 0 _ rfl,L 1 _ rfl,L 2 _ rfl⟩,vc c2 0,vc c2 0,?_⟩;refine dW (c:= [.pointer none,.string (⟨#[]⟩:ByteArray),.bool false]) (vs:= [.pointer (some ⟨i.b,0,none⟩),.string i.ah,.bool i.own]) b2 rfl fun h3 b3 hu3=>?_
  have Q:Upd No h' h3:=k2.own hu3 (aq _);have c3:=Q.get0 aF;have zcb:=aW aF;have z3:=aW b3;have s3:=Q.size;refine⟨_,rfl,s,vc c3 0,_,rfl,s,vc c3 0,?_⟩;rw[B];have hcap:=w.cap;refine⟨⟨by omega,by omega⟩,?_⟩
  simp only[Bd];refine⟨_,rfl,?_⟩;refine Ak (i:=0) (c':=MS ⟨aN s.a 0 s.cap 3,d.length,s.cap⟩) c3 (show 0<5 by decide) rfl fun V c4 o=>?_
  have E:=o.oth b3 (by omega);have bz4:=o.oth (Q.get0 bz) (by omega);have hpop:=OwnS.pop w;have D:=((hpop.upd Q fun _ _ h=>h).upd o fun b g e=>hcb (by have e:b=m:=e;rw[←e];exact g.1))
  rw[bd]at D;have huW:∀{j},It.Ok W h' j→It.Ok W V j:=fun oj=>(oj.updM Q fun _ h=>h.elim).updM o fun b g=>.inl (by have g:b=m:=g;rw[g];exact J)
  have cu4:Cur W V m (fun b=>C b∧b≠h.size) d:=⟨⟨_,c4,D⟩,fun j hj=>huW (cu.ok j (List.mem_append_left _ hj))⟩
  have q:=huW hio;have H:Upd (fun b=>C b∨b=m) h V:=(hu.tr Q.wide).trans o fun b g=>.inl (.inr g)
  have s4:=o.size;have hcs:iJ (d++ [i])=iJ d+i.cost:=by rw[tZ];rfl
  have N:=CM d i;have hic:1≤i.cost:=by unfold It.cost;split<;>omega
  refine⟨i.own,vc E 2,?_⟩;cases how:i.own with
  |false=>
   refine aB.2 ⟨_,vc E 0,i.ah,vc E 1,i.own,vc E 2,?_⟩;refine Mq cu4 q how (fun b g=>hC1 b (by omega)) (fun b g=>Z b g.1) J (fun hx=>hcb hx.1) (by omega) fun F S z hr5 hc5 O=>?_
   have U:Upd (fun b=>C b∨b=m) V F:=O.mono fun b g=>.inl (g.imp (fun h=>h.1) id)
   refine hI (d++S) () F ⟨z,?_,?_,O.get bz4 (fun hx=>by rcases hx with hx|hx;exact hx.2 rfl;omega),H.tr U,by have:=O.size;omega⟩ ?_
   ·rw[KP,hr5,←n,N]
   ·rw[tZ];omega
   ·rw[tZ];omega
  |true=>
   refine ak.2 ⟨i.ah,vc E 1,_,vc E 0,?_⟩;refine Az q.1 ⟨vc E 1,?_,?_⟩
   ·have:=hio.2.2.1
    unfold It.key at this;rw[ad]at this;have e1:i.ah.data.toList.length=i.ah.size:=by simp
    have e2:i.sl.data.toList.length=i.sl.size:=by simp
    omega
   refine⟨_,vc E 0,GF q.1 fun v hvw=>?_⟩
   have hpr:i.prs=(i.w.map fun v=>(i.key,v)).toList:=by unfold It.prs;rw[how];rfl
   have T:(⟨i.key.toArray⟩:ByteArray)=i.ah++i.sl:=by rw[←rU,ByteArray.data_append,Array.toList_append];rfl
   refine Join.intro (fun t F=>t=i.w.isSome∧Upd No V F) (fun R hR=>?_) ?_
   ·cases hw:i.w with
    |none=>exact ak.2 (hR _ _ ⟨by rw[hw];rfl,Upd.refl _ _⟩)
    |some u=>exact aB.2 ⟨_,rfl,_,wa c4 1 0,_,wa c4 1 1,true,wa c4 1 2,FC fun F P=>hR _ _ ⟨by rw[hw];rfl,P⟩⟩
   ·rintro t F ⟨rfl,P⟩
    have z:Cur W F m (fun b=>C b∧b≠h.size) d:=cu4.upd P (fun _ h=>h.elim) (fun _ _ _ h=>h) fun h=>h
    have X:=P.get0 bz4;have A:=H.tr (P.wide (M:=fun b=>C b∨b=m))
    have s5:=P.size;cases hw:i.w with
    |none=>
     refine ak.2 (hI d () F ⟨z,?_,by omega,X,A,by omega⟩ (by omega))
     rw[←n,N,hpr,hw];rfl
    |some u=>
     have hvu:=hvw u hw;subst hvu;refine aB.2 ?_;refine dW (c:=zPrL) (vs:= [.string (i.ah++i.sl),.string v]) X rfl fun h6 b6 y=>?_
     refine⟨_,vc b6 0,_,vc b6 1,?_⟩;rw[←T];refine hs h6 d i.key v (rM d) (by rw[←n,N,hpr,hw];rfl) rfl (by omega) ?_ (A.trans y fun b g=>.inr (dG (Eq.symm g)))
     exact(z.upd y (fun b g=>.inl (Z b (hC b (dG (Eq.symm g))))) (fun b g _ e=>g.2 e) (by show ¬m=h.size;omega)).sub fun b g _=>g.1
 ·have h0:its= []:=aD.1 (by omega)
  subst h0;refine dW (c:=zPrL) (vs:=zPrL) bz rfl fun h6 b6 y=>?_
  refine⟨_,vc b6 0,_,vc b6 1,hn h6 n.symm (hu.trans y fun b g=>.inr (dG (Eq.symm g)))⟩
end Go.Proofs
namespace Go.Proofs
open Go Go.Lift
abbrev MQ(x:Pr):List Value:= [.agg #[.string x.1,.string x.2]]
theorem Cc{h:ac}{fv:Value}{N:Nat}{S:List Pr→Prop}{Q:Nat→Prop}(hg:Gives PG fv MQ N S Q h)(hN:N≤100000000){K:SliceV→ac→Prop}
  (hk:∀s' h' xs,S xs→OwnS eA 2 af (fun b=>h.size≤b) h' s' xs→Upd No h h'→K s' h'):HC PG dM [.slice none 0 0,fv] [.c .slice] K h:=by
 refine jm ⟨none,0,0⟩ fv ?_;unfold fy al nv nW kB sF Nq;have k0:=Upd.hnew No h [.slice none 0 0] cE;have b0:=bN h [.slice none 0 0] cE;have hsz:(hnew h [.slice none 0 0] cE).size=h.size+1:=gX ..;have U:=hg.upd k0 fun _ _=>id
 refine aX ?_;generalize hnew h [.slice none 0 0] cE=h1 at U k0 b0 hsz;refine⟨fun lo hlo k=>?_⟩
 obtain⟨f,first,cap,rfl,G⟩:=U.run
 refine⟨f,first,cap,rfl,?_⟩
 have k1:Upd No h1 ((h1.push (.deferred (some []))).push (lo .ready none)):=(Upd.push No _ _).tr (Upd.push No _ _);have l2:((h1.push (.deferred (some []))).push (lo .ready none))[h1.size+1]? =some (lo .ready none):=by
  have:=pj (h1.push (.deferred (some []))) (lo .ready none);rwa [Array.size_push]at this
 have l1:((h1.push (.deferred (some []))).push (lo .ready none))[h1.size]? =some (.deferred (some [])):=(Upd.push No _ _).get0 (pj h1 _);refine G (.func (.yield (h1.size+1)) #[] #[]) (fun g A h'=>(∀b,A b→b<h'.size∧h.size≤b)∧A h.size∧A h1.size∧A (h1.size+1)∧h'[h1.size]? =some (.deferred (some []))∧h'[h1.size+1]? =some (lo .ready none)∧
   ∃s:SliceV,h'[h.size]? =some (.cells #[sv s] cE (0,0))∧OwnS eA 2 af (fun b=>A b∧h1.size+1<b) h' s g∧g.length≤N)
  (fun b=>b=h.size∨b=h1.size∨b=h1.size+1) No _ _ ⟨fun _ _ _ O b a=>(O.1 b a).1,fun g A h' h'' B O w Z=>?_,fun g A h' x K' O hlen hK=>?_⟩ ?_ k1 (fun _ _=>id) (fun b a hq=>?_) ?_
 ·obtain⟨H,T,m,n,Y,h6,s,h7,h8,h9⟩:=O
  exact⟨fun b a=>⟨aG (H b a).1 w.size,(H b a).2⟩,T,m,n,w.get Y (Z _ m),w.get h6 (Z _ n),s,w.get h7 (Z _ T),h8.upd w fun b a=>Z b a.1,h9⟩
 ·obtain⟨q,i,j,c,hd,y,s,F,ho,hpl⟩:=O
  refine k x h' K' y ?_;refine uz (p:=x) fun hp bp C=>?_
  have zp:=aW bp;have y:=C.get0 y;have F:=C.get0 F;have hd:=C.get0 hd;have hop:=ho.upd C fun _ _ h=>h
  have sp:=C.size;refine⟨y,?_⟩;have u:Upd (· =h1.size+1) hp (hp.setIfInBounds (h1.size+1) (lo .busy none)):=Upd.set _ _ rfl
  have lb:=gL (o:=lo .busy none) y;have sb:=u.size;refine aX ?_;generalize hp.setIfInBounds (h1.size+1) (lo .busy none)=T at u lb sb;have D:=(q _ i).1;have V:=(q _ c).1;have P:=u.get bp (by omega);have I:=u.get F (by omega);refine⟨s,by rw[cr,aP I];rfl,_,vc P 0,_,vc P 1,aX ?_⟩
  refine tB (p:=x) (M:=fun b=>((A b∧b<h'.size)∨T.size≤b)∧h1.size+1<b) ((hop.upd u fun b a=>by omega).more fun b a=>⟨.inl ⟨a.1,(q b a.1).1⟩,a.2⟩) (fun b a=>⟨.inr a,by have:=aW lb;omega⟩) (by omega) fun s' m ho3 d=>?_
  have t:m[h.size]? =some (.cells #[sv s] cE (0,0)):=d.get I (by omega);refine⟨by rw[cr];exact gR t (by simp),?_⟩;have z:Upd (· =h.size) m (hset m (bc h) (.slice s'.a s'.len s'.cap)):=Upd.hset _ _ rfl
  have E:(hset m (bc h) (.slice s'.a s'.len s'.cap))[h.size]? =some (.cells #[sv s'] cE (0,0)):=by
   rw[cr,wG t,gL t];rfl
  refine aX ?_;generalize hset m (bc h) (.slice s'.a s'.len s'.cap)=n at z E;have W:n[h1.size+1]? =some (lo .busy none):=z.get (d.get lb (by omega)) (by omega);refine⟨W,?_⟩;have e:Upd (· =h1.size+1) n (n.setIfInBounds (h1.size+1) (lo .ready none)):=Upd.set _ _ rfl
  have hl5:=gL (o:=lo .ready none) W;have J:Upd A h' n:=((C.wide.tr (u.mono (M':=A) fun b a=>.inl (a▸c))).trans d fun b a=>a.1.imp (fun h=>h.1) fun h=>by omega).trans z fun b a=>.inl (a▸i)
  have z3:=d.size;have z4:=z.size;have z5:=e.size;refine hK _ (fun b=>((A b∧b<h'.size)∨T.size≤b)∧b<n.size) ⟨fun b a=>⟨aG a.2 z5,a.1.elim (fun h=>(q b h.1).2) fun h=>by omega⟩,⟨.inl ⟨i,D⟩,by omega⟩,⟨.inl ⟨j,(q _ j).1⟩,by have:=(q _ j).1;omega⟩,⟨.inl ⟨c,V⟩,by omega⟩,
   e.get (z.get (d.get (u.get hd (by omega)) (by omega)) (by omega)) (by omega),hl5,s',e.get E (by omega),?_,by simp;omega⟩ (J.trans e fun b a=>.inl (a▸c)) fun b a=>a.1.imp (fun h=>h.1) fun h=>by omega
  exact(((ho3.upd z fun b a=>by omega).within).more fun b a=>⟨⟨a.1.1,a.2⟩,a.1.2⟩).upd e fun b a=>by omega
 ·refine⟨fun b a=>?_,.inl rfl,.inr (.inl rfl),.inr (.inr rfl),l1,l2,⟨none,0,0⟩,k1.get0 b0,OwnS.nil ia,cj _⟩
  have:=aW l2;rcases a with rfl|rfl|rfl<;>omega
 ·have:=hg.lt b hq
  rcases a with rfl|rfl|rfl<;>omega
 ·rintro xs A' h' hS ⟨q,i,j,c,hd,y,s,F,ho,hpl⟩ w hA'
  refine⟨.ready,none,by decide,y,?_⟩
  have e:Upd (· =h1.size+1) h' (h'.setIfInBounds (h1.size+1) (lo .exhausted none)):=Upd.set _ _ rfl
  show∃v:SliceV,aF (h'.setIfInBounds (h1.size+1) (lo .exhausted none)) (bc h)=some (.slice v.a v.len v.cap)∧_
  have X:=e.get hd (show ¬h1.size=h1.size+1 by omega)
  have R:=e.get F (show ¬h.size=h1.size+1 by omega)
  have L:=ho.upd e fun b a=>by omega
  generalize h'.setIfInBounds (h1.size+1) (lo .exhausted none)=Y at e X R L;refine⟨s,by rw[cr,aP R];rfl,X,?_⟩
  have k6:Upd (· =h1.size) Y (Y.setIfInBounds h1.size (.deferred none)):=Upd.set _ _ rfl
  refine hk s _ xs hS ((L.upd k6 fun b a=>by omega).more fun b a=>(q b a.1).2) ?_
  refine(((k0.tr k1).trans w fun b a=>?_).trans e fun b a=>.inr (by omega)).trans k6 fun b a=>.inr (by omega)
  rcases a with rfl|rfl|rfl<;>(right;omega)
theorem y9{h:ac}{a:Value}{N:Nat}{S:List Pr→Prop}{Q:Nat→Prop}(d:Gives PG a MQ N S Q h)(e:N≤100000000){K:SliceV→ac→Prop}
  (c:∀s' h' xs,S xs→OwnS eA 2 af (fun b=>h.size≤b) h' s' xs→Upd No h h'→K s' h'):HC PG fa [a] [.c .slice] K h:=by
 refine pH a ?_;unfold jS;exact Cc d e c
theorem GA{W:Nat→Prop}{h:ac}{b:Nat}{w:Option ByteArray}{F:Fo}(u:It.Ok W h ⟨b,⟨#[]⟩,false,⟨#[]⟩,w,F⟩)(C:∀y,h.size≤y→W y){K:Option Addr→ac→Prop}
  (z:∀h' cb,h.size≤cb→cb<h'.size→Cur W h' cb (fun y=>h.size≤y∧y≠cb) [⟨b,⟨#[]⟩,false,⟨#[]⟩,w,F⟩]→Upd No h h'→K (some ⟨cb,0,none⟩) h'):HC PG vr [.pointer (some ⟨b,0,none⟩),.agg #[.string ⟨#[]⟩,.string ⟨#[]⟩,.bool true],.bool false] [.c .ptr] K h:=by
 refine HK (some ⟨b,0,none⟩) (⟨#[]⟩,⟨#[]⟩,true) false ?_;unfold BE al dJ cI B4 bW BT Gj;refine bA fun s b1 k1=>⟨_,vc b1 0,_,vc b1 1,true,vc b1 2,bA fun q b2 t=>aB.2 ⟨_,rfl,⟨none,0,0⟩,vc b2 0,bA fun j b3 p=>?_⟩⟩
 have g:=k1.size;have H:=t.size;have B:=aW b2;have D:=aW b3;have v:OwnS IR 3 dk (fun _=>True) j ⟨some (bc q),1,1⟩ [(some ⟨b,0,none⟩,⟨#[]⟩,false)]:=⟨rfl,Dr,aq _,.inr ⟨q.size,[],rfl,trivial,b3,rfl⟩⟩
 refine⟨_,(v.sl (W:=No) fun _ _ _ h=>h).srow,?_⟩
 refine AppP.own (M:=fun y=>j.size≤y) (ys:= [(some ⟨b,0,none⟩,⟨#[]⟩,false)]) (OwnS.nil (f:=IR) Dr) rfl rfl rfl rfl (by omega) (by simp) (aq _) fun m G d a=>?_
 have x:=a.get (p.get0 b2) (by omega);refine⟨_,rfl,?_⟩;refine Ak (i:=0) (c':=MS m) x (show 0<5 by decide) rfl fun o A c=>?_
 have n:Upd No h o:=(((k1.tr t).tr p).trans a fun y k=>.inr (by omega)).own c g
 have I:=a.size;have E:=c.size;refine z o s.size g (by omega) ⟨⟨m,A,?_⟩,fun i hi=>?_⟩ n
 ·exact(d.upd c fun y k e=>by have e:y=s.size:=e;omega).more fun y k=>⟨by omega,by omega⟩
 ·rw[aw.1 hi]
  exact u.updM n fun _ h=>h.elim
theorem Ma(l m:List Pr):Et (l++m)=Et l++Et m:=by unfold Et;rw[ce]
theorem ES{W:Nat→Prop}{h:ac}{b:Nat}{l:List Pr}(t:RadAt W h b l)(hr:di l)(hf:Fit l)(hn:l.length≤60000){K:Value→ac→Prop}
  (hk:∀fv h',Gives PG fv MQ (2*l.length) (fun xs=>xs=l) (fun y=>y<h'.size) h'→Upd No h h'→K fv h'):HC PG td [.pointer (some ⟨b,0,none⟩),.agg #[.string ⟨#[]⟩,.string ⟨#[]⟩,.bool true],.bool false] [.c .raw] K h:=by
 refine F0 (some ⟨b,0,none⟩) (⟨#[]⟩,⟨#[]⟩,true) false ?_;unfold zl B4;refine bA fun h1 b1 k1=>bA fun h2 b2 k2=>bA fun x b3 k3=>?_
 have V:=(k1.tr k2).tr k3;have c1:=k3.get0 (k2.get0 b1);have c2:=k3.get0 b2;have z1:=aW c1;have z2:=aW c2;have z3:=aW b3;refine hk _ x ?_ V;obtain⟨w,F,r1,r2,r3⟩:=(((t.upd0 V).less (W':=fun y=>x.size≤y) fun y a=>.inr a)).ex
 have j:=Ml r2 hr r3;have hcnt:=Ea r2;have m:=congrArg fV j;unfold xV Et at m;rw[ad,bd]at m;refine⟨fun y a=>a,m9,#[],_,rfl,fun y J A M G K' E hj Z hq ha hk'=>?_⟩
 refine Bz y (bc h) (bc h1) (bc h2) ?_;unfold qY bD al nv nW pf sF eh EG;have d1:=Z.get c1 (hq _ z1);have d2:=Z.get c2 (hq _ z2);have d3:=Z.get b3 (hq _ z3);have s4:=Z.size;have io:It.Ok (fun y=>x.size≤y) G ⟨b,⟨#[]⟩,false,⟨#[]⟩,w,F⟩:=⟨r1.updM Z fun y a=>.inl (by
  rcases cd y x.size with P|P
  ·exact absurd a (hq y P)
  ·exact P),r2,by simp[It.key],fun p hp=>by
   rw[j]at hp
   obtain⟨q,hq',e⟩:=cX.1 hp
   have:=(hf q hq').1
   rw[←e]
   simpa[It.key]using this⟩
 refine⟨_,(by have:=vc d1 0;rw[bO,fe]at this;exact this),_,vc d2 0,_,vc d2 1,true,vc d2 2,false,(by have:=vc d3 0;rw[bO,fe]at this;exact this),?_⟩;refine GA io (fun y a=>bQ s4 a) fun h5 z hcb hcb5 cur k5=>?_
 have H:=E.lt _ _ _ hj;have hA3:∀y,A y→x.size≤y:=fun y a=>by
  rcases cd y x.size with P|P
  ·exact absurd P (ha y a)
  ·exact P
 have s5:=k5.size;have C:iJ [⟨b,⟨#[]⟩,false,⟨#[]⟩,w,F⟩]≤100000000:=by
  have:iJ [⟨b,⟨#[]⟩,false,⟨#[]⟩,w,F⟩]=2+2*Bh F:=by simp[iJ,It.cost]
  rw[this];omega
 have Q:rM [⟨b,⟨#[]⟩,false,⟨#[]⟩,w,F⟩]=Et l:=by
  rw[←j];simp[rM,It.prs,It.key]
 refine LoopP.ghost (fun(g:List Pr×List It×(Nat→Prop)) (_:Unit) h'=>Cur (fun y=>x.size≤y) h' z (fun y=>G.size≤y∧y≠z∧¬g.2.2 y) g.2.1∧J g.1 g.2.2 h'∧Upd A G h'∧(∀y,g.2.2 y→(A y∨G.size≤y)∧y≠z)∧Et g.1++rM g.2.1=Et l∧iJ g.2.1≤100000000∧h5.size≤h'.size) (fun g=>(rM g.2.1).length) ([],[⟨b,⟨#[]⟩,false,⟨#[]⟩,w,F⟩],A)
  ⟨cur.sub fun y a hlt=>⟨a.1,a.2,fun hx=>by have:=H y hx;omega⟩,E.keep _ _ _ _ No hj k5 (fun _ _ h=>h),k5.wide,fun y a=>⟨.inl a,by have:=H y a;omega⟩,by rw[Q];rfl,C,aq _⟩ ?_
 rintro I ⟨B,items,o⟩ ⟨⟩ h' ⟨cu,u,hu',c,d,hco,hsz⟩ hI;simp only at cu u c d hco;have X:=E.lt _ _ _ u;have Y:∀y,o y→x.size≤y:=fun y a=>(c y a).1.elim (hA3 y) fun h=>by omega
 refine Mz cu (fun y a=>⟨by omega,by omega,fun hx=>by have:=X y hx;omega⟩) (fun y a=>bQ s4 a.1) (bQ s4 hcb) (fun hx=>hx.2.1 rfl) hco (fun h6 hr0 i=>?_) fun h6 f k v R N hr2 hc6 cu6 i=>?_
 ·have hd:∀y,o y→¬((G.size≤y∧y≠z∧¬o y)∨y=z):=fun y a hx=>hx.elim (fun h=>h.2.2 a) (c y a).2
  have T:=E.keep _ _ _ _ _ u i hd;refine uz fun L b7 O=>?_
  refine Join.intro (fun t s=>t=true∧s=L) (fun R hR=>aB.2 (hR _ _ ⟨rfl,rfl⟩)) ?_
  rintro t s ⟨rfl,rfl⟩;refine aB.2 (hk' B o s ?_ (E.keep _ _ _ _ No T O (fun _ _ h=>h)) ?_ fun y a=>(c y a).1)
  ·rw[hr0,bG]at d
   exact Ia d
  ·exact(hu'.trans i fun y a=>.inr (by rcases a with a|a;exact a.1;omega)).tr O.wide
 ·have hd:∀y,o y→¬((G.size≤y∧y≠z∧¬o y)∨y=z):=fun y a hx=>hx.elim (fun h=>h.2.2 a) (c y a).2
  have T:=E.keep _ _ _ _ _ u i hd;refine uz (p:=(⟨k.toArray⟩,v)) fun L b7 O=>?_
  have hj7:=E.keep _ _ _ _ No T O (fun _ _ h=>h)
  have cu7:=cu6.upd O (fun _ h=>h.elim) (fun _ _ _ h=>h) fun h=>h
  have hu47:Upd A G L:=(hu'.trans i fun y a=>.inr (by rcases a with a|a;exact a.1;omega)).tr O.wide
  have s6:=i.size;have s7:=O.size;refine Join.intro (fun t s=>t=false∧∃U,J (B++ [(⟨k.toArray⟩,v)]) U s∧Upd o L s∧∀y,U y→o y∨L.size≤y) (fun R' hR=>?_) ?_
  ·refine ak.2 ⟨_,vc b7 0,_,vc b7 1,?_⟩
   refine E.step B o L (⟨k.toArray⟩,v) _ hj7 ?_ fun s U S n D=>hR _ _ ⟨rfl,U,S,n,D⟩
   have:=congrArg fV d;rw[N]at this;simp only[Et,ad,bd,az]at this;omega
  ·rintro t s ⟨rfl,U,S,n,D⟩
   refine ak.2 (hI (B++ [(⟨k.toArray⟩,v)],f,U) () s ⟨?_,S,?_,fun y a=>?_,?_,by simp only;omega,by have:=n.size;omega⟩ ?_)
   ·have c7:Cur (fun y=>x.size≤y) L z (fun y=>(G.size≤y∧y≠z∧¬o y)∧y<L.size) f:=cu7.sub fun y a hlt=>⟨a,hlt⟩
    exact(c7.upd n (fun y a=>.inl (Y y a)) (fun y a _ hx=>a.1.2.2 hx) (fun hx=>(c _ hx).2 rfl)).sub fun y a _=>⟨a.1.1,a.1.2.1,fun hx=>by
     rcases D y hx with h|h
     ·exact a.1.2.2 h
     ·have:=a.2;omega⟩
   ·exact hu47.trans n fun y a=>(c y a).1
   ·rcases D y a with h|h
    ·exact c y h
    ·exact⟨.inr (by omega),by omega⟩
   ·simp only
    rw[Ma,ax,hr2,←d,N];rfl
   ·simp only
    rw[N,hr2];simp
theorem DB{W:Nat→Prop}{h:ac}{b:Nat}{l:List Pr}(t:RadAt W h b l)(f:di l)(k:Fit l)(m:l.length≤60000){K:SliceV→ac→Prop}
  (g:∀s' h',OwnS eA 2 af (fun y=>h.size≤y) h' s' l→Upd No h h'→K s' h'):HC PG rQ [.pointer (some ⟨b,0,none⟩),.agg #[.string ⟨#[]⟩,.string ⟨#[]⟩,.bool true]] [.c .slice] K h:=by
 refine Em (some ⟨b,0,none⟩) (⟨#[]⟩,⟨#[]⟩,true) ?_;unfold xq al cI B4 EG;refine bA fun p b1 k1=>⟨_,vc b1 0,_,vc b1 1,true,vc b1 2,?_⟩
 refine ES (t.upd0 k1) f k m fun u q d a=>?_
 refine y9 d (by omega) fun i j xs e c n=>?_
 subst e;have o:=(k1.tr a).size;exact g i j (c.more fun y s=>by omega) ((k1.tr a).tr n)
theorem Gw{W:Nat→Prop}{x:Hs}{h:ac}{t:Tr}{l:List Pr}(i:TreeIs W h 1 x t l)(n:di l)(v:Fit l)(u:l.length≤60000){K:SliceV→ac→Prop}
  (p:∀s' h',OwnS eA 2 af (fun y=>h.size≤y) h' s' l→Upd No h h'→K s' h'):HC PG g6 [H9 t] [.c .slice] K h:=by
 refine qp t ?_;unfold md av ai ug E9;rcases i with⟨e,_⟩|⟨_,b,rfl,t⟩
 ·cases e
 refine bA fun k b1 k1=>⟨_,vc b1 0,aB.2 ⟨_,vc b1 5,?_⟩⟩
 refine HL ?_;unfold BF al nv cI Oz OD;refine bA fun w b2 q=>?_
 refine dW (c:= [.string (⟨#[]⟩:ByteArray),.string (⟨#[]⟩:ByteArray),.bool false]) (vs:= [.string (⟨#[]⟩:ByteArray),.string (⟨#[]⟩:ByteArray),.bool true]) b2 rfl fun s b3 d=>?_
 have f:Upd No k s:=q.own d (aq _);have a:=k1.tr f;refine⟨_,vc b3 0,_,vc b3 1,true,vc b3 2,vc (f.get0 b1) 5,?_⟩;refine DB (t.upd0 a) n v u fun j o g m=>p j o (g.more fun y z=>?_) (a.tr m)
 have:=a.size;omega
end Go.Proofs
namespace Go.Proofs
structure WO{α:Type}(lt:α→α→Bool):Prop where
 irr:∀a,lt a a=false
 asy:∀a b,lt a b=true→lt b a=false
 ntr:∀a b c,lt a b=false→lt b c=false→lt a c=false
section
variable {α:Type} {lt:α→α→Bool}
def Gi(lt:α→α→Bool)(x a:α):Bool:= !lt a x&& !lt x a
def Srt(lt:α→α→Bool)(l:List α):Prop:=l.Pairwise fun a b=>lt b a=false
structure Eqf(lt:α→α→Bool)(l l':List α):Prop where
 len:l'.length=l.length
 flt:∀x,l'.filter (Gi lt x)=l.filter (Gi lt x)
structure St(lt:α→α→Bool)(l l':List α):Prop where
 eqf:Eqf lt l l'
 srt:Srt lt l'
theorem Eqf.rfl(l:List α):Eqf lt l l:=⟨_root_.rfl,fun _=>_root_.rfl⟩
theorem Eqf.tr{a b c:List α}(h:Eqf lt a b)(k:Eqf lt b c):Eqf lt a c:=⟨k.len.trans h.len,fun x=>(k.flt x).trans (h.flt x)⟩
theorem Eqf.app{a b a' b':List α}(h:Eqf lt a a')(k:Eqf lt b b'):Eqf lt (a++b) (a'++b'):=
 ⟨by rw[ad,ad,h.len,k.len],fun x=>by rw[dY,dY,h.flt,k.flt]⟩
theorem FL(w:WO lt)(a:α):Gi lt a a=true:=by unfold Gi;rw[w.irr];rfl
theorem Eqf.mem(w:WO lt){l b:List α}(h:Eqf lt l b){a:α}:a∈b↔a∈l:=by
 have e:=h.flt a;constructor
 ·intro hm
  have:a∈b.filter (Gi lt a):=cF.2 ⟨hm,FL w a⟩;rw[e]at this;exact(cF.1 this).1
 ·intro hm
  have:a∈l.filter (Gi lt a):=cF.2 ⟨hm,FL w a⟩;rw[←e]at this;exact(cF.1 this).1
theorem MU(w:WO lt){x u v:α}(a:Gi lt x u=true)(b:Gi lt x v=true):lt v u=false:=by
 unfold Gi at a b;simp only[Bool.and_eq_true,Bool.not_eq_true']at a b;exact w.ntr v x u b.1 a.2
theorem Eqf.swap(w:WO lt){U V:List α}(h:∀u∈U,∀v∈V,lt v u=true):Eqf lt (U++V) (V++U):=by
 refine⟨by rw[ad,ad,Nat.add_comm],fun x=>?_⟩
 rw[dY,dY];cases hU:U.filter (Gi lt x)with
 |nil=>rw[bG,d4]
 |cons u us=>
  cases hV:V.filter (Gi lt x)with
  |nil=>rw[bG,d4]
  |cons v vs=>
   have d:u∈U.filter (Gi lt x):=by rw[hU];exact ay ..
   have e:v∈V.filter (Gi lt x):=by rw[hV];exact ay ..
   have a:=cF.1 d;have c:=cF.1 e;have b:=h u a.1 v c.1;rw[MU w a.2 c.2]at b;cases b
theorem Srt.app{a b:List α}(h:Srt lt a)(k:Srt lt b)(c:∀x∈a,∀y∈b,lt y x=false):Srt lt (a++b):=bP.2 ⟨h,k,c⟩
theorem Srt.left{a b:List α}(h:Srt lt (a++b)):Srt lt a:=(bP.1 h).1
theorem Srt.right{a b:List α}(h:Srt lt (a++b)):Srt lt b:=(bP.1 h).2.1
theorem Srt.cross{a b:List α}(h:Srt lt (a++b)):∀x∈a,∀y∈b,lt y x=false:=(bP.1 h).2.2
theorem Srt.nil:Srt lt ([]:List α):=dC
theorem Srt.one(a:α):Srt lt [a]:=List.pairwise_singleton ..
theorem KD(w:WO lt){S L G:List α}{t:α}(h:St lt S (L++G))(e:∀l∈L,lt t l=false)(b:∀g∈G,lt t g=true):St lt (S++ [t]) (L++t::G):=by
 refine⟨(h.eqf.app (Eqf.rfl [t])).tr ?_,?_⟩
 ·rw[ax]
  exact(Eqf.rfl L).app (Eqf.swap w (U:=G) (V:= [t]) fun u d v f=>by rw[aw.1 f];exact b u d)
 ·refine h.srt.left.app (aQ.2 ⟨fun g c=>w.asy t g (b g c),h.srt.right⟩) fun x hx y a=>?_
  rcases au.1 a with rfl|a
  ·exact e x hx
  ·exact h.srt.cross x hx y a
theorem Dz(w:WO lt){V1 V2:List α}{u:α}(h:Srt lt (V1++V2))(b:∀v∈V1,lt v u=true)(c:∀v∈V2,lt v u=false):St lt ([u]++(V1++V2)) (V1++u::V2):=by
 refine⟨?_,?_⟩
 ·rw[←ax]
  have:=(Eqf.swap w (U:= [u]) (V:=V1) fun x hx y a=>by rw[aw.1 hx];exact b y a).app (Eqf.rfl V2)
  rw[ax V1]at this;exact this
 ·refine h.left.app (aQ.2 ⟨c,h.right⟩) fun x hx y a=>?_
  rcases au.1 a with rfl|a
  ·exact w.asy x y (b x hx)
  ·exact h.cross x hx y a
theorem EN(w:WO lt){U1 U2:List α}{v:α}(h:Srt lt (U1++U2))(b:∀u∈U1,lt v u=false)(a:∀u∈U2,lt v u=true):St lt ((U1++U2)++ [v]) (U1++v::U2):=
 KD w ⟨Eqf.rfl _,h⟩ b a
theorem IW(w:WO lt){U1 U2 V1 V2 f R2:List α}(i:Srt lt (U1++U2))(g:Srt lt (V1++V2))(d:∀v∈V1,∀u∈U2,lt v u=true)(k:∀u∈U1,∀v∈V2,lt v u=false)(b:St lt (U1++V1) f)(c:St lt (U2++V2) R2):St lt ((U1++U2)++(V1++V2)) (f++R2):=by
 refine⟨?_,b.srt.app c.srt fun x hx y a=>?_⟩
 ·have e:Eqf lt ((U1++U2)++(V1++V2)) ((U1++V1)++(U2++V2)):=by
   have:=((Eqf.rfl U1).app (Eqf.swap w (U:=U2) (V:=V1) fun u j v m=>d v m u j)).app (Eqf.rfl (lt:=lt) V2)
   simp only[ax]at this⊢;exact this
  exact e.tr (b.eqf.app c.eqf)
 ·rcases bq.1 ((b.eqf.mem w).1 hx)with hx|hx<;>rcases bq.1 ((c.eqf.mem w).1 a)with a|a
  ·exact i.cross x hx y a
  ·exact k x hx y a
  ·exact w.asy x y (d x hx y a)
  ·exact g.cross x hx y a
inductive Runs(lt:α→α→Bool)(bs:Nat):List α→Prop where
 |last (l:List α):l.length≤bs→Srt lt l→Runs lt bs l
 |more (b l:List α):b.length=bs→Srt lt b→Runs lt bs l→Runs lt bs (b++l)
theorem Runs.split{a:Nat}{l:List α}(h:Runs lt a l)(c:a≤l.length):∃b r,l=b++r∧b.length=a∧Srt lt b∧Runs lt a r:=by
 cases h with
 |last _ h1 h2=>exact⟨l,[],(bG l).symm,by omega,h2,.last _ (cj _) Srt.nil⟩
 |more b r h1 h2 h3=>exact⟨b,r,_root_.rfl,h1,h2,h3⟩
theorem Runs.short{a:Nat}{l:List α}(h:Runs lt a l)(c:l.length≤a):Srt lt l:=by
 cases h with
 |last _ h1 h2=>exact h2
 |more b r h1 h2 h3=>
  rw[ad]at c;have:r= []:=aD.1 (by omega);rw[this,bG];exact h2
def Full(lt:α→α→Bool)(a:Nat)(d:List α):Prop:=∀z,Runs lt a z→Runs lt a (d++z)
theorem Full.nil{a:Nat}:Full lt a ([]:List α):=fun _ h=>h
theorem Full.app{a:Nat}{d b:List α}(h:Full lt a d)(f:b.length=a)(e:Srt lt b):Full lt a (d++b):=fun z c=>by
 rw[ax];exact h _ (.more b z f e c)
end
end Go.Proofs
namespace Go.Proofs
open Go Go.Lift
section
variable {α:Type} {f:α→List Value} {sz:Nat} {t:TypeId} {M:Nat→Prop} {h:ac} {s:SliceV} {P Q:List α} {x:α}
theorem jp(b:OwnS f sz t M h s (P++x::Q)){i:Nat}(hi:i=P.length):∃a,s.a=some a∧∀j v,(f x)[j]? =some v→aF h (adr (adr a (i*sz)) j)=some v:=by
 obtain⟨a,c,_,d⟩:=(b.sl (W:=No) fun _ _ _ h=>h).at (i:=i) (x:=x) (by rw[hi,aH (aq _),fO];rfl)
 exact⟨a,c,d⟩
theorem qL(g:OwnS f sz t M h s (P++x::Q))(y:α){a:Addr}(p:s.a=some a){i:Nat}(hi:i=P.length){G:ac→Prop}(n:∀h',OwnS f sz t M h' s (P++y::Q)→Upd M h h'→G h'):
  rk h (some (adr a (i*sz))) 0 (f y)∧At (ie h (adr a (i*sz)) 0 (f y)) G:=by
 obtain⟨a',d,hM,j,c,m⟩:=OwnS.setAt g (k:=i) (by rw[hi,ad,az];omega) y;rw[p]at d;cases d;refine⟨j,aX (n _ ?_ (m.mono fun b e=>.inl (by have e:b=a.block:=e;rw[e];exact hM)))⟩
 subst hi;have q:(P++x::Q).take P.length=P:=List.take_left;have o:(P++x::Q).drop (P.length+1)=Q:=by rw[←cV,List.drop_left];rfl
 rw[q,o]at c;exact c
end
theorem tU{α:Type}{f:α→List Value}{b:Nat}{t:TypeId}{M:Nat→Prop}{h:ac}{s:SliceV}{xs:List α}{x:α}(c:OwnS f b t M h s xs){i:Nat}(hi:xs[i]? =some x):∃a,s.a=some a∧∀j v,(f x)[j]? =some v→aF h (adr (adr a (i*b)) j)=some v:=by
 obtain⟨a,d,_,e⟩:=(c.sl (W:=No) fun _ _ _ h=>h).at hi
 exact⟨a,d,e⟩
theorem Li{α:Type}{A U X:List α}{i:Nat}(hi:A.length+U.length≤i):(A++(U++X))[i]? =X[i-A.length-U.length]?:=by
 rw[aH (by omega),aH (by omega)]
theorem Lj{α:Type}{A U V B:List α}{i k:Nat}{x:α}(hi:A.length+U.length+k=i)(a:V[k]? =some x):(A++(U++(V++B)))[i]? =some x:=by
 rw[Li (by omega),show i-A.length-U.length=k by omega,bL (aV.1 a).1];exact a
theorem Iy{α:Type}{A U X:List α}{i k:Nat}{x:α}(hi:A.length+k=i)(a:U[k]? =some x):(A++(U++X))[i]? =some x:=by
 rw[aH (by omega),show i-A.length=k by omega,bL (aV.1 a).1];exact a
theorem zY{i j:Nat}(h:i+j≤4000000000):IntKind.wrap .i64 (Int.fdiv (IntKind.wrap .u64 (IntKind.wrap .i64 ((i:Int)+(j:Int)))) (2^(min (1:Int).toNat (IntKind.bits .u64))))=(((i+j)/2:Nat):Int):=by
 have a:(2^(min (1:Int).toNat (IntKind.bits .u64)):Int)=2:=rfl;rw[a,gi (x:=(i:Int)+(j:Int)) (by omega),Go.IntWalk.u64_in _ (by omega),Int.fdiv_eq_ediv_of_nonneg _ (by omega),gi (by omega)];omega
theorem oa{α:Type}{lt:α→α→Bool}(w:WO lt){l:List α}(h:Srt lt l){i j:Nat}(c:i≤j){x y:α}(hx:l[i]? =some x) (b:l[j]? =some y):lt y x=false:=by
 obtain⟨hi,rfl⟩:=aV.1 hx;obtain⟨d,rfl⟩:=aV.1 b;rcases cd i j with a|a
 ·exact List.pairwise_iff_getElem.1 h i j hi d a
 ·have:i=j:=by omega
  subst this;exact w.irr _
theorem D7{α:Type}(l:List α):l= []∨∃a y,l=a++ [y]:=by
 rcases List.eq_nil_or_concat l with h|⟨a,y,h⟩
 ·exact .inl h
 ·exact .inr ⟨a,y,by rw[h,List.concat_eq_append]⟩
structure Cmp{α:Type}(lt:α→α→Bool)(f:α→List Value)(M:Nat→Prop)(Iv:ac→Prop)(V:Value):Prop where
 call:∀(a b:α) {h:ac} {K:Int→ac→Prop},Iv h→(∀h' e,Upd No h h'→decide (e<0)=lt a b→K e h')→HV PG V [.agg (f a).toArray,.agg (f b).toArray] [.c (.int .i64)] K h
 step:∀{h h':ac},Upd M h h'→Iv h→Iv h'
end Go.Proofs
