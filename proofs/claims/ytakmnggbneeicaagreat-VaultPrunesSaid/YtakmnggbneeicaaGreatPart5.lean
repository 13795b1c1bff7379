/- A part of the proof that the named laws of this program answer true, whatever the input. -/
import Derived.Test.YtakmnggbneeicaaGreatPart4
import Derived.Test.YtakmnggbneeicaaGreatLift3
open Classical renaming byContradiction→mw
open Go.IntKind renaming wrap→ac,bits→ak
open Go.Op renaming bytesLess→bI
open Int renaming tmod→fW
open List renaming mem_cons→aq,mem_cons_of_mem→ax,mem_cons_self→ar,mem_append→aF,mem_singleton→al,pairwise_map→fi,pairwise_singleton→cj,pairwise_cons→ay,mem_map→aP,mem_iff_getElem?→pa,getElem?_eq_some_iff→bG,getElem_inj→mq,getElem?_eq_getElem→af,length_singleton→bh,cons_append→dz,length_cons→au,length_append→ae,append_nil→be,append_assoc→aE,filter_append→ci,mem_filter→bE,nil_append→cS,pairwise_append→ct,getElem?_append_right→bq,getElem?_append_left→bO
open List.Pairwise renaming nil→cf
open Nat renaming le_refl→ai,lt_of_lt_of_le→az,zero_le→aN
open Option renaming some→bK
namespace Go.Proofs
open Go Go.Lift
def wG(s:VS)(n:ByteArray)(d:TD)(ps:List Int):(Int×Int)×VS:=
 if(eZ s.L s.nx ps).1.2≠0 then((0,(eZ s.L s.nx ps).1.2),s)
 else(((eZ s.L s.nx ps).1.1,0),{s with L:=(eZ s.L s.nx ps).2.1,nx:=(eZ s.L s.nx ps).2.2,D:=j5 s.D (eZ s.L s.nx ps).1.1 d,B:=j5 s.B n (eZ s.L s.nx ps).1.1})
theorem Mm{L:cT}{nx:Int}{ps:List Int}(h:(eZ L nx ps).1.2≠0):(eZ L nx ps).2=(L,nx):=by
 unfold eZ at h⊢;split
 ·rfl
 ·split
  ·rfl
  ·split
   ·rfl
   ·rename_i h1 h2 h3
    rw[if_neg h1,if_neg h2,if_neg h3]at h;exact absurd rfl h
theorem Ci{L:cT}{nx:Int}{ps:List Int}(h:(eZ L nx ps).1.2=0):eZ L nx ps=((nx,0),um L nx ps,nx+1):=by
 unfold eZ at h⊢;split at h
 ·rename_i h1;exact absurd h h1
 ·split at h
  ·rename_i h1;exact absurd h h1
  ·split at h
   ·have h:(6:Int)=0:=h
    omega
   ·rename_i h1 h2 h3;rw[if_neg h1,if_neg h2,if_neg h3]
theorem F4{h:ad}{k:ad→Prop}(a:∀h',h'=h→k h'):At h k:=bL (a h rfl)
theorem F5{κ β:Type}[DecidableEq κ]{k:κ}{v:β}:∀{l:List (κ×β)} {p:κ×β},p∈j5 l k v→p=(k,v)∨p∈l
 | [],p,h=>.inl (by simpa[j5]using h)
 |(k',u)::l,p,h=>by
  unfold j5 at h;split at h
  ·exact(aq.1 h).imp id (ax _)
  ·rcases aq.1 h with h|h
   ·exact .inr (h▸ar)
   ·exact(F5 h).imp id (ax _)
theorem j7{β:Type}{k:Int}{v:β}:∀{l:List (Int×β)},bC l k=some v→(k,v)∈l
 |(k',u)::l,h=>by
  unfold bC at h;split at h
  ·rename_i e;cases h;rw[e];exact ar
  ·exact ax _ (j7 h)
section
variable {W:Nat→Prop} {h0 h:ad} {vp:Nat} {s:VS}
theorem VaultAt.size(v:VaultAt W h vp s){y:Nat}(a:s.M y):y<h.size:=v.g.lt y (v.w y a)
theorem VS.mG{s:VS}{y:Nat}(h:zG s.gp s.gm y):s.M y:=h.imp id .inl
theorem CA(v:VaultAt W h0 vp s)(k0:Upd No h0 h)(n:ByteArray){d:TD}(i:TreeIs W h0 s.kind s.x d.1 d.2)(hr:bM d.2)(hf:Fit d.2){pb:Nat}(V:h0.size≤pb)(hpb2:pb<h.size){sl:SliceV}{ps:List Int}(ho:OwnS u32 1 31 (· =pb) h sl ps)(hn:ps.length≤1000000)
  {K:Int×Int→ad→Prop}(F:∀h',Upd s.M h0 h'→VaultAt W h' vp (wG s n d (nz ps)).2→K (wG s n d (nz ps)).1 h'):
  Eu 66 [pV vp,.string n,Ab d.1,.slice sl.a sl.len sl.cap] K h:=by
 refine cW (oY (some ⟨vp,0,none⟩) n d.1 sl) .nil Tryz.func66 Tryz.call66 ?_;dsimp only[oY,cB,dg,sM,yR,nh,aD,wL,aY,aj,cH,l7,tf,DZ];refine ba fun h1 b1 k1=>⟨_,rfl,_,vc (v.upd0 (k0.tr k1)).blk 6,?_⟩
 have s0:=k0.size;refine RH (ho.upd k1 fun _ _ h=>h) hn fun s5 h5 o5 u5=>?_
 have G:Upd No h0 h5:=(k0.tr k1).own u5 V;have q:=v.upd0 G;have b5:=u5.oth b1 (show h.size≠pb by omega)
 have hl5:(nz ps).length≤ps.length:=List.length_filter_le ..;have U:∀y,W y→y<h0.size:=v.g.lt;refine⟨vc q.blk 6,U9 q.g (by have:=v.inv.nx1;omega) (fun hm=>by have:=(v.inv.pos _ hm).2;omega) (o5.sl (W:=W) fun b hb _ hw=>by have:=U b hw;omega) (by omega) fun H t I=>?_⟩
 have J:∀y,zG s.gp s.gm y→W y∨h5.size≤y:=fun y a=>.inl (v.w y (VS.mG a))
 obtain⟨n1,n2,n3,n4,n5,n6,n7,n8,n9,P⟩:=VS.neB v.ne;have u:∀y,y≠s.gp→y≠s.gm→¬zG s.gp s.gm y:=fun y h1 h2 h=>h.elim h1 h2
 have Z:=q.t.upd t (u _ n2.symm n5.symm);have m7:=q.b.upd t (u _ n3.symm n6.symm);have E:=q.n.upd t (u _ n4.symm n7.symm);refine CondP.intro (fun e=>?_) fun e=>?_
 ·have e:(eZ s.L s.nx (nz ps)).1.2≠0:=by simpa using e
  have X:=Mm e;have hv:wG s n d (nz ps)=((0,(eZ s.L s.nx (nz ps)).1.2),s):=by unfold wG;rw[if_pos e]
  rw[hv]at F;rw[X]at I;exact F H (G.wide.tr (t.mono fun y a=>.inl (VS.mG a))) (q.turn t J I Z m7 E (fun d hd=>.inl hd) v.sub v.inv)
 ·have e:(eZ s.L s.nx (nz ps)).1.2=0:=by simpa using e
  have X:=Ci e;have o:=v.inv.add (nz ps);have hv:wG s n d (nz ps)=(((eZ s.L s.nx (nz ps)).1.1,0),{s with L:=(eZ s.L s.nx (nz ps)).2.1,nx:=(eZ s.L s.nx (nz ps)).2.2,D:=j5 s.D (eZ s.L s.nx (nz ps)).1.1 d,B:=j5 s.B n (eZ s.L s.nx (nz ps)).1.1}):=by unfold wG;rw[if_neg (by rw[e];simp)]
  rw[hv]at F;rw[X]at I F o⊢;have z:∀y,s.M y→vp≠y:=fun y a e=>v.wv (e▸v.w y a)
  have c7:=t.get q.blk fun hm=>z _ (VS.mG hm) rfl
  have w:=t.get b5 fun hm=>by have:=v.size (VS.mG hm);omega
  refine⟨_,rfl,_,vc c7 7,_,vc w 0,_,vc w 1,_,vc w 2,_,vc w 3,_,vc w 4,_,vc w 5,_,rfl,Z.isMap,F4 fun c j=>?_⟩
  have j:c=lY H s.tm (KE.enc s.nx) (Xb d):=j;have g:Upd (· =s.tm) H c:=by rw[j];exact mI H _ _ rfl
  have Y:MapAt KE Xb c s.tm (j5 s.D s.nx d):=by rw[j];exact Z.put s.nx d
  have x:=m7.upd g (fun e=>n8 e.symm)
  have C:=E.upd g (fun e=>n9 e.symm)
  have S:=I.upd g fun b hb=>.inl ⟨v.w b (.inr (.inr (.inl hb))),fun e=>n2 (e.symm.trans hb),fun e=>n5 (e.symm.trans hb)⟩
  have Q:=g.get c7 fun e=>z _ (.inr (.inr (.inl rfl))) e
  refine⟨_,rfl,_,vc Q 8,_,rfl,x.isMap,F4 fun f m=>?_⟩
  have m:f=lY c s.bm (kStr.enc n) (LY s.nx):=m;have k:Upd (· =s.bm) c f:=by rw[m];exact mI c _ _ rfl
  have N:MapAt kStr LY f s.bm (j5 s.B n s.nx):=by rw[m];exact x.put n s.nx
  have O:=Y.upd k n8;have A:=C.upd k (fun e=>P e.symm)
  have T:=S.upd k fun b hb=>.inl ⟨v.w b (.inr (.inr (.inr (.inl hb)))),fun e=>n3 (e.symm.trans hb),fun e=>n6 (e.symm.trans hb)⟩
  have R:Upd s.M h5 f:=((t.mono fun y a=>.inl (VS.mG a)).tr (g.mono fun y a=>.inl (.inr (.inr (.inl a))))).tr (k.mono fun y a=>.inl (.inr (.inr (.inr (.inl a)))))
  refine F f (G.wide.tr R) (q.turn R (fun y a=>.inl (v.w y a)) T O N A (fun p hp=>(F5 hp).elim (fun e=>.inr ?_) .inl) (fun id=>?_) o)
  ·subst e
   have ku:Upd s.M h0 f:=G.wide.tr R;exact⟨i.updM ku fun y a=>.inl (v.w y a),hr,hf⟩
  ·rw[uP,insV_ids.mem_iff,aq,←v.sub id]
   split
   ·rename_i hm
    exact⟨.inr,fun h=>h.elim (fun e=>e▸hm) fun h=>h⟩
   ·rw[aF,al,Or.comm]
end
end Go.Proofs
namespace Go.Proofs
open Go Go.Lift
abbrev zH:=List (ByteArray×Int)
abbrev NUp(l:zH):Prop:=(l.map (·.1)).Pairwise kl
structure NmR(B l:zH):Prop where
 up:NUp l
 ndB:(B.map (·.1)).Nodup
 iff:∀k v,bC B k=some v↔(k,v)∈l
def Az(l:zH)(n:ByteArray)(id:Int):zH:=l.takeWhile (fun p=>bI p.1.toList n.toList)++(n,id)::l.dropWhile (fun p=>bI p.1.toList n.toList)
section
variable {B l:zH} {n:ByteArray} {id:Int} {i:Nat}
theorem NUp.nd(u:NUp l):(l.map (·.1)).Nodup:=List.Pairwise.imp (fun{a b} (h:kl a b) (e:a=b)=>bN a (by rw[←e]at h;exact h)) u
theorem NmR.nil:NmR [] []:=⟨cf,cf,fun k v=>⟨fun h=>(by cases h),fun h=>(by cases h)⟩⟩
theorem VL{l:zH}(h:(l.map (·.1)).Nodup):l.Nodup:=(fi.1 h).imp fun h e=>h (by rw[e])
theorem NmR.pm(r:NmR B l):B.Perm l:=(List.perm_ext_iff_of_nodup (VL r.ndB) (VL r.up.nd)).2 fun p=>(eB (v:=p.2) r.ndB).symm.trans (r.iff p.1 p.2)
theorem NmR.at(r:NmR B l)(hi:i<l.length):bC B l[i].1=some l[i].2:=(r.iff _ _).2 (List.getElem_mem hi)
theorem NmR.no(r:NmR B l)(h:∀p∈l,p.1≠n):bC B n=none:=by
 cases e:bC B n with
 |none=>rfl
 |some v=>exact absurd rfl (h _ ((r.iff _ _).1 e))
theorem As{p:ByteArray×Int}:p∈Az l n id↔p=(n,id)∨p∈l:=by
 conv=>rhs;rw[←List.takeWhile_append_dropWhile (p:=fun p:ByteArray×Int=>bI p.1.toList n.toList) (l:=l)]
 unfold Az;simp only[aF,aq];exact⟨fun h=>h.elim (fun h=>.inr (.inl h)) fun h=>h.elim .inl fun h=>.inr (.inr h),fun h=>h.elim (fun h=>.inr (.inl h)) fun h=>h.elim .inl fun h=>.inr (.inr h)⟩
theorem U3(u:NUp l)(h:∀p∈l,p.1≠n):NUp (Az l n id):=by
 induction l with
 |nil=>exact cj ..
 |cons a l d=>
  have i:=ay.1 u;have d:=d i.2 fun p c=>h p (ax _ c)
  unfold Az at d⊢;rw[List.takeWhile_cons,List.dropWhile_cons];by_cases f:kl a.1 n
  ·have b:bI a.1.toList n.toList=true:=f
   rw[if_pos b,if_pos b];refine ay.2 ⟨fun k c=>?_,d⟩
   have m:k∈(Az l n id).map (·.1):=c
   obtain⟨p,g,e⟩:=aP.1 m;rcases As.1 g with o|g
   ·rw[←e,o];exact f
   ·exact i.1 _ (aP.2 ⟨p,g,e⟩)
  ·have b:¬bI a.1.toList n.toList=true:=f
   rw[if_neg b,if_neg b];have j:kl n a.1:=kz f (h a ar);refine ay.2 ⟨fun k c=>?_,u⟩
   rcases aq.1 c with rfl|c
   ·exact j
   ·exact dw j (i.1 k c)
theorem NmR.add(r:NmR B l)(h:∀p∈l,p.1≠n):NmR (j5 B n id) (Az l n id):=by
 refine⟨U3 r.up h,zB r.ndB,fun k v=>?_⟩
 rw[uQ,As,←r.iff];split
 ·rename_i e
  subst e;exact⟨fun e=>.inl (by cases e;rfl),fun e=>e.elim (fun e=>by cases e;rfl) fun e=>by rw[r.no h]at e;cases e⟩
 ·rename_i e
  exact⟨.inr,fun h=>h.resolve_left fun a=>e (by cases a;rfl)⟩
theorem NUp.uniq(u:NUp l){k:ByteArray}{v w:Int}(h:(k,v)∈l)(h':(k,w)∈l):v=w:=bK.inj (((eB u.nd).2 h).symm.trans ((eB u.nd).2 h'))
theorem NmR.set(r:NmR B l)(hi:i<l.length):NmR (j5 B l[i].1 id) (l.set i (l[i].1,id)):=by
 have em:(l.set i (l[i].1,id)).map (·.1)=l.map (·.1):=by
  apply List.ext_getElem (by simp);intro j d f;simp only[List.getElem_map,List.getElem_set];split
  ·rename_i e;subst e;rfl
  ·rfl
 refine⟨by unfold NUp;rw[em];exact r.up,zB r.ndB,fun k v=>?_⟩
 rw[uQ,pa];simp only[List.getElem?_set];split
 ·rename_i e
  subst e;refine⟨fun e=>⟨i,by simp only[if_true];cases e;rfl⟩,fun⟨j,a⟩=>?_⟩
  split at a
  ·cases a;rfl
  ·rename_i hne
   obtain⟨c,e⟩:=bG.1 a;refine absurd ?_ hne;have:=mq r.up.nd (i:=i) (j:=j) (h₀:=by simpa using hi) (h₁:=by simpa using c)
   exact this.1 (by simp[e])
 ·rename_i e
  rw[r.iff,pa];refine⟨fun⟨j,a⟩=>⟨j,?_⟩,fun⟨j,a⟩=>?_⟩
  ·rw[if_neg]
   ·exact a
   ·intro b;subst b;rw[af hi]at a;exact e (congrArg (·.1) (bK.inj a)).symm
  ·split at a
   ·cases a;exact absurd rfl e
   ·exact⟨j,a⟩
theorem NmR.del(r:NmR B l)(hi:i<l.length):NmR (jP B l[i].1) (l.take i++l.drop (i+1)):=by
 rw[←List.eraseIdx_eq_take_drop_succ];refine⟨r.up.sublist ((List.eraseIdx_sublist ..).map _),On r.ndB,fun k v=>?_⟩
 rw[nM,List.mem_eraseIdx_iff_getElem?];split
 ·rename_i e
  subst e;refine⟨fun h=>(by cases h),fun⟨j,d,a⟩=>?_⟩
  obtain⟨c,e⟩:=bG.1 a;have:=mq r.up.nd (i:=i) (j:=j) (h₀:=by simpa using hi) (h₁:=by simpa using c)
  exact absurd (this.1 (by simp[e])).symm d
 ·rename_i e
  rw[r.iff,pa];refine⟨fun⟨j,a⟩=>⟨j,fun b=>?_,a⟩,fun⟨j,_,a⟩=>⟨j,a⟩⟩
  subst b;rw[af hi]at a;exact e (congrArg (·.1) (bK.inj a)).symm
theorem NmR.list(r:NmR B l){ys:zH}(d:ys.Perm B)(f:ys.Pairwise fun a b=>¬kl b.1 a.1):ys=l:=by
 have up:l.Pairwise fun a b=>kl a.1 b.1:=fi.1 r.up
 refine List.Perm.eq_of_pairwise (le:=fun a b:ByteArray×Int=>¬kl b.1 a.1) (fun a b g hb i j=>?_) f (up.imp fun h h'=>bN _ (dw h h')) (d.trans r.pm)
 have e:a.1=b.1:=mw fun ne=>i (kz j ne)
 have c:=(d.trans r.pm).mem_iff.1 g;exact Prod.ext e (r.up.uniq (k:=a.1) c (by rw[e];exact hb))
end
end Go.Proofs
namespace Go.Proofs
open Go Go.Lift
abbrev zPrL:List Value:= [.string (⟨#[]⟩:ByteArray),.string (⟨#[]⟩:ByteArray)]
theorem yx{h:ad}{t:TypeId}{p:Pr}{k:ad→Prop}(d:∀h',h'[h.size]? =some (.cells #[.string p.1,.string p.2] t (0,0))→Upd No h h'→k h'):
  At (hnew h [.string (⟨#[]⟩:ByteArray),.string (⟨#[]⟩:ByteArray)] t) fun b=>pk b (some (aL h)) 0 [.string p.1,.string p.2]∧At (eN b (aL h) 0 [.string p.1,.string p.2]) k:=by
 refine ba fun f b1 k1=>?_
 exact cn (c:=zPrL) (vs:= [.string p.1,.string p.2]) b1 rfl fun e b2 a=>d e b2 (k1.own a (ai _))
theorem rX{t:TypeId}{M:Nat→Prop}{h:ad}{so:SliceV}{out:List Pr}{p:Pr}{K:SliceV→ad→Prop}(g:OwnS dQ 2 t M h so out)(e:∀b,h.size≤b→M b)(i:out.length+1≤1000000000)
  (c:∀s' h',OwnS dQ 2 t M h' s' (out++ [p])→Upd M h h'→K s' h'):
  ∃xs,SRow (hnew h [.string p.1,.string p.2] t) (some (aL h)) (1*2) xs∧AppP (some [.string (⟨#[]⟩:ByteArray),.string (⟨#[]⟩:ByteArray)]) 2 32 t so.a so.len so.cap 1 xs (hnew h [.string p.1,.string p.2] t) K:=by
 have k:=Upd.hnew No h [.string p.1,.string p.2] t;have d:OwnS dQ 2 t (fun _=>True) (hnew h [.string p.1,.string p.2] t) ⟨some (aL h),1,1⟩ [p]:=⟨rfl,fc,ai _,.inr ⟨h.size,[],rfl,trivial,bU ..,rfl⟩⟩
 refine⟨_,(d.sl (W:=No) fun _ _ _ h=>h).srow,?_⟩
 refine AppP.own (ys:= [p]) (g.upd k fun _ _ h=>h) rfl rfl rfl rfl (by omega) (by simp only[bh];omega) (e _ (by rw[dC];omega)) fun s' h' a f=>?_
 exact c s' h' a ((Upd.hnew M h _ _).tr f)
theorem Fz{p:Pr}:∀{A B:List Pr},(∀r∈A,kl r.1 p.1)→fG p (A++B)=A++fG p B
 | [],_,_=>rfl
 |r::A,B,h=>by
  rw[dz,ft,if_pos (h r (ar ..)),Fz fun q a=>h q (ax _ a)];rfl
theorem LW{p q:Pr}:∀{A:List Pr},(∃r∈A,kl p.1 r.1)→fG p (A++ [q])=fG p A++ [q]
 | [],h=>by obtain⟨r,f,_⟩:=h;simp at f
 |r::A,h=>by
  rw[dz,ft,ft];by_cases b:kl r.1 p.1
  ·rw[if_pos b,if_pos b,LW]
   ·rfl
   ·obtain⟨e,a,d⟩:=h
    rcases aq.1 a with rfl|a
    ·exact absurd (dw b d) (bN _)
    ·exact⟨e,a,d⟩
  ·rw[if_neg b,if_neg b]
   by_cases c:r.1=p.1
   ·rw[if_pos c,if_pos c];rfl
   ·rw[if_neg c,if_neg c];rfl
theorem LU{p:Pr}:∀{l:List Pr},(∀q∈l,kl p.1 q.1)→fG p l=p::l
 | [],_=>rfl
 |q::l,h=>by
  have a:=h q (ar ..);rw[ft,if_neg fun b=>bN _ (dw a b),if_neg fun e=>by rw[e]at a;exact bN _ a]
theorem H5{p:Pr}:∀{l:List Pr},bM l→fG p (l.filter fun q=>decide (q.1≠p.1))=fG p l
 | [],_=>rfl
 |r::l,a=>by
  have a:=ay.1 a;have keep:∀{l:List Pr},(∀q∈l,kl p.1 q.1)→(l.filter fun q=>decide (q.1≠p.1))=l:=fun{l} h=>List.filter_eq_self.2 fun q c=>decide_eq_true fun e=>by have:=h q c;rw[e]at this;exact bN _ this
  rw[List.filter_cons,ft];by_cases e:r.1=p.1
  ·have d:∀q∈l,kl p.1 q.1:=fun q c=>by rw[←e];exact a.1 q c
   rw[if_neg (by simp[e]),if_neg (by rw[e];exact bN _),if_pos e,keep d,LU d]
  ·rw[if_pos (by simpa using e),ft]
   by_cases b:kl r.1 p.1
   ·rw[if_pos b,if_pos b,H5 a.2]
   ·rw[if_neg b,if_neg b,if_neg e,if_neg e]
    have f:=kz b e;rw[keep fun q c=>dw f (a.1 q c)]
theorem kX{i n:Nat}(h:i<n)(a:n≤9223372036854775807):ac .i64 ((i:Int)+1)=((i+1:Nat):Int):=by rw[Go.IntWalk.i64_in _ (by omega)];omega
theorem B6(p:Pr):∀{l:List Pr},(fG p l).length≤l.length+1
 | []=>ai _
 |q::l=>by
  rw[ft];split
  ·have:=B6 p (l:=l);simp only[au];omega
  ·split<;>simp
theorem xX{W W':Nat→Prop}{h h':ad}{kind:Int}{x:Hs}{t u:Tr}{l l':List Pr}(i:TreeIs W h kind x t l)(a:TreeIs W' h' kind x u l'):lz t u=true:=by
 rcases i with⟨rfl,b,rfl,_⟩|⟨rfl,b,rfl,_⟩<;>rcases a with⟨e,b',rfl,_⟩|⟨e,b',rfl,_⟩
 ·simp[lz]
 ·cases e
 ·cases e
 ·simp[lz]
theorem Xt{k:Int}(a:0≤k)(_:k≤255):ac .i64 (fW k 2)=0∨ac .i64 (fW k 2)=1:=by
 have:fW k 2=k%2:=Int.tmod_eq_emod_of_nonneg a;rw[this,df (by omega)];omega
abbrev hsL(x:Hs):List Value:= [.int .u64 x.k0,.int .u64 x.k1,.int .u64 x.mask]
end Go.Proofs
namespace Go.Proofs
open Go Go.Lift
section
variable {W:Nat→Prop} {h:ad} {vp:Nat} {s:VS}
theorem yV(v:VaultAt W h vp s)(n:ByteArray){hd:Int}(hb:bC s.B n=some hd){d:TD}(i:TreeIs W h s.kind s.x d.1 d.2)(f:bM d.2)(k:Fit d.2)
  {K:Int×Int→ad→Prop}(g:∀h',Upd s.M h h'→VaultAt W h' vp (wG s n d (nz [hd])).2→K (wG s n d (nz [hd])).1 h'):
  Eu 23 [pV vp,.string n,Ab d.1] K h:=by
 refine lF (some ⟨vp,0,none⟩) n d.1 ?_;dsimp only[iW,dg,sM,fP,nh,aD,wL,aY,aj,cH,xz,te,ge,l7,tf,qs];refine ba fun p b1 k1=>gN (v.upd0 k1) n ?_
 rw[hb];refine ag.2 ⟨_,vc b1 0,_,vc b1 1,_,vc b1 2,_,vc b1 3,_,vc b1 4,_,vc b1 5,_,rfl,?_⟩;have c1:=k1.get0 v.blk;refine⟨_,gw c1 0 0,_,gw c1 0 1,_,gw c1 0 2,_,gw c1 0 3,_,gw c1 0 4,_,gw c1 0 5,?_⟩;refine wQ (t:=d.1) (u:=s.e) fun b c=>?_
 rw[xX i v.em];have b2:=c.get0 b1;refine ag.2 ⟨_,vc b2 0,_,vc b2 1,_,vc b2 2,_,vc b2 3,_,vc b2 4,_,vc b2 5,ba fun q b3 e=>?_⟩
 have a:=k1.tr c;have j:=a.size;refine CA v (a.tr e) n i f k (pb:=b.size) j (bw b3) (sl:=⟨some (aL b),1,1⟩) (ps:= [hd]) ⟨rfl,jp,ai _,.inr ⟨b.size,[],rfl,rfl,b3,rfl⟩⟩ (by simp) fun h' o m=>g h' o m
theorem Je(v:VaultAt W h vp s)(n:ByteArray){hd:Int}(hb:bC s.B n=some hd){id:Int}(hi:id=0∨id∈dF s.L)(f:id=0∨UpG s.L hd id)
  {K:Int→ad→Prop}(k:∀h',Upd s.M h h'→VaultAt W h' vp {s with B:=j5 s.B n id}→K 0 h'):fH 33 [pV vp,.string n,.int .u32 id] K h:=by
 refine gV (some ⟨vp,0,none⟩) n id ?_;dsimp only[fe,Ef,sL,fP,DZ,cB,cH];refine gN v n ?_;rw[hb];refine Join.plain (ag.2 (Eg v id ?_));rw[decide_eq_true hi];refine ag.2 (rx v id hd fun b e d k1=>?_)
 rw[d.2 f];have a:=v.upd0 k1;refine ag.2 ⟨_,rfl,_,vc a.blk 8,_,rfl,a.b.isMap,F4 fun g c=>?_⟩
 have c:g=lY e s.bm (kStr.enc n) (LY id):=c;have i:Upd (· =s.bm) e g:=by rw[c];exact mI e _ _ rfl
 exact k g (k1.wide.tr (i.mono fun y j=>.inl (.inr (.inr (.inr (.inl j)))))) (a.setB i (by rw[c];exact a.b.put n id))
end
end Go.Proofs
namespace Go.Proofs
open Go Go.Lift
abbrev Wk:=Option Addr×ByteArray×Bool
theorem OwnS.pop{α:Type}{f:α→List Value}{sz:Nat}{t:TypeId}{M:Nat→Prop}{h:ad}{s:SliceV}{xs:List α}{x:α}(a:OwnS f sz t M h s (xs++ [x])):OwnS f sz t M h ⟨aV s.a 0 s.cap sz,xs.length,s.cap⟩ xs:=by
 have g:=a.len;have hc:=a.cap;rw[ae,bh]at g;refine⟨rfl,a.ne,by simp only;omega,a.blk.imp id fun⟨b,c,e,hb,aK,d⟩=>⟨b,f x++c,?_,hb,?_,?_⟩⟩
 ·simp only;rw[e,sub_zero]
 ·rw[aK,List.flatMap_append,List.flatMap_cons,List.flatMap_nil,be,aE]
 ·rw[ae,(a.ne x).1,d]
  simp only;have:s.cap-xs.length=(s.cap-s.len)+1:=by omega
  rw[this,Nat.add_mul];omega
structure It where
 b:Nat
 ah:ByteArray
 own:Bool
 sl:ByteArray
 w:Option ByteArray
 F:Fo
def It.raw(i:It):Wk:=(some ⟨i.b,0,none⟩,i.ah,i.own)
def It.key(i:It):List UInt8:=i.ah.data.toList++i.sl.data.toList
def It.cost(i:It):Nat:=if i.own then 1 else 2+2*Wz i.F
end Go.Proofs
namespace Go.Proofs
open Go Go.Lift
theorem li{W:Nat→Prop}{h:ad}{b:Nat}{sl:ByteArray}{w:Option ByteArray}{F:Fo}(r:RxN W h b sl w F){K:ByteArray→ad→Prop}(a:K sl h):AD 253 [gS b] K h:=by
 refine zN _ ?_;dsimp only[sr,xw,cZ,cH];obtain⟨val,s,ow,ks,hb,_⟩:=r;exact ag.2 ⟨_,rfl,sl,eK (i:=0) hb,a⟩
theorem E1{W:Nat→Prop}{h:ad}{b:Nat}{sl:ByteArray}{w:Option ByteArray}{F:Fo}(r:RxN W h b sl w F){K:ByteArray×Bool→ad→Prop}(a:∀v,(∀u,w=some u→v=u)→K (v,w.isSome) h):q9 154 [gS b] K h:=by
 refine rZ _ ?_;dsimp only[nA,cZ,gl,cH];obtain⟨val,s,ow,ks,hb,hv,_⟩:=r;exact ag.2 ⟨_,rfl,val,eK (i:=2) hb,_,rfl,w.isSome,eK (i:=1) hb,a val (vw hv)⟩
theorem Lc{W:Nat→Prop}{h:ad}{b:Nat}{sl:ByteArray}{w:Option ByteArray}{F:Fo}(r:RxN W h b sl w F){K:ByteArray×Bool→ad→Prop}(a:K (w.getD ⟨#[]⟩,w.isSome) h):q9 154 [gS b] K h:=by
 refine rZ _ ?_;dsimp only[nA,cZ,gl,cH];obtain⟨val,s,ow,ks,hb,rfl,_⟩:=r;exact ag.2 ⟨_,rfl,_,eK (i:=2) hb,_,rfl,w.isSome,eK (i:=1) hb,a⟩
theorem BO{W:Nat→Prop}{h:ad}{b:Nat}{sl:ByteArray}{w:Option ByteArray}{F:Fo}(r:RxN W h b sl w F)(j:F.toL.length≤256){K:SliceV→ad→Prop}(e:∀s' h' ks,OwnS ql 1 51 (fun y=>h.size≤y) h' s' ks→RxL W h' ks F.toL→Upd No h h'→K s' h'):eP 155 [gS b] K h:=by
 refine A4 _ ?_;dsimp only[tO,pn,cg,cH];obtain⟨val,s,ow,ks,hb,hv,d,_,g⟩:=r;have c:=kK.1 g;refine ag.2 ⟨_,rfl,s,eK (i:=3) hb,?_⟩;refine Ir d (by rw[c.1];omega) fun s' h' f a=>e s' h' ks f (c.upd0 a) a
def It.Ok(W:Nat→Prop)(h:ad)(i:It):Prop:=RxN W h i.b i.sl i.w i.F∧gA i.F∧i.key.length≤10000∧∀p∈ze i.w i.F,i.key.length+p.1.length≤10000
theorem It.Ok.updM{W M:Nat→Prop}{h h':ad}(k:Upd M h h')(hm:∀b,M b→W b∨h.size≤b){i:It}(o:It.Ok W h i):It.Ok W h' i:=⟨o.1.updM k hm,o.2⟩
theorem Qm(lab:List UInt8)(w:Option ByteArray)(a b:Fo):An (.cons lab w a b)=((w.map fun v=>(([]:List UInt8),v)).toList++An a).map (fun p=>(lab++p.1,p.2))++An b:=rfl
end Go.Proofs
namespace Go.Proofs
open Go Go.Lift
end Go.Proofs
namespace Go.Proofs
open Go Go.Lift
abbrev Wy(x:Pr):List Value:= [.agg #[.string x.1,.string x.2]]
theorem Hc{h:ad}{fv:Value}{N:Nat}{S:List Pr→Prop}{Q:Nat→Prop}(hg:Gives PG fv Wy N S Q h)(hN:N≤100000000){K:SliceV→ad→Prop}
  (hk:∀s' h' xs,S xs→OwnS dQ 2 33 (fun b=>h.size≤b) h' s' xs→Upd No h h'→K s' h'):eP 322 [.slice none 0 0,fv] K h:=by
 refine kA ⟨none,0,0⟩ fv ?_;unfold fU bi nv yg kJ mY SM;have k0:=Upd.hnew No h [.slice none 0 0] 256;have b0:=bU h [.slice none 0 0] 256;have Z:(hnew h [.slice none 0 0] 256).size=h.size+1:=dC ..;have R:=hg.upd k0 fun _ _=>id
 refine bL ?_;generalize hnew h [.slice none 0 0] 256=h1 at R k0 b0 Z;refine⟨fun lo hlo e=>?_⟩
 obtain⟨f,first,cap,rfl,F⟩:=R.run
 refine⟨f,first,cap,rfl,?_⟩
 have k1:Upd No h1 ((h1.push (.deferred (some []))).push (lo .ready none)):=(Upd.push No _ _).tr (Upd.push No _ _);have l2:((h1.push (.deferred (some []))).push (lo .ready none))[h1.size+1]? =some (lo .ready none):=by
  have:=oh (h1.push (.deferred (some []))) (lo .ready none);rwa [Array.size_push]at this
 have l1:((h1.push (.deferred (some []))).push (lo .ready none))[h1.size]? =some (.deferred (some [])):=(Upd.push No _ _).get0 (oh h1 _);refine F (.func (.yield (h1.size+1)) #[] #[]) (fun pre A h'=>(∀b,A b→b<h'.size∧h.size≤b)∧A h.size∧A h1.size∧A (h1.size+1)∧h'[h1.size]? =some (.deferred (some []))∧h'[h1.size+1]? =some (lo .ready none)∧
   ∃s:SliceV,h'[h.size]? =some (.cells #[sv s] 256 (0,0))∧OwnS dQ 2 33 (fun b=>A b∧h1.size+1<b) h' s pre∧pre.length≤N)
  (fun b=>b=h.size∨b=h1.size∨b=h1.size+1) No _ _ ⟨fun _ _ _ z b hb=>(z.1 b hb).1,fun pre A h' h'' B z u W=>?_,fun pre A h' x K' z hlen hK=>?_⟩ ?_ k1 (fun _ _=>id) (fun b hb hq=>?_) ?_
 ·obtain⟨T,J,k,j,X,h6,s,h7,h8,h9⟩:=z
  exact⟨fun b hb=>⟨az (T b hb).1 u.size,(T b hb).2⟩,J,k,j,u.get X (W _ k),u.get h6 (W _ j),s,u.get h7 (W _ J),h8.upd u fun b hb=>W b hb.1,h9⟩
 ·obtain⟨m,g,i,c,hd,n,s,U,ho,hpl⟩:=z
  refine e x h' K' n ?_;refine yx (p:=x) fun hp bp w=>?_
  have zp:=bw bp;have n:=w.get0 n;have U:=w.get0 U;have hd:=w.get0 hd;have hop:=ho.upd w fun _ _ h=>h
  have sp:=w.size;refine⟨n,?_⟩;have t:Upd (· =h1.size+1) hp (hp.setIfInBounds (h1.size+1) (lo .busy none)):=Upd.set _ _ rfl
  have lb:=dE (o:=lo .busy none) n;have sb:=t.size;refine bL ?_;generalize hp.setIfInBounds (h1.size+1) (lo .busy none)=J at t lb sb;have O:=(m _ g).1;have I:=(m _ c).1;have E:=t.get bp (by omega);have C:=t.get U (by omega);refine⟨s,by rw[cz,bd C];rfl,_,vc E 0,_,vc E 1,bL ?_⟩
  refine rX (p:=x) (M:=fun b=>((A b∧b<h'.size)∨J.size≤b)∧h1.size+1<b) ((hop.upd t fun b hb=>by omega).more fun b hb=>⟨.inl ⟨hb.1,(m b hb.1).1⟩,hb.2⟩) (fun b hb=>⟨.inr hb,by have:=bw lb;omega⟩) (by omega) fun s' k ho3 d=>?_
  have q:k[h.size]? =some (.cells #[sv s] 256 (0,0)):=d.get C (by omega);refine⟨by rw[cz];exact eC q (by simp),?_⟩;have y:Upd (· =h.size) k (hset k (aL h) (.slice s'.a s'.len s'.cap)):=Upd.hset _ _ rfl
  have D:(hset k (aL h) (.slice s'.a s'.len s'.cap))[h.size]? =some (.cells #[sv s'] 256 (0,0)):=by
   rw[cz,ju q,dE q];rfl
  refine bL ?_;generalize hset k (aL h) (.slice s'.a s'.len s'.cap)=j at y D;have G:j[h1.size+1]? =some (lo .busy none):=y.get (d.get lb (by omega)) (by omega);refine⟨G,?_⟩;have a:Upd (· =h1.size+1) j (j.setIfInBounds (h1.size+1) (lo .ready none)):=Upd.set _ _ rfl
  have Y:=dE (o:=lo .ready none) G;have V:Upd A h' j:=((w.wide.tr (t.mono (M':=A) fun b hb=>.inl (hb▸c))).trans d fun b hb=>hb.1.imp (fun h=>h.1) fun h=>by omega).trans y fun b hb=>.inl (hb▸g)
  have z3:=d.size;have z4:=y.size;have z5:=a.size;refine hK _ (fun b=>((A b∧b<h'.size)∨J.size≤b)∧b<j.size) ⟨fun b hb=>⟨az hb.2 z5,hb.1.elim (fun h=>(m b h.1).2) fun h=>by omega⟩,⟨.inl ⟨g,O⟩,by omega⟩,⟨.inl ⟨i,(m _ i).1⟩,by have:=(m _ i).1;omega⟩,⟨.inl ⟨c,I⟩,by omega⟩,
   a.get (y.get (d.get (t.get hd (by omega)) (by omega)) (by omega)) (by omega),Y,s',a.get D (by omega),?_,by simp;omega⟩ (V.trans a fun b hb=>.inl (hb▸c)) fun b hb=>hb.1.imp (fun h=>h.1) fun h=>by omega
  exact(((ho3.upd y fun b hb=>by omega).within).more fun b hb=>⟨⟨hb.1.1,hb.2⟩,hb.1.2⟩).upd a fun b hb=>by omega
 ·refine⟨fun b hb=>?_,.inl rfl,.inr (.inl rfl),.inr (.inr rfl),l1,l2,⟨none,0,0⟩,k1.get0 b0,OwnS.nil fc,aN _⟩
  have:=bw l2;rcases hb with rfl|rfl|rfl<;>omega
 ·have:=hg.lt b hq
  rcases hb with rfl|rfl|rfl<;>omega
 ·rintro xs A' h' hS ⟨m,g,i,c,hd,n,s,U,ho,hpl⟩ u hA'
  refine⟨.ready,none,by decide,n,?_⟩
  have a:Upd (· =h1.size+1) h' (h'.setIfInBounds (h1.size+1) (lo .exhausted none)):=Upd.set _ _ rfl
  show∃v:SliceV,aK (h'.setIfInBounds (h1.size+1) (lo .exhausted none)) (aL h)=some (.slice v.a v.len v.cap)∧_
  have L:=a.get hd (show ¬h1.size=h1.size+1 by omega)
  have P:=a.get U (show ¬h.size=h1.size+1 by omega)
  have H:=ho.upd a fun b hb=>by omega
  generalize h'.setIfInBounds (h1.size+1) (lo .exhausted none)=X at a L P H;refine⟨s,by rw[cz,bd P];rfl,L,?_⟩
  have k6:Upd (· =h1.size) X (X.setIfInBounds h1.size (.deferred none)):=Upd.set _ _ rfl
  refine hk s _ xs hS ((H.upd k6 fun b hb=>by omega).more fun b hb=>(m b hb.1).2) ?_
  refine(((k0.tr k1).trans u fun b hb=>?_).trans a fun b hb=>.inr (by omega)).trans k6 fun b hb=>.inr (by omega)
  rcases hb with rfl|rfl|rfl<;>(right;omega)
theorem Md{h:ad}{a:Value}{N:Nat}{S:List Pr→Prop}{Q:Nat→Prop}(c:Gives PG a Wy N S Q h)(e:N≤100000000){K:SliceV→ad→Prop}
  (d:∀s' h' xs,S xs→OwnS dQ 2 33 (fun b=>h.size≤b) h' s' xs→Upd No h h'→K s' h'):eP 312 [a] K h:=by
 refine cW (lI a) .nil Tryz.func312 Tryz.call312 ?_;unfold lI;exact Hc c e d
end Go.Proofs
namespace Go.Proofs
structure WO{α:Type}(lt:α→α→Bool):Prop where
 irr:∀a,lt a a=false
 asy:∀a b,lt a b=true→lt b a=false
 ntr:∀a b c,lt a b=false→lt b c=false→lt a c=false
section
variable {α:Type} {lt:α→α→Bool}
def Me(lt:α→α→Bool)(x a:α):Bool:= !lt a x&& !lt x a
def Srt(lt:α→α→Bool)(l:List α):Prop:=l.Pairwise fun a b=>lt b a=false
structure Eqf(lt:α→α→Bool)(l l':List α):Prop where
 len:l'.length=l.length
 flt:∀x,l'.filter (Me lt x)=l.filter (Me lt x)
structure St(lt:α→α→Bool)(l l':List α):Prop where
 eqf:Eqf lt l l'
 srt:Srt lt l'
theorem Eqf.rfl(l:List α):Eqf lt l l:=⟨_root_.rfl,fun _=>_root_.rfl⟩
theorem Eqf.tr{a b c:List α}(h:Eqf lt a b)(k:Eqf lt b c):Eqf lt a c:=⟨k.len.trans h.len,fun x=>(k.flt x).trans (h.flt x)⟩
theorem Eqf.app{a b a' b':List α}(h:Eqf lt a a')(k:Eqf lt b b'):Eqf lt (a++b) (a'++b'):=
 ⟨by rw[ae,ae,h.len,k.len],fun x=>by rw[ci,ci,h.flt,k.flt]⟩
theorem FX(w:WO lt)(a:α):Me lt a a=true:=by unfold Me;rw[w.irr];rfl
theorem Eqf.mem(w:WO lt){l l':List α}(h:Eqf lt l l'){a:α}:a∈l'↔a∈l:=by
 have e:=h.flt a;constructor
 ·intro hm
  have:a∈l'.filter (Me lt a):=bE.2 ⟨hm,FX w a⟩;rw[e]at this;exact(bE.1 this).1
 ·intro hm
  have:a∈l.filter (Me lt a):=bE.2 ⟨hm,FX w a⟩;rw[←e]at this;exact(bE.1 this).1
theorem Vf(w:WO lt){x u v:α}(a:Me lt x u=true)(hv:Me lt x v=true):lt v u=false:=by
 unfold Me at a hv;simp only[Bool.and_eq_true,Bool.not_eq_true']at a hv;exact w.ntr v x u hv.1 a.2
theorem Eqf.swap(w:WO lt){U V:List α}(h:∀u∈U,∀v∈V,lt v u=true):Eqf lt (U++V) (V++U):=by
 refine⟨by rw[ae,ae,Nat.add_comm],fun x=>?_⟩
 rw[ci,ci];cases hU:U.filter (Me lt x)with
 |nil=>rw[be,cS]
 |cons u us=>
  cases hV:V.filter (Me lt x)with
  |nil=>rw[be,cS]
  |cons v vs=>
   have d:u∈U.filter (Me lt x):=by rw[hU];exact ar ..
   have hv:v∈V.filter (Me lt x):=by rw[hV];exact ar ..
   have c:=bE.1 d;have b:=bE.1 hv;have a:=h u c.1 v b.1;rw[Vf w c.2 b.2]at a;cases a
theorem Srt.app{a b:List α}(h:Srt lt a)(k:Srt lt b)(c:∀x∈a,∀y∈b,lt y x=false):Srt lt (a++b):=ct.2 ⟨h,k,c⟩
theorem Srt.left{a b:List α}(h:Srt lt (a++b)):Srt lt a:=(ct.1 h).1
theorem Srt.right{a b:List α}(h:Srt lt (a++b)):Srt lt b:=(ct.1 h).2.1
theorem Srt.cross{a b:List α}(h:Srt lt (a++b)):∀x∈a,∀y∈b,lt y x=false:=(ct.1 h).2.2
theorem Srt.nil:Srt lt ([]:List α):=cf
theorem Srt.one(a:α):Srt lt [a]:=cj ..
theorem RQ(w:WO lt){S L G:List α}{t:α}(h:St lt S (L++G))(e:∀l∈L,lt t l=false)(b:∀g∈G,lt t g=true):St lt (S++ [t]) (L++t::G):=by
 refine⟨(h.eqf.app (Eqf.rfl [t])).tr ?_,?_⟩
 ·rw[aE]
  exact(Eqf.rfl L).app (Eqf.swap w (U:=G) (V:= [t]) fun u c v hv=>by rw[al.1 hv];exact b u c)
 ·refine h.srt.left.app (ay.2 ⟨fun g d=>w.asy t g (b g d),h.srt.right⟩) fun x hx y a=>?_
  rcases aq.1 a with rfl|a
  ·exact e x hx
  ·exact h.srt.cross x hx y a
theorem Ji(w:WO lt){V1 V2:List α}{u:α}(h:Srt lt (V1++V2))(b:∀v∈V1,lt v u=true)(c:∀v∈V2,lt v u=false):St lt ([u]++(V1++V2)) (V1++u::V2):=by
 refine⟨?_,?_⟩
 ·rw[←aE]
  have:=(Eqf.swap w (U:= [u]) (V:=V1) fun x hx y a=>by rw[al.1 hx];exact b y a).app (Eqf.rfl V2)
  rw[aE V1]at this;exact this
 ·refine h.left.app (ay.2 ⟨c,h.right⟩) fun x hx y a=>?_
  rcases aq.1 a with rfl|a
  ·exact w.asy x y (b x hx)
  ·exact h.cross x hx y a
theorem K3(w:WO lt){U1 U2:List α}{v:α}(h:Srt lt (U1++U2))(b:∀u∈U1,lt v u=false)(a:∀u∈U2,lt v u=true):St lt ((U1++U2)++ [v]) (U1++v::U2):=
 RQ w ⟨Eqf.rfl _,h⟩ b a
theorem P6(w:WO lt){U1 U2 V1 V2 d R2:List α}(g:Srt lt (U1++U2))(j:Srt lt (V1++V2))(f:∀v∈V1,∀u∈U2,lt v u=true)(k:∀u∈U1,∀v∈V2,lt v u=false)(b:St lt (U1++V1) d)(c:St lt (U2++V2) R2):St lt ((U1++U2)++(V1++V2)) (d++R2):=by
 refine⟨?_,b.srt.app c.srt fun x hx y a=>?_⟩
 ·have e:Eqf lt ((U1++U2)++(V1++V2)) ((U1++V1)++(U2++V2)):=by
   have:=((Eqf.rfl U1).app (Eqf.swap w (U:=U2) (V:=V1) fun u i v hv=>f v hv u i)).app (Eqf.rfl (lt:=lt) V2)
   simp only[aE]at this⊢;exact this
  exact e.tr (b.eqf.app c.eqf)
 ·rcases aF.1 ((b.eqf.mem w).1 hx)with hx|hx<;>rcases aF.1 ((c.eqf.mem w).1 a)with a|a
  ·exact g.cross x hx y a
  ·exact k x hx y a
  ·exact w.asy x y (f x hx y a)
  ·exact j.cross x hx y a
inductive Runs(lt:α→α→Bool)(bs:Nat):List α→Prop where
 |last (l:List α):l.length≤bs→Srt lt l→Runs lt bs l
 |more (b l:List α):b.length=bs→Srt lt b→Runs lt bs l→Runs lt bs (b++l)
theorem Runs.split{a:Nat}{l:List α}(h:Runs lt a l)(c:a≤l.length):∃b r,l=b++r∧b.length=a∧Srt lt b∧Runs lt a r:=by
 cases h with
 |last _ h1 h2=>exact⟨l,[],(be l).symm,by omega,h2,.last _ (aN _) Srt.nil⟩
 |more b r h1 h2 h3=>exact⟨b,r,_root_.rfl,h1,h2,h3⟩
theorem Runs.short{a:Nat}{l:List α}(h:Runs lt a l)(c:l.length≤a):Srt lt l:=by
 cases h with
 |last _ h1 h2=>exact h2
 |more b r h1 h2 h3=>
  rw[ae]at c;have:r= []:=List.length_eq_zero_iff.1 (by omega);rw[this,be];exact h2
def Full(lt:α→α→Bool)(a:Nat)(d:List α):Prop:=∀z,Runs lt a z→Runs lt a (d++z)
theorem Full.nil{a:Nat}:Full lt a ([]:List α):=fun _ h=>h
theorem Full.app{a:Nat}{d b:List α}(h:Full lt a d)(hb:b.length=a)(c:Srt lt b):Full lt a (d++b):=fun z e=>by
 rw[aE];exact h _ (.more b z hb c e)
end
end Go.Proofs
namespace Go.Proofs
open Go Go.Lift
section
variable {α:Type} {f:α→List Value} {sz:Nat} {t:TypeId} {M:Nat→Prop} {h:ad} {s:SliceV} {P Q:List α} {x:α}
theorem kM(b:OwnS f sz t M h s (P++x::Q)){i:Nat}(hi:i=P.length):∃a,s.a=some a∧∀j v,(f x)[j]? =some v→aK h (adr (adr a (i*sz)) j)=some v:=by
 obtain⟨a,c,_,hv⟩:=(b.sl (W:=No) fun _ _ _ h=>h).at (i:=i) (x:=x) (by rw[hi,bq (ai _),Nat.sub_self];rfl)
 exact⟨a,c,hv⟩
theorem ui(q:OwnS f sz t M h s (P++x::Q))(y:α){a:Addr}(j:s.a=some a){i:Nat}(hi:i=P.length){G:ad→Prop}(g:∀h',OwnS f sz t M h' s (P++y::Q)→Upd M h h'→G h'):
  pk h (some (adr a (i*sz))) 0 (f y)∧At (eN h (adr a (i*sz)) 0 (f y)) G:=by
 obtain⟨a',d,m,n,c,o⟩:=OwnS.setAt q (k:=i) (by rw[hi,ae,au];omega) y;rw[j]at d;cases d;refine⟨n,bL (g _ ?_ (o.mono fun b hb=>.inl (by have hb:b=a.block:=hb;rw[hb];exact m)))⟩
 subst hi;have e:(P++x::Q).take P.length=P:=List.take_left;have p:(P++x::Q).drop (P.length+1)=Q:=by rw[←List.drop_drop,List.drop_left];rfl
 rw[e,p]at c;exact c
end
theorem xR{α:Type}{f:α→List Value}{sz:Nat}{t:TypeId}{M:Nat→Prop}{h:ad}{s:SliceV}{xs:List α}{x:α}(b:OwnS f sz t M h s xs){i:Nat}(hi:xs[i]? =some x):∃a,s.a=some a∧∀j v,(f x)[j]? =some v→aK h (adr (adr a (i*sz)) j)=some v:=by
 obtain⟨a,c,_,hv⟩:=(b.sl (W:=No) fun _ _ _ h=>h).at hi
 exact⟨a,c,hv⟩
theorem SV{α:Type}{A U X:List α}{i:Nat}(hi:A.length+U.length≤i):(A++(U++X))[i]? =X[i-A.length-U.length]?:=by
 rw[bq (by omega),bq (by omega)]
theorem SWz{α:Type}{A U V B:List α}{i k:Nat}{x:α}(hi:A.length+U.length+k=i)(a:V[k]? =some x):(A++(U++(V++B)))[i]? =some x:=by
 rw[SV (by omega),show i-A.length-U.length=k by omega,bO (bG.1 a).1];exact a
theorem PC{α:Type}{A U X:List α}{i k:Nat}{x:α}(hi:A.length+k=i)(a:U[k]? =some x):(A++(U++X))[i]? =some x:=by
 rw[bq (by omega),show i-A.length=k by omega,bO (bG.1 a).1];exact a
theorem Et{i j:Nat}(h:i+j≤4000000000):ac .i64 (Int.fdiv (ac .u64 (ac .i64 ((i:Int)+(j:Int)))) (2^(min (1:Int).toNat (ak .u64))))=(((i+j)/2:Nat):Int):=by
 have a:(2^(min (1:Int).toNat (ak .u64)):Int)=2:=rfl;rw[a,df (x:=(i:Int)+(j:Int)) (by omega),Go.IntWalk.u64_in _ (by omega),Int.fdiv_eq_ediv_of_nonneg _ (by omega),df (by omega)];omega
theorem qn{α:Type}{lt:α→α→Bool}(w:WO lt){l:List α}(h:Srt lt l){i j:Nat}(b:i≤j){x y:α}(hx:l[i]? =some x) (d:l[j]? =some y):lt y x=false:=by
 obtain⟨hi,rfl⟩:=bG.1 hx;obtain⟨c,rfl⟩:=bG.1 d;rcases Nat.lt_or_ge i j with a|a
 ·exact List.pairwise_iff_getElem.1 h i j hi c a
 ·have:i=j:=by omega
  subst this;exact w.irr _
theorem JV{α:Type}(l:List α):l= []∨∃l' y,l=l'++ [y]:=by
 rcases List.eq_nil_or_concat l with h|⟨l',y,h⟩
 ·exact .inl h
 ·exact .inr ⟨l',y,by rw[h,List.concat_eq_append]⟩
structure Cmp{α:Type}(lt:α→α→Bool)(f:α→List Value)(M:Nat→Prop)(Iv:ad→Prop)(V:Value):Prop where
 call:∀(a b:α) {h:ad} {K:Int→ad→Prop},Iv h→(∀h' e,Upd No h h'→decide (e<0)=lt a b→K e h')→HV PG V [.agg (f a).toArray,.agg (f b).toArray] [.c (.int .i64)] K h
 step:∀{h h':ad},Upd M h h'→Iv h→Iv h'
end Go.Proofs
