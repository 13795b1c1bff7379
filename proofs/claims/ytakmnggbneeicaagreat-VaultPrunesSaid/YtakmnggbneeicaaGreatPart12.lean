/- A part of the proof that the named laws of this program answer true, whatever the input. -/
import Derived.Test.YtakmnggbneeicaaGreatPart11
import Derived.Test.YtakmnggbneeicaaGreatPart10
import Derived.Test.YtakmnggbneeicaaGreatPart8
import Derived.Shelf.SlLaysF0
import Derived.Test.YtakmnggbneeicaaGreatTreeF
import Derived.Shelf.Lays2
import Derived.Test.YtakmnggbneeicaaGreatPart9
import Derived.Shelf.Sort.Plain
import Derived.Shelf.Slices.In.SortNone
import Derived.Shelf.SlSortCmp.NoneTotal
import Derived.Shelf.Spec.SearchS
import Derived.Laws.Cover1
import Derived.Sort.AssemblyPlain
open Array renaming size→aI,length_toList→dL,getElem?_modify→kI
open Bool renaming and_eq_true→bj
open Go.IntKind renaming wrap→ac
open Int renaming tdiv→oT,tdiv_eq_ediv_of_nonneg→lO
open List renaming filter_cons→aR,length_singleton→bh,mem_append→aF,take_succ_eq_append_getElem→av,mem_singleton→al,length_append→ae,take_of_length_le→aS,length_filter_le→bF,filter_append→ci,getElem_map→ir,filter_nil→gL,append_nil→be,getElem?_eq_getElem→af,getElem_mem→aH,getElem?_toArray→dP,getElem?_append_left→bO,getElem?_append_right→bq,getElem?_eq_none→kF,mem_cons→aq,mem_map→aP
open List.Pairwise renaming nil→cf
open List.Perm renaming refl→oQ
open Nat renaming le_refl→ai,zero_le→aN,le_trans→aW,lt_of_lt_of_le→az,beq→aJ,zero_add→aO,le_of_eq→cC
namespace Go.Proofs
open Go.Lift
theorem Par.filter{W:Nat→Prop}{h:ad}(p:Int→Bool):∀{l:List (Int×SliceV)} {m:cT},Par W h l m→Par W h (l.filter fun v=>p v.1) (m.filter fun v=>p v.1)
 | [],[],_=>trivial
 |v::l,u::m,q=>by
  rw[aR,aR,q.1];split
  ·exact⟨q.1,q.2.1,Par.filter p q.2.2⟩
  ·exact Par.filter p q.2.2
 | [],_::_,q=>q.elim
 |_::_,[],q=>q.elim
theorem TH{M:Nat→Prop}{h:ad}{so:SliceV}{out:List (Int×SliceV)}{v:Int×SliceV}{K:SliceV→ad→Prop}(g:OwnS vf 2 129 M h so out)(e:∀b,h.size≤b→M b)(i:out.length≤1000000000)
  (c:∀s' h',OwnS vf 2 129 M h' s' (out++ [v])→Upd M h h'→K s' h'):
  ∃xs,SRow (hnew h [.int .u32 v.1,.slice v.2.a v.2.len v.2.cap] 129) (some (aL h)) (1*2) xs∧AppP (some [.int .u32 0,.slice none 0 0]) 2 32 129 so.a so.len so.cap 1 xs (hnew h [.int .u32 v.1,.slice v.2.a v.2.len v.2.cap] 129) K:=by
 have k:=Upd.hnew No h [.int .u32 v.1,.slice v.2.a v.2.len v.2.cap] 129;have d:OwnS vf 2 129 (fun _=>True) (hnew h [.int .u32 v.1,.slice v.2.a v.2.len v.2.cap] 129) ⟨some (aL h),1,1⟩ [v]:=⟨rfl,KM,ai _,.inr ⟨h.size,[],rfl,trivial,bU ..,rfl⟩⟩
 refine⟨_,(d.sl (W:=No) fun _ _ _ h=>h).srow,?_⟩
 refine AppP.own (ys:= [v]) (g.upd k fun _ _ h=>h) rfl rfl rfl rfl (by omega) (by simp only[bh];omega) (e _ (by rw[dC];omega)) fun s' h' a f=>?_
 exact c s' h' a ((Upd.hnew M h _ _).tr f)
theorem Ru{W:Nat→Prop}{h:ad}{x:Nat}{L:cT}{nx:Int}(g:RefAt W h x L nx)(gd:Good L){s:SliceV}{keep:List Int}(hs:Nums W h s keep)(hn:keep.length≤1000)
  {K:SliceV→ad→Prop}(E:∀s' h' (st:List Int),(∀y,y∈st↔∃k∈keep,UpG L k y)→Nums (fun b=>b<h.size) h' s' ((dF L).filter fun y=> !decide (y∈st))→RefAt W h' x (L.filter fun v=>decide (v.1∈st)) nx→Upd (· =x) h h'→K s' h'):
  eP 82 [gS x,.slice s.a s.len s.cap] K h:=by
 refine cW (Gv (some ⟨x,0,none⟩) s) OC Tryz.func82 Tryz.call82 ?_;dsimp only[Gv,gn,sL,RD,dM,IS,MW,rz,cB,fQ,cH,gU,cV,sQ,cg,Q7,dR,nv,jA,qs];have hL:=gd.len;refine LoopP.ghost (fun(m:Nat×List Int) (t:SliceV×Int) h'=>t.2=(m.1:Int)∧m.1≤keep.length∧Upd No h h'∧OwnS u32 1 31 (fun b=>h.size≤b) h' t.1 m.2∧(∀y,y∈m.2↔∃k∈keep.take m.1,UpG L k y)∧m.2.length≤m.1*100000) (fun m=>keep.length-m.1) (0,[])
  ⟨rfl,aN _,Upd.refl _ _,OwnS.nil jp,fun y=>by simp,aN _⟩ ?_
 rintro I ⟨i,st⟩ ⟨so,t⟩ h' ⟨ht,hi,n,ho,z,P⟩ hI;(try simp only at ht hi ho z P)
 subst ht;have hs1:Nums W h' s keep:=hs.upd n fun _ h=>h.elim
 refine ao (fun c=>?_) fun hge=>?_
 ·rw[hs.len]at c
  have c:i<keep.length:=by omega
  obtain⟨a,ha,_,hx⟩:=Nums.at hs1 c;refine Join.plain ⟨by rw[hs.len];omega,a,ha,_,hx,uz (g.upd0 n) gd _ fun s1 h1 xs hx1 V Q N=>?_⟩
  have hxl:xs.length≤L.length:=by
   have:=kZ (hx1.imp fun h=>Int.ne_of_lt h) (l':=dF L) fun y hy=>((V y).1 hy).right
   simpa using this
  refine⟨_,Q.srow,?_⟩;refine AppP.own (ys:=xs) (ho.upd N fun _ _ h=>h) Q.len rfl (om xs) rfl (by omega) (by omega) (aW n.size N.size) fun s2 U ho2 d=>?_
  (try simp only)
  rw[cp c (by omega)];refine hI (i+1,st++xs) _ _ ⟨rfl,c,(n.tr N).trans d fun b hb=>.inr hb,ho2,fun y=>?_,?_⟩ (by(try simp only);omega)
  ·(try simp only)
   rw[aF,z,V,av c];constructor
   ·rintro(⟨k,E,n⟩|n)
    ·exact⟨k,List.mem_append_left _ E,n⟩
    ·exact⟨_,List.mem_append_right _ (al.2 rfl),n⟩
   ·rintro⟨k,E,n⟩
    rcases aF.1 E with E|E
    ·exact .inl ⟨k,E,n⟩
    ·rw[al.1 E]at n;exact .inr n
  ·simp only[ae]
   rw[Nat.succ_mul];omega
 ·rw[hs.len]at hge
  rw[aS (by omega)]at z;have g1:=g.upd0 n;obtain⟨Z,t0,Ls,h1,U,h3,hcap⟩:=g1.blk;have G:=h3.len;refine⟨_,rfl,Z,by rw[ce,bd h1];rfl,?_⟩
  have hst:Nums No h' so st:=ho.sl fun _ _ _ h=>h
  have T:st.length≤4611686018427387904:=by omega
  refine LoopP.ghost (fun(m:Nat×(Nat→Prop)×(Nat→Prop)) (t:SliceV×SliceV×Int) f=>t.2.2=(m.1:Int)∧m.1≤L.length∧Upd No h' f∧OwnS u32 1 31 m.2.1 f t.1 (((dF L).take m.1).filter fun y=> !decide (y∈st))∧
    OwnS vf 2 129 m.2.2 f t.2.1 ((Ls.take m.1).filter fun v=>decide (v.1∈st))∧(∀b,m.2.1 b→¬m.2.2 b)∧(∀b,m.2.1 b∨m.2.2 b→h'.size≤b∧b<f.size)) (fun m=>L.length-m.1) (0,No,No)
   ⟨rfl,aN _,Upd.refl _ _,OwnS.nil jp,OwnS.nil KM,fun _ h=>h.elim,fun _ h=>h.elim (fun h=>h.elim) fun h=>h.elim⟩ ?_
  rintro I2 ⟨j,A,B⟩ ⟨out,left,t⟩ f ⟨ht,hj,d,u,p,w,e⟩ S;(try simp only at ht hj u p w e)
  subst ht;have X:=U.upd d fun _ h=>h.elim
  refine ao (fun c=>?_) fun q=>?_
  ·have c:(j:Int)<(Z.len:Int):=c
   rw[U.len,G]at c;have c:j<L.length:=by omega
   obtain⟨a,ha,c0,c1⟩:=Jd X (G▸c);obtain⟨e1,e2⟩:=h3.get (G▸c) c;obtain⟨q1,O,C⟩:=Na f 129 (.int .u32 0) (.slice none 0 0) (Ls[j]'(G▸c));refine Join.plain ⟨by show(0:Int)≤(j:Int)∧(j:Int)<(Z.len:Int);rw[U.len,G];omega,a,ha,_,c0,_,c1,q1,_,jN O 0,Es ((hst.upd d fun _ h=>h.elim).upd C fun _ h=>h.elim) T _ (ao (fun hm=>?_) fun hm=>?_)⟩
   ·refine⟨_,jN O 0,Ls[j].2,jN O 1,?_⟩
    refine TH (M:=fun b=>B b∨aI f+1≤b) (v:=Ls[j]) ((p.upd C fun _ _ h=>h).more fun b hb=>.inl hb) (fun b hb=>.inr (aW (bw O) hb)) ?_ fun s5 D J o=>?_
    ·have:=bF (fun v:Int×SliceV=>decide (v.1∈st)) (Ls.take j);simp at this;omega
    ·(try simp only)
     rw[cp c (by omega)];refine S (j+1,A,fun b=>(B b∨aI f+1≤b)∧b<D.size) _ _ ⟨rfl,c,?_,?_,?_,?_,?_⟩ (by(try simp only);omega)
     ·exact(d.tr C).trans o fun b hb=>.inr (hb.elim (fun hb=>(e b (.inr hb)).1) fun hb=>by have:=d.size;omega)
     ·(try simp only)
      rw[av (by simpa using c),ci,aR,ir,if_neg (by rw[e1]at hm;simpa using hm),gL,be];exact(u.upd C fun _ _ h=>h).upd o fun b hb=>fun h=>h.elim (w b hb) fun h=>by have:=(e b (.inl hb)).2;omega
     ·(try simp only)
      rw[av (G▸c),ci,aR,if_pos (decide_eq_true hm)];exact J.within
     ·intro b hb F
      rcases F.1 with Y|Y
      ·exact w b hb Y
      ·have:=(e b (.inl hb)).2;omega
     ·intro b hb
      have hs5:=(C.wide.tr o).size;rcases hb with hb|⟨hb|hb,hb3⟩
      ·have:=e b (.inl hb);show h'.size≤b∧b<D.size;omega
      ·have:=e b (.inr hb);show h'.size≤b∧b<D.size;omega
      ·have:=d.size;show h'.size≤b∧b<D.size;omega
   ·refine⟨_,jN O 0,?_⟩
    refine ye (M:=fun b=>A b∨aI f+1≤b) ((u.upd C fun _ _ h=>h).more fun b hb=>.inl hb) (fun b hb=>.inr (aW (bw O) hb)) ?_ fun s5 D J o=>?_
    ·have:=bF (fun y=> !decide (y∈st)) ((dF L).take j);simp at this;omega
    ·(try simp only)
     rw[cp c (by omega)];refine S (j+1,(fun b=>(A b∨aI f+1≤b)∧b<D.size),B) _ _ ⟨rfl,c,?_,?_,?_,?_,?_⟩ (by(try simp only);omega)
     ·exact(d.tr C).trans o fun b hb=>.inr (hb.elim (fun hb=>(e b (.inl hb)).1) fun hb=>by have:=d.size;omega)
     ·(try simp only)
      rw[av (by simpa using c),ci,aR,ir,if_pos (by rw[e1]at hm;simpa using hm),←e1];exact J.within
     ·(try simp only)
      rw[av (G▸c),ci,aR,if_neg (by simpa using hm),gL,be];exact(p.upd C fun _ _ h=>h).upd o fun b hb=>fun h=>h.elim (fun h=>w b h hb) fun h=>by have:=(e b (.inr hb)).2;omega
     ·intro b hb F
      rcases hb.1 with Y|Y
      ·exact w b Y F
      ·have:=(e b (.inr F)).2;omega
     ·intro b hb
      have hs5:=(C.wide.tr o).size;rcases hb with⟨hb|hb,hb3⟩|hb
      ·have:=e b (.inl hb);show h'.size≤b∧b<D.size;omega
      ·have:=d.size;show h'.size≤b∧b<D.size;omega
      ·have:=e b (.inr hb);show h'.size≤b∧b<D.size;omega
  ·have q:¬(j:Int)<(Z.len:Int):=q
   rw[U.len,G]at q;have hjl:j=L.length:=by omega
   rw[aS (by simp;omega)]at u;rw[aS (by omega)]at p;have H:=n.tr d;have b2:=d.get0 h1;have e0:adr ⟨x,0,none⟩ 0=⟨x,0,none⟩:=rfl;have R:Upd (· =x) f (hset f ⟨x,0,none⟩ (.slice left.a left.len left.cap)):=Upd.hset _ _ rfl
   have hxl:x<h.size:=g.lt _ g.wp;refine⟨_,rfl,by rw[e0];exact eC b2 (by simp),?_⟩
   rw[e0];refine E out _ st z ?_ ?_ (H.wide.tr R)
   ·refine(u.sl (W:=fun b=>b<h.size) fun b hb _ hw=>?_).upd R fun b hb=>.inl (by omega)
    have:=(e b (.inl hb)).1;have:=n.size;omega
   ·refine⟨⟨left,t0,(Ls.filter fun v=>decide (v.1∈st)),?_,?_,?_,p.cap⟩,g.wp,fun b hb=>az (g.lt b hb) (H.wide.tr R).size⟩
    ·rw[ju b2,dE b2];rfl
    ·refine(p.sl (W:=W) fun b hb _ hw=>?_).upd R fun b hb=>.inl (hb▸g.wp)
     have:=(e b (.inr hb)).1;have:=g.lt b hw;have:=n.size;omega
    ·exact Par.upd R (fun b hb=>.inl (hb▸g.wp)) (Par.filter (fun y=>decide (y∈st)) (Par.upd d (fun _ h=>h.elim) h3))
end Go.Proofs
namespace Go.Proofs
open Go Go.Lift
theorem Met.eq{L:cT}{a b c d:Int}(h:Met L a b c)(k:Met L a b d):c=d:=by
 obtain⟨f,i,m⟩:=h;obtain⟨k1,g,j⟩:=k;have o:c≤d:=i.elim (fun e=>by omega) fun e=>k1 c e.1 e.2
 have n:d≤c:=g.elim (fun e=>by omega) fun e=>f d e.1 e.2
 omega
theorem Wi{a b:Int}(c:a≠0)(hb:b≠0):nz [a,b]= [a,b]:=by unfold nz;simp[c,hb]
theorem XG{c b:Prop}[Decidable c][Decidable b]{a:Bool→ad→Prop}{h:ad}(d:a (decide (c∨b)) h):Join a (fun J=>CondP (decide c) (J true h) (J (decide b) h)):=
 Join.plain (ao (fun e=>by rw[decide_eq_true (.inl e)]at d;exact d) fun e=>by
  rw[show decide (c∨b)=decide b from decide_eq_decide.2 ⟨fun h=>h.resolve_left e,.inr⟩]at d
  exact d)
theorem Pz{W:Nat→Prop}{h:ad}{nt:TypeId}{s:SliceV}{l:zH}(J:Sl vZ 2 W h s l)(S:l.length≤100000){REST:SliceV×Int→ad→Prop}(Q:∀h' s',OwnS u32 1 31 (fun y=>h.size≤y) h' s' (l.map (·.2))→Upd No h h'→REST (s',(l.length:Int)) h'):
  LoopP (fun G (d:SliceV×Int) e=>CondP (decide (d.2<(s.len:Int))) (
   Join (fun(C:SliceV) E=>G (C,ac .i64 (d.2+1)) E) (fun F=>
    (((0:Int)≤d.2∧d.2<((s.len:Nat):Int))∧∃a19:Addr,s.a=some a19∧
     ∃v20:ByteArray,aK e (adr (adr a19 (d.2.toNat*2)) 0)=some (.string v20)∧
     ∃v21:Int,aK e (adr (adr a19 (d.2.toNat*2)) 1)=some (.int .u32 v21)∧
     At (hnew e [.string (⟨#[]⟩:ByteArray),.int .u32 0] nt) (fun m=>
      (pk m (some (aL e)) 0 [.string v20,.int .u32 v21]∧
       At (eN m (aL e) 0 [.string v20,.int .u32 v21]) (fun g=>
        ∃v24:Int,aK g (adr (aL e) 1)=some (.int .u32 v24)∧
        At (hnew g [.int .u32 v24] 31) (fun p=>
         ∃xs26,SRow p (some (aL g)) (1*1) xs26∧
         AppP (some [.int .u32 0]) 1 4 31 d.1.a d.1.len d.1.cap 1 xs26 p (fun o q=>F o q)))))))) (REST d e)) (⟨none,0,0⟩,0) h:=by
 have R:=J.len;refine LoopP.ghost (fun(i:Nat) (t:SliceV×Int) h'=>t.2=(i:Int)∧i≤l.length∧OwnS u32 1 31 (fun y=>h.size≤y) h' t.1 ((l.take i).map (·.2))∧Upd No h h') (fun i=>l.length-i) 0 ⟨rfl,aN _,OwnS.nil jp,Upd.refl _ _⟩ ?_
 rintro I i ⟨so,t⟩ e ⟨H,hi,u,j⟩ O;simp only at H u;subst H;have L:=j.size;refine ao (fun f=>?_) fun v=>?_
 ·have f:i<l.length:=by simp only at f;omega
  obtain⟨a,N,_,hv⟩:=(J.upd j fun _ h=>h.elim).at (af f)
  refine Join.plain ⟨⟨by simp only;omega,by simp only;omega⟩,a,N,_,hv 0 _ rfl,_,hv 1 _ rfl,ba fun m z D=>cn (c:= [.string ⟨#[]⟩,.int .u32 0]) (vs:=vZ l[i]) z rfl fun g x A=>⟨_,vc x 1,bL ?_⟩⟩
  have k:Upd No e g:=D.own A (ai _);have K:=k.size;refine ye (M:=fun y=>h.size≤y) (u.upd k fun _ _ h=>h) (fun b hb=>by omega) (by simp;omega) fun o q B w=>?_
  rw[cp (n:=l.length) f (by omega)];exact O (i+1) _ _ ⟨rfl,f,by rw[av f,List.map_append];exact B,(j.tr k).fresh w fun y P=>P⟩ (by omega)
 ·have:i=l.length:=by simp only at v;omega
  subst this;rw[List.take_length]at u;exact Q e so u j
section
variable {W:Nat→Prop} {h:ad} {xp xg:Nat} {kind:Int} {x:Hs} {re:Rt} {q:RS}
theorem EB(g:Rn W h xp xg kind x re q)(u:q.B.length≤1000){n m:ByteArray}{p:Int}(e:(∀b∈q.B,b.1≠n)∨∀b∈q.B,b.1≠m){K:Int×SliceV×Int→ad→Prop}(d:∀h',Upd No h h'→K (0,⟨none,0,0⟩,4) h'):
  SR 35 [gS xp,.string n,.string m,.int .i64 p] K h:=by
 refine Db (some ⟨xp,0,none⟩) n m p ?_;dsimp only[xH,nv,Ef,sL,qR,mL,uB,cg,kR,KK,nV,jg,dM,wL,aY,aj,D1,dR,jA,fQ,cH,wJ,dg,uR];refine⟨_,rfl,q.sB,vc g.blk 7,_,rfl,q.sB,vc g.blk 7,?_⟩;refine jZ g.b (by omega) (fun i hi s t a=>⟨vc (a.get0 g.blk) 7,jZ (g.upd0 a).b (by omega) (fun j o k=>?_) fun _ f c=>XG ?_⟩) fun _ t a=>⟨vc (a.get0 g.blk) 7,jZ (g.upd0 a).b (by omega) (fun j o k f c=>XG ?_) fun _ f c=>XG ?_⟩
 ·exact False.elim (e.elim (fun h=>h _ (aH hi) s) fun h=>h _ (aH o) k)
 ·rw[decide_eq_true (.inr (by omega))];exact aw.2 (d _ (a.tr c))
 ·rw[decide_eq_true (.inl (by omega))];exact aw.2 (d _ (a.tr c))
 ·rw[decide_eq_true (.inl (by omega))];exact aw.2 (d _ (a.tr c))
set_option maxHeartbeats 1000000 in
theorem uy(g:Rn W h xp xg kind x re q)(_:kind=0∨kind=1)(gd:Good q.L)(hnx:0≤q.nx)(nd:(q.D.map (·.1)).Nodup)(hL:q.L.length≤100000)(hD:q.D.length≤100000)(hn:q.B.length≤1000){n m:ByteArray}{i k:Nat}(hi:i<q.B.length)(hk:k<q.B.length)(nu:NUp q.B)(ei:q.B[i].1=n)(ek:q.B[k].1=m){p:Int}{K:Int×SliceV×Int→ad→Prop}
  (hkP:(p<0∨3<p)→∀h',Upd No h h'→K (0,⟨none,0,0⟩,1) h')
  (hk1:0≤p→p≤3→(q.B[k].2=0∨UpG q.L q.B[i].2 q.B[k].2)→∀h',Upd No h h'→K (q.B[i].2,⟨none,0,0⟩,0) h')
  (hk2:0≤p→p≤3→¬(q.B[k].2=0∨UpG q.L q.B[i].2 q.B[k].2)→(q.B[i].2=0∨UpG q.L q.B[k].2 q.B[i].2)→∀h' s',Upd (· =xp) h h'→Rn W h' xp xg kind x re {q with sB:=s',B:=q.B.set i (q.B[i].1,q.B[k].2)}→K (q.B[k].2,⟨none,0,0⟩,0) h')
  (hk3:0≤p→p≤3→¬(q.B[k].2=0∨UpG q.L q.B[i].2 q.B[k].2)→¬(q.B[i].2=0∨UpG q.L q.B[k].2 q.B[i].2)→∃u B O T N,∃tm:Tr,Met q.L q.B[i].2 q.B[k].2 u∧IR q u B∧IR q q.B[i].2 O∧IR q q.B[k].2 T∧Few N B.2∧Few N O.2∧Few N T.2∧N≤1000∧
   (p=0→ns B.2 O.2 T.2 p≠[]→∀h' s',Sl sP 7 (fun b=>b<h.size) h' s' ((ns B.2 O.2 T.2 p).map (BB B.2 O.2 T.2))→Upd No h h'→K (0,s',8) h')∧
   ((p=0→ns B.2 O.2 T.2 p= [])→∀h' r' s' ts sB,Sl sP 7 (fun b=>b<h.size) h' s' ((ns B.2 O.2 T.2 p).map (BB B.2 O.2 T.2))→Upd (RW xg xp q) h h'→(∀y,sb ts y→sb q.ts y∨h.size≤y)→
    (∀W':Nat→Prop,(∀y,W' y→(W y∨sb (wN q i hi (tm,is B.2 O.2 T.2 p) (nz [q.B[i].2,q.B[k].2]) r' ts sB).ts y))→(∀y,RW xg xp (wN q i hi (tm,is B.2 O.2 T.2 p) (nz [q.B[i].2,q.B[k].2]) r' ts sB) y→W' y)→Rn W' h' xp xg kind x re (wN q i hi (tm,is B.2 O.2 T.2 p) (nz [q.B[i].2,q.B[k].2]) r' ts sB))→
    K (if(eZ q.L q.nx (nz [q.B[i].2,q.B[k].2])).1.2=0 then((eZ q.L q.nx (nz [q.B[i].2,q.B[k].2])).1.1,s',0)else(0,⟨none,0,0⟩,(eZ q.L q.nx (nz [q.B[i].2,q.B[k].2])).1.2)) h')):
  SR 35 [gS xp,.string n,.string m,.int .i64 p] K h:=by
 refine Db (some ⟨xp,0,none⟩) n m p ?_;dsimp only[xH,nv,Ef,sL,qR,mL,uB,cg,kR,KK,nV,jg,dM,wL,aY,aj,D1,dR,jA,fQ,cH,wJ,dg,uR];have lb:=g.b.len;have lt:=g.lt;have same:∀{j I:Nat} (hj:j<q.B.length) (J:I<q.B.length),q.B[j].1=q.B[I].1→j=I:=fun{j I} hj J e=>by
  have:=List.getElem_inj nu.nd (i:=j) (j:=I) (h₀:=by simpa using hj) (h₁:=by simpa using J)
  exact this.1 (by simp[e])
 refine⟨_,rfl,q.sB,vc g.blk 7,_,rfl,q.sB,vc g.blk 7,?_⟩;refine jZ g.b (by omega) (fun j hj ej h6 k6=>?_) fun X=>absurd ei (X _ (aH hi))
 obtain rfl:i=j:=same hi hj (ei.trans ej.symm);refine⟨vc (k6.get0 g.blk) 7,jZ (g.upd0 k6).b (by omega) (fun I J ej' h8 k8=>?_) fun X=>absurd ek (X _ (aH hk))⟩
 obtain rfl:k=I:=same hk J (ek.trans ej'.symm);have Z:=k6.tr k8;refine XG ?_;rw[decide_eq_false (by omega)];refine ag.2 (XG (ao (fun e=>hkP (e.imp id fun e=>by omega) h8 Z) fun e=>?_))
 have p0:0≤p:=Int.not_lt.1 fun h=>e (.inl h)
 have p3:p≤3:=Int.not_lt.1 fun h=>e (.inr (by omega))
 have g8:=g.upd0 Z;obtain⟨a,ha,_,hv⟩:=g8.b.at (af hi);obtain⟨a',ha',_,hv'⟩:=g8.b.at (af hk);refine⟨_,rfl,q.sB,vc g8.blk 7,⟨by omega,by omega⟩,a,ha,_,hv 1 _ rfl,_,rfl,q.sB,vc g8.blk 7,⟨by omega,by omega⟩,a',ha',_,hv' 1 _ rfl,?_⟩
 refine yQ g8 gd hL _ _ fun b1 h24 hb1 k24=>?_
 have C:=Z.tr k24;have g24:=g.upd0 C;refine CondP.intro (fun e1=>hk1 p0 p3 (hb1.1 e1) h24 C) fun e1=>?_
 have n1:¬(q.B[k].2=0∨UpG q.L q.B[i].2 q.B[k].2):=fun hh=>by rw[hb1.2 hh]at e1;cases e1
 refine yQ g24 gd hL _ _ fun b2 h26 hb2 k26=>?_
 have H:=C.tr k26;have U:=g.upd0 H;refine CondP.intro (fun e2=>IU U hi _ hn fun h28 s' u28 G=>hk2 p0 p3 n1 (hb2.1 e2) h28 s' (H.wide.tr u28) G) fun e2=>?_
 have n2:¬(q.B[i].2=0∨UpG q.L q.B[k].2 q.B[i].2):=fun hh=>by rw[hb2.2 hh]at e2;cases e2
 obtain⟨u,B,O,T,N,tm,mt,xB,xO,xT,fB,fO,fT,hN,c0,c1⟩:=hk3 p0 p3 n1 n2;refine⟨_,rfl,_,vc U.blk 5,Rs U.r gd _ _ fun Y h32 m1 m2 m3 k32=>?_⟩
 have eb:Y=u:=Met.eq ⟨m1,m2,m3⟩ mt;subst eb;have R:=H.tr k32;refine IV (g.upd0 R) nd xB hL hD fun h34 rB jB k34=>Fh fun h36 b36 k36=>?_
 have Q:=(R.tr k34).tr k36;refine IV (g.upd0 Q) nd xO hL hD fun h38 rO jO k38=>Fh fun h40 b40 V=>?_
 have P:=(Q.tr k38).tr V;refine IV (g.upd0 P) nd xT hL hD fun h42 rT jT k42=>Fh fun h44 A S=>?_
 have c:=(P.tr k42).tr S;have f:=k42.tr S;have z:=(k38.tr V).tr f;have E:=z.get0 b36;have WV:=f.get0 b40;refine⟨_,vc E 0,_,vc E 1,_,vc E 2,_,vc E 3,rB.2.2.2.2,vc E 4,_,vc WV 0,_,vc WV 1,_,vc WV 2,_,vc WV 3,rO.2.2.2.2,vc WV 4,_,vc A 0,_,vc A 1,_,vc A 2,_,vc A 3,rT.2.2.2.2,vc A 4,?_⟩;refine Sh ((jB.upd0 k36).upd0 z) ((jO.upd0 V).upd0 f) (jT.upd0 S) (fun y hy=>az (lt y hy) c.size) fB fO fT hN hN hN p0 p3 (fun e0 hc h61 s' hs L=>Fh fun w v D=>?_) fun hc h61 r' s' I hs L=>Fh fun w v D=>?_
 ·exact aw.2 (c0 e0 hc w s' ((hs.less fun b hb=>.inl (az hb c.size)).upd D fun _ h=>h.elim) ((c.tr L).tr D))
 ·refine ag.2 ⟨_,vc v 0,_,vc v 1,_,vc v 2,_,vc v 3,r'.2.2.2.2,vc v 4,ba fun h69 b69 k69=>?_⟩
  have o:=D.tr k69;have F:=(c.tr L).tr o;have s069:=F.size;have sm:=(c.tr (L.tr D)).size;have e2:nz [q.B[i].2,q.B[k].2]= [q.B[i].2,q.B[k].2]:=Wi (fun e=>n2 (.inl e)) fun e=>n1 (.inl e)
  rw[e2]at c1;refine Cx (g.upd0 F) hnx hL (by have:=g.n;omega) hn hi (d:=(tm,is B.2 O.2 T.2 p)) (I.upd0 o) (ps:= [q.B[i].2,q.B[k].2]) (OwnS.sl (s:=⟨some (aL w),2,2⟩) (M:=(· =w.size)) (t:=31) ⟨rfl,jp,ai _,.inr ⟨w.size,[],rfl,rfl,b69,rfl⟩⟩ fun b hb _ hw=>by have hb:b=w.size:=hb;have:=lt b hw;omega) (by simp) fun h71 ts sB u71 ht G=>?_
  have hs2:=((hs.less (W':=fun b=>b<h.size) fun b hb=>.inl (az hb c.size)).upd o fun _ h=>h.elim).upd u71 fun b hb=>.inl (lt b (g.rw b hb))
  have r:=c1 hc h71 r' s' ts sB hs2 (F.wide.tr u71) (fun y hy=>(ht y hy).imp id fun h=>by omega) G
  refine CondP.intro (fun e=>?_) fun e=>?_
  ·rw[if_neg (by simpa using e)]at r;exact r
  ·rw[if_pos (by simpa using e)]at r;exact r
theorem PZ(g:Rn W h xp xg kind x re q)(Q:Good q.L)(V:q.B.length≤300)(T:q.T.length≤300){K:SliceV→ad→Prop}
  (P:∀h' s' (st:List Int),(∀y,y∈st↔∃k∈(q.B++q.T).map (·.2),UpG q.L k y)→Nums (fun b=>b<h.size) h' s' ((dF q.L).filter fun y=> !decide (y∈st))→Rn W h' xp xg kind x re {q with L:=q.L.filter fun v=>decide (v.1∈st)}→Upd (· =xg) h h'→K s' h'):
  eP 37 [gS xp] K h:=by
 refine cW (Dk (some ⟨xp,0,none⟩)) MA Tryz.func37 Tryz.call37 ?_;dsimp only[Dk,gn,nv,Ez,Rl,yR,cg,cH,Mo,dR,cZ,jA,fQ,qs,wJ,dg,uR];refine Join.plain ⟨_,rfl,q.sB,vc g.blk 7,_,rfl,q.sT,vc g.blk 8,ba fun R U f=>⟨vc (f.get0 g.blk) 8,vc (f.get0 g.blk) 7,?_⟩⟩
 have Z:=f.size;refine Hd (M:=fun y=>R.size≤y) (out:= []) (c:=q.sB.cap) (OwnS.nil rI) (g.upd0 f).b (ai _) (by simp;omega) fun X F S D=>?_
 have Y:=D.size;have z:Upd No h F:=f.fresh D fun y O=>by omega
 refine⟨vc (z.get0 g.blk) 8,Hd S (c:=q.sT.cap) (g.upd0 z).t (by omega) (by simp;omega) fun A d i t=>?_⟩
 have m:Upd No h d:=z.fresh t fun y O=>by omega
 rw[List.nil_append]at i;have j:Sl vZ 2 (fun y=>d.size≤y) d A (q.B++q.T):=i.sl fun b _ H E=>by omega
 refine Pz (nt:=125) j (by simp;omega) fun N s' u s=>?_
 have a:=m.tr s;have e:=g.upd0 a;have C:=a.size;have I:=m.size;refine⟨_,rfl,_,vc e.blk 5,Ru e.r Q (u.sl (W:=W) fun b hb _ G=>by have:=g.lt b G;omega) (by simp;omega) fun p o st B J w n=>P o p st B (J.less fun b hb=>.inl (by omega)) (e.graph n w) (a.wide.tr n)⟩
end
end Go.Proofs
set_option maxRecDepth 100000
namespace Go.Proofs
open Go Go.Lift Go.Shelf
def Yq:Ren:=⟨fun n=>bif aJ n 6 then 90 else bif aJ n 14 then 139 else bif aJ n 15 then 140 else bif aJ n 20 then 195 else bif aJ n 21 then 196 else bif aJ n 22 then 197 else bif aJ n 23 then 198 else bif aJ n 24 then 199 else bif aJ n 25 then 200 else bif aJ n 26 then 201 else bif aJ n 27 then 202 else bif aJ n 28 then 203 else bif aJ n 29 then 204 else bif aJ n 46 then 266 else bif aJ n 47 then 267 else bif aJ n 48 then 268 else bif aJ n 49 then 269 else bif aJ n 50 then 270 else bif aJ n 57 then 303 else 0,
 fun n=>bif aJ n 0 then 0 else bif aJ n 3 then 3 else bif aJ n 4 then 4 else bif aJ n 5 then 5 else bif aJ n 9 then 9 else bif aJ n 22 then 45 else bif aJ n 24 then 48 else bif aJ n 25 then 174 else bif aJ n 39 then 231 else bif aJ n 45 then 300 else bif aJ n 46 then 301 else bif aJ n 50 then 267 else bif aJ n 53 then 31 else bif aJ n 55 then 22 else bif aJ n 66 then 358 else bif aJ n 70 then 362 else bif aJ n 76 then 389 else bif aJ n 77 then 390 else 0,
 fun _=>0⟩
theorem wd:SlLaysF0.n6 PG Yq:=by
 constructor
 ·kernel_rfl
 ·exact⟨"slices.SortFunc[[]quickset/vault.Name,quickset/vault.Name]",by decide,by kernel_rfl⟩
 ·exact⟨"slices.pdqsortCmpFunc[quickset/vault.Name]",by decide,by kernel_rfl⟩
 ·kernel_rfl
 ·exact⟨"slices.insertionSortCmpFunc[quickset/vault.Name]",by decide,by kernel_rfl⟩
 ·exact⟨"slices.heapSortCmpFunc[quickset/vault.Name]",by decide,by kernel_rfl⟩
 ·exact⟨"slices.breakPatternsCmpFunc[quickset/vault.Name]",by decide,by kernel_rfl⟩
 ·exact⟨"slices.choosePivotCmpFunc[quickset/vault.Name]",by decide,by kernel_rfl⟩
 ·exact⟨"slices.reverseRangeCmpFunc[quickset/vault.Name]",by decide,by kernel_rfl⟩
 ·exact⟨"slices.partialInsertionSortCmpFunc[quickset/vault.Name]",by decide,by kernel_rfl⟩
 ·exact⟨"slices.partitionEqualCmpFunc[quickset/vault.Name]",by decide,by kernel_rfl⟩
 ·exact⟨"slices.partitionCmpFunc[quickset/vault.Name]",by decide,by kernel_rfl⟩
 ·kernel_rfl
 ·kernel_rfl
 ·exact⟨"slices.siftDownCmpFunc[quickset/vault.Name]",by decide,by kernel_rfl⟩
 ·kernel_rfl
 ·kernel_rfl
 ·exact⟨"slices.medianAdjacentCmpFunc[quickset/vault.Name]",by decide,by kernel_rfl⟩
 ·exact⟨"slices.medianCmpFunc[quickset/vault.Name]",by decide,by kernel_rfl⟩
 ·exact⟨"slices.order2CmpFunc[quickset/vault.Name]",by decide,by kernel_rfl⟩
 ·kernel_rfl
 all_goals first|(intro w;kernel_rfl)|kernel_rfl
end Go.Proofs
set_option maxRecDepth 100000
namespace Go.Proofs
open Go Go.Lift Go.Shelf
def Yp:Ren:=⟨fun n=>bif aJ n 38 then 141 else 0,
 fun n=>bif aJ n 4 then 4 else bif aJ n 9 then 9 else 0,
 fun _=>0⟩
theorem G5:Lays2.n38 PG Yp:=by constructor<;>first|kernel_rfl|(intro w;kernel_rfl)|skip
end Go.Proofs
namespace Go.Proofs
open Go Go.Lift Go.RowKit Go.Sort
theorem HC.shelf{f:FuncId}{args:List Value}{ks:List Kind}{K:sW ks→ad→Prop}{h:ad}(hc:∀(args:Array Value) (w:World),(callFunc f args).run PG w=.ok (.enter f args) w)
 (g:∀w:World,w.heap=h→Calls PG f args.toArray w fun e w'=>Tame w w'∧∃t:sW ks,e=.returned (BS ks (lZ ks t))∧K t w'.heap):HC PG f args ks K h:=⟨fun w a=>.inl ⟨hc _ w,g w a⟩⟩
theorem Ql{F:Array Value}{A a:List Value}(c:A.length=F.size):putCells id 0 F (A++a).toArray=(F.toList++a).toArray:=by
 apply Array.ext_getElem?;intro k;simp only[putCells,Array.getElem?_mapIdx,dP];by_cases b:k<F.size
 ·rw[bO (by omega),bO (by simpa using b),af (by omega)]
  simp[b]
 ·rw[bq (by omega),bq (by simpa using b),c]
  simp only[dL];cases a[k-F.size]? with
  |none=>rfl
  |some v=>simp[b]
section
variable {α:Type} {f:α→List Value} {sz:Nat} {ty:TypeId} {M:Nat→Prop} {h:ad} {s:SliceV} {xs ys:List α}
theorem _root_.Go.Lift.OwnS.row(o:OwnS f sz ty M h s xs){b:Nat}{a:List Value}(hb:h[b]? =some (.cells (xs.flatMap f++a).toArray ty (0,0))) (m:s.a=some ⟨b,0,none⟩) (d:M b) (i:a.length=(s.cap-s.len)*sz) {w:World} (p:w.heap=h) {n:Nat} {os:Array Obj} {F:Array Value} (g:F.toList=ys.flatMap f) (c:ys.length=xs.length):
  OwnS f sz ty M (grow (putRow id (Sort.ahead w n) b 0 F) os).heap s ys∧Upd M h (grow (putRow id (Sort.ahead w n) b 0 F) os).heap:=by
 have t:(xs.flatMap f).length=F.size:=by rw[←dL,g,gq fun x=>(o.ne x).1,gq fun x=>(o.ne x).1,c]
 have q:(grow (putRow id (Sort.ahead w n) b 0 F) os).heap=h.modify b (onCells (putCells id 0 F))++os:=by subst p;rfl
 have lt:=bw hb;rw[q];refine⟨⟨by rw[c];exact o.len,o.ne,o.cap,.inr ⟨b,a,m,d,?_,i⟩⟩,⟨by simp,fun y k j=>?_⟩⟩
 ·rw[Array.getElem?_append_left (by simpa using lt),kI,if_pos rfl,hb]
  show some (Obj.cells (putCells id 0 F (xs.flatMap f++a).toArray) ty (0,0))=_
  rw[Ql t,g]
 ·rw[Array.getElem?_append_left (by simpa using k),kI,if_neg (fun e=>j (by rw[←e];exact d))]
theorem qS[Inhabited α](a:∀x,(f x).length=sz)(d:Array α):(flatK f sz d).toList=d.toList.flatMap f:=by
 apply List.ext_getElem?;intro t;by_cases ht:t<d.size*sz
 ·have k0:0<sz:=Nat.pos_of_ne_zero fun e=>by rw[e]at ht;simp at ht
  have b:t/sz<d.size:=Nat.div_lt_of_lt_mul (by rwa [Nat.mul_comm]at ht);have hm:=Nat.mod_lt t k0;have e:=th a d.toList (t/sz) (t%sz) d[t/sz] (by simp[b]) hm;rw[Nat.div_add_mod' t sz]at e;rw[e,Array.getElem?_toList,Array.getElem?_eq_getElem (by simpa using ht),←getElem!_pos (flatK f sz d) t (by simpa using ht),get_flatK _ _ _ _ ht,getElem!_pos d (t/sz) b,af (by rw[a];exact hm),getElem!_pos _ _ (by rw[a];exact hm)]
 ·rw[kF (by simpa using Nat.le_of_not_lt ht),kF (by rw[gq a];simpa using Nat.le_of_not_lt ht)]
theorem _root_.Go.Lift.OwnS.holds(o:OwnS f sz ty M h s xs){b:Nat}{a:List Value}(hb:h[b]? =some (.cells (xs.flatMap f++a).toArray ty (0,0))) {w:World} (g:w.heap=h) {F:Array Value} (d:F.toList=xs.flatMap f):Holds id w b 0 F:=fun j c=>by
 subst g;have e:(xs.flatMap f++a)[j]? =some F[j]:=by
  rw[←d,bO (by simpa using c)];simp[c]
 refine⟨?_,?_⟩
 ·rw[World.cell?,aO];simp only[hb]
  simp only[Option.isSome_none,Bool.false_eq_true,if_false,dP,e,id];rw[getElem!_pos F j c]
 ·rw[World.frozen?,aO];simp[hb]
end
end Go.Proofs
namespace Go.Proofs
open Go Go.Lift Go.RowKit Go.Sort Go.Shelf
set_option maxHeartbeats 1000000 in
theorem Ip(x y:ByteArray)(W:World):Calls PG 92 #[.string x,.string y] W fun e b=>e=.returned (.int .i64 (uK x y))∧b=W:=by
 have a:=fun x W=>Any2.cmp_isNaN_string G5 x W
 change∀x W,Calls PG 141 _ _ _ at a;go_enter Tryz.func92,Tryz.ntmps92
 go_wp2_with (go_at_call 141;refine(a _ _).mono ?_;rintro e b ⟨rfl,c⟩;rw[c])
 all_goals(go_ret;refine⟨?_,rfl⟩;have hb:= @yd x y;unfold uK kl;clear a;simp_all)
abbrev Yd(x y:ByteArray×Int):Int:=uK x.1 y.1
set_option maxHeartbeats 1000000 in
theorem Qs(x y:ByteArray×Int)(W:World):Calls PG 91 #[.agg #[.string x.1,.int .u32 x.2],.agg #[.string y.1,.int .u32 y.2]] W fun e b=>e=.returned (.int .i64 (uK x.1 y.1))∧∃q os',b=grow (W.drewN q) os':=by
 have a:=fun W'=>Ip x.1 y.1 W'
 change∀W',Calls PG 92 _ _ _ at a;generalize uK x.1 y.1=r at a⊢;go_enter Tryz.func91,Tryz.ntmps91
 go_wp2_with (go_at_call 92;refine(a _).mono ?_;rintro e b ⟨rfl,rfl⟩)
 go_ret
 exact⟨rfl,0,_,by rw[alloc_eq_grow,alloc_eq_grow,grow_grow];rfl⟩
theorem X9(x y:ByteArray×Int):ltOf Yd x y=decide (kl x.1 y.1):=by
 unfold ltOf Yd uK;by_cases h:kl x.1 y.1
 ·simp[h]
 ·by_cases a:x.1=y.1<;>simp[h,a,bN]
theorem Yi:SWO (ltOf Yd) where
 irrefl x:=by rw[X9];simpa using bN x.1
 trans x y z h1 h2:=by rw[X9]at*;simp at*;exact dw h1 h2
 ntrans x y z h1 h2:=by
  rw[X9]at*;simp at*;intro h;by_cases e:x.1=y.1
  ·rw[e]at h;exact h2 h
  ·exact h2 (dw (kz h1 e) h)
theorem Jj{M:Nat→Prop}{h:ad}{s:SliceV}{xs:List (ByteArray×Int)}(p:OwnS vZ 2 48 M h s xs)(V:xs.length≤1000000){K:Unit→ad→Prop}
  (E:∀h' ys,OwnS vZ 2 48 M h' s ys→ys.Perm xs→ys.Pairwise (fun a b=>¬kl b.1 a.1)→Upd M h h'→K () h'):dd 90 [.slice s.a s.len s.cap,.func (.func 91) #[] #[]] K h:=by
 refine HC.shelf Tryz.call90 fun w q=>?_
 have k:=p.len;rcases p.blk with U|⟨b,B,D,N,hb,L⟩
 ·have hx:xs= []:=List.length_eq_zero_iff.1 (by have:=p.cap;omega)
  subst hx;have S:s.len=0:=k;rw[S];refine(AnyF.slices_SortFunc_none wd s.a s.cap (.func (.func 91) #[] #[]) w).mono fun e J o=>?_
  obtain⟨o,rfl⟩:=o;exact⟨⟨rfl,rfl,rfl⟩,(),o,E _ [] (by rw[q];exact p) (oQ _) cf (by rw[q];exact Upd.refl _ _)⟩
 ·rw[D,k]
  have Q:HoldsK vZ 2 w b 0 xs.toArray:=p.holds hb q ((qS (f:=vZ) (sz:=2) (fun _=>rfl) xs.toArray).trans (by simp))
  have lt:=bw hb;have c:=AnyQ.slices_SortFunc wd 2 (fun w=>by kernel_rfl) (fun w=>by kernel_rfl) vZ (fun _=>rfl) (fun x v hv=>by simp only[aq,List.not_mem_nil,or_false]at hv;rcases hv with rfl|rfl<;>rfl) Yd Yi 91 #[] b 0 s.cap xs.toArray w Tryz.call91 (fun m os dk G x y=>Qs x y _) Q (by rw[q];exact lt) (by simp;omega)
  rw[show xs.toArray.size=xs.length by simp]at c
  refine Calls.mono c fun e J o=>?_
  obtain⟨o,d,n,os,⟨g,_,C⟩,O,rfl⟩:=o;have g:d.size=xs.length:=by simpa using g
  obtain⟨I,T⟩:=p.row hb D N L q (n:=n) (os:=os) (F:=flatK vZ 2 d) (ys:=d.toList) (qS (f:=vZ) (sz:=2) (fun _=>rfl) d) (by simpa using g)
  refine⟨⟨rfl,rfl,rfl⟩,(),o,E _ d.toList I ?_ ?_ T⟩
  ·have R:d.extract 0 xs.length=d:=by rw[←g];exact Array.extract_size
   have P:xs.toArray.extract 0 xs.length=xs.toArray:=by simp
   rw[R,P]at C;simpa using C
  ·refine List.pairwise_iff_getElem.2 fun i j hi H u t=>?_
   have A:i<d.size:=by simpa using hi
   have z:j<d.size:=by simpa using H
   have:=O i j (aN _) u (by omega);rw[getElem!_pos d j z,getElem!_pos d i A,X9]at this;simp only[Array.getElem_toList]at t;simp[t]at this
theorem Fb{κ β:Type}[DecidableEq κ]{k:κ}{v:β}:∀{m:List (κ×β)},(m.map (·.1)).Nodup→(k,v)∈m→m.Perm ((k,v)::jP m k)
 |p::m,a,hm=>by
  have a:=List.nodup_cons.1 a;unfold jP;rw[aR];rcases aq.1 hm with rfl|hm
  ·rw[if_neg (by simp)]
   rw[List.filter_eq_self.2 fun q b=>by simp;exact fun e=>a.1 (aP.2 ⟨q,b,e⟩)]
  ·have:p.1≠k:=fun e=>a.1 (aP.2 ⟨(k,v),hm,e.symm⟩)
   rw[if_pos (by simp[this])];exact((Fb a.2 hm).cons p).trans (List.Perm.swap ..)
theorem UV{h:ad}{r:Nat}{B:List (ByteArray×Int)}(m:MapAt kStr LY h r B)(hn:B.length≤100000){K:SliceV→ad→Prop}
  (T:∀h' s ys,OwnS vZ 2 48 (fun y=>h.size≤y) h' s ys→ys.Perm B→ys.Pairwise (fun a b=>¬kl b.1 a.1)→Upd No h h'→K s h'):eP 40 [.map (some r)] K h:=by
 refine cW (r8 (some r)) zR Tryz.func40 Tryz.call40 ?_;dsimp only[r8,Ez,Rl,Mq];obtain⟨c,⟨es,E⟩,F⟩:=m.range;refine⟨c,.inr ⟨r,es,rfl,E⟩,F4 fun q u=>?_⟩
 have k1:=Upd.push No h (.mapIter (some r) c #[] c);have u:q=h.push (.mapIter (some r) c #[] c):=u;rw[←u]at F k1;have s1:q.size=h.size+1:=by rw[u];simp
 refine LoopP.ghost (fun(g:List (ByteArray×Int)×List (ByteArray×Int)) (t:SliceV) h'=>IterSt kStr LY h' h.size r B g.1∧OwnS vZ 2 48 (fun y=>q.size≤y) h' t g.2∧(g.2++g.1).Perm B∧Upd No h h'∧q.size≤h'.size) (fun g=>g.1.length) (B,[]) ⟨F,OwnS.nil rI,oQ _,k1,ai _⟩ ?_
 rintro I ⟨o,out⟩ t h' ⟨hi,z,n,D,X⟩ Q;(try simp only at hi z n)
 have O:=m.lt;have G:=n.length_eq;rw[ae]at G;refine NextP.at (M:=(· =h.size)) hi rfl (fun N=>?_) fun k v j e Y ek J hit w d=>?_
 ·subst N
  rw[be]at n;refine Jj z (by simp at G;omega) fun H ys V R S U=>T H t ys (V.more fun y i=>by omega) (R.trans n) S (D.trans U fun y i=>.inr (by omega))
 ·refine⟨rfl,e,k,v,hit,ek,J,ba fun H b3 p=>?_⟩
  have A:=(z.upd d fun y i e=>by have e:y=h.size:=e;omega).upd p fun _ _ h=>h
  have Z:=d.size;have su:=D.size;refine⟨_,((OwnS.one (f:=vZ) (x:=(k,v)) rI b3).sl (W:=No) fun _ _ _ h=>h).srow,?_⟩
  have s3:=p.size;refine AppP.own (ys:= [(k,v)]) A rfl rfl rfl rfl (by decide) (by simp only[bh];omega) (by omega) fun s' L P C=>?_
  refine Q (jP o k,out++ [(k,v)]) s' L ⟨?_,P,?_,?_,?_⟩ (AS j)
  ·exact(w.upd p id id).upd C (fun e=>by omega) (fun e=>by omega)
  ·refine List.Perm.trans ?_ n
   simp only[List.append_assoc,List.singleton_append];exact List.Perm.append_left _ (Fb hi.nodup j).symm
  ·exact((D.trans d fun y i=>.inr (by have i:y=h.size:=i;omega)).tr p).trans C fun y i=>.inr (by omega)
  ·have:=C.size;omega
end Go.Proofs
namespace Go.Proofs
open Go.Lift Go.Sort
theorem AH(l:List Int):l.flatMap u32=l.map fun x=>Value.int .u32 x:=by
 induction l with
 |nil=>rfl
 |cons x l ih=>rw[List.flatMap_cons,ih];rfl
structure SAG(s:SliceV)(b:Nat)(rest:List Value)(h:ad)(d:Array Int):Prop where
 a:s.a=some ⟨b,0,none⟩
 len:s.len=d.size
 blk:h[b]? =some (.cells (d.toList.flatMap u32++rest).toArray 31 (0,0))
 small:d.size≤1000000000
variable {s:SliceV} {b:Nat} {rest:List Value} {h:ad} {d:Array Int}
theorem SAG.get(a:SAG s b rest h d){i:Nat}(hi:i<d.size):aK h (adr ⟨b,0,none⟩ (((i:Int)).toNat*1))=some (.int .u32 d[i]!):=by
 rw[ce,bd a.blk,dP,AH,bO (by simp;omega)];simp[hi]
theorem SAG.upd{M:Nat→Prop}{h':ad}(a:SAG s b rest h d)(k:Upd M h h')(hb:¬M b):SAG s b rest h' d:=⟨a.a,a.len,k.get a.blk hb,a.small⟩
theorem SAG.put(a:SAG s b rest h d){i:Nat}(hi:i<d.size)(x:Int):Wr h (adr ⟨b,0,none⟩ (((i:Int)).toNat*1))∧SAG s b rest (hset h (adr ⟨b,0,none⟩ (((i:Int)).toNat*1)) (.int .u32 x)) (d.setIfInBounds i x)∧
  Upd (· =b) h (hset h (adr ⟨b,0,none⟩ (((i:Int)).toNat*1)) (.int .u32 x)):=by
 have e:adr ⟨b,0,none⟩ (((i:Int)).toNat*1)=⟨b,i,none⟩:=by rw[ce];simp
 rw[e];refine⟨eC a.blk (by rw[AH];simp;omega),⟨a.a,by rw[a.len];simp,?_,by simpa using a.small⟩,Upd.hset _ _ rfl⟩
 rw[ju a.blk,dE a.blk,AH,AH,Array.toList_setIfInBounds];congr 2
 rw[List.setIfInBounds_toArray,List.set_append_left _ _ (by simp;omega),List.map_set]
theorem SAG.ld1(c:SAG s b rest h d){t:Int}{i:Nat}(f:t=(i:Int))(hi:i<d.size){R:Int→Prop}(e:R d[i]!):
  ((0:Int)≤t∧t<((s.len:Nat):Int))∧∃a:Addr,s.a=some a∧∃v:Int,aK h (adr a (t.toNat*1))=some (.int .u32 v)∧R v:=by
 subst f;exact⟨by rw[c.len];omega,_,c.a,_,c.get hi,e⟩
theorem SAG.st(c:SAG s b rest h d){t x:Int}{i:Nat}(e:t=(i:Int))(hi:i<d.size){R:ad→Prop}(g:∀h',SAG s b rest h' (d.setIfInBounds i x)→Upd (· =b) h h'→R h'):
  ((0:Int)≤t∧t<((s.len:Nat):Int))∧∃a:Addr,s.a=some a∧(Wr h (adr a (t.toNat*1))∧At (hset h (adr a (t.toNat*1)) (.int .u32 x)) R):=by
 subst e;obtain⟨f,k,j⟩:=c.put hi x;exact⟨by rw[c.len];omega,_,c.a,f,g _ k j⟩
@[simp] theorem WQ(d:Array Int)(i j:Nat):(swp d i j).size=d.size:=by simp[swp]
theorem SAG.swap(f:SAG s b rest h d){c e:Int}{i j:Nat}(n:c=(i:Int))(o:e=(j:Int))(hi:i<d.size)(p:j<d.size){R:ad→Prop}(q:∀h',SAG s b rest h' (swp d i j)→Upd (· =b) h h'→R h'):
  ((0:Int)≤e∧e<((s.len:Nat):Int))∧∃a:Addr,s.a=some a∧∃v:Int,aK h (adr a (e.toNat*1))=some (.int .u32 v)∧
   (((0:Int)≤c∧c<((s.len:Nat):Int))∧∃a':Addr,s.a=some a'∧∃v':Int,aK h (adr a' (c.toNat*1))=some (.int .u32 v')∧
    (((0:Int)≤c∧c<((s.len:Nat):Int))∧∃a'':Addr,s.a=some a''∧(Wr h (adr a'' (c.toNat*1))∧At (hset h (adr a'' (c.toNat*1)) (.int .u32 v)) (fun g=>
     (((0:Int)≤e∧e<((s.len:Nat):Int))∧∃a3:Addr,s.a=some a3∧(Wr g (adr a3 (e.toNat*1))∧At (hset g (adr a3 (e.toNat*1)) (.int .u32 v')) R)))))):=by
 refine f.ld1 o p (f.ld1 n hi (f.st n hi fun g m k1=>m.st o (by simpa using p) fun u k t=>q u k (k1.tr t)))
theorem SAG.less(f:SAG s b rest h d){c e:Int}{i j:Nat}(g:c=(i:Int))(k:e=(j:Int))(hi:i<d.size)(m:j<d.size){R:Bool→ad→Prop}(n:R (ltInt d[i]! d[j]!) h):
  ((0:Int)≤c∧c<((s.len:Nat):Int))∧∃a:Addr,s.a=some a∧∃v:Int,aK h (adr a (c.toNat*1))=some (.int .u32 v)∧
   (((0:Int)≤e∧e<((s.len:Nat):Int))∧∃a':Addr,s.a=some a'∧∃v':Int,aK h (adr a' (e.toNat*1))=some (.int .u32 v')∧fI 211 [.int .u32 v,.int .u32 v'] R h):=
 f.ld1 g hi (f.ld1 k m (UW n))
theorem LS(L:SAG s b rest h d){a e:Nat}(Z:a≤e)(Y:e≤d.size){K:Unit→ad→Prop}(W:∀h',SAG s b rest h' (insertionSort ltInt d a e)→Upd (· =b) h h'→K () h'):
  dd 205 [.slice s.a s.len s.cap,.int .i64 a,.int .i64 e] K h:=by
 refine iI s a e ?_;dsimp only[eW,Ey,fQ,cV,rz,cB,sR,uB];have P:=L.small;refine LoopP.ghost (fun(g:Nat×Array Int) (t:Int) h'=>t=(g.1:Int)∧SAG s b rest h' g.2∧g.2.size=d.size∧insOuter ltInt a e g.1 g.2=insertionSort ltInt d a e∧Upd (· =b) h h'∧a<g.1) (fun g=>e-g.1) (a+1,d)
  ⟨by rw[df (by omega)];rfl,L,rfl,rfl,Upd.refl _ _,by simp⟩ ?_
 rintro I ⟨i,G⟩ t h1 ⟨ht,p,q,n,x,D⟩ U;(try simp only at ht p q n D)
 subst ht;refine ao (fun u=>?_) fun O=>?_
 ·have u:i<e:=by omega
  refine LoopP.ghost (fun(g:Nat×Array Int) (t:Int) h'=>t=(g.1:Int)∧SAG s b rest h' g.2∧g.2.size=d.size∧insInner ltInt a g.1 g.2=insInner ltInt a i G∧Upd (· =b) h h'∧g.1≤i) (fun g=>g.1) (i,G)
   ⟨rfl,p,q,rfl,x,ai _⟩ ?_
  rintro X ⟨j,k⟩ t T ⟨ht,c,o,m,w,E⟩ C;(try simp only at ht c o m E)
  subst ht;refine Join.intro (fun t h'=>h'=T∧(t=true↔a<j∧ltInt k[j]! k[j-1]! =true)) (fun R J=>?_) ?_
  ·refine ao (fun y=>?_) fun V=>J _ _ ⟨rfl,by simp;omega⟩
   have y:a<j:=by omega
   exact c.less rfl (j:=j-1) (by rw[df (by omega)];omega) (by omega) (by omega) (J _ _ ⟨rfl,by simp[y]⟩)
  ·rintro t h' ⟨rfl,v⟩
   refine CondP.intro (fun z=>?_) fun z=>?_
   ·obtain⟨Q,N⟩:=v.1 z
    refine c.swap (i:=j) (j:=j-1) rfl (by rw[df (by omega)];omega) (by omega) (by omega) fun h6 F A=>?_
    refine C (j-1,swp k j (j-1)) _ _ ⟨by rw[df (by omega)];(try simp only);omega,F,by simp[o],?_,w.tr A,by(try simp only);omega⟩ (by(try simp only);omega)
    rw[←m];obtain⟨H,rfl⟩:∃H,j=H+1:=⟨j-1,by omega⟩
    simp only[Nat.add_sub_cancel]at N⊢;rw[insInner,if_pos (by simp[N,Q])]
   ·have f:¬(a<j∧ltInt k[j]! k[j-1]! =true):=fun S=>by rw[v.2 S]at z;cases z
    have B:insInner ltInt a j k=k:=by
     cases j with
     |zero=>rw[insInner]
     |succ j=>
      simp only[Nat.add_sub_cancel]at f;rw[insInner,if_neg (by simpa using f)]
    refine U (i+1,k) _ _ ⟨by rw[df (by omega)];rfl,c,o,?_,w,by(try simp only);omega⟩ (by(try simp only);omega)
    rw[←n];conv=>rhs;rw[insOuter]
    rw[if_pos u,←m,B]
 ·refine W _ ?_ x
  rw[←n,insOuter,if_neg (by omega)];exact p
end Go.Proofs
namespace Go.Proofs
open Go.Lift Go.Sort
variable {s:SliceV} {b:Nat} {rest:List Value} {h:ad} {d:Array Int}
@[simp] theorem RX(lt:Int→Int→Bool)(hi first root:Nat)(d:Array Int):(siftDown lt hi first root d).size=d.size:=by
 fun_induction siftDown lt hi first root d<;>simp_all
@[simp] theorem DP(lt:Int→Int→Bool)(hi first:Nat):∀(k:Nat) (d:Array Int),(heapBuild lt hi first k d).size=d.size
 |0,d=>rfl
 |k+1,d=>by rw[heapBuild,DP lt hi first k];simp
theorem Ai{root hi first:Nat}(C:SAG s b rest h d)(hb:first+hi≤d.size){K:Unit→ad→Prop}(D:∀h',SAG s b rest h' (siftDown ltInt hi first root d)→Upd (· =b) h h'→K () h')(N:root≤1000000000):
  dd 271 [.slice s.a s.len s.cap,.int .i64 root,.int .i64 hi,.int .i64 first] K h:=by
 refine cW (j9 s root hi first) qw Tryz.func271 Tryz.call271 ?_
 dsimp only[j9,uB,rz,cB,fQ,Ey,cV,sR,Q2,Q1];have G:=C.small;refine LoopP.ghost (fun(g:Nat×Array Int) (t:Int) h'=>t=(g.1:Int)∧SAG s b rest h' g.2∧g.2.size=d.size∧siftDown ltInt hi first g.1 g.2=siftDown ltInt hi first root d∧Upd (· =b) h h'∧g.1≤1000000000) (fun g=>hi-g.1) (root,d)
  ⟨rfl,C,rfl,rfl,Upd.refl _ _,N⟩ ?_
 rintro I ⟨i,e⟩ t B ⟨ht,a,o,m,n,y⟩ O;(try simp only at ht a o m y)
 subst ht;have H:ac .i64 (ac .i64 (2*(i:Int))+1)=((2*i+1:Nat):Int):=by rw[df (x:=2*(i:Int)) (by omega),df (by omega)];omega
 have E:ac .i64 (((2*i+1:Nat):Int)+1)=((2*i+2:Nat):Int):=by rw[df (by omega)];omega
 rw[H];refine ao (fun F=>?_) fun w=>?_
 ·refine D _ ?_ n
  rw[←m,siftDown,dif_pos (by omega)];exact a
 ·have w:2*i+1<hi:=by omega
  refine Join.intro (fun t h'=>h'=B∧∃c:Nat,t=(c:Int)∧c=if 2*i+2<hi∧ltInt e[first+(2*i+1)]! e[first+(2*i+1)+1]! =true then 2*i+2 else 2*i+1) (fun R A=>?_) ?_
  ·refine Join.intro (fun t h'=>h'=B∧(t=true↔2*i+2<hi∧ltInt e[first+(2*i+1)]! e[first+(2*i+1)+1]! =true)) (fun R2 p=>?_) ?_
   ·show CondP (decide (ac .i64 (((2*i+1:Nat):Int)+1)<(hi:Int))) _ _
    rw[E];refine ao (fun k=>?_) fun k=>p _ _ ⟨rfl,by simp;omega⟩
    show(((0:Int)≤ac .i64 ((first:Int)+((2*i+1:Nat):Int))∧_)∧_)
    refine a.less (i:=first+(2*i+1)) (j:=first+(2*i+1)+1) (by rw[df (by omega)];omega) (by rw[df (x:=(first:Int)+_) (by omega),df (by omega)];omega) (by omega) (by omega) (p _ _ ⟨rfl,?_⟩)
    simp;omega
   ·rintro t h' ⟨rfl,q⟩
    refine CondP.intro (fun k=>?_) fun k=>?_
    ·show R (ac .i64 (((2*i+1:Nat):Int)+1)) _
     rw[E];exact A _ _ ⟨rfl,_,rfl,by rw[if_pos (q.1 k)]⟩
    ·exact A _ _ ⟨rfl,_,rfl,by rw[if_neg fun J=>by rw[q.2 J]at k;cases k]⟩
  ·rintro t h' ⟨rfl,c,rfl,hc⟩
   have L:c<hi∧i<c:=by rw[hc];split<;>omega
   refine a.less (i:=first+i) (j:=first+c) (by rw[df (by omega)];omega) (by rw[df (by omega)];omega) (by omega) (by omega) ?_
   have f:siftDown ltInt hi first i e=if !ltInt e[first+i]! e[first+c]! then e else siftDown ltInt hi first c (swp e (first+i) (first+c)):=by
    rw[siftDown,dif_neg (by omega)];by_cases u:2*i+2<hi∧ltInt e[first+(2*i+1)]! e[first+(2*i+1)+1]! =true
    ·rw[if_pos (by simp only[bj,decide_eq_true_iff];exact u),dif_pos u.1]
     rw[if_pos u]at hc;rw[hc]
    ·rw[if_neg (by simp only[bj,decide_eq_true_iff];exact u)]
     rw[if_neg u]at hc;rw[hc]
   refine CondP.intro (fun k=>?_) fun k=>?_
   ·refine D _ ?_ n
    rw[←m,f,if_pos k];exact a
   ·refine a.swap (i:=first+i) (j:=first+c) (by rw[df (by omega)];omega) (by rw[df (by omega)];omega) (by omega) (by omega) fun P z v=>?_
    refine O (c,swp e (first+i) (first+c)) _ _ ⟨rfl,z,by simp[o],?_,n.tr v,by(try simp only);omega⟩ (by(try simp only);omega)
    rw[←m,f,if_neg (by rw[k];simp)]
theorem JO{a e:Nat}(G:SAG s b rest h d)(X:a≤e)(V:e≤d.size){K:Unit→ad→Prop}(S:∀h',SAG s b rest h' (heapSort ltInt d a e)→Upd (· =b) h h'→K () h'):
  dd 206 [.slice s.a s.len s.cap,.int .i64 a,.int .i64 e] K h:=by
 refine cW (ke s a e) qx Tryz.func206 Tryz.call206 ?_;dsimp only[ke,DG,Ey,fQ,cV,rz,cB];have L:=G.small;have O:ac .i64 ((e:Int)-(a:Int))=((e-a:Nat):Int):=by rw[df (by omega)];omega
 rw[O];refine⟨by decide,?_⟩;have C:ac .i64 (oT (ac .i64 (((e-a:Nat):Int)-1)) 2)=(((e-a-1)/2+1:Nat):Int)-1:=by
  rw[df (x:=((e-a:Nat):Int)-1) (by omega)];by_cases J:e-a=0
  ·rw[J];decide
  ·rw[lO (by omega),df (by omega)];omega
 show LoopP _ (ac .i64 (oT (ac .i64 (((e-a:Nat):Int)-1)) 2)) h
 rw[C];refine LoopP.ghost (fun(g:Nat×Array Int) (t:Int) h'=>t=(g.1:Int)-1∧SAG s b rest h' g.2∧g.2.size=d.size∧heapBuild ltInt (e-a) a g.1 g.2=heapBuild ltInt (e-a) a ((e-a-1)/2+1) d∧Upd (· =b) h h'∧g.1≤1000000000) (fun g=>g.1) ((e-a-1)/2+1,d)
  ⟨rfl,G,rfl,rfl,Upd.refl _ _,by(try simp only);omega⟩ ?_
 rintro I ⟨k,N⟩ t Y ⟨ht,p,m,o,q,z⟩ R;(try simp only at ht p m o z)
 subst ht;refine ao (fun v=>?_) fun P=>?_
 ·obtain⟨k,rfl⟩:∃k',k=k'+1:=⟨k-1,by omega⟩
  have D:((k+1:Nat):Int)-1=(k:Int):=by omega
  rw[D];refine Ai p (by omega) (fun Q c f=>R (k,_) _ _ ⟨by rw[df (by omega)],c,by simp[m],?_,q.tr f,by(try simp only);omega⟩ (by simp)) (by omega)
  rw[←o];rfl
 ·have:k=0:=by omega
  subst this;rw[df (x:=((e-a:Nat):Int)-1) (by omega)];refine LoopP.ghost (fun(g:Nat×Array Int) (t:Int) h'=>t=(g.1:Int)-1∧SAG s b rest h' g.2∧g.2.size=d.size∧heapPop ltInt a g.1 g.2=heapSort ltInt d a e∧Upd (· =b) h h'∧g.1≤e-a) (fun g=>g.1) (e-a,N)
   ⟨rfl,p,m,by rw[heapSort,←o];rfl,q,ai _⟩ ?_
  rintro T ⟨k,Z⟩ t Q ⟨ht,c,u,n,f,F⟩ y;(try simp only at ht c u n F)
  subst ht;refine ao (fun v=>?_) fun H=>?_
  ·obtain⟨k,rfl⟩:∃k',k=k'+1:=⟨k-1,by omega⟩
   have D:((k+1:Nat):Int)-1=(k:Int):=by omega
   rw[D];refine c.swap (i:=a) (j:=a+k) rfl (by rw[df (by omega)];omega) (by omega) (by omega) fun W A E=>?_
   refine Ai (root:=0) A (by simp;omega) (fun U w B=>y (k,_) _ _ ⟨by rw[df (by omega)],w,by simp[u],?_,(f.tr E).tr B,by(try simp only);omega⟩ (by simp)) (by omega)
   rw[←n];rfl
  ·have:k=0:=by omega
   subst this;refine S _ ?_ f;rw[←n];exact c
theorem Lh{a e:Nat}(w:SAG s b rest h d)(G:a<e)(D:e≤d.size){K:Unit→ad→Prop}(B:∀h',SAG s b rest h' (reverseRange d a e)→Upd (· =b) h h'→K () h'):
  dd 209 [.slice s.a s.len s.cap,.int .i64 a,.int .i64 e] K h:=by
 refine cW (iZ s a e) oE Tryz.func209 Tryz.call209 ?_;dsimp only[iZ,Ey,fQ,cV,rz,cB];have x:=w.small;refine LoopP.ghost (fun(g:Nat×Nat×Array Int) (t:Int×Int) h'=>t.1=(g.1:Int)∧t.2=(g.2.1:Int)∧SAG s b rest h' g.2.2∧g.2.2.size=d.size∧reverseLoop g.1 g.2.1 g.2.2=reverseRange d a e∧Upd (· =b) h h'∧g.2.1<e) (fun g=>g.2.1-g.1) (a,e-1,d)
  ⟨rfl,by(try simp only);rw[df (by omega)];omega,w,rfl,rfl,Upd.refl _ _,by(try simp only);omega⟩ ?_
 rintro I ⟨i,j,z⟩ ⟨C,E⟩ H ⟨q,o,k,m,f,p,y⟩ A;(try simp only at q o k m f y)
 subst q o;refine ao (fun c=>?_) fun n=>?_
 ·have c:i<j:=by have:(i:Int)<(j:Int):=c;omega
  refine k.swap (i:=i) (j:=j) rfl rfl (by omega) (by omega) fun F u v=>?_
  refine A (i+1,j-1,swp z i j) _ _ ⟨by(try simp only);rw[df (by omega)];rfl,by(try simp only);rw[df (by omega)];omega,u,by simp[m],?_,p.tr v,by(try simp only);omega⟩ (by(try simp only);omega)
  rw[←f];conv=>rhs;rw[reverseLoop]
  rw[if_pos c]
 ·refine B _ ?_ p
  rw[←f,reverseLoop,if_neg (by have n:¬(i:Int)<(j:Int):=n;omega)];exact k
end Go.Proofs
namespace Go.Proofs
open Go.Lift Go.Sort
variable {s:SliceV} {b:Nat} {rest:List Value} {h:ad} {d:Array Int}
theorem y6{T:Int→(Bool→ad→Prop)→ad→Prop}{REST:Int→ad→Prop}{p:Int→Bool}{m k:Int}{j i0:Nat}(s:k=(i0:Int))(q:m=(j:Int))(y:j≤1000000000)(x:i0≤1000000000)
  (o:∀(i:Nat) (R:Bool→ad→Prop),i0≤i→i≤j→R (p d[i]!) h→T (i:Int) R h) (b:REST ((scanUp p d j i0:Nat):Int) h):
  LoopP (fun(I:Int→ad→Prop) (t:Int) h'=>Join (fun(c:Bool) a=>CondP c (I (ac .i64 (t+1)) a) (REST t a)) (fun J=>CondP (decide (t≤m)) (T t J h') (J false h'))) k h:=by
 subst s q;refine LoopP.ghost (fun(i:Nat) (t:Int) h'=>t=(i:Int)∧h'=h∧i0≤i∧i≤1000000001∧scanUp p d j i=scanUp p d j i0) (fun i=>j+1-i) i0 ⟨rfl,rfl,ai _,by omega,rfl⟩ ?_
 rintro I i t h' ⟨rfl,rfl,hi,n,e⟩ u;refine Join.intro (fun c a=>a=h'∧(c=true↔i≤j∧p d[i]! =true)) (fun R b=>?_) ?_
 ·refine ao (fun w=>?_) fun v=>b _ _ ⟨rfl,by simp;omega⟩
  exact o i _ hi (by omega) (b _ _ ⟨rfl,by simp;omega⟩)
 ·rintro c a ⟨rfl,hc⟩
  refine CondP.intro (fun f=>?_) fun f=>?_
  ·have g:=hc.1 f
   refine u (i+1) _ _ ⟨by rw[df (by omega)];rfl,rfl,by omega,by omega,?_⟩ (by omega)
   rw[←e];conv=>rhs;rw[scanUp]
   rw[if_pos (by simp[g])]
  ·have:scanUp p d j i=i:=by
    rw[scanUp,if_neg];intro g;simp only[bj,decide_eq_true_iff]at g;rw[hc.2 g]at f;cases f
   rw[←e,this]at b;exact b
theorem vx{T:Int→(Bool→ad→Prop)→ad→Prop}{REST:Int→ad→Prop}{p:Int→Bool}{n o:Int}{j0 i:Nat}(u:o=(j0:Int))(s:n=(i:Int))(z:j0≤1000000000)(y:1≤i)
  (q:∀(j:Nat) (R:Bool→ad→Prop),i≤j→j≤j0→R (p d[j]!) h→T (j:Int) R h) (b:REST ((scanDown p d i j0:Nat):Int) h):
  LoopP (fun(I:Int→ad→Prop) (t:Int) h'=>Join (fun(c:Bool) a=>CondP c (I (ac .i64 (t-1)) a) (REST t a)) (fun J=>CondP (decide (n≤t)) (T t J h') (J false h'))) o h:=by
 subst u s;refine LoopP.ghost (fun(j:Nat) (t:Int) h'=>t=(j:Int)∧h'=h∧j≤j0∧scanDown p d i j=scanDown p d i j0) (fun j=>j) j0 ⟨rfl,rfl,ai _,rfl⟩ ?_
 rintro I j t h' ⟨rfl,rfl,m,e⟩ v;refine Join.intro (fun c a=>a=h'∧(c=true↔i≤j∧p d[j]! =true)) (fun R b=>?_) ?_
 ·refine ao (fun x=>?_) fun w=>b _ _ ⟨rfl,by simp;omega⟩
  exact q j _ (by omega) m (b _ _ ⟨rfl,by simp;omega⟩)
 ·rintro c a ⟨rfl,hc⟩
  refine CondP.intro (fun f=>?_) fun f=>?_
  ·have g:=hc.1 f
   obtain⟨j,rfl⟩:∃k,j=k+1:=⟨j-1,by omega⟩
   refine v j _ _ ⟨by rw[df (by omega)];omega,rfl,by omega,?_⟩ (by omega)
   rw[←e];conv=>rhs;rw[scanDown]
   rw[if_pos (by simp[g])]
  ·have:scanDown p d i j=j:=by
    cases j with
    |zero=>rw[scanDown]
    |succ j=>
     rw[scanDown,if_neg];intro g;simp only[bj,decide_eq_true_iff]at g;rw[hc.2 g]at f;cases f
   rw[←e,this]at b;exact b
theorem NB{a e n:Nat}(G:SAG s b rest h d)(Z:a≤n)(X:n<e)(V:e≤d.size){K:Int→ad→Prop}(H:∀h',SAG s b rest h' (partitionEqual ltInt d a e n).2→Upd (· =b) h h'→K ((partitionEqual ltInt d a e n).1:Nat) h'):
  fH 212 [.slice s.a s.len s.cap,.int .i64 a,.int .i64 e,.int .i64 n] K h:=by
 refine cW (iy s a e n) nD Tryz.func212 Tryz.call212 ?_;dsimp only[iy,Ey,fQ,cV,rz,cB,sR,uB];have J:=G.small;refine G.swap (i:=a) (j:=n) rfl rfl (by omega) (by omega) fun T F B=>?_
 refine LoopP.ghost (fun(g:Nat×Nat×Array Int) (t:Int×Int) h'=>t.1=(g.1:Int)∧t.2=(g.2.1:Int)∧SAG s b rest h' g.2.2∧g.2.2.size=d.size∧partEqLoop ltInt a g.1 g.2.1 g.2.2=partitionEqual ltInt d a e n∧Upd (· =b) h h'∧g.2.1<e∧a<g.1∧g.1≤1000000000) (fun g=>g.2.1+1-g.1) (a+1,e-1,swp d a n)
  ⟨by(try simp only);rw[df (by omega)];rfl,by(try simp only);rw[df (by omega)];omega,F,by simp,rfl,B,by(try simp only);omega,by simp,by(try simp only);omega⟩ ?_
 rintro I ⟨i,j,f⟩ ⟨U,W⟩ h1 ⟨w,q,m,o,c,v,L,z,u⟩ P;(try simp only at w q m o c L z u)
 subst w q;have N:=scanUp_ge (fun x=> !ltInt f[a]! x) f j i
 rw[partEqLoop_eq]at c;refine y6 (d:=f) (p:=fun x=> !ltInt f[a]! x) (i0:=i) rfl rfl (by omega) u (fun k R C E A=>m.less (i:=a) (j:=k) rfl rfl (by omega) (by omega) A) ?_
 generalize scanUp (fun x=> !ltInt f[a]! x) f j i=i2 at N c
 have O:=scanDown_le (fun x=>ltInt f[a]! x) f i2 j
 refine vx (d:=f) (p:=fun x=>ltInt f[a]! x) (j0:=j) (i:=i2) rfl rfl (by omega) (by omega) (fun k R C E A=>m.less (i:=a) (j:=k) rfl rfl (by omega) (by omega) A) ?_
 generalize scanDown (fun x=>ltInt f[a]! x) f i2 j=j2 at O c
 refine ao (fun S=>?_) fun Q=>?_
 ·rw[if_pos (by omega)]at c
  rw[←c]at H;exact H _ m v
 ·rw[if_neg (by omega)]at c
  refine m.swap (i:=i2) (j:=j2) rfl rfl (by omega) (by omega) fun Y y D=>?_
  exact P (i2+1,j2-1,swp f i2 j2) _ _ ⟨by(try simp only);rw[df (by omega)];rfl,by(try simp only);rw[df (by omega)];omega,y,by simp[o],c,v.tr D,by(try simp only);omega,by(try simp only);omega,by(try simp only);omega⟩ (by(try simp only);omega)
theorem Sm{a e m:Nat}(T:SAG s b rest h d)(ha:a≤m)(hp:m<e)(he:e≤d.size){K:Int×Bool→ad→Prop}
  (L:∀h',SAG s b rest h' (partition ltInt d a e m).2.2→Upd (· =b) h h'→K (((partition ltInt d a e m).1:Nat),(partition ltInt d a e m).2.1) h'):
  xh 213 [.slice s.a s.len s.cap,.int .i64 a,.int .i64 e,.int .i64 m] K h:=by
 refine cW (jH s a e m) qi Tryz.func213 Tryz.call213 ?_;dsimp only[jH,Ey,fQ,cV,rz,cB,sR,uB];have W:=T.small;refine T.swap (i:=a) (j:=m) rfl rfl (by omega) (by omega) fun h0 o E=>?_
 have F:(swp d a m).size=d.size:=by simp
 have q:partition ltInt d a e m=(let d:=swp d a m
  let i:=scanUp (fun x=>ltInt x d[a]!) d (e-1) (a+1)
  let j:=scanDown (fun x=> !ltInt x d[a]!) d i (e-1)
  if i>j then(j,true,swp d j a)else
  let r:=partLoop ltInt a (i+1) (j-1) (swp d i j)
  (r.1,false,swp r.2 r.1 a)):=rfl
 (try simp only at q)
 generalize swp d a m=d0 at o F q;have U:ac .i64 ((e:Int)-1)=((e-1:Nat):Int):=by rw[df (by omega)];omega
 have Z:ac .i64 ((a:Int)+1)=((a+1:Nat):Int):=by rw[df (by omega)];rfl
 have g1:=scanUp_ge (fun x=>ltInt x d0[a]!) d0 (e-1) (a+1)
 refine y6 (d:=d0) (p:=fun x=>ltInt x d0[a]!) (j:=e-1) (i0:=a+1) Z U (by omega) (by omega) (fun k R w B v=>o.less (i:=k) (j:=a) rfl rfl (by omega) (by omega) v) ?_
 generalize scanUp (fun x=>ltInt x d0[a]!) d0 (e-1) (a+1)=i2 at g1 q
 have g2:=scanDown_le (fun x=> !ltInt x d0[a]!) d0 i2 (e-1)
 refine vx (d:=d0) (p:=fun x=> !ltInt x d0[a]!) (j0:=e-1) (i:=i2) U rfl (by omega) (by omega) (fun k R w B v=>o.less (i:=k) (j:=a) rfl rfl (by omega) (by omega) v) ?_
 generalize scanDown (fun x=> !ltInt x d0[a]!) d0 i2 (e-1)=j2 at g2 q
 refine ao (fun O=>?_) fun hle=>?_
 ·rw[if_pos (by omega)]at q
  rw[q]at L;exact o.swap (i:=j2) (j:=a) rfl rfl (by omega) (by omega) fun S u z=>L S u (E.tr z)
 ·rw[if_neg (by omega)]at q
  refine o.swap (i:=i2) (j:=j2) rfl rfl (by omega) (by omega) fun S u z=>?_
  refine LoopP.ghost (fun(g:Nat×Nat×Array Int) (t:Int×Int) h'=>t.1=(g.1:Int)∧t.2=(g.2.1:Int)∧SAG s b rest h' g.2.2∧g.2.2.size=d.size∧partLoop ltInt a g.1 g.2.1 g.2.2=partLoop ltInt a (i2+1) (j2-1) (swp d0 i2 j2)∧Upd (· =b) h h'∧g.2.1<e∧a<g.1∧g.1≤1000000000) (fun g=>g.2.1+1-g.1) (i2+1,j2-1,swp d0 i2 j2)
   ⟨by(try simp only);rw[df (by omega)];rfl,by(try simp only);rw[df (by omega)];omega,u,by simp[F],rfl,E.tr z,by(try simp only);omega,by(try simp only);omega,by(try simp only);omega⟩ ?_
  rintro I ⟨i,j,f⟩ ⟨t1,t2⟩ h1 ⟨J,D,n,C,c,H,X,N,G⟩ hI;(try simp only at J D n C c X N G)
  subst J D;have V:=scanUp_ge (fun x=>ltInt x f[a]!) f j i
  rw[partLoop_eq]at c;refine y6 (d:=f) (p:=fun x=>ltInt x f[a]!) (i0:=i) rfl rfl (by omega) G (fun k R w B v=>n.less (i:=k) (j:=a) rfl rfl (by omega) (by omega) v) ?_
  generalize scanUp (fun x=>ltInt x f[a]!) f j i=i3 at V c
  have Y:=scanDown_le (fun x=> !ltInt x f[a]!) f i3 j
  refine vx (d:=f) (p:=fun x=> !ltInt x f[a]!) (j0:=j) (i:=i3) rfl rfl (by omega) (by omega) (fun k R w B v=>n.less (i:=k) (j:=a) rfl rfl (by omega) (by omega) v) ?_
  generalize scanDown (fun x=> !ltInt x f[a]!) f i3 j=j3 at Y c
  refine ao (fun O=>?_) fun Q=>?_
  ·rw[if_pos (by omega)]at c
   rw[q,←c]at L;exact n.swap (i:=j3) (j:=a) rfl rfl (by omega) (by omega) fun P y A=>L P y (H.tr A)
  ·rw[if_neg (by omega)]at c
   refine n.swap (i:=i3) (j:=j3) rfl rfl (by omega) (by omega) fun P y A=>?_
   exact hI (i3+1,j3-1,swp f i3 j3) _ _ ⟨by(try simp only);rw[df (by omega)];rfl,by(try simp only);rw[df (by omega)];omega,y,by simp[C],c,H.tr A,by(try simp only);omega,by(try simp only);omega,by(try simp only);omega⟩ (by(try simp only);omega)
end Go.Proofs
namespace Go.Proofs
open Go.Lift Go.Sort
variable {s:SliceV} {b:Nat} {rest:List Value} {h:ad} {d:Array Int}
@[simp] theorem DJ(lt:Int→Int→Bool):∀(j:Nat) (d:Array Int),(shiftDown lt j d).size=d.size
 |0,d=>rfl
 |j+1,d=>by rw[shiftDown];split;rfl;rw[DJ lt j];simp
@[simp] theorem T4(lt:Int→Int→Bool)(e j:Nat)(d:Array Int):(shiftUp lt e j d).size=d.size:=by
 fun_induction shiftUp lt e j d<;>simp_all
theorem Fc{a e:Nat}(hs:SAG s b rest h d)(ha:a<e)(he:e≤d.size){K:Bool→ad→Prop}(P:∀h',SAG s b rest h' (partialInsertionSort ltInt d a e).1→Upd (· =b) h h'→K (partialInsertionSort ltInt d a e).2 h'):
  fI 210 [.slice s.a s.len s.cap,.int .i64 a,.int .i64 e] K h:=by
 refine cW (fR s a e) kC Tryz.func210 Tryz.call210 ?_;dsimp only[fR,Ey,fQ,cV,rz,cB,sR,uB];have hsm:=hs.small;refine LoopP.ghost (fun(g:Nat×Nat×Array Int) (t:Int×Int) h'=>t.1=(g.2.1:Int)∧t.2=5-(g.1:Int)∧SAG s b rest h' g.2.2∧g.2.2.size=d.size∧partialIns ltInt a e g.1 g.2.1 g.2.2=partialInsertionSort ltInt d a e∧Upd (· =b) h h'∧g.1≤5∧a<g.2.1∧g.2.1≤e) (fun g=>g.1) (5,a+1,d)
  ⟨by(try simp only);rw[df (by omega)];rfl,by(try simp only);omega,hs,rfl,rfl,Upd.refl _ _,by simp,by simp,by(try simp only);omega⟩ ?_
 rintro I ⟨st,i0,G⟩ ⟨t1,t2⟩ h1 ⟨T,ht2,q,W,y,v,hst,hai,S⟩ hI;(try simp only at T ht2 q W y hst hai S)
 subst T ht2;refine ao (fun hlt=>?_) fun hge=>?_
 ·obtain⟨st,rfl⟩:∃k,st=k+1:=⟨st-1,by have:5-(st:Int)<5:=hlt;omega⟩
  refine Join.intro (fun t h'=>∃O U,t=(O:Nat)∧SAG s b rest h' U∧U.size=d.size∧partialIns ltInt a e st O U=partialInsertionSort ltInt d a e∧Upd (· =b) h h'∧a<O∧O≤e) (fun R hR=>?_) ?_
  ·refine LoopP.ghost (fun(i:Nat) (t:Int) h'=>t=(i:Int)∧h'=h1∧scanSorted ltInt G e i=scanSorted ltInt G e i0∧a<i∧i≤e) (fun i=>e-i) i0 ⟨rfl,rfl,rfl,hai,S⟩ ?_
   rintro I2 i t h' ⟨rfl,rfl,hsc,n,o⟩ hI2;refine Join.intro (fun c h''=>h''=h'∧(c=true↔i<e∧ltInt G[i]! G[i-1]! =false)) (fun R2 hR2=>?_) ?_
   ·refine ao (fun hle=>?_) fun hgt=>hR2 _ _ ⟨rfl,by simp;omega⟩
    refine q.less (i:=i) (j:=i-1) rfl (by rw[df (by omega)];omega) (by omega) (by omega) (hR2 _ _ ⟨rfl,by simp;omega⟩)
   ·rintro c h'' ⟨rfl,hc⟩
    refine CondP.intro (fun h2=>?_) fun h2=>?_
    ·have hh:=hc.1 h2
     refine hI2 (i+1) _ _ ⟨by rw[df (by omega)];rfl,rfl,?_,by omega,by omega⟩ (by omega)
     rw[←hsc];conv=>rhs;rw[scanSorted]
     rw[if_pos (by simp[hh])]
    ·have hsi:scanSorted ltInt G e i=i:=by
      rw[scanSorted,if_neg];intro hh;simp only[bj,decide_eq_true_iff,Bool.not_eq_eq_eq_not,Bool.not_true]at hh;rw[hc.2 hh]at h2;cases h2
     have f:=y;rw[partialIns]at f;simp only[←hsc,hsi]at f;refine CondP.intro (fun C=>?_) fun C=>?_
     ·have C:i=e:=Int.ofNat.inj (by simpa using C)
      rw[if_pos C]at f;rw[←f]at P;exact P _ q v
     ·have C:i≠e:=fun e'=>by subst e';simp at C
      rw[if_neg C]at f;have we:ac .i64 ((e:Int)-(a:Int))=((e-a:Nat):Int):=by rw[df (by omega)];omega
      show CondP (decide (ac .i64 ((e:Int)-(a:Int))<50)) _ _
      rw[we];refine ao (fun h4=>?_) fun h4=>?_
      ·rw[if_pos (by omega)]at f
       rw[←f]at P;exact P _ q v
      ·rw[if_neg (by omega)]at f
       have hi1:1≤i:=by omega
       refine q.swap (i:=i) (j:=i-1) rfl (by rw[df (by omega)];omega) (by omega) (by omega) fun h5 F Y=>?_
       have N:(swp G i (i-1)).size=d.size:=by simp[W]
       generalize swp G i (i-1)=d5 at F N f;refine Join.intro (fun _ h'=>SAG s b rest h' (if i-a≥2 then shiftDown ltInt (i-1) d5 else d5)∧Upd (· =b) h h') (fun R3 u=>?_) ?_
       ·have wi:ac .i64 ((i:Int)-(a:Int))=((i-a:Nat):Int):=by rw[df (by omega)];omega
        show CondP (decide (ac .i64 ((i:Int)-(a:Int))≥2)) _ _
        rw[wi];refine ao (fun h6=>?_) fun h6=>?_
        ·rw[if_pos (by omega)]at u
         refine LoopP.ghost (fun(g:Nat×Array Int) (t:Int) h'=>t=(g.1:Int)∧SAG s b rest h' g.2∧g.2.size=d.size∧shiftDown ltInt g.1 g.2=shiftDown ltInt (i-1) d5∧Upd (· =b) h h'∧g.1<e) (fun g=>g.1) (i-1,d5)
          ⟨by rw[df (by omega)];(try simp only);omega,F,N,rfl,v.tr Y,by(try simp only);omega⟩ ?_
         rintro I4 ⟨j,Z⟩ t h7 ⟨ht,w,hz7,p,E,B⟩ D;(try simp only at ht w hz7 p B)
         subst ht;refine ao (fun h8=>?_) fun h8=>?_
         ·obtain⟨j,rfl⟩:∃k,j=k+1:=⟨j-1,by omega⟩
          have Q:ac .i64 (((j+1:Nat):Int)-1)=(j:Int):=by rw[df (by omega)];omega
          rw[shiftDown]at p;refine w.less (i:=j+1) (j:=j) rfl Q (by omega) (by omega) (CondP.intro (fun h9=>?_) fun h9=>?_)
          ·rw[if_pos h9]at p
           exact u _ _ ⟨by rw[←p];exact w,E⟩
          ·rw[if_neg (by rw[h9];simp)]at p
           refine w.swap (i:=j+1) (j:=j) rfl Q (by omega) (by omega) fun z hs10 hu10=>?_
           exact D (j,swp Z (j+1) j) _ _ ⟨Q,hs10,by simp[hz7],p,E.tr hu10,by(try simp only);omega⟩ (by simp)
         ·have:j=0:=by omega
          subst this;exact u _ _ ⟨by rw[←p];exact w,E⟩
        ·rw[if_neg (by omega)]at u
         exact u _ _ ⟨F,v.tr Y⟩
       ·rintro _ h6 ⟨L,X⟩
        have H:(if i-a≥2 then shiftDown ltInt (i-1) d5 else d5).size=d.size:=by split<;>simp[N]
        generalize (if i-a≥2 then shiftDown ltInt (i-1) d5 else d5)=Z at L H f
        have wi:ac .i64 ((e:Int)-(i:Int))=((e-i:Nat):Int):=by rw[df (by omega)];omega
        show CondP (decide (ac .i64 ((e:Int)-(i:Int))≥2)) _ _
        rw[wi];refine ao (fun h7=>?_) fun h7=>?_
        ·rw[if_pos (by omega)]at f
         refine LoopP.ghost (fun(g:Nat×Array Int) (t:Int) h'=>t=(g.1:Int)∧SAG s b rest h' g.2∧g.2.size=d.size∧shiftUp ltInt e g.1 g.2=shiftUp ltInt e (i+1) Z∧Upd (· =b) h h'∧1≤g.1∧g.1≤e) (fun g=>e-g.1) (i+1,Z)
          ⟨by rw[df (by omega)];rfl,L,H,rfl,X,by simp,by(try simp only);omega⟩ ?_
         rintro I4 ⟨j,d7⟩ t h8 ⟨ht,x,A,m,J,hj1,B⟩ D;(try simp only at ht x A m hj1 B)
         subst ht;refine ao (fun h9=>?_) fun h9=>?_
         ·have Q:ac .i64 ((j:Int)-1)=((j-1:Nat):Int):=by rw[df (by omega)];omega
          rw[shiftUp,if_pos (by omega)]at m;refine x.less (i:=j) (j:=j-1) rfl Q (by omega) (by omega) (CondP.intro (fun z=>?_) fun z=>?_)
          ·rw[if_pos z]at m
           exact hR _ _ ⟨i,d7,rfl,x,A,by rw[m];exact f,J,n,o⟩
          ·rw[if_neg (by rw[z];simp)]at m
           refine x.swap (i:=j) (j:=j-1) rfl Q (by omega) (by omega) fun h11 V hu11=>?_
           exact D (j+1,swp d7 j (j-1)) _ _ ⟨by rw[df (by omega)];rfl,V,by simp[A],m,J.tr hu11,by simp,by(try simp only);omega⟩ (by(try simp only);omega)
         ·rw[shiftUp,if_neg (by omega)]at m
          exact hR _ _ ⟨i,d7,rfl,x,A,by rw[m];exact f,J,n,o⟩
        ·rw[if_neg (by omega)]at f
         exact hR _ _ ⟨i,Z,rfl,L,H,f,X,n,o⟩
  ·rintro t h' ⟨O,U,rfl,hs2,hz2,f,hu2,n,o⟩
   exact hI (st,O,U) _ _ ⟨rfl,by(try simp only);rw[df (by omega)];omega,hs2,hz2,f,hu2,by(try simp only);omega,n,o⟩ (by simp)
 ·have:st=0:=by have:¬5-(st:Int)<5:=hge;omega
  subst this;rw[partialIns]at y;rw[←y]at P;exact P _ q v
theorem zj{x y:Nat}(a:SAG s b rest h d)(hx:x<d.size)(o:y<d.size){c:Nat}{n:Int}(hc:h[c]? =some (.cells #[.int .i64 n] 3 (0,0))) (f:c≠b) {K:Int×Int→ad→Prop}
  (g:∀h' (p q:Nat) m,(p=x∧q=y∨p=y∧q=x)→SAG s b rest h' d→h'[c]? =some (.cells #[.int .i64 m] 3 (0,0))→Upd (· =c) h h'→K ((p:Int),(q:Int)) h'):
  QF 304 [.slice s.a s.len s.cap,.int .i64 x,.int .i64 y,gS c] K h:=by
 refine cW (lG s x y (some ⟨c,0,none⟩)) .nil Tryz.func304 Tryz.call304 ?_;dsimp only[lG,cH,sR,uB,rz,cB,fQ];refine a.less (i:=y) (j:=x) rfl rfl o hx (CondP.intro (fun t=>?_) fun t=>?_)
 ·refine⟨_,rfl,n,by rw[bd hc];rfl,_,rfl,eC hc (by simp),?_⟩
  have k:Upd (· =c) h (hset h ⟨c,0,none⟩ (.int .i64 (ac .i64 (n+1)))):=Upd.hset _ _ rfl
  refine g _ y x (ac .i64 (n+1)) (.inr ⟨rfl,rfl⟩) (a.upd k fun e=>f e.symm) ?_ k
  rw[ju hc,dE hc];rfl
 ·exact g _ x y _ (.inl ⟨rfl,rfl⟩) a hc (Upd.refl _ _)
theorem Fl{x y z:Nat}(F:SAG s b rest h d)(hx:x<d.size)(G:y<d.size)(I:z<d.size){c:Nat}{n:Int}(hc:h[c]? =some (.cells #[.int .i64 n] 3 (0,0))) (a:c≠b) {K:Int→ad→Prop}
  (H:∀h' (p:Nat) m,(p=x∨p=y∨p=z)→SAG s b rest h' d→h'[c]? =some (.cells #[.int .i64 m] 3 (0,0))→Upd (· =c) h h'→K (p:Int) h'):
  fH 273 [.slice s.a s.len s.cap,.int .i64 x,.int .i64 y,.int .i64 z,gS c] K h:=by
 refine cW (lH s x y z (some ⟨c,0,none⟩)) .nil Tryz.func273 Tryz.call273 ?_;unfold lH Uj;refine zj F hx G hc a fun Q A B L U w k t=>?_
 have e:B<d.size:=by omega
 have u:A<d.size:=by omega
 refine zj w e I k a fun P E J R S f i o=>?_
 have q:E<d.size:=by omega
 refine zj f u q i a fun O T C D N j g v=>?_
 exact H _ C D (by omega) j g ((t.tr o).tr v)
theorem uj{x:Nat}(i:SAG s b rest h d)(t:1≤x)(hx:x+1<d.size){c:Nat}{n:Int}(hc:h[c]? =some (.cells #[.int .i64 n] 3 (0,0))) (a:c≠b) {K:Int→ad→Prop}
  (k:∀h' (p:Nat) m,(x-1≤p∧p≤x+1)→SAG s b rest h' d→h'[c]? =some (.cells #[.int .i64 m] 3 (0,0))→Upd (· =c) h h'→K (p:Int) h'):
  fH 272 [.slice s.a s.len s.cap,.int .i64 x,gS c] K h:=by
 refine cW (iz s x (some ⟨c,0,none⟩)) .nil Tryz.func272 Tryz.call272 ?_;unfold iz Ul;have o:=i.small;have j:ac .i64 ((x:Int)-1)=((x-1:Nat):Int):=by rw[df (by omega)];omega
 have q:ac .i64 ((x:Int)+1)=((x+1:Nat):Int):=by rw[df (by omega)];omega
 rw[j,q];exact Fl i (by omega) (by omega) hx hc a fun h' p m u e g f=>k h' p m (by omega) e g f
theorem DY{a e:Nat}(J:SAG s b rest h d)(ha:a<e)(he:e≤d.size){K:Int×Int→ad→Prop}
  (y:∀h' (p:Nat) (n:Int),a≤p→p<e→SAG s b rest h' d→Upd No h h'→K ((p:Int),n) h'):
  QF 208 [.slice s.a s.len s.cap,.int .i64 a,.int .i64 e] K h:=by
 refine cW (ji s a e) oX Tryz.func208 Tryz.call208 ?_;dsimp only[ji,Ul,Uk,TR];have V:=J.small;have k0:=Upd.hnew No h [.int .i64 0] 3;have i:=bU h [.int .i64 0] 3;have o:=J.upd k0 id;have X:=bw J.blk;have j:h.size≠b:=by omega
 simp only[Go.Lift.At];generalize hnew h [.int .i64 0] 3=h0 at k0 i o;have wl:ac .i64 ((e:Int)-(a:Int))=((e-a:Nat):Int):=by rw[df (by omega)];omega
 have Y:ac .i64 (oT ((e-a:Nat):Int) 4)=(((e-a)/4:Nat):Int):=by
  rw[lO (by omega),df (by omega)];omega
 have wm:∀k:Nat,k≤3→ac .i64 (((((e-a)/4:Nat):Int))*(k:Int))=(((e-a)/4*k:Nat):Int):=fun k y=>by
  rw[Int.natCast_mul,df];have:(e-a)/4*k≤1000000000*3:=Nat.mul_le_mul (by omega) y;have:(((e-a)/4*k:Nat):Int)=(((e-a)/4:Nat):Int)*(k:Int):=Int.natCast_mul ..;omega
 have N:=wm 1 (by omega);have T:=wm 2 (by omega);have S:=wm 3 (by omega);simp only[Int.cast_ofNat_Int]at N T S;simp only[Bd,wl,Y];have D:ac .i64 ((((e-a)/4:Nat):Int)*1)=(((e-a)/4*1:Nat):Int):=N;have G:ac .i64 ((((e-a)/4:Nat):Int)*2)=(((e-a)/4*2:Nat):Int):=T;have F:ac .i64 ((((e-a)/4:Nat):Int)*3)=(((e-a)/4*3:Nat):Int):=S;rw[D,G,F];have I:∀k:Nat,k≤3→ac .i64 ((a:Int)+(((e-a)/4*k:Nat):Int))=((a+(e-a)/4*k:Nat):Int):=fun k y=>by
  have:(e-a)/4*k≤(e-a)/4*3:=Nat.mul_le_mul_left _ y;rw[df (by omega)];omega
 refine⟨by decide,by decide,by decide,?_⟩
 refine Join.intro (fun t h'=>∃p:Nat,t=(p:Int)∧a≤p∧p<e∧SAG s b rest h' d∧Upd No h h'∧∃m,h'[h.size]? =some (.cells #[.int .i64 m] 3 (0,0))) (fun R O=>?_) ?_
 ·rw[I 1 (by omega),I 2 (by omega),I 3 (by omega)]
  refine ao (fun P=>?_) fun P=>?_
  ·have P:8≤e-a:=by omega
   refine Join.intro (fun t h'=>∃p q r:Nat,t=((p:Int),(q:Int),(r:Int))∧(a≤p∧p<e)∧(a≤q∧q<e)∧(a≤r∧r<e)∧SAG s b rest h' d∧Upd No h h'∧∃m,h'[h.size]? =some (.cells #[.int .i64 m] 3 (0,0))) (fun R2 A=>?_) ?_
   ·refine ao (fun B=>?_) fun B=>?_
    ·have B:50≤e-a:=by omega
     refine uj o (by omega) (by omega) i j fun Q U m1 e1 f g c=>?_
     refine uj f (by omega) (by omega) g j fun W H m2 e2 u v w=>?_
     refine uj u (by omega) (by omega) v j fun h3 Z m3 e3 E C L=>?_
     exact A _ _ ⟨U,H,Z,rfl,by omega,by omega,by omega,E,k0.trans ((c.tr w).tr L) fun b hb=>.inr (cC hb.symm),_,C⟩
    ·exact A _ _ ⟨_,_,_,rfl,by omega,by omega,by omega,o,k0,_,i⟩
   ·rintro t Q ⟨p,q,r,rfl,hp,hq,hr,f,c,m,g⟩
    refine Fl f (by omega) (by omega) (by omega) g j fun W H m2 e2 u v w=>?_
    exact O _ _ ⟨H,rfl,by omega,by omega,u,c.trans w fun b hb=>.inr (cC hb.symm),_,v⟩
  ·exact O _ _ ⟨_,rfl,by omega,by omega,o,k0,_,i⟩
 ·rintro t Q ⟨p,rfl,z,x,f,c,m,g⟩
  refine⟨m,by rw[cz,bd g];rfl,CondP.intro (fun _=>y _ p _ z x f c) fun _=>CondP.intro (fun _=>y _ p _ z x f c) fun _=>y _ p _ z x f c⟩
end Go.Proofs
