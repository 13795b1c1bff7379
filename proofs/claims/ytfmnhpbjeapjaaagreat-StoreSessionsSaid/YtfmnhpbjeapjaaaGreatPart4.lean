/- A part of the proof that the named laws of this program answer true, whatever the input. -/
import Derived.Test.YtfmnhpbjeapjaaaGreatPart3
import Derived.Test.YtfmnhpbjeapjaaaGreatLift3
import Derived.Test.YtfmnhpbjeapjaaaGreatPart2
import Derived.Sort.AssemblyPlain
open Array renaming toList_setIfInBounds→hO
open Bool renaming and_eq_true→aH
open Iff renaming rfl→xu
open Int renaming toNat_natCast→aU,tmod→sM
open List renaming flatMap_cons→bv,size_toArray→cA,length_append→ai,length_map→cB,length_set→mP,length_take→bi,length_drop→aO,append_assoc→aJ,drop_drop→cR,drop_left'→bZ,take_succ_eq_append_getElem→bO,filter_append→dM,getElem?_eq_getElem→aA,take_length→c8,mem_cons→ah,mem_cons_of_mem→aQ,mem_cons_self→aP,length_filter_le→eu,mem_append→bo,mem_singleton→ak,length_cons→aX,mem_filter→bG,append_nil→dR,nil_append→mO,pairwise_append→dL,pairwise_singleton→dE,flatMap_append→bX,cons_append→lR,mem_append_left→gd,mem_append_right→ie,find?_cons→mQ,nodup_nil→db,length_singleton→dz,mem_of_getElem?→bh,getElem?_eq_some_iff→bA
open List.Pairwise renaming nil→gn
open Nat renaming le_refl→av,le_trans→cQ,div_mul_le_self→ma,mul_comm→oM,mul_assoc→uk,mul_le_mul_left→i1,lt_of_lt_of_le→aE
open Prod renaming mk→oK
namespace Go.Proofs
open Go Go.Lift
section
variable {M:Nat→Prop} {h:ac} {s:SliceV} {xs ys:List Int}
theorem FC(l:List Int):l.flatMap u32=l.map fun x=>Value.int .u32 x:=by
 induction l with
 |nil=>rfl
 |cons x l ih=>rw[bv,ih];rfl
theorem OwnS.put1(g:OwnS u32 1 iQ M h s ys){i:Nat}(o:i<ys.length)(x:Int){k:ac→Prop}(q:∀h',OwnS u32 1 iQ M h' s (ys.set i x)→Upd M h h'→k h'):∃a,s.a=some a∧Wr h (adr a (i*1))∧At (hset h (adr a (i*1)) (.int .u32 x)) k:=by
 have d:=g.len;have c:=g.cap;rcases g.blk with u|⟨b,f,j,m,hc,p⟩
 ·omega
 refine⟨_,j,?_⟩;rw[Nat.mul_one];refine KH hc (by rw[cA,ai,FC,cB];omega) (List.setIfInBounds_toArray ..) fun t b2 n=>q t ⟨by rw[mP];exact d,uT,c,.inr ⟨b,f,j,m,?_,p⟩⟩ (n.mono fun _ e=>.inl (e▸m))
 rw[b2,FC,List.set_append_left _ _ (by rw[cB];exact o),FC,List.map_set]
theorem OwnS.cutZ(j:OwnS u32 1 iQ M h s ys){i:Nat}(y:i<ys.length){k:ac→Prop}(v:∀h',OwnS u32 1 iQ M h' ⟨aS s.a 0 s.cap 1,i-0,s.cap-0⟩ (ys.take i)→Upd M h h'→k h'):
  uf h (aS s.a i s.cap 1) 0 (cS (s.len-i) [.int .u32 0])∧At (eM h (aS s.a i s.cap 1) 0 (cS (s.len-i) [.int .u32 0])) k:=by
 have q:=j.len;have n:=j.cap;rcases j.blk with x|⟨b,c,m,p,hc,u⟩
 ·omega
 have g:((ys.take i).flatMap u32).length=i*1:=by rw[jF uT,bi,Nat.min_eq_left (by omega)]
 have o:((ys.drop i).flatMap u32).length=(ys.length-i)*1:=by rw[jF uT,aO]
 rw[yH (f:=u32) ys i]at hc;rw[m,i7 (by omega)];have d:(cS (s.len-i) [Value.int .u32 0]).length=(s.len-i)*1:=kK _ _;refine FO hc (by rw[d,ai,ai,g,o];omega) fun w b2 t=>v w ⟨by rw[bi];simp only;omega,uT,by simp only;omega,
  .inr ⟨b,cS (s.len-i) [Value.int .u32 0]++c,by rw[m,sub_zero],p,?_,?_⟩⟩ (t.mono fun _ e=>.inl (e▸p))
 ·rw[b2]
  congr 2
  rw[aJ,aJ,List.take_left' (by rw[g];omega)];congr 2
  rw[←cR,bZ (by rw[g];omega),bZ (by rw[o,d];omega)]
 ·rw[ai,d,u];simp only;omega
def nz(xs:List Int):List Int:=xs.filter fun x=> !(x==0)
theorem Ms{x:Int}{K:Bool→ac→Prop}(b:K (x==0) h):HV PG (.func (.func rQ) #[] #[]) [.int .u32 x] [.c .bool] K h:=by
 refine HV.mk' (D4 x ?_);unfold wX;exact b
theorem L7(m:OwnS u32 1 iQ M h s xs)(T:xs.length≤1000000){K:SliceV→ac→Prop}(F:∀s' h',OwnS u32 1 iQ M h' s' (nz xs)→Upd M h h'→K s' h'):HC PG u1 [.slice s.a s.len s.cap] [.c .slice] K h:=by
 have u:=m.len;have E:=m.cap;refine Gu s ?_;unfold Av;refine p6 s _ ?_;unfold jx aD bT bV;refine jS s _ ?_;unfold gy aD bT;have P:Sl u32 1 No h s xs:=m.sl fun _ _ _ h=>h
 refine LoopP.ghost (fun(i:Nat) (t:Int) h'=>t=(i:Int)∧h'=h∧i≤xs.length∧nz (xs.take i)=xs.take i) (fun i=>xs.length-i) 0 ⟨rfl,rfl,Nat.zero_le _,by simp[nz]⟩ ?_
 rintro I i t h' ⟨rfl,rfl,R,k⟩ Q;refine ax (fun c=>?_) fun L=>?_
 ·have c:i<xs.length:=by omega
  obtain⟨a,z,_,hx⟩:=Nums.at P c;refine⟨by omega,a,z,_,hx,Ms (CondP.intro (fun e=>?_) fun e=>?_)⟩
  ·
   have N:nz (xs.take (i+1))=xs.take i:=by
    rw[bO c];unfold nz at k⊢;rw[dM,k];simp[e]
   refine CondP.intro (fun G=>?_) fun _=>?_
   ·simp at G
   rw[gN c (by omega)];refine LoopP.ghost (fun(g:Nat×Nat×List Int) (t:Int×Int) w=>t=((g.1:Int),(g.2.1:Int))∧g.1<g.2.1∧g.2.1≤xs.length∧OwnS u32 1 iQ M w s g.2.2∧g.2.2.take g.1=nz (xs.take g.2.1)∧g.2.2.drop g.2.1=xs.drop g.2.1∧Upd M h' w) (fun g=>xs.length-g.2.1) (i,i+1,xs) ⟨rfl,by simp only;omega,by simp only;omega,m,N.symm,rfl,Upd.refl _ _⟩ ?_
   rintro S ⟨p,j,ys⟩ t w ⟨rfl,B,H,d,o,hd,A⟩ q;have d:OwnS u32 1 iQ M w s ys:=d;have O:ys.length=xs.length:=d.len.symm.trans u;simp only at B H o hd⊢;refine ax (fun b=>?_) fun D=>?_
   ·have b:j<xs.length:=by omega
    have C:ys[j]'(by omega)=xs[j]:=by
     have:=congrArg List.head? hd;simpa[List.head?_drop,aA b,aA (show j<ys.length by omega)]using this
    obtain⟨a,z,_,hx⟩:=Nums.at (d.sl (W:=No) fun _ _ _ h=>h) (show j<ys.length by omega)
    rw[C]at hx;have v:ys.drop (j+1)=xs.drop (j+1):=by rw[←cR,hd,cR]
    refine Join.plain ⟨by omega,a,z,_,hx,Ms (CondP.intro (fun e=>?_) fun e=>?_)⟩
    ·have f:(!(xs[j]==0))=true:=e
     refine⟨by omega,?_⟩;rw[aU];refine OwnS.put1 d (i:=p) (by omega) xs[j] fun J x y=>?_
     rw[gN (i:=p) (n:=xs.length) (by omega) (by omega),gN b (by omega)];refine q (p+1,j+1,ys.set p xs[j]) _ _ ⟨rfl,by simp only;omega,by simp only;omega,x,?_,?_,A.tr y⟩ (by simp only;omega)
     ·simp only
      rw[bO (by rw[mP];omega),List.getElem_set_self,List.take_set_of_le (av _),o,bO b];unfold nz;rw[dM];simp[f]
     ·simp only
      rw[List.drop_set_of_lt (by omega),v]
    ·have f:(!(xs[j]==0))=false:=e
     rw[gN b (by omega)];refine q (p,j+1,ys) _ _ ⟨rfl,by simp only;omega,by simp only;omega,d,?_,v,A⟩ (by simp only;omega)
     simp only;rw[o,bO b];unfold nz;rw[dM];simp[f]
   ·have:j=xs.length:=by omega
    subst this;rw[c8]at o;refine⟨by omega,?_⟩;rw[aU];refine OwnS.cutZ (ys:=ys) d (by omega) fun J x y=>⟨by omega,?_⟩
    rw[o]at x;exact F _ _ x (A.tr y)
  ·rw[gN c (by omega)]
   refine Q (i+1) _ _ ⟨rfl,rfl,by omega,?_⟩ (by omega)
   rw[bO c];unfold nz at k⊢;rw[dM,k];simp[e]
 ·have:i=xs.length:=by omega
  subst this;rw[c8]at k;rw[←k]at m;exact aK.2 (F s _ m (Upd.refl _ _))
end
end Go.Proofs
namespace Go.Proofs
open Go Go.Lift
def yl(s:VS)(n:ByteArray)(d:TD)(ps:List Int):(Int×Int)×VS:=
 if(kJ s.L s.nx ps).1.2≠0 then((0,(kJ s.L s.nx ps).1.2),s)
 else(((kJ s.L s.nx ps).1.1,0),{s with L:=(kJ s.L s.nx ps).2.1,nx:=(kJ s.L s.nx ps).2.2,D:=my s.D (kJ s.L s.nx ps).1.1 d,B:=my s.B n (kJ s.L s.nx ps).1.1})
theorem NX{L:fH}{nx:Int}{ps:List Int}(h:(kJ L nx ps).1.2≠0):(kJ L nx ps).2=(L,nx):=by
 unfold kJ at h⊢;split
 ·rfl
 ·split
  ·rfl
  ·split
   ·rfl
   ·rename_i h1 h2 h3
    rw[if_neg h1,if_neg h2,if_neg h3]at h;exact absurd rfl h
theorem LF{L:fH}{nx:Int}{ps:List Int}(h:(kJ L nx ps).1.2=0):kJ L nx ps=((nx,0),zG L nx ps,nx+1):=by
 unfold kJ at h⊢;split at h
 ·rename_i h1;exact absurd h h1
 ·split at h
  ·rename_i h1;exact absurd h h1
  ·split at h
   ·have h:(6:Int)=0:=h
    omega
   ·rename_i h1 h2 h3;rw[if_neg h1,if_neg h2,if_neg h3]
theorem wK{h:ac}{k:ac→Prop}(b:∀h',h'=h→k h'):At h k:=bl (b h rfl)
theorem HN{κ β:Type}[DecidableEq κ]{k:κ}{v:β}:∀{l:List (κ×β)} {p:κ×β},p∈my l k v→p=(k,v)∨p∈l
 | [],p,h=>.inl (by simpa[my]using h)
 |(k',u)::l,p,h=>by
  unfold my at h;split at h
  ·exact(ah.1 h).imp id (aQ _)
  ·rcases ah.1 h with h|h
   ·exact .inr (h▸aP)
   ·exact(HN h).imp id (aQ _)
theorem D1{β:Type}{k:Int}{v:β}:∀{l:List (Int×β)},cz l k=some v→(k,v)∈l
 |(k',u)::l,h=>by
  unfold cz at h;split at h
  ·rename_i e;cases h;rw[e];exact aP
  ·exact aQ _ (D1 h)
section
variable {W:Nat→Prop} {h0 h:ac} {vp:Nat} {s:VS}
theorem VaultAt.size(v:VaultAt W h vp s){y:Nat}(b:s.M y):y<h.size:=v.g.lt y (v.w y b)
theorem VS.mG{s:VS}{y:Nat}(h:CB s.gp s.gm y):s.M y:=h.imp id .inl
theorem GK(v:VaultAt W h0 vp s)(k0:Upd No h0 h)(n:ByteArray){d:TD}(i:TreeIs W h0 s.kind s.x d.1 d.2)(hr:fk d.2)(hf:Fit d.2){pb:Nat}(T:h0.size≤pb)(hpb2:pb<h.size){sl:SliceV}{ps:List Int}(ho:OwnS u32 1 iQ (· =pb) h sl ps)(hn:ps.length≤1000000)
  {K:Int×Int→ac→Prop}(E:∀h',Upd s.M h0 h'→VaultAt W h' vp (yl s n d (nz ps)).2→K (yl s n d (nz ps)).1 h'):
  HC PG j7 [pV vp,.string n,GO d.1,.slice sl.a sl.len sl.cap] [.c (.int .u32),.c (.int .i64)] K h:=by
 refine vJ (some ⟨vp,0,none⟩) n d.1 sl ?_;unfold o6 aD ag ad bJ af rl CL GJ;refine bc fun h1 b1 k1=>⟨_,rfl,_,vc (v.upd0 (k0.tr k1)).blk 6,?_⟩
 have s0:=k0.size;refine L7 (ho.upd k1 fun _ _ h=>h) hn fun s5 h5 o5 u5=>?_
 have J:Upd No h0 h5:=(k0.tr k1).own u5 T;have t:=v.upd0 J;have b5:=u5.oth b1 (show h.size≠pb by omega)
 have hl5:(nz ps).length≤ps.length:=eu ..;have U:∀y,W y→y<h0.size:=v.g.lt;refine⟨vc t.blk 6,OY t.g (by have:=v.inv.nx1;omega) (fun hm=>by have:=(v.inv.pos _ hm).2;omega) (o5.sl (W:=W) fun b w _ hw=>by have:=U b hw;omega) (by omega) fun N q I=>?_⟩
 have P:∀y,CB s.gp s.gm y→W y∨h5.size≤y:=fun y c=>.inl (v.w y (VS.mG c))
 obtain⟨n1,n2,n3,n4,n5,n6,n7,n8,n9,n10⟩:=VS.neB v.ne;have x:∀y,y≠s.gp→y≠s.gm→¬CB s.gp s.gm y:=fun y h1 h2 h=>h.elim h1 h2
 have Z:=t.t.upd q (x _ n2.symm n5.symm);have m7:=t.b.upd q (x _ n3.symm n6.symm);have G:=t.n.upd q (x _ n4.symm n7.symm);refine CondP.intro (fun e=>?_) fun e=>?_
 ·have e:(kJ s.L s.nx (nz ps)).1.2≠0:=by simpa using e
  have O:=NX e;have Q:yl s n d (nz ps)=((0,(kJ s.L s.nx (nz ps)).1.2),s):=by unfold yl;rw[if_pos e]
  rw[Q]at E;rw[O]at I;exact E N (J.wide.tr (q.mono fun y c=>.inl (VS.mG c))) (t.turn q P I Z m7 G (fun d hd=>.inl hd) v.sub v.inv)
 ·have e:(kJ s.L s.nx (nz ps)).1.2=0:=by simpa using e
  have O:=LF e;have u:=v.inv.add (nz ps);have Q:yl s n d (nz ps)=(((kJ s.L s.nx (nz ps)).1.1,0),{s with L:=(kJ s.L s.nx (nz ps)).2.1,nx:=(kJ s.L s.nx (nz ps)).2.2,D:=my s.D (kJ s.L s.nx (nz ps)).1.1 d,B:=my s.B n (kJ s.L s.nx (nz ps)).1.1}):=by unfold yl;rw[if_neg (by rw[e];simp)]
  rw[Q]at E;rw[O]at I E u⊢;have H:∀y,s.M y→vp≠y:=fun y c e=>v.wv (e▸v.w y c)
  have c7:=q.get t.blk fun hm=>H _ (VS.mG hm) rfl
  have z:=q.get b5 fun hm=>by have:=v.size (VS.mG hm);omega
  refine⟨_,rfl,_,vc c7 7,_,vc z 0,_,vc z 1,_,vc z 2,_,vc z 3,_,vc z 4,_,vc z 5,_,rfl,Z.isMap,wK fun f m=>?_⟩
  have m:f=nJ N s.tm (KE.enc s.nx) (Rr d):=m;have j:Upd (· =s.tm) N f:=by rw[m];exact ur N _ _ rfl
  have t17:MapAt KE Rr f s.tm (my s.D s.nx d):=by rw[m];exact Z.put s.nx d
  have F:=m7.upd j (fun e=>n8 e.symm)
  have A:=G.upd j (fun e=>n9 e.symm)
  have g17:=I.upd j fun b w=>.inl ⟨v.w b (.inr (.inr (.inl w))),fun e=>n2 (e.symm.trans w),fun e=>n5 (e.symm.trans w)⟩
  have V:=j.get c7 fun e=>H _ (.inr (.inr (.inl rfl))) e
  refine⟨_,rfl,_,vc V 8,_,rfl,F.isMap,wK fun g k=>?_⟩
  have k:g=nJ f s.bm (kStr.enc n) (N8 s.nx):=k;have o:Upd (· =s.bm) f g:=by rw[k];exact ur f _ _ rfl
  have S:MapAt kStr N8 g s.bm (my s.B n s.nx):=by rw[k];exact F.put n s.nx
  have R:=t17.upd o n8;have C:=A.upd o (fun e=>n10 e.symm)
  have X:=g17.upd o fun b w=>.inl ⟨v.w b (.inr (.inr (.inr (.inl w)))),fun e=>n3 (e.symm.trans w),fun e=>n6 (e.symm.trans w)⟩
  have Y:Upd s.M h5 g:=((q.mono fun y c=>.inl (VS.mG c)).tr (j.mono fun y c=>.inl (.inr (.inr (.inl c))))).tr (o.mono fun y c=>.inl (.inr (.inr (.inr (.inl c)))))
  refine E g (J.wide.tr Y) (t.turn Y (fun y c=>.inl (v.w y c)) X R S C (fun p hp=>(HN hp).elim (fun e=>.inr ?_) .inl) (fun id=>?_) u)
  ·subst e
   have ku:Upd s.M h0 g:=J.wide.tr Y;exact⟨i.updM ku fun y c=>.inl (v.w y c),hr,hf⟩
  ·rw[Ft,insV_ids.mem_iff,ah,←v.sub id]
   split
   ·rename_i hm
    exact⟨.inr,fun h=>h.elim (fun e=>e▸hm) fun h=>h⟩
   ·rw[bo,ak,Or.comm]
end
end Go.Proofs
namespace Go.Proofs
open Go Go.Lift
abbrev Rz:List Value:= [.string (⟨#[]⟩:ByteArray),.string (⟨#[]⟩:ByteArray)]
theorem Q1{h:ac}{t:TypeId}{p:Pr}{k:ac→Prop}(e:∀h',h'[h.size]? =some (.cells #[.string p.1,.string p.2] t (0,0))→Upd No h h'→k h'):
  At (hnew h [.string (⟨#[]⟩:ByteArray),.string (⟨#[]⟩:ByteArray)] t) fun d=>uf d (some (aV h)) 0 [.string p.1,.string p.2]∧At (ii d (aV h) 0 [.string p.1,.string p.2]) k:=by
 refine bc fun g b1 k1=>?_
 exact cU (c:=Rz) (vs:= [.string p.1,.string p.2]) b1 rfl fun f b2 b=>e f b2 (k1.own b (av _))
theorem Fa(p:Pr):∀{l:List Pr},(jb p l).length≤l.length+1
 | []=>av _
 |q::l=>by
  rw[lC];split
  ·have:=Fa p (l:=l);simp only[aX];omega
  ·split<;>simp
theorem Lc{W W':Nat→Prop}{h h':ac}{kind:Int}{x:Hs}{t u:Tr}{l c:List Pr}(i:TreeIs W h kind x t l)(d:TreeIs W' h' kind x u c):Ho t u=true:=by
 rcases i with⟨rfl,b,rfl,_⟩|⟨rfl,b,rfl,_⟩<;>rcases d with⟨e,b',rfl,_⟩|⟨e,b',rfl,_⟩
 ·simp[Ho]
 ·cases e
 ·cases e
 ·simp[Ho]
theorem Q3{k:Int}(b:0≤k)(c:k≤255):IntKind.wrap .i64 (sM k 2)=0∨IntKind.wrap .i64 (sM k 2)=1:=by
 have:sM k 2=k%2:=Int.tmod_eq_emod_of_nonneg b;rw[this,dT (by omega)];omega
abbrev hsL(x:Hs):List Value:= [.int .u64 x.k0,.int .u64 x.k1,.int .u64 x.mask]
end Go.Proofs
namespace Go.Proofs
open Go Go.Lift
section
variable {W:Nat→Prop} {h:ac} {vp:Nat} {s:VS}
theorem Ih(v:VaultAt W h vp s)(n:ByteArray){hd:Int}(p:cz s.B n=some hd){d:TD}(i:TreeIs W h s.kind s.x d.1 d.2)(m:fk d.2)(k:Fit d.2)
  {K:Int×Int→ac→Prop}(o:∀h',Upd s.M h h'→VaultAt W h' vp (yl s n d (nz [hd])).2→K (yl s n d (nz [hd])).1 h'):
  HC PG kV [pV vp,.string n,GO d.1] [.c (.int .u32),.c (.int .i64)] K h:=by
 refine wP (some ⟨vp,0,none⟩) n d.1 ?_;unfold qc ag ad dS di bJ af rl CL rj;refine bc fun x b1 k1=>GL (v.upd0 k1) n ?_
 rw[p];refine aq.2 ⟨_,vc b1 0,_,vc b1 1,_,vc b1 2,_,vc b1 3,_,vc b1 4,_,vc b1 5,_,rfl,?_⟩;have c1:=k1.get0 v.blk;refine⟨_,sO c1 0 0,_,sO c1 0 1,_,sO c1 0 2,_,sO c1 0 3,_,sO c1 0 4,_,sO c1 0 5,?_⟩;refine Mh (t:=d.1) (u:=s.e) fun c e=>?_
 rw[Lc i v.em];have b2:=e.get0 b1;refine aq.2 ⟨_,vc b2 0,_,vc b2 1,_,vc b2 2,_,vc b2 3,_,vc b2 4,_,vc b2 5,bc fun w b3 g=>?_⟩
 have b:=k1.tr e;have q:=b.size;refine GK v (b.tr g) n i m k (pb:=c.size) q (aL b3) (sl:=⟨some (aV c),1,1⟩) (ps:= [hd]) ⟨rfl,uT,av _,.inr ⟨c.size,[],rfl,rfl,b3,rfl⟩⟩ (by simp) fun h' j f=>o h' j f
end
end Go.Proofs
namespace Go.Proofs
open Go Go.Lift
end Go.Proofs
namespace Go.Proofs
open Go Go.Lift
theorem GX{W:Nat→Prop}{h:ac}{b:Nat}{sl:ByteArray}{w:Option ByteArray}{F:Fo}(r:RxN W h b sl w F){K:ByteArray×Bool→ac→Prop}(d:K (w.getD ⟨#[]⟩,w.isSome) h):HC PG mZ [.pointer (some ⟨b,0,none⟩)] [.c .str,.c .bool] K h:=by
 refine yV _ ?_;unfold sB f8 cG;obtain⟨val,s,ow,ks,c,rfl,_⟩:=r;exact aq.2 ⟨_,rfl,_,jt (i:=2) c,_,rfl,w.isSome,jt (i:=1) c,d⟩
end Go.Proofs
namespace Go.Proofs
open Go Go.Lift
end Go.Proofs
namespace Go.Proofs
open Go Go.Lift
end Go.Proofs
namespace Go.Proofs
structure WO{α:Type}(lt:α→α→Bool):Prop where
 irr:∀a,lt a a=false
 asy:∀a b,lt a b=true→lt b a=false
 ntr:∀a b c,lt a b=false→lt b c=false→lt a c=false
section
variable {α:Type} {lt:α→α→Bool}
def Ky(lt:α→α→Bool)(x a:α):Bool:= !lt a x&& !lt x a
def Srt(lt:α→α→Bool)(l:List α):Prop:=l.Pairwise fun a b=>lt b a=false
structure Eqf(lt:α→α→Bool)(l l':List α):Prop where
 len:l'.length=l.length
 flt:∀x,l'.filter (Ky lt x)=l.filter (Ky lt x)
structure St(lt:α→α→Bool)(l l':List α):Prop where
 eqf:Eqf lt l l'
 srt:Srt lt l'
theorem Eqf.rfl(l:List α):Eqf lt l l:=⟨_root_.rfl,fun _=>_root_.rfl⟩
theorem Eqf.tr{a b c:List α}(h:Eqf lt a b)(k:Eqf lt b c):Eqf lt a c:=⟨k.len.trans h.len,fun x=>(k.flt x).trans (h.flt x)⟩
theorem Eqf.app{a b a' b':List α}(h:Eqf lt a a')(k:Eqf lt b b'):Eqf lt (a++b) (a'++b'):=
 ⟨by rw[ai,ai,h.len,k.len],fun x=>by rw[dM,dM,h.flt,k.flt]⟩
theorem DT(w:WO lt)(a:α):Ky lt a a=true:=by unfold Ky;rw[w.irr];rfl
theorem Eqf.mem(w:WO lt){l b:List α}(h:Eqf lt l b){a:α}:a∈b↔a∈l:=by
 have e:=h.flt a;constructor
 ·intro hm
  have:a∈b.filter (Ky lt a):=bG.2 ⟨hm,DT w a⟩;rw[e]at this;exact(bG.1 this).1
 ·intro hm
  have:a∈l.filter (Ky lt a):=bG.2 ⟨hm,DT w a⟩;rw[←e]at this;exact(bG.1 this).1
theorem O3(w:WO lt){x u v:α}(b:Ky lt x u=true)(c:Ky lt x v=true):lt v u=false:=by
 unfold Ky at b c;simp only[aH,Bool.not_eq_true']at b c;exact w.ntr v x u c.1 b.2
theorem Eqf.swap(w:WO lt){U V:List α}(h:∀u∈U,∀v∈V,lt v u=true):Eqf lt (U++V) (V++U):=by
 refine⟨by rw[ai,ai,Nat.add_comm],fun x=>?_⟩
 rw[dM,dM];cases hU:U.filter (Ky lt x)with
 |nil=>rw[dR,mO]
 |cons u us=>
  cases hV:V.filter (Ky lt x)with
  |nil=>rw[dR,mO]
  |cons v vs=>
   have e:u∈U.filter (Ky lt x):=by rw[hU];exact aP ..
   have f:v∈V.filter (Ky lt x):=by rw[hV];exact aP ..
   have c:=bG.1 e;have d:=bG.1 f;have b:=h u c.1 v d.1;rw[O3 w c.2 d.2]at b;cases b
theorem Srt.app{a b:List α}(h:Srt lt a)(k:Srt lt b)(c:∀x∈a,∀y∈b,lt y x=false):Srt lt (a++b):=dL.2 ⟨h,k,c⟩
theorem Srt.left{a b:List α}(h:Srt lt (a++b)):Srt lt a:=(dL.1 h).1
theorem Srt.right{a b:List α}(h:Srt lt (a++b)):Srt lt b:=(dL.1 h).2.1
theorem Srt.nil:Srt lt ([]:List α):=gn
theorem Srt.one(a:α):Srt lt [a]:=dE ..
end
end Go.Proofs
namespace Go.Proofs
open Go Go.Lift
section
variable {α:Type} {f:α→List Value} {sz:Nat} {t:TypeId} {M:Nat→Prop} {h:ac} {s:SliceV} {P Q:List α} {x:α}
end
structure Cmp{α:Type}(lt:α→α→Bool)(f:α→List Value)(M:Nat→Prop)(Iv:ac→Prop)(V:Value):Prop where
 call:∀(a b:α) {h:ac} {K:Int→ac→Prop},Iv h→(∀h' e,Upd No h h'→decide (e<0)=lt a b→K e h')→HV PG V [.agg (f a).toArray,.agg (f b).toArray] [.c (.int .i64)] K h
 step:∀{h h':ac},Upd M h h'→Iv h→Iv h'
end Go.Proofs
namespace Go.Proofs
open Go Go.Lift
end Go.Proofs
namespace Go.Proofs
open Go Go.Lift
variable {z0:Hs}
end Go.Proofs
namespace Go.Proofs
open Go Go.Lift
end Go.Proofs
namespace Go.Proofs
open Go Go.Lift
end Go.Proofs
namespace Go.Proofs
open Go Go.Lift
def wl(x:Hs):Nat→List Pr→List Pr
 |0,l=>l
 |m+1,l=>QT x (12-m) l++(Pu x (12-m) l).flatMap (wl x m)
def cw(x:Hs):Nat→List Pr→Nat
 |0,_=>2
 |m+1,l=>2+((Pu x (12-m) l).map (cw x m)).sum
structure Fr where
 sp:SliceV
 sk:SliceV
 n:Nat
 ps:List Pr
 ks:List (Nat×List Pr)
def Fr.raw(f:Fr):SliceV×SliceV:=(f.sp,f.sk)
def Fr.rem(x:Hs)(f:Fr):List Pr:=f.ps++f.ks.flatMap fun k=>wl x (f.n-1) k.2
theorem setCell{α:Type}{f:α→List Value}{c:Nat}{t:TypeId}{M:Nat→Prop}{h:ac}{s:SliceV}{P Q:List α}{x y:α}{j:Nat}{v:Value}(m:OwnS f c t M h s (P++x::Q))(I:j<c)(E:f y=(f x).set j v){a:Addr}(w:s.a=some a){i:Nat}(C:i=P.length){G:ac→Prop}(F:∀h',OwnS f c t M h' s (P++y::Q)→Upd M h h'→G h'):
  Wr h (adr (adr a (i*c)) j)∧At (hset h (adr (adr a (i*c)) j) v) G:=by
 subst C;have o:=m.ne;have d:=m.len;have g:=m.cap;rcases m.blk with H|⟨b,e,k,A,hc,D⟩
 ·rw[ai,aX]at d;omega
 rw[w]at k;cases k;have J:(P.flatMap f).length=P.length*c:=jF o P;rw[bX,bv]at hc;have K:=(o x).1;have B:adr (adr ⟨b,0,none⟩ (P.length*c)) j=⟨b,P.length*c+j,none⟩:=by rw[bC,bC,Nat.zero_add]
 rw[B];have q:P.length*c+j<(P.flatMap f++(f x++Q.flatMap f)++e).toArray.size:=by
  simp only[cA,ai];omega
 refine⟨fR hc q,yL hc fun h' p n=>F h' ⟨by rw[d];simp,o,g,.inr ⟨b,e,w,A,?_,D⟩⟩ (n.mono fun z u=>.inl (by have u:z=b:=u;rw[u];exact A))⟩
 rw[p];congr 3
 rw[bX,bv,E];apply Array.toList_inj.1;rw[hO];simp only[aJ];rw[List.set_append_right _ _ (by omega),show P.length*c+j-(P.flatMap f).length=j by omega,List.set_append_left _ _ (by omega)]
end Go.Proofs
namespace Go.Proofs
open Go Go.Lift
end Go.Proofs
namespace Go.Proofs
open Go Go.Lift
def Below(W:Nat→Prop)(x:Hs)(h:ac)(m:Nat)(r:Option Addr)(l:List Pr):Prop:=(r=none∧l= [])∨∃b,r=some ⟨b,0,none⟩∧TrieAt W x h m b l
theorem Below.upd0{W:Nat→Prop}{x:Hs}{h h':ac}{m:Nat}{r:Option Addr}{l:List Pr}(k:Upd No h h')(t:Below W x h m r l):Below W x h' m r l:=t.imp id fun⟨b,e,t⟩=>⟨b,e,TrieAt.upd0 k t⟩
theorem Below.less{W W':Nat→Prop}{x:Hs}{h:ac}{m:Nat}{r:Option Addr}{l:List Pr}(hm:∀b,W' b→W b∨h.size≤b)(t:Below W x h m r l):Below W' x h m r l:=t.imp id fun⟨b,e,t⟩=>⟨b,e,TrieAt.less hm t⟩
theorem Below.updM{W M:Nat→Prop}{x:Hs}{h h':ac}{m:Nat}{r:Option Addr}{l:List Pr}(k:Upd M h h')(hm:∀b,M b→W b∨h.size≤b)(t:Below W x h m r l):Below W x h' m r l:=t.imp id fun⟨b,e,t⟩=>⟨b,e,TrieAt.updM k hm t⟩
end Go.Proofs
namespace Go.Proofs
open Go.Lift
abbrev Ch:=ByteArray×ByteArray×ByteArray×Bool×Bool
abbrev Sa(c:Ch):List Value:= [.string c.1,.string c.2.1,.string c.2.2.1,.bool c.2.2.2.1,.bool c.2.2.2.2]
end Go.Proofs
namespace Go.Proofs
open Go Go.Lift
end Go.Proofs
namespace Go.Proofs
open Go Go.Lift
theorem Mi{t:Tr}{h:ac}{K:Int→ac→Prop}(b:∀h',Upd No h h'→K t.1 h'):HC PG jd [GO t] [.c (.int .i64)] K h:=by
 refine Bw t ?_;unfold uF ag rl;exact bc fun c b1 k1=>⟨_,vc b1 0,b c k1⟩
end Go.Proofs
namespace Go.Proofs
open Go Go.Lift
end Go.Proofs
namespace Go.Proofs
open Go Go.Lift
def hx(kind v:Int):Int:=if kind=0 then v else 0
end Go.Proofs
namespace Go.Proofs
open Go Go.Lift
structure Few(n:Nat)(L:List Pr):Prop where
 up:fk L
 len:L.length≤n
 fit:∀p∈L,p.1.size≤30∧p.2.size≤30
theorem Few.ins{n:Nat}{L:List Pr}(f:Few n L)(p:Pr)(d:p.1.size≤30)(b:p.2.size≤30):Few (n+1) (jb p L):=
 ⟨EX p f.up,cQ (Fa p) (by have:=f.len;omega),fun q c=>(zC c).elim (fun e=>by rw[e];exact⟨d,b⟩) fun h=>f.fit q h⟩
theorem Few.fits{n:Nat}{L:List Pr}(f:Few n L):Fit L:=fun p b=>by have:=f.fit p b;omega
end Go.Proofs
namespace Go.Proofs
open Go Go.Lift
end Go.Proofs
namespace Go.Proofs
open Go Go.Lift
theorem IR{h:ac}{b:Nat}{c:Array Value}{t:TypeId}(d:h[b]? =some (.cells c t (0,0))) (hc:0<c.size):fK h ⟨b,0,none⟩:=⟨c,t,d,hc⟩
theorem TrieAt.plain{W:Nat→Prop}{x:Hs}{h:ac}:∀{m b:Nat} {l:List Pr},TrieAt W x h m b l→fK h ⟨b,0,none⟩
 |0,_,_,t=>by obtain⟨_,_,_,c,_⟩:=BuckAt.ex t;exact IR c (by simp[fL])
 |m+1,_,_,⟨s,nd,_⟩=>by obtain⟨_,_,_,_,_,c,_⟩:=nd.ex;exact IR c (by simp[fL])
end Go.Proofs
namespace Go.Proofs
open Go Go.Lift
end Go.Proofs
namespace Go.Proofs
open Go Go.Lift
theorem RxN.plain{W:Nat→Prop}{h:ac}{b:Nat}{sl:ByteArray}{w:Option ByteArray}{F:Fo}(r:RxN W h b sl w F):fK h ⟨b,0,none⟩:=by
 obtain⟨val,s,ow,ks,c,_⟩:=r;exact IR c (by simp[EU])
end Go.Proofs
namespace Go.Proofs
open Go Go.Lift
end Go.Proofs
namespace Go.Proofs
open Go Go.Lift
abbrev ON:ByteArray:=⟨#[0,1,2,2,3,3,3,3,4,4,4,4,4,4,4,4,5,5,5,5,5,5,5,5,5,5,5,5,5,5,5,5,6,6,6,6,6,6,6,6,6,6,6,6,6,6,6,6,6,6,6,6,6,6,6,6,6,6,6,6,6,6,6,6,7,7,7,7,7,7,7,7,7,7,7,7,7,7,7,7,7,7,7,7,7,7,7,7,7,7,7,7,7,7,7,7,7,7,7,7,7,7,7,7,7,7,7,7,7,7,7,7,7,7,7,7,7,7,7,7,7,7,7,7,7,7,7,7,8,8,8,8,8,8,8,8,8,8,8,8,8,8,8,8,8,8,8,8,8,8,8,8,8,8,8,8,8,8,8,8,8,8,8,8,8,8,8,8,8,8,8,8,8,8,8,8,8,8,8,8,8,8,8,8,8,8,8,8,8,8,8,8,8,8,8,8,8,8,8,8,8,8,8,8,8,8,8,8,8,8,8,8,8,8,8,8,8,8,8,8,8,8,8,8,8,8,8,8,8,8,8,8,8,8,8,8,8,8,8,8,8,8,8,8,8,8,8,8,8,8,8,8,8,8,8,8]⟩
theorem OM:∀x:Nat,x<256→∃c:UInt8,ON[x]? =some c∧c.toNat≤8∧(1≤x→2^c.toNat≤2*x)∧(x=0→c.toNat=0):=by
 have key:∀x:Fin 256,∃c:UInt8,ON[x.val]? =some c∧c.toNat≤8∧(1≤x.val→2^c.toNat≤2*x.val)∧(x.val=0→c.toNat=0):=by
  intro x;have:∀x:Fin 256,(match ON[x.val]? with|some c=>decide (c.toNat≤8∧(1≤x.val→2^c.toNat≤2*x.val)∧(x.val=0→c.toNat=0))|none=>false)=true:=by decide+kernel
  have hx:=this x;split at hx
  ·rename_i c hc
   exact⟨c,hc,of_decide_eq_true hx⟩
  ·cases hx
 exact fun x hx=>key ⟨x,hx⟩
theorem MW{h:ac}{n:Nat}(y:n<4294967296){K:Int→ac→Prop}(q:∀L:Nat,L≤64→(1≤n→2^L≤2*n)→K (L:Int) h):HC PG kw [.int .u64 n] [.c (.int .i64)] K h:=by
 refine tp n ?_;unfold oH;have fd:∀(x k:Nat),Int.fdiv (x:Int) (2^k)=((x/2^k:Nat):Int):=fun x k=>by
  rw[Int.fdiv_eq_ediv_of_nonneg _ (Int.pow_nonneg (by omega))];rw[Int.natCast_ediv,Int.natCast_pow];rfl
 refine Join.intro (fun t h'=>h'=h∧t=((n:Int),(0:Int))) (fun R e=>?_) ?_
 ·exact ax (fun b=>by omega) fun b=>e _ _ ⟨rfl,rfl⟩
 ·rintro t h' ⟨rfl,rfl⟩
  refine Join.intro (fun t j=>j=h'∧∃x s:Nat,t=((x:Int),(s:Int))∧x*2^s≤n∧(1≤n→1≤x)∧x<65536∧s≤16) (fun R e=>?_) ?_
  ·refine ax (fun b=>?_) fun b=>e _ _ ⟨rfl,n,0,rfl,by simp,fun h=>h,by have b:¬(n:Int)≥65536:=b;omega,by omega⟩
   have b:65536≤n:=by have b:(n:Int)≥65536:=b;omega
   refine⟨by omega,e _ _ ⟨rfl,n/2^16,16,?_,ma ..,fun _=>by omega,by omega,by omega⟩⟩
   simp only[oK.injEq];exact⟨fd n 16,by decide⟩
  ·rintro t j ⟨rfl,x,s,rfl,hx,d,f,i⟩
   refine Join.intro (fun t g=>g=j∧∃x s:Nat,t=((x:Int),(s:Int))∧x*2^s≤n∧(1≤n→1≤x)∧x<256∧s≤24) (fun R e=>?_) ?_
   ·refine ax (fun b=>?_) fun b=>e _ _ ⟨rfl,x,s,rfl,hx,d,by have b:¬(x:Int)≥256:=b;omega,by omega⟩
    have b:256≤x:=by have b:(x:Int)≥256:=b;omega
    refine⟨by omega,e _ _ ⟨rfl,x/2^8,s+8,?_,?_,fun _=>by omega,by omega,by omega⟩⟩
    ·simp only[oK.injEq]
     exact⟨fd x 8,by rw[dT (by omega)];omega⟩
    ·rw[Nat.pow_add,oM (2^s),←uk]
     exact cQ (Nat.mul_le_mul_right _ (ma ..)) hx
   ·rintro t g ⟨rfl,x,s,rfl,hx,d,f,i⟩
    obtain⟨c,hc,o,m,v⟩:=OM x f;have w:IntKind.wrap .u8 (x:Int)=(x:Int):=by
     simp[IntKind.wrap,IntKind.bits,IntKind.signed];omega
    show∃b10:UInt8,(0:Int)≤IntKind.wrap .u8 (x:Int)∧ON[(IntKind.wrap .u8 (x:Int)).toNat]? =some b10∧_
    rw[w];refine⟨c,by omega,by simpa using hc,?_⟩
    have u:IntKind.wrap .i64 (c.toNat:Int)=(c.toNat:Int):=dT (by omega);have p:IntKind.wrap .i64 ((s:Int)+IntKind.wrap .i64 (c.toNat:Int))=((s+c.toNat:Nat):Int):=by rw[u,dT (by omega)];omega
    show K (IntKind.wrap .i64 ((s:Int)+IntKind.wrap .i64 (c.toNat:Int))) g
    rw[p];refine q _ (by omega) fun b=>?_
    have:=m (d b);rw[Nat.pow_add];calc 2^s*2^c.toNat≤2^s*(2*x):=i1 _ this
     _=2*(x*2^s):=by rw[oM (2^s),uk]
     _≤2*n:=i1 _ hx
theorem MU{h:ac}{n:Nat}(c:n<4294967296){K:Int→ac→Prop}(b:∀L:Nat,L≤64→(1≤n→2^L≤2*n)→K (L:Int) h):HC PG gx [.int .u64 n] [.c (.int .i64)] K h:=by
 refine vz n ?_;unfold qB;exact MW c b
def RP(a b:Ch):Bool:=decide (kl a.1 b.1)
theorem Rk(M:Nat→Prop):Cmp RP Sa M (fun _=>True) (.func (.func wC) #[] #[]):=by
 refine⟨fun a b h K _ e=>HV.mk' (H0 a b ?_),fun _ h=>h⟩
 unfold Cm aw mU PX;refine bc fun f b1 k1=>bc fun d b2 c=>?_
 refine⟨a.1,vc (c.get0 b1) 0,b.1,vc b2 0,DS (e d _ (k1.tr c) ?_)⟩;unfold Gh RP;split
 ·rename_i h;rw[decide_eq_true h];rfl
 ·rename_i h
  rw[decide_eq_false h];split<;>rfl
theorem Eqf.perm{α:Type}[DecidableEq α]{lt:α→α→Bool}(w:WO lt){l b:List α}(h:Eqf lt l b):b.Perm l:=by
 rw[List.perm_iff_count];intro a;have e:∀m:List α,m.count a=(m.filter (Ky lt a)).count a:=fun m=>(List.count_filter (DT w a)).symm
 rw[e b,e l,h.flt a]
theorem Il{t:Tr}{h:ac}{K:Int×Int×Int→ac→Prop}(f:∀h',Upd No h h'→K (t.2.1,t.2.2.1,t.2.2.2.1) h'):HC PG fU [GO t] [.agg [.int .u64,.int .u64,.int .u64]] K h:=by
 refine yQ t ?_;unfold sr ad cT di rl zl0 vl0;refine bc fun g b1 k1=>bc fun i b2 d=>?_
 have c1:=d.get0 b1;refine⟨_,sO c1 1 0,_,sO c1 1 1,_,sO c1 1 2,?_⟩;refine cU (c:= [.int .u64 0,.int .u64 0,.int .u64 0]) (vs:= [.int .u64 t.2.1,.int .u64 t.2.2.1,.int .u64 t.2.2.2.1]) b2 rfl fun e b3 b=>?_
 exact⟨_,vc b3 0,_,vc b3 1,_,vc b3 2,f e ((k1.tr d).own b k1.size)⟩
end Go.Proofs
namespace Go.Proofs
open Go Go.Lift
end Go.Proofs
namespace Go.Proofs
open Go Go.Lift
end Go.Proofs
namespace Go.Proofs
open Go Go.Lift
end Go.Proofs
namespace Go.Proofs
open Go Go.Lift
theorem OQ{a b:ByteArray}:kl a b↔Op.bytesLess a.data.toList b.data.toList=true:=by unfold kl;rw[ByteArray.toList_eq,ByteArray.toList_eq]
theorem KC{a b:UInt8}{x y:List UInt8}:Op.bytesLess (a::x) (b::y)=true↔a.toNat<b.toNat∨(a=b∧Op.bytesLess x y=true):=by
 simp only[Op.bytesLess,Bool.or_eq_true,decide_eq_true_iff,aH,beq_iff_eq,UInt8.lt_iff_toNat_lt]
theorem NP{x y:List UInt8}:∀pre:List UInt8,Op.bytesLess (pre++x) (pre++y)=true↔Op.bytesLess x y=true
 | []=>xu
 |a::pre=>by rw[lR,lR,KC,NP pre];simp
theorem Rm{x y:List UInt8}(h:Op.bytesLess x y=true)(hx:x≠[])(c:y≠[]):hd x≤hd y:=by
 match x,y,hx,c with
 |a::x,b::y,_,_=>
  show a.toNat≤b.toNat
  rcases KC.1 h with h|⟨rfl,_⟩<;>omega
abbrev ky(p:Pr):List UInt8:=p.1.data.toList
def Sg(l:List Pr)(b k:List UInt8)(v:ByteArray):Prop:=∃p∈l,ky p=b++k∧p.2=v
structure Beg(l:List Pr)(pre:List UInt8):Prop where
 up:fk l
 at_:∀p∈l,(ky p).take pre.length=pre∧pre.length<(ky p).length
theorem Beg.sub{l d:List Pr}{c:List UInt8}(b:Beg l c)(h:d.Sublist l):Beg d c:=⟨b.up.sublist h,fun p e=>b.at_ p (h.subset e)⟩
theorem Beg.split{l:List Pr}{c:List UInt8}(b:Beg l c){p:Pr}(d:p∈l):ky p=c++(ky p).drop c.length∧(ky p).drop c.length≠[]:=by
 obtain⟨f,g⟩:=b.at_ p d;refine⟨?_,fun e=>?_⟩
 ·conv=>lhs;rw[←List.take_append_drop c.length (ky p),f]
 ·have:=congrArg List.length e
  rw[aO,List.length_nil]at this;omega
def bt(n:Nat)(p:Pr):Nat:=hd ((ky p).drop n)
theorem Beg.mono{A B:List Pr}{c:List UInt8}(b:Beg (A++B) c){x y:Pr}(hx:x∈A)(d:y∈B):bt c.length x≤bt c.length y:=by
 have h:=(dL.1 b.up).2.2 x hx y d;rw[OQ]at h;obtain⟨g,i⟩:=b.split (gd B hx);obtain⟨f,e⟩:=b.split (ie A d);change Op.bytesLess (ky x) (ky y)=true at h;rw[g,f,NP]at h;exact Rm h i e
structure Row(L:List Bn)(D T:List Pr)(pre:List UInt8):Prop where
 can:∀n∈L,Pf n
 up:L.Pairwise fun m n=>hd m.1<hd n.1
 lo:∀n∈L,∀p∈T,hd n.1<bt pre.length p
 got:∀k v,(∃n∈L,Eh n k v)↔Sg D pre k v
theorem Row.nil(T:List Pr)(b:List UInt8):Row [] [] T b:=⟨fun n h=>(by cases h),gn,fun n h=>(by cases h),fun k v=>⟨fun⟨n,h,_⟩=>(by cases h),fun⟨p,h,_⟩=>(by cases h)⟩⟩
theorem Row.more{L:List Bn}{D A B:List Pr}{c:List UInt8}{n:Bn}{p:Pr}(r:Row L D (A++B) c)(s:Beg (A++B) c)(u:p∈A)(z:∀a∈A,bt c.length a=bt c.length p)(x:∀b g,B=b::g→bt c.length b≠bt c.length p)(hc:Pf n)(t:hd n.1=bt c.length p)(o:∀k v,Eh n k v↔Sg A c k v):Row (L++ [n]) (D++A) B c:=by
 refine⟨fun m hm=>?_,dL.2 ⟨r.up,dE ..,fun a w b y=>?_⟩,fun m hm q d=>?_,fun k v=>?_⟩
 ·rcases bo.1 hm with hm|hm
  ·exact r.can m hm
  ·rw[ak.1 hm];exact hc
 ·rw[ak.1 y,t]
  exact r.lo a w p (gd _ u)
 ·rcases bo.1 hm with hm|hm
  ·exact r.lo m hm q (ie _ d)
  ·rw[ak.1 hm,t]
   rcases B with _|⟨j,g⟩
   ·cases d
   have C:=x j g rfl;have E:=s.mono u (aP (a:=j) (l:=g));rcases ah.1 d with rfl|d
   ·omega
   ·have i:Beg ([j]++g) c:=s.sub (List.sublist_append_right A _)
    have:=i.mono (ak.2 rfl) d;omega
 ·constructor
  ·rintro⟨m,hm,f⟩
   rcases bo.1 hm with hm|hm
   ·obtain⟨q,d,e⟩:=(r.got k v).1 ⟨m,hm,f⟩
    exact⟨q,gd _ d,e⟩
   ·rw[ak.1 hm]at f
    obtain⟨q,d,e⟩:=(o k v).1 f;exact⟨q,ie _ d,e⟩
  ·rintro⟨q,d,e⟩
   rcases bo.1 d with d|d
   ·obtain⟨m,hm,f⟩:=(r.got k v).2 ⟨q,d,e⟩
    exact⟨m,gd _ hm,f⟩
   ·exact⟨n,ie _ (ak.2 rfl),(o k v).2 ⟨q,d,e⟩⟩
theorem Row.done{L:List Bn}{D:List Pr}{b:List UInt8}(r:Row L D [] b):l8 (.ofL L)∧∀k v,Bu (.ofL L) k v↔Sg D b k v:=by
 refine⟨gE.2 ?_,fun k v=>?_⟩
 ·rw[Fo.to_of];exact⟨r.up,r.can⟩
 ·rw[mH,Fo.to_of];exact r.got k v
end Go.Proofs
namespace Go.Proofs
open Go Go.Lift
theorem Kid.less{W W':Nat→Prop}{h:ac}(hm:∀b,W' b→W b∨h.size≤b){a:Option Addr}{n:Bn}:Kid W h a n→Kid W' h a n
 |⟨b,sl,e1,e2,e3⟩=>⟨b,sl,e1,e2,e3.less hm⟩
theorem Kid.updM{W M:Nat→Prop}{h h':ac}(k:Upd M h h')(hm:∀b,M b→W b∨h.size≤b){a:Option Addr}{n:Bn}:Kid W h a n→Kid W h' a n
 |⟨b,sl,e1,e2,e3⟩=>⟨b,sl,e1,e2,e3.updM k hm⟩
theorem RxL.less{W W':Nat→Prop}{h:ac}(hm:∀b,W' b→W b∨h.size≤b){ks:List (Option Addr)}{L:List Bn}(r:RxL W h ks L):RxL W' h ks L:=⟨r.1,fun p c=>(r.2 p c).less hm⟩
theorem RxL.updM{W M:Nat→Prop}{h h':ac}(k:Upd M h h')(hm:∀b,M b→W b∨h.size≤b){ks:List (Option Addr)}{L:List Bn}(r:RxL W h ks L):RxL W h' ks L:=⟨r.1,fun p c=>(r.2 p c).updM k hm⟩
end Go.Proofs
namespace Go.Proofs
open Go Go.Lift
theorem P0{h:ac}{t:Tr}{k:ac→Prop}(f:∀h',h'[h.size]? =some (.cells (jA t).toArray aR (0,0))→Upd No h h'→k h'):
  At (hnew h (jA sQ) aR) (fun d=>uf d (some (aV h)) 0 (jA t)∧At (ii d (aV h) 0 (jA t)) k):=
 bc fun d b1 k1=>cU (c:=jA sQ) (vs:=jA t) b1 rfl fun e b2 b=>f e b2 (k1.own b (av _))
end Go.Proofs
namespace Go.Proofs
open Go Go.Lift
end Go.Proofs
namespace Go.Proofs
open Go Go.Lift
end Go.Proofs
namespace Go.Proofs
open Go Go.Lift
end Go.Proofs
namespace Go.Proofs
open Go Go.Lift
abbrev b1:ByteArray:=⟨#[49]⟩
abbrev b2:ByteArray:=⟨#[50]⟩
abbrev b3:ByteArray:=⟨#[51]⟩
end Go.Proofs
namespace Go.Proofs
open Go Go.Lift
def look(l:List Pr)(k:ByteArray):Option ByteArray:=(l.find? fun p=>decide (p.1=k)).map (·.2)
theorem La{l:List Pr}{k:ByteArray}(h:dA l k=false):look l k=none:=by
 unfold look;rw[Option.map_eq_none_iff,List.find?_eq_none];intro p b;unfold dA at h;rw[List.any_eq_false]at h;exact h p b
theorem A2:∀{l:List Pr} {k v:ByteArray},fk l→(k,v)∈l→look l k=some v
 |p::l,k,v,b,h=>by
  have b:=List.pairwise_cons.1 b;unfold look;rw[mQ];rcases ah.1 h with e|h
  ·subst e;simp
  ·have c:p.1≠k:=fun e=>by
    have:=b.1 _ h;simp only at this;rw[e]at this;exact fS _ this
   rw[decide_eq_false c];exact A2 b.2 h
theorem OL{l:List Pr}(b:fk l){k v:ByteArray}(d:dA l k=true→(k,v)∈l)(c:dA l k=false→v=⟨#[]⟩):((look l k).getD ⟨#[]⟩,(look l k).isSome)=(v,dA l k):=by
 cases ht:dA l k with
 |true=>rw[A2 b (d ht)];rfl
 |false=>rw[La ht,c ht];rfl
theorem K9{x:Hs}{lev:Nat}{l:List Pr}{k:ByteArray}:look (part x lev (ck x lev k) l) k=look l k:=by
 unfold look part;congr 1
 rw[List.find?_filter];congr 1
 funext p;by_cases e:p.1=k
 ·rw[e];simp
 ·simp[e]
theorem HM{W:Nat→Prop}{x:Hs}{h:ac}{b:Nat}{l:List Pr}(t:TrieAt W x h 13 b l)(hW:∀y,W y→y<h.size)(Y:fk l)(hn:l.length≤1000000)(k:ByteArray){K:ByteArray×Bool→ac→Prop}
  (J:∀h',Upd No h h'→K ((look l k).getD ⟨#[]⟩,(look l k).isSome) h'):HC PG wF [.agg #[.int .u64 x.k0,.int .u64 x.k1,.int .u64 x.mask],.pointer (some ⟨b,0,none⟩),.string k] [.c .str,.c .bool] K h:=by
 refine H2 (x.k0,x.k1,x.mask) (some ⟨b,0,none⟩) k ?_;unfold Co ad nv Hc El aw rj rm vH sN rF;refine bc fun h1 b1 k1=>⟨_,vc b1 0,_,vc b1 1,_,vc b1 2,?_⟩
 refine CU fun h2 k2=>?_
 have q:=k1.tr k2;refine J9 (.inr ⟨b,rfl,TrieAt.upd0 q t⟩) (fun y Z=>aE (hW y Z) q.size) fun h3 b3 t3 X _=>?_
 have O:=q.tr X;refine LoopP.ghost (fun(g:Nat×Nat×List Pr) (t:Option Addr×Int) h'=>t=(some ⟨g.2.1,0,none⟩,((13-g.1:Nat):Int))∧g.1≤13∧TrieAt W x h' g.1 g.2.1 g.2.2∧fk g.2.2∧g.2.2.length≤1000000∧look g.2.2 k=look l k∧Upd No h h') (fun g=>g.1) (13,b3,l)
  ⟨rfl,av _,t3,Y,hn,rfl,O⟩ ?_
 rintro I ⟨m,c,D⟩ t h4 ⟨rfl,hm,tm,j,C,z,H⟩ hI;simp only at hm tm j C z;rcases m with _|m
 ·obtain⟨sp,sk,ow,R,_⟩:=BuckAt.ex tm
  refine pO R (aK.2 (M1 tm j (by omega) k fun U v L u A=>?_))
  have:=J U (H.tr L);rw[←z,OL j u A]at this;exact this
 ·obtain⟨s,nd,P⟩:=tm
  have P:∀c,c<32→SlotIs W x h4 m s c (part x (12-m) c D):=P;obtain⟨d,n,sp,sk,ow,R,_⟩:=nd.ex;refine pO R (aq.2 ?_);refine O4 (by omega) ?_;rw[show 13-(m+1)=12-m by omega]
  have B:=Kz x (12-m) k;have w:=P _ B;have o:look (part x (12-m) (ck x (12-m) k) D) k=look l k:=by rw[K9,z]
  have E:fk (part x (12-m) (ck x (12-m) k) D):=Dl j;have F:(part x (12-m) (ck x (12-m) k) D).length≤1000000:=cQ He C;generalize part x (12-m) (ck x (12-m) k) D=lp at w o E F;generalize ck x (12-m) k=i at B w;refine Hl nd B fun U L=>?_
  refine Q1 fun G S k6=>?_
  have f:=L.tr k6;rcases w with⟨N,u,A⟩|⟨p,N,u,A⟩|⟨_,u,T,A,tk⟩
  ·rw[u]
   refine aq.2 (FZ (nd.upd f fun _ h=>h.elim) B ?_)
   rw[A];refine aK.2 ?_;have:=J G (H.tr f);rw[←o,N]at this;exact this
  ·rw[u]at S⊢
   refine aK.2 ⟨p.1,vc S 0,?_⟩;rw[lg];have:=J G (H.tr f);rw[←o,N]at this;by_cases e:p.1=k
   ·rw[decide_eq_true e]
    refine aq.2 ⟨p.2,vc S 1,?_⟩;have Q:look [p] k=some p.2:=by unfold look;rw[mQ,decide_eq_true e];rfl
    rw[Q]at this;exact this
   ·rw[decide_eq_false e]
    have Q:look [p] k=none:=by unfold look;rw[mQ,decide_eq_false e];rfl
    rw[Q]at this;exact aK.2 this
  ·rw[u]
   refine aq.2 (FZ (nd.upd f fun _ h=>h.elim) B ?_)
   rw[A];refine aq.2 ?_;have V:IntKind.wrap .i64 (((13-(m+1):Nat):Int)+1)=((13-m:Nat):Int):=by rw[dT (by omega)];omega
   rw[show 13-(m+1)=12-m by omega]at V
   show I (some ⟨T,0,none⟩,IntKind.wrap .i64 (((12-m:Nat):Int)+1)) G
   rw[V];exact hI (m,T,lp) _ G ⟨rfl,by simp only;omega,TrieAt.upd0 f tk,E,F,o,H.tr f⟩ (by simp only;omega)
abbrev Sd:=ByteArray×Bool
end Go.Proofs
namespace Go.Proofs
open Go Go.Lift
section
variable {W:Nat→Prop} {h:ac} {vp:Nat} {s:VS}
end
end Go.Proofs
namespace Go.Proofs
open Go Go.Lift
structure NSt(h8:ac)(b:Nat)(t:Tr)(h:ac)(ps ms:List Nat):Prop where
 k:Upd No h8 h
 blk:h[b]? =some (.cells (jA t).toArray aR (0,0))
 gs:∀p∈ps,GraphAt (CB (p+1) p) h (p+1) p [] 1∧h8.size≤p
 mp:∀m∈ms,h[m]? =some (.map #[] 0)∧h8.size≤m
section
variable {h8 h h':ac} {b:Nat} {t:Tr} {ps ms:List Nat}
theorem NSt.upd(n:NSt h8 b t h ps ms)(k:Upd No h h'):NSt h8 b t h' ps ms:=
 ⟨n.k.tr k,k.get0 n.blk,fun p c=>⟨(n.gs p c).1.upd0 k,(n.gs p c).2⟩,fun m hm=>⟨k.get0 (n.mp m hm).1,(n.mp m hm).2⟩⟩
theorem NSt.rds(n:NSt h8 b t h ps ms):aB h (adr ⟨b,0,none⟩ 0)=some (.int .i64 t.1)∧aB h (adr ⟨b,0,none⟩ 1)=some (.int .u64 t.2.1)∧aB h (adr ⟨b,0,none⟩ 2)=some (.int .u64 t.2.2.1)∧aB h (adr ⟨b,0,none⟩ 3)=some (.int .u64 t.2.2.2.1)∧aB h (adr ⟨b,0,none⟩ 4)=some (.pointer t.2.2.2.2.1)∧aB h (adr ⟨b,0,none⟩ 5)=some (.pointer t.2.2.2.2.2):=
 ⟨vc n.blk 0,vc n.blk 1,vc n.blk 2,vc n.blk 3,vc n.blk 4,vc n.blk 5⟩
theorem NSt.map(n:NSt h8 b t h ps ms){k:ac→Prop}(e:∀h',NSt h8 b t h' ps (h.size::ms)→h.size<h'.size→k h'):At (Array.push h (.map #[] 0)) k:=by
 have d:=Upd.push No h (.map #[] 0);have c:=n.upd d;refine bl (e _ ⟨c.k,c.blk,c.gs,fun m hm=>?_⟩ (by simp))
 rcases ah.1 hm with rfl|hm
 ·exact⟨jN h _,n.k.size⟩
 ·exact c.mp m hm
theorem NSt.graph(n:NSt h8 b t h ps ms){K:Option Addr→ac→Prop}(f:∀h',NSt h8 b t h' (h.size::ps) ms→h.size+1<h'.size→K (some ⟨h.size+1,0,none⟩) h'):HC PG cM [] [.c .ptr] K h:=by
 refine OW fun h' e g=>?_
 have c:=n.upd e;refine f h' ⟨c.k,c.blk,fun p d=>?_,c.mp⟩ (g.lt _ (.inl rfl))
 rcases ah.1 d with rfl|d
 ·exact⟨g,n.k.size⟩
 ·exact c.gs p d
theorem NSt.put(n:NSt h8 b t h ps ms){cs:List Value}{ty:TypeId}{k:ac→Prop}(c:∀h',NSt h8 b t h' ps ms→h'[h.size]? =some (.cells cs.toArray ty (0,0))→h8.size≤h.size→k h'):At (hnew h cs ty) k:=
 bc fun h' b' k'=>c h' (n.upd k') b' n.k.size
theorem NSt.done{W:Nat→Prop}{kind:Int}{x:Hs}(n:NSt h8 b t h ps ms)(A:∀y,W y→y<h8.size)(i:TreeIs W h8 kind x t [])(z:kind=0∨kind=1){f p o k j:Nat}{K:Option Addr×Int→ac→Prop}
  (C:∀h' vp gp gm tm bm nm,VaultAt (fun y=>W y∨VS.M ⟨gp,gm,tm,bm,nm,kind,x,t,[],1,[],[],[]⟩ y) h' vp ⟨gp,gm,tm,bm,nm,kind,x,t,[],1,[],[],[]⟩→h8.size≤vp→(∀y,VS.M ⟨gp,gm,tm,bm,nm,kind,x,t,[],1,[],[],[]⟩ y→h8.size≤y)→Upd No h8 h'→K (some ⟨vp,0,none⟩,0) h')
  (F:h[f]? =some (.cells (jA t++ [Value.pointer (some ⟨p+1,0,none⟩),Value.map (some o),Value.map (some k),Value.map (some j)]).toArray bB (0,0)))
  (B:h8.size≤f) (q:∀m∈(p+1)::p::ms,f≠m) (G:p∈ps) (v:o∈ms) (u:k∈ms) (s:j∈ms) (ne: [p+1,p,o,k,j].Nodup):K (some ⟨f,0,none⟩,0) h:=by
 obtain⟨g,D⟩:=n.gs p G;have hM:∀y,VS.M ⟨p+1,p,o,k,j,kind,x,t,[],1,[],[],[]⟩ y→h8.size≤y∧y<h.size∧f≠y:=fun y c=>by
  rcases c with e|e|e|e|e<;>(simp only at e;subst e)
  ·exact⟨by omega,g.lt _ (.inl rfl),q _ (by simp)⟩
  ·exact⟨D,g.lt _ (.inr rfl),q _ (by simp)⟩
  ·exact⟨(n.mp _ v).2,aL (n.mp _ v).1,q _ (by simp[v])⟩
  ·exact⟨(n.mp _ u).2,aL (n.mp _ u).1,q _ (by simp[u])⟩
  ·exact⟨(n.mp _ s).2,aL (n.mp _ s).1,q _ (by simp[s])⟩
 obtain⟨m,hm,w⟩:=g.map;have em:∀{κ β:Type} {E:KeyE κ} {g:β→Value} {r:Nat},h[r]? =some (.map #[] 0)→MapAt E g h r []:=fun w=>⟨[],0,⟨w,db,db,fun _ h=>by cases h⟩,rfl⟩
 refine C h f (p+1) p o k j ⟨F,⟨g.blk,⟨m,hm,fun id=>(w id).elim (fun⟨_,_,_,e,_⟩=>by cases e) .inr⟩,.inr (.inl rfl),.inr (.inr (.inl rfl)),fun y c=>c.elim (fun e=>aE (A y e) n.k.size) fun e=>(hM y e).2.1,g.nd⟩,em (n.mp _ v).1,em (n.mp _ u).1,em (n.mp _ s).1,fun y c=>.inr c,fun c=>c.elim (fun e=>by have:=A _ e;omega) fun e=>(hM _ e).2.2 rfl,ne,?_,fun d hd=>(by cases hd),fun id=>xu,Inv.nil,z⟩ B (fun y c=>(hM y c).1) n.k
 exact(i.less fun y c=>c.imp id fun e=>(hM y e).1).upd0 n.k
end
theorem JS{W:Nat→Prop}{h:ac}(q:∀y,W y→y<h.size){kind:Int}(o:kind=0∨kind=1){x:Hs}{K:Option Addr×Int→ac→Prop}
  (A:∀h' f gp gm tm bm nm t,VaultAt (fun y=>W y∨VS.M ⟨gp,gm,tm,bm,nm,kind,x,t,[],1,[],[],[]⟩ y) h' f ⟨gp,gm,tm,bm,nm,kind,x,t,[],1,[],[],[]⟩→h.size≤f→(∀y,VS.M ⟨gp,gm,tm,bm,nm,kind,x,t,[],1,[],[],[]⟩ y→h.size≤y)→Upd No h h'→K (some ⟨f,0,none⟩,0) h'):
  HC PG ww [.int .i64 kind,.agg #[.int .u64 x.k0,.int .u64 x.k1,.int .u64 x.mask]] [.c .ptr,.c (.int .i64)] K h:=by
 refine HQ kind (x.k0,x.k1,x.mask) ?_;unfold Cd ag ad nv Hc El af rE rl;refine bc fun I b1 k1=>⟨_,vc b1 0,_,vc b1 1,_,vc b1 2,?_⟩
 refine Om (W:=W) (x:=x) (fun y b=>aE (q y b) k1.size) o fun C t i B=>?_
 have k:=k1.tr B;refine bc fun J w p=>cU (c:=jA sQ) (vs:=jA t) w rfl fun g j m=>aq.2 ?_
 have d:Upd No h g:=(k.tr p).own m k.size;have E:TreeIs W g kind x t []:=((i.less (W':=fun y=>W y∨y=C.size) fun y b=>b.imp id fun e=>Nat.le_of_eq e.symm).updM (p.wide.tr (m.mono fun _ e=>.inl (.inr e))) fun y b=>.inl b).less fun y b=>.inl (.inl b)
 have s:∀y,W y→y<g.size:=fun y b=>aE (q y b) d.size
 have u:∀h' f gp gm tm bm nm,VaultAt (fun y=>W y∨VS.M ⟨gp,gm,tm,bm,nm,kind,x,t,[],1,[],[],[]⟩ y) h' f ⟨gp,gm,tm,bm,nm,kind,x,t,[],1,[],[],[]⟩→g.size≤f→(∀y,VS.M ⟨gp,gm,tm,bm,nm,kind,x,t,[],1,[],[],[]⟩ y→g.size≤y)→Upd No g h'→K (some ⟨f,0,none⟩,0) h':=
  fun h' f gp gm tm bm nm v D hM H=>A h' f gp gm tm bm nm t v (cQ d.size D) (fun y b=>cQ d.size (hM y b)) (d.tr H)
 have n:NSt g C.size t g [] []:=⟨Upd.refl _ _,j,fun _ h=>(by cases h),fun _ h=>(by cases h)⟩
 refine⟨_,vc j 0,_,vc j 1,_,vc j 2,_,vc j 3,_,vc j 4,_,vc j 5,?_⟩;clear A d q j m k i B p w b1 k1;repeat' first
  |refine⟨n.rds,?_⟩
  |refine n.graph fun _ n z=>?_
  |refine n.map fun _ n z=>?_
  |refine n.put fun _ n F G=>?_
  |exact n.done s E o u F G (by simp;omega) (by simp) (by simp) (by simp) (by simp) (by simp;omega)
  |refine And.intro ?_ ?_
end Go.Proofs
namespace Go.Proofs
open Go Go.Lift
theorem _root_.Go.Lift.Upd.fresh{M:Nat→Prop}{h c b:ac}(k:Upd No h c)(u:Upd M c b)(hM:∀y,M y→h.size≤y):Upd No h b:=k.trans u fun y d=>.inr (hM y d)
end Go.Proofs
namespace Go.Proofs
open Go Go.Lift
end Go.Proofs
namespace Go.Proofs
open Go Go.Lift
theorem OK{α:Type}{l:List α}{i:Nat}{a b:α}(h:b∈l.set i a):b=a∨∃j,j≠i∧l[j]? =some b:=by
 obtain⟨j,c⟩:=List.getElem?_of_mem h;rw[List.getElem?_set]at c;split at c
 ·split at c
  ·cases c;exact .inl rfl
  ·cases c
 ·exact .inr ⟨j,by omega,c⟩
def sb(s:SliceV)(y:Nat):Prop:=s.cap≠0∧∃a,s.a=some a∧y=a.block
section
variable {α:Type} {f:α→List Value} {sz:Nat} {ty:TypeId} {M:Nat→Prop} {h:ac} {s so:SliceV} {xs out:List α}
theorem _root_.Go.Lift.OwnS.sub(o:OwnS f sz ty M h s xs):∀y,sb s y→M y∧y<h.size:=fun y ⟨hc,a,i,d⟩=>by
 rcases o.blk with g|⟨b,e,c,hm,j,_⟩
 ·exact absurd g hc
 ·rw[i]at c
  cases c;exact⟨d▸hm,d▸aL j⟩
theorem _root_.Go.Lift.OwnS.its(o:OwnS f sz ty M h s xs):OwnS f sz ty (sb s) h s xs:=by
 refine⟨o.len,o.ne,o.cap,?_⟩;by_cases hc:s.cap=0
 ·exact .inl hc
 ·rcases o.blk with e|⟨b,c,d,hm,g,i⟩
  ·exact absurd e hc
  ·exact .inr ⟨b,c,d,⟨hc,_,d,rfl⟩,g,i⟩
theorem PO{a:Option Addr}{n:Nat}:∀y,¬sb ⟨a,n,0⟩ y:=fun _ h=>h.1 rfl
theorem _root_.Go.Lift.OwnS.one{x:α}{b:Nat}(c:∀x,(f x).length=sz∧0<sz)(d:h[b]? =some (.cells (f x).toArray ty (0,0))):OwnS f sz ty (sb ⟨some ⟨b,0,none⟩,1,1⟩) h ⟨some ⟨b,0,none⟩,1,1⟩ [x]:=
 ⟨rfl,c,av _,.inr ⟨b,[],rfl,⟨by simp,_,rfl,rfl⟩,by simpa using d,by simp⟩⟩
theorem Qx{c:Nat}{z:List Value}{t:α}{b:Nat}{K:SliceV→ac→Prop}(j:OwnS f sz ty (sb so) h so out)(n:h[b]? =some (.cells (f t).toArray ty (0,0))) (g:bL (f t)=true) (p:z.length=sz) (d:0<c∧c≤64) (o:out.length+1≤1000000)
  (m:∀s' h',OwnS f sz ty (sb s') h' s' (out++ [t])→Upd (sb so) h h'→(∀y,sb s' y→(sb so y∨h.size≤y)∧y<h'.size)→K s' h'):
  ∃xs,SRow h (some ⟨b,0,none⟩) (1*sz) xs∧AppP (some z) sz c ty so.a so.len so.cap 1 xs h K:=by
 refine⟨_,((OwnS.one j.ne n).sl (W:=No) fun _ _ _ h=>h).srow,?_⟩
 refine AppP.own (M:=fun y=>sb so y∨h.size≤y) (ys:= [t]) (j.more fun y i=>.inl i) rfl rfl (by simpa using g) p d.1 ?_ (.inr (av _)) fun s' h' e k=>m s' h' e.its (k.mono fun y i=>i) e.sub
 simp only[dz];calc (out.length+1)*c≤1000000*64:=Nat.mul_le_mul o d.2
  _≤140737488355328:=by omega
end
structure Sp where
 T:Nat→Prop
 Q:ac→Prop
 loc:∀{M:Nat→Prop} {h h':ac},Q h→Upd M h h'→(∀y,T y→¬M y)→Q h'
def xW(b:Nat)(cs:List Value)(t:TypeId):Sp:=⟨(· =b),fun h=>h[b]? =some (.cells cs.toArray t (0,0)),fun q k c=>k.get q (c _ rfl)⟩
def Dd{α:Type}(f:α→List Value)(b:Nat)(ty:TypeId)(s:SliceV)(xs:List α):Sp:=⟨sb s,fun h=>OwnS f b ty (sb s) h s xs,fun q k c=>q.upd k c⟩
def AL(Ss:List Sp)(y:Nat):Prop:=∃s∈Ss,s.T y
structure Own(Ss:List Sp)(h:ac):Prop where
 q:∀s∈Ss,s.Q h
 lt:∀s∈Ss,∀y,s.T y→y<h.size
 pd:∀(i j:Nat) (a b:Sp),Ss[i]? =some a→Ss[j]? =some b→i≠j→∀y,a.T y→¬b.T y
section
variable {Ss:List Sp} {h h':ac} {M:Nat→Prop} {s s':Sp} {i:Nat}
theorem Own.get(o:Own Ss h)(b:Ss[i]? =some s):s.Q h:=o.q s (bh b)
theorem Own.away(o:Own Ss h)(k:Upd M h h')(hm:∀y,AL Ss y→¬M y):Own Ss h':=
 ⟨fun s b=>s.loc (o.q s b) k fun y c=>hm y ⟨s,b,c⟩,fun s b y c=>aE (o.lt s b y c) k.size,o.pd⟩
theorem Own.nil:Own [] h:=⟨(fun _ h=>by cases h),(fun _ h=>by cases h),(fun i j a b h=>by simp at h)⟩
theorem Own.set(o:Own Ss h)(n:Ss[i]? =some s) (k:Upd M h h') (hm:∀y,M y→s.T y∨h.size≤y) (q:s'.Q h') (v:∀y,s'.T y→(s.T y∨h.size≤y)∧y<h'.size):Own (Ss.set i s') h':=by
 have A:i<Ss.length:=(bA.1 n).1;have val:∀{j:Nat} {a:Sp},(Ss.set i s')[j]? =some a→(j=i∧a=s')∨(j≠i∧Ss[j]? =some a):=fun{j a} c=>by
  by_cases e:j=i
  ·subst e;rw[List.getElem?_set_self A]at c;cases c;exact .inl ⟨rfl,rfl⟩
  ·rw[List.getElem?_set_ne (Ne.symm e)]at c;exact .inr ⟨e,c⟩
 have one:∀{j:Nat} {a:Sp},j≠i→Ss[j]? =some a→∀y,a.T y→¬s'.T y:=fun{j a} f c y d h'=>
  (v y h').1.elim (o.pd j i a s c n f y d) fun h=>by have:=o.lt a (bh c) y d;omega
 refine⟨fun a c=>?_,fun a c y d=>?_,fun p j a b c B m y d g=>?_⟩
 ·obtain⟨j,f⟩:=List.getElem?_of_mem c
  rcases val f with⟨_,rfl⟩|⟨x,f⟩
  ·exact q
  ·refine a.loc (o.get f) k fun y d hM=>?_
   rcases hm y hM with h|h
   ·exact o.pd j i a s f n x y d h
   ·have:=o.lt a (bh f) y d;omega
 ·obtain⟨j,f⟩:=List.getElem?_of_mem c
  rcases val f with⟨_,rfl⟩|⟨x,f⟩
  ·exact(v y d).2
  ·exact aE (o.lt a (bh f) y d) k.size
 ·rcases val c with⟨t,rfl⟩|⟨t,z⟩<;>rcases val B with⟨u,rfl⟩|⟨u,w⟩
  ·exact m (t.trans u.symm)
  ·exact one u w y g d
  ·exact one t z y d g
  ·exact o.pd p j a b z w m y d g
theorem Own.push(o:Own Ss h)(k:Upd No h h')(q:s'.Q h')(g:∀y,s'.T y→h.size≤y∧y<h'.size):Own (Ss++ [s']) h':=by
 have val:∀{j:Nat} {a:Sp},(Ss++ [s'])[j]? =some a→(j=Ss.length∧a=s')∨Ss[j]? =some a:=fun{j a} c=>by
  rw[List.getElem?_append]at c;split at c
  ·exact .inr c
  ·have:j-Ss.length=0:=by have:=(bA.1 c).1;simp only[dz]at this;omega
   rw[this]at c;cases c;exact .inl ⟨by omega,rfl⟩
 have mem:∀{a},a∈Ss++ [s']→a∈Ss∨a=s':=fun h=>(bo.1 h).imp id ak.1
 refine⟨fun a c=>?_,fun a c y e=>?_,fun p j a b c n f y e d=>?_⟩
 ·rcases mem c with c|rfl
  ·exact a.loc (o.q a c) k fun _ _ h=>h
  ·exact q
 ·rcases mem c with c|rfl
  ·exact aE (o.lt a c y e) k.size
  ·exact(g y e).2
 ·rcases val c with⟨s,rfl⟩|m<;>rcases val n with⟨t,rfl⟩|i
  ·omega
  ·have:=o.lt b (bh i) y d;have:=(g y e).1;omega
  ·have:=o.lt a (bh m) y e;have:=(g y d).1;omega
  ·exact o.pd p j a b m i f y e d
theorem QA(f:Ss[i]? =some s) {z:Nat} (d:∀y,s'.T y→s.T y∨z≤y):∀y,AL (Ss.set i s') y→AL Ss y∨z≤y:=fun y ⟨a,c,b⟩=>by
 rcases OK c with rfl|⟨j,_,e⟩
 ·exact(d y b).imp (fun h=>⟨s,bh f,h⟩) id
 ·exact .inl ⟨a,bh e,b⟩
end
theorem GraphAt.re{W W' M:Nat→Prop}{h h':ac}{gp gm:Nat}{L:fH}{nx:Int}(g:GraphAt W h gp gm L nx)(k:Upd M h h')(hm:∀b,M b→(W b∧b≠gp∧b≠gm)∨h.size≤b)(n:∀b,W' b→(W b∨h.size≤b)∧b<h'.size)(f:W' gp)(i:W' gm):GraphAt W' h' gp gm L nx:=by
 have t:=g.upd k hm;obtain⟨m,d,p⟩:=g.map;refine⟨t.blk,⟨m,d.upd k fun e=>(hm _ e).elim (fun e=>e.2.2 rfl) fun e=>absurd (g.lt _ g.wm) (Nat.not_lt.2 e),fun j=>?_⟩,f,i,fun b c=>(n b c).2,g.nd⟩
 rcases p j with⟨s,ps,f,i,q⟩|o
 ·exact .inl ⟨s,ps,f,i,((q.less (W':=fun b=>W b∨h.size≤b) fun b c=>c).upd k fun b c=>.inl ((hm b c).imp (·.1) id)).less fun b c=>.inl (n b c).1⟩
 ·exact .inr o
theorem TreeIs.re{W W' M:Nat→Prop}{h h':ac}{kind:Int}{x:Hs}{t:Tr}{l:List Pr}(i:TreeIs W h kind x t l)(k:Upd M h h')(hm:∀b,M b→W b∨h.size≤b)(d:∀b,W' b→W b∨h.size≤b):TreeIs W' h' kind x t l:=
 ((i.less (W':=fun b=>W b∨h.size≤b) fun b c=>c).updM k fun b c=>.inl (hm b c)).less fun b c=>.inl (d b c)
theorem VaultAt.re{W W' M:Nat→Prop}{h h':ac}{n:Nat}{s:VS}(v:VaultAt W h n s)(k:Upd M h h')(hm:∀b,M b→(W b∧¬s.M b)∨h.size≤b)(m:∀b,W' b→(W b∨h.size≤b)∧b<h'.size)(hM:∀y,s.M y→W' y):VaultAt W' h' n s:=by
 have i:=v.upd k hm;have g:∀b,M b→W b∨h.size≤b:=fun b f=>(hm b f).imp (·.1) id
 have c:∀b,W' b→W b∨h.size≤b:=fun b f=>(m b f).1
 exact⟨i.blk,v.g.re k (fun b f=>(hm b f).imp (fun e=>⟨e.1,fun j=>e.2 (.inl j),fun j=>e.2 (.inr (.inl j))⟩) id) m (hM _ (.inl rfl)) (hM _ (.inr (.inl rfl))),i.t,i.b,i.n,hM,fun o=>(c _ o).elim v.wv fun e=>absurd (aL v.blk) (by omega),v.ne,v.em.re k g c,fun d hd=>⟨(v.ts d hd).1.re k g c,(v.ts d hd).2⟩,v.sub,v.inv,v.kd⟩
section
variable {Ss:List Sp} {h h':ac} {vp:Nat} {s:VS} {p p':Sp} {i:Nat} {M:Nat→Prop}
end
end Go.Proofs
namespace Go.Proofs
open Go Go.Lift
def NC(k:ByteArray)(l:List Pr):List Pr:=l.filter fun q=>decide (q.1≠k)
theorem KV{k:ByteArray}{l:List Pr}(b:fk l):fk (NC k l):=b.sublist List.filter_sublist
theorem OJ{k:ByteArray}{l:List Pr}{p:Pr}:p∈NC k l↔p∈l∧p.1≠k:=by unfold NC;rw[bG,decide_eq_true_iff]
theorem Qo{k:ByteArray}{l:List Pr}:(NC k l).length≤l.length:=eu ..
end Go.Proofs
namespace Go.Proofs
open Go Go.Lift
end Go.Proofs
namespace Go.Proofs
end Go.Proofs
namespace Go.Proofs
open Go Go.Lift
theorem rD(s:ByteArray):s.data.toList.length=s.size:=by simp
theorem K5{a b:ByteArray}{h:ac}{K:Bool→ac→Prop}(c:K (decide (b.data.toList<+:a.data.toList)) h):HC PG tY [.string a,.string b] [.c .bool] K h:=by
 refine EC a b ?_;unfold yd mU;refine Bx a b ?_;unfold uG mU;refine p7 a b ?_;unfold jy;have j:=rD a;have d:=rD b;refine ax (fun f=>?_) fun g=>?_
 ·refine⟨⟨by omega,by omega⟩,?_⟩
  rw[lg,aU];have e:decide (a.extract 0 b.size=b)=decide (b.data.toList<+:a.data.toList):=by
   rw[decide_eq_decide,←yJ,DH,List.prefix_iff_eq_take,d];exact eq_comm
  rw[e];exact c
 ·have e:decide (b.data.toList<+:a.data.toList)=false:=decide_eq_false fun i=>by
   have:=i.length_le;omega
  rw[e]at c;exact c
theorem Qp{a b:ByteArray}{h:ac}{K:ByteArray×Bool→ac→Prop}(g:∀s:ByteArray,a.data.toList=b.data.toList++s.data.toList→K (s,true) h)(i:(∀r,a.data.toList≠b.data.toList++r)→K (⟨#[]⟩,false) h):HC PG yC [.string a,.string b] [.c .str,.c .bool] K h:=by
 refine JD a b ?_;unfold D9 mU;refine K5 ?_;have j:=rD a;have d:=rD b;by_cases c:b.data.toList<+:a.data.toList
 ·rw[decide_eq_true c]
  have f:=c.length_le;refine aq.2 ⟨⟨by omega,by omega⟩,?_⟩
  rw[aU];refine g _ ?_;rw[DI];obtain⟨r,e⟩:=c;rw[←e,←d,List.drop_left]
 ·rw[decide_eq_false c]
  exact aK.2 (i fun r e=>c ⟨r,e.symm⟩)
end Go.Proofs
namespace Go.Proofs
open Go Go.Lift
end Go.Proofs
namespace Go.Proofs
open Go Go.Lift
end Go.Proofs
namespace Go.Proofs
open Go Go.Lift
theorem Lb(p:Pr)(l:List Pr)(k:ByteArray):look (p::l) k=if p.1=k then some p.2 else look l k:=by
 unfold look;rw[mQ];by_cases e:p.1=k
 ·rw[decide_eq_true e,if_pos e];rfl
 ·rw[decide_eq_false e,if_neg e]
theorem Hn{k v:ByteArray}:∀{l:List Pr},look l k=some v→(k,v)∈l
 | [],h=>by cases h
 |p::l,h=>by
  rw[Lb]at h;by_cases e:p.1=k
  ·rw[if_pos e]at h;cases h;rw[←e];exact aP ..
  ·rw[if_neg e]at h;exact aQ _ (Hn h)
def fd(l:List Ch)(k:ByteArray):Option Ch:=l.find? fun c=>decide (c.1=k)
def PQ(c:Ch):Bool:=(!((!c.2.2.2.1&& !c.2.2.2.2)||(c.2.2.2.1&&(c.2.2.2.2&&decide (c.2.1=c.2.2.1)))))&&((c.2.2.2.1||decide (c.2.1=⟨#[]⟩))&&(c.2.2.2.2||decide (c.2.2.1=⟨#[]⟩)))
def one(c:Ch):Option Ch:=if PQ c then some c else none
end Go.Proofs
namespace Go.Proofs
open Go Go.Lift
end Go.Proofs
namespace Go.Proofs
open Go Go.Lift
end Go.Proofs
namespace Go.Proofs
open Go Go.Lift
theorem Few.del{n:Nat}{L:List Pr}(f:Few n L)(k:ByteArray):Few n (NC k L):=⟨KV f.up,cQ Qo f.len,fun p b=>f.fit p (OJ.1 b).1⟩
end Go.Proofs
namespace Go.Proofs
open Go Go.Lift
end Go.Proofs
namespace Go.Proofs
open Go Go.Lift
end Go.Proofs
namespace Go.Proofs
open Go Go.Lift
end Go.Proofs
namespace Go.Proofs
open Go Go.Lift
end Go.Proofs
namespace Go.Proofs
open Go Go.Lift
end Go.Proofs
namespace Go.Proofs
open Go Go.Lift
def QQ(b o t:Option ByteArray)(p:Int):Option ByteArray×Bool:=if o=t∨t=b then(o,true)else if o=b then(t,true)else if p=1 then(o,false)else if p=2 then(t,false)else(b,false)
def tk(B O T:List Pr)(p:Int)(k:ByteArray):Option ByteArray×Bool:=QQ (look B k) (look O k) (look T k) p
end Go.Proofs
namespace Go.Proofs
open Go Go.Lift Go.Sort
abbrev NG:Value:=.func (.func wC) #[] #[]
def A0(dec:Int→Ch)(i j:Int):Bool:=RP (dec i) (dec j)
structure SA(dec:Int→Ch)(M:Nat→Prop)(s:SliceV)(h:ac)(d:Array Int):Prop where
 own:OwnS Sa 5 tS M h s (d.toList.map dec)
 small:d.size≤1000000000
 lt:∀b,M b→b<h.size
variable {dec:Int→Ch} {M:Nat→Prop} {s:SliceV} {h:ac} {d:Array Int}
theorem SA.len(b:SA dec M s h d):s.len=d.size:=by have:=b.own.len;simpa using this
theorem SA.upd0{h':ac}(c:SA dec M s h d)(k:Upd No h h'):SA dec M s h' d:=⟨c.own.upd k fun _ _ h=>h,c.small,fun b e=>aE (c.lt b e) k.size⟩
theorem SA.at(e:SA dec M s h d){i:Nat}(b:i<d.size):∃a,s.a=some a∧∀j v,(Sa (dec d[i]!))[j]? =some v→aB h (adr (adr a (((i:Int)).toNat*5)) j)=some v:=by
 have hx:(d.toList.map dec)[i]? =some (dec d[i]!):=by
  rw[List.getElem?_map,Array.getElem?_toList,Array.getElem?_eq_getElem b,getElem!_pos d i b];rfl
 obtain⟨a,c,_,f⟩:=(e.own.sl (W:=No) fun _ _ _ h=>h).at hx
 exact⟨a,c,by simpa using f⟩
theorem SA.rd(c:SA dec M s h d){t:Int}{i:Nat}(f:t=(i:Int))(g:i<d.size){R:ByteArray→ByteArray→ByteArray→Bool→Bool→Prop}(j:R (dec d[i]!).1 (dec d[i]!).2.1 (dec d[i]!).2.2.1 (dec d[i]!).2.2.2.1 (dec d[i]!).2.2.2.2):
  ((0:Int)≤t∧t<((s.len:Nat):Int))∧∃a:Addr,s.a=some a∧∃v1:ByteArray,aB h (adr (adr a (t.toNat*5)) 0)=some (.string v1)∧∃v2:ByteArray,aB h (adr (adr a (t.toNat*5)) 1)=some (.string v2)∧∃v3:ByteArray,aB h (adr (adr a (t.toNat*5)) 2)=some (.string v3)∧∃v4:Bool,aB h (adr (adr a (t.toNat*5)) 3)=some (.bool v4)∧∃v5:Bool,aB h (adr (adr a (t.toNat*5)) 4)=some (.bool v5)∧R v1 v2 v3 v4 v5:=by
 subst f;obtain⟨a,e,b⟩:=c.at g;exact⟨by rw[c.len];omega,a,e,_,b 0 _ rfl,_,b 1 _ rfl,_,b 2 _ rfl,_,b 3 _ rfl,_,b 4 _ rfl,j⟩
theorem SA.st(e:SA dec M s h d){t:Int}{i:Nat}{x:Int}(o:t=(i:Int))(j:i<d.size){R:ac→Prop}(p:∀h',SA dec M s h' (d.setIfInBounds i x)→Upd M h h'→R h'):
  ((0:Int)≤t∧t<((s.len:Nat):Int))∧∃a:Addr,s.a=some a∧(uf h (some (adr a (t.toNat*5))) 0 [.string (dec x).1,.string (dec x).2.1,.string (dec x).2.2.1,.bool (dec x).2.2.2.1,.bool (dec x).2.2.2.2]∧At (ii h (adr a (t.toNat*5)) 0 [.string (dec x).1,.string (dec x).2.1,.string (dec x).2.2.1,.bool (dec x).2.2.2.1,.bool (dec x).2.2.2.2]) R):=by
 subst o;obtain⟨a,n,hM,m,q,g⟩:=OwnS.setAt e.own (k:=i) (by simpa using j) (dec x);refine⟨by rw[e.len];omega,a,n,?_⟩;rw[aU];have f:Upd M h _:=g.mono fun b c=>.inl (by have c:b=a.block:=c;rw[c];exact hM)
 refine⟨m,bl (p _ ⟨?_,by simpa using e.small,fun b c=>aE (e.lt b c) g.size⟩ f)⟩
 rw[show(d.setIfInBounds i x).toList.map dec=(d.toList.map dec).take i++dec x::(d.toList.map dec).drop (i+1) by
  rw[hO,List.map_set,List.set_eq_take_append_cons_drop,if_pos (by simpa using j)]]
 exact q
@[simp] theorem QS(d:Array Int)(i j:Nat):(swp d i j).size=d.size:=by simp[swp]
theorem SA.swap(c:SA dec M s h d){ti b:Int}{i j:Nat}(k:ti=(i:Int))(m:b=(j:Int))(o:i<d.size)(n:j<d.size){R:ac→Prop}(q:∀h',SA dec M s h' (swp d i j)→Upd M h h'→R h'):
  ((0:Int)≤b∧b<((s.len:Nat):Int))∧∃a:Addr,s.a=some a∧∃v1:ByteArray,aB h (adr (adr a (b.toNat*5)) 0)=some (.string v1)∧∃v2:ByteArray,aB h (adr (adr a (b.toNat*5)) 1)=some (.string v2)∧∃v3:ByteArray,aB h (adr (adr a (b.toNat*5)) 2)=some (.string v3)∧∃v4:Bool,aB h (adr (adr a (b.toNat*5)) 3)=some (.bool v4)∧∃v5:Bool,aB h (adr (adr a (b.toNat*5)) 4)=some (.bool v5)∧
   (((0:Int)≤ti∧ti<((s.len:Nat):Int))∧∃a:Addr,s.a=some a∧∃w1:ByteArray,aB h (adr (adr a (ti.toNat*5)) 0)=some (.string w1)∧∃w2:ByteArray,aB h (adr (adr a (ti.toNat*5)) 1)=some (.string w2)∧∃w3:ByteArray,aB h (adr (adr a (ti.toNat*5)) 2)=some (.string w3)∧∃w4:Bool,aB h (adr (adr a (ti.toNat*5)) 3)=some (.bool w4)∧∃w5:Bool,aB h (adr (adr a (ti.toNat*5)) 4)=some (.bool w5)∧
    (((0:Int)≤ti∧ti<((s.len:Nat):Int))∧∃a:Addr,s.a=some a∧(uf h (some (adr a (ti.toNat*5))) 0 [.string v1,.string v2,.string v3,.bool v4,.bool v5]∧At (ii h (adr a (ti.toNat*5)) 0 [.string v1,.string v2,.string v3,.bool v4,.bool v5]) (fun g=>
     (((0:Int)≤b∧b<((s.len:Nat):Int))∧∃a:Addr,s.a=some a∧(uf g (some (adr a (b.toNat*5))) 0 [.string w1,.string w2,.string w3,.bool w4,.bool w5]∧At (ii g (adr a (b.toNat*5)) 0 [.string w1,.string w2,.string w3,.bool w4,.bool w5]) R)))))):=by
 refine c.rd m n (c.rd k o (c.st (x:=d[j]!) k o fun g f k1=>f.st (x:=d[i]!) m (by simpa using n) fun t e p=>q t e (k1.tr p)))
theorem SA.less(c:SA dec M s h d){ti b:Int}{i j:Nat}(f:ti=(i:Int))(m:b=(j:Int))(o:i<d.size)(n:j<d.size){R:Int→ac→Prop}(p:∀h' e,SA dec M s h' d→Upd No h h'→decide (e<0)=A0 dec d[i]! d[j]!→R e h'):
  ((0:Int)≤ti∧ti<((s.len:Nat):Int))∧∃a:Addr,s.a=some a∧∃v1:ByteArray,aB h (adr (adr a (ti.toNat*5)) 0)=some (.string v1)∧∃v2:ByteArray,aB h (adr (adr a (ti.toNat*5)) 1)=some (.string v2)∧∃v3:ByteArray,aB h (adr (adr a (ti.toNat*5)) 2)=some (.string v3)∧∃v4:Bool,aB h (adr (adr a (ti.toNat*5)) 3)=some (.bool v4)∧∃v5:Bool,aB h (adr (adr a (ti.toNat*5)) 4)=some (.bool v5)∧
   (((0:Int)≤b∧b<((s.len:Nat):Int))∧∃a:Addr,s.a=some a∧∃w1:ByteArray,aB h (adr (adr a (b.toNat*5)) 0)=some (.string w1)∧∃w2:ByteArray,aB h (adr (adr a (b.toNat*5)) 1)=some (.string w2)∧∃w3:ByteArray,aB h (adr (adr a (b.toNat*5)) 2)=some (.string w3)∧∃w4:Bool,aB h (adr (adr a (b.toNat*5)) 3)=some (.bool w4)∧∃w5:Bool,aB h (adr (adr a (b.toNat*5)) 4)=some (.bool w5)∧
    HV PG NG [.agg #[.string v1,.string v2,.string v3,.bool v4,.bool v5],.agg #[.string w1,.string w2,.string w3,.bool w4,.bool w5]] [.c (.int .i64)] R h):=
 c.rd f o (c.rd m n ((Rk M).call (dec d[i]!) (dec d[j]!) trivial fun h' e k g=>p h' e (c.upd0 k) k g))
end Go.Proofs
namespace Go.Proofs
open Go Go.Lift Go.Sort
variable {dec:Int→Ch} {M:Nat→Prop} {s:SliceV} {h:ac} {d:Array Int}
@[simp] theorem N4(lt:Int→Int→Bool)(b first root:Nat)(d:Array Int):(siftDown lt b first root d).size=d.size:=by
 fun_induction siftDown lt b first root d<;>simp_all
@[simp] theorem DB(lt:Int→Int→Bool)(b first:Nat):∀(k:Nat) (d:Array Int),(heapBuild lt b first k d).size=d.size
 |0,d=>rfl
 |k+1,d=>by rw[heapBuild,DB lt b first k];simp
theorem Pm{root b first:Nat}(P:SA dec M s h d)(hb:first+b≤d.size){K:Unit→ac→Prop}(L:∀h',SA dec M s h' (siftDown (A0 dec) b first root d)→Upd M h h'→K () h')(S:root≤1000000000):
  HC PG gD [.slice s.a s.len s.cap,.int .i64 root,.int .i64 b,.int .i64 first,NG] [] K h:=by
 refine l5 s root b first NG ?_
 unfold gF aD bT uu f8 cG yk Ej Cp;have W:=P.small;refine LoopP.ghost (fun(g:Nat×Array Int) (t:Int) h'=>t=(g.1:Int)∧SA dec M s h' g.2∧g.2.size=d.size∧siftDown (A0 dec) b first g.1 g.2=siftDown (A0 dec) b first root d∧Upd M h h'∧g.1≤1000000000) (fun g=>b-g.1) (root,d)
  ⟨rfl,P,rfl,rfl,Upd.refl _ _,S⟩ ?_
 rintro I ⟨i,e⟩ t N ⟨H,n,q,o,A,G⟩ Y;simp only at H n q o G;subst H;have T:IntKind.wrap .i64 (IntKind.wrap .i64 (2*(i:Int))+1)=((2*i+1:Nat):Int):=by rw[dT (x:=2*(i:Int)) (by omega),dT (by omega)];omega
 have J:IntKind.wrap .i64 (((2*i+1:Nat):Int)+1)=((2*i+2:Nat):Int):=by rw[dT (by omega)];omega
 rw[T];refine ax (fun X=>?_) fun C=>?_
 ·refine L _ ?_ A
  rw[←o,siftDown,dif_pos (by omega)];exact n
 ·have C:2*i+1<b:=by omega
  refine Join.intro (fun t h'=>SA dec M s h' e∧Upd No N h'∧∃c:Nat,t=(c:Int)∧c=if 2*i+2<b∧(A0 dec) e[first+(2*i+1)]! e[first+(2*i+1)+1]! =true then 2*i+2 else 2*i+1) (fun R O=>?_) ?_
  ·refine Join.intro (fun t h'=>SA dec M s h' e∧Upd No N h'∧(t=true↔2*i+2<b∧(A0 dec) e[first+(2*i+1)]! e[first+(2*i+1)+1]! =true)) (fun R2 z=>?_) ?_
   ·show CondP (decide (IntKind.wrap .i64 (((2*i+1:Nat):Int)+1)<(b:Int))) _ _
    rw[J];refine ax (fun m=>?_) fun m=>z _ _ ⟨n,Upd.refl _ _,by simp;omega⟩
    show(((0:Int)≤IntKind.wrap .i64 ((first:Int)+((2*i+1:Nat):Int))∧_)∧_)
    refine n.less (i:=first+(2*i+1)) (j:=first+(2*i+1)+1) (by rw[dT (by omega)];omega) (by rw[dT (x:=(first:Int)+_) (by omega),dT (by omega)];omega) (by omega) (by omega) fun h4 e4 f p E=>z _ _ ⟨f,p,?_⟩
    rw[E];simp;omega
   ·rintro t h' ⟨f,p,w⟩
    refine CondP.intro (fun m=>?_) fun m=>?_
    ·show R (IntKind.wrap .i64 (((2*i+1:Nat):Int)+1)) _
     rw[J];exact O _ _ ⟨f,p,_,rfl,by rw[if_pos (w.1 m)]⟩
    ·exact O _ _ ⟨f,p,_,rfl,by rw[if_neg fun Q=>by rw[w.2 Q]at m;cases m]⟩
  ·rintro t h' ⟨f,p,c,rfl,hc⟩
   have U:c<b∧i<c:=by rw[hc];split<;>omega
   refine f.less (i:=first+i) (j:=first+c) (by rw[dT (by omega)];omega) (by rw[dT (by omega)];omega) (by omega) (by omega) fun h5 Z y V F=>?_
   have v:=A.tr (p.tr V).wide;rw[F];have k:siftDown (A0 dec) b first i e=if !(A0 dec) e[first+i]! e[first+c]! then e else siftDown (A0 dec) b first c (swp e (first+i) (first+c)):=by
    rw[siftDown,dif_neg (by omega)];by_cases u:2*i+2<b∧(A0 dec) e[first+(2*i+1)]! e[first+(2*i+1)+1]! =true
    ·rw[if_pos (by simp only[aH,decide_eq_true_iff];exact u),dif_pos u.1]
     rw[if_pos u]at hc;rw[hc]
    ·rw[if_neg (by simp only[aH,decide_eq_true_iff];exact u)]
     rw[if_neg u]at hc;rw[hc]
   refine CondP.intro (fun m=>?_) fun m=>?_
   ·refine L _ ?_ v
    rw[←o,k,if_pos m];exact y
   ·refine y.swap (i:=first+i) (j:=first+c) (by rw[dT (by omega)];omega) (by rw[dT (by omega)];omega) (by omega) (by omega) fun h6 B D=>?_
    refine Y (c,swp e (first+i) (first+c)) _ _ ⟨rfl,B,by simp[q],?_,v.tr D,by simp only;omega⟩ (by simp only;omega)
    rw[←o,k,if_neg (by rw[m];simp)]
end Go.Proofs
namespace Go.Proofs
open Go Go.Lift Go.Sort
variable {dec:Int→Ch} {M:Nat→Prop} {s:SliceV} {h:ac} {d:Array Int}
end Go.Proofs
