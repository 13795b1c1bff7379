/- A part of the proof that the named laws of this program answer true, whatever the input. -/
import Derived.Test.YtopdngagmfanlaaGreatDoorPart4
import Derived.Test.YtopdngagmfanlaaGreatDoorLift3
import Derived.Test.YtopdngagmfanlaaGreatDoorPart2
import Derived.Test.YtopdngagmfanlaaGreatDoorPart3
open Bool renaming and_eq_true→aJ
open Go.IntKind renaming wrap→ac
open Go.Op renaming bytesLess→cW
open Iff renaming rfl→zY
open List renaming mem_cons→ar,mem_cons_of_mem→aI,mem_cons_self→aN,length_filter_le→gH,mem_append→bL,mem_singleton→aQ,length_cons→ay,length_append→ai,filter_append→fR,mem_filter→dP,append_nil→cE,nil_append→jE,pairwise_append→eZ,pairwise_singleton→eR,flatMap_append→bW,flatMap_cons→bH,cons_append→fw,length_drop→aS,length_nil→bN,mem_append_left→ij,mem_append_right→js,length_singleton→ct,pairwise_cons→cc,find?_cons→rP,nodup_nil→pN,mem_of_getElem?→be,getElem?_eq_some_iff→bd,filter_eq_self→kc,any_eq_true→cj,any_cons→qJ,mem_range→ji,length_take→aY,getElem_mem→bV,getElem_of_mem→dC,mem_of_getElem→nI
open List.Pairwise renaming nil→jZ
open Nat renaming le_refl→au,le_trans→bv,lt_of_lt_of_le→aO,not_lt→jh,zero_le→bc,zero_testBit→ni
namespace Go.Proofs
open Go Go.Lift
def AV(s:VS)(n:ByteArray)(d:TD)(ps:List Int):(Int×Int)×VS:=
 if(mc s.L s.nx ps).1.2≠0 then((0,(mc s.L s.nx ps).1.2),s)
 else(((mc s.L s.nx ps).1.1,0),{s with L:=(mc s.L s.nx ps).2.1,nx:=(mc s.L s.nx ps).2.2,D:=pD s.D (mc s.L s.nx ps).1.1 d,B:=pD s.B n (mc s.L s.nx ps).1.1})
theorem VV{L:gQ}{nx:Int}{ps:List Int}(h:(mc L nx ps).1.2≠0):(mc L nx ps).2=(L,nx):=by
 unfold mc at h⊢;split
 ·rfl
 ·split
  ·rfl
  ·split
   ·rfl
   ·rename_i h1 h2 h3
    rw[if_neg h1,if_neg h2,if_neg h3]at h;exact absurd rfl h
theorem Tn{L:gQ}{nx:Int}{ps:List Int}(h:(mc L nx ps).1.2=0):mc L nx ps=((nx,0),Cq L nx ps,nx+1):=by
 unfold mc at h⊢;split at h
 ·rename_i h1;exact absurd h h1
 ·split at h
  ·rename_i h1;exact absurd h h1
  ·split at h
   ·have h:(6:Int)=0:=h
    omega
   ·rename_i h1 h2 h3;rw[if_neg h1,if_neg h2,if_neg h3]
theorem Qo{h:ad}{k:ad→Prop}(a:∀h',h'=h→k h'):At h k:=bi (a h rfl)
theorem N4{κ β:Type}[DecidableEq κ]{k:κ}{v:β}:∀{l:List (κ×β)} {p:κ×β},p∈pD l k v→p=(k,v)∨p∈l
 | [],p,h=>.inl (by simpa[pD]using h)
 |(k',u)::l,p,h=>by
  unfold pD at h;split at h
  ·exact(ar.1 h).imp id (aI _)
  ·rcases ar.1 h with h|h
   ·exact .inr (h▸aN)
   ·exact(N4 h).imp id (aI _)
theorem N6{β:Type}{k:Int}{v:β}:∀{l:List (Int×β)},dK l k=some v→(k,v)∈l
 |(k',u)::l,h=>by
  unfold dK at h;split at h
  ·rename_i e;cases h;rw[e];exact aN
  ·exact aI _ (N6 h)
section
variable {W:Nat→Prop} {h0 h:ad} {vp:Nat} {s:VS}
theorem VaultAt.size(v:VaultAt W h vp s){y:Nat}(a:s.M y):y<h.size:=v.g.lt y (v.w y a)
theorem VS.mG{s:VS}{y:Nat}(h:HK s.gp s.gm y):s.M y:=h.imp id .inl
theorem Mh(v:VaultAt W h0 vp s)(k0:Upd No h0 h)(n:ByteArray){d:TD}(i:TreeIs W h0 s.kind s.x d.1 d.2)(hr:eY d.2)(hf:Fit d.2){pb:Nat}(P:h0.size≤pb)(hpb2:pb<h.size){sl:SliceV}{ps:List Int}(ho:OwnS u32 1 sV (· =pb) h sl ps)(hn:ps.length≤1000000)
  {K:Int×Int→ad→Prop}(C:∀h',Upd s.M h0 h'→VaultAt W h' vp (AV s n d (nz ps)).2→K (AV s n d (nz ps)).1 h'):
  HC PG lK [pV vp,.string n,RU d.1,.slice sl.a sl.len sl.cap] [.c (.int .u32),.c (.int .i64)] K h:=by
 refine ye (some ⟨vp,0,none⟩) n d.1 sl ?_;unfold p5 bf aj iE V0 ae ao mP xU;refine cH fun h1 b1 k1=>⟨_,rfl,_,vc (v.upd0 (k0.tr k1)).blk 6,?_⟩
 have s0:=k0.size;refine T1 (ho.upd k1 fun _ _ h=>h) hn fun s5 V o5 u5=>?_
 have H:Upd No h0 V:=(k0.tr k1).own u5 P;have u:=v.upd0 H;have b5:=u5.oth b1 (show h.size≠pb by omega)
 have hl5:(nz ps).length≤ps.length:=gH ..;have T:∀y,W y→y<h0.size:=v.g.lt;refine⟨vc u.blk 6,W9 u.g (by have:=v.inv.nx1;omega) (fun hm=>by have:=(v.inv.pos _ hm).2;omega) (o5.sl (W:=W) fun b o _ hw=>by have:=T b hw;omega) (by omega) fun I q J=>?_⟩
 have U:∀y,HK s.gp s.gm y→W y∨V.size≤y:=fun y a=>.inl (v.w y (VS.mG a))
 obtain⟨n1,n2,n3,n4,n5,n6,n7,n8,n9,Z⟩:=VS.neB v.ne;have w:∀y,y≠s.gp→y≠s.gm→¬HK s.gp s.gm y:=fun y h1 h2 h=>h.elim h1 h2
 have N:=u.t.upd q (w _ n2.symm n5.symm);have m7:=u.b.upd q (w _ n3.symm n6.symm);have E:=u.n.upd q (w _ n4.symm n7.symm);refine CondP.intro (fun e=>?_) fun e=>?_
 ·have e:(mc s.L s.nx (nz ps)).1.2≠0:=by simpa using e
  have e2:=VV e;have O:AV s n d (nz ps)=((0,(mc s.L s.nx (nz ps)).1.2),s):=by unfold AV;rw[if_pos e]
  rw[O]at C;rw[e2]at J;exact C I (H.wide.tr (q.mono fun y a=>.inl (VS.mG a))) (u.turn q U J N m7 E (fun d hd=>.inl hd) v.sub v.inv)
 ·have e:(mc s.L s.nx (nz ps)).1.2=0:=by simpa using e
  have e2:=Tn e;have t:=v.inv.add (nz ps);have O:AV s n d (nz ps)=(((mc s.L s.nx (nz ps)).1.1,0),{s with L:=(mc s.L s.nx (nz ps)).2.1,nx:=(mc s.L s.nx (nz ps)).2.2,D:=pD s.D (mc s.L s.nx (nz ps)).1.1 d,B:=pD s.B n (mc s.L s.nx (nz ps)).1.1}):=by unfold AV;rw[if_neg (by rw[e];simp)]
  rw[O]at C;rw[e2]at J C t⊢;have z:∀y,s.M y→vp≠y:=fun y a e=>v.wv (e▸v.w y a)
  have c7:=q.get u.blk fun hm=>z _ (VS.mG hm) rfl
  have x:=q.get b5 fun hm=>by have:=v.size (VS.mG hm);omega
  refine⟨_,rfl,_,vc c7 7,_,vc x 0,_,vc x 1,_,vc x 2,_,vc x 3,_,vc x 4,_,vc x 5,_,rfl,N.isMap,Qo fun f m=>?_⟩
  have m:f=mR I s.tm (KE.enc s.nx) (ZA d):=m;have g:Upd (· =s.tm) I f:=by rw[m];exact vU I _ _ rfl
  have t17:MapAt KE ZA f s.tm (pD s.D s.nx d):=by rw[m];exact N.put s.nx d
  have G:=m7.upd g (fun e=>n8 e.symm)
  have A:=E.upd g (fun e=>n9 e.symm)
  have R:=J.upd g fun b o=>.inl ⟨v.w b (.inr (.inr (.inl o))),fun e=>n2 (e.symm.trans o),fun e=>n5 (e.symm.trans o)⟩
  have S:=g.get c7 fun e=>z _ (.inr (.inr (.inl rfl))) e
  refine⟨_,rfl,_,vc S 8,_,rfl,G.isMap,Qo fun c j=>?_⟩
  have j:c=mR f s.bm (kStr.enc n) (W3 s.nx):=j;have k:Upd (· =s.bm) f c:=by rw[j];exact vU f _ _ rfl
  have Q:MapAt kStr W3 c s.bm (pD s.B n s.nx):=by rw[j];exact G.put n s.nx
  have t21:=t17.upd k n8;have F:=A.upd k (fun e=>Z e.symm)
  have X:=R.upd k fun b o=>.inl ⟨v.w b (.inr (.inr (.inr (.inl o)))),fun e=>n3 (e.symm.trans o),fun e=>n6 (e.symm.trans o)⟩
  have Y:Upd s.M V c:=((q.mono fun y a=>.inl (VS.mG a)).tr (g.mono fun y a=>.inl (.inr (.inr (.inl a))))).tr (k.mono fun y a=>.inl (.inr (.inr (.inr (.inl a)))))
  refine C c (H.wide.tr Y) (u.turn Y (fun y a=>.inl (v.w y a)) X t21 Q F (fun p hp=>(N4 hp).elim (fun e=>.inr ?_) .inl) (fun id=>?_) t)
  ·subst e
   have ku:Upd s.M h0 c:=H.wide.tr Y;exact⟨i.updM ku fun y a=>.inl (v.w y a),hr,hf⟩
  ·rw[Kj,insV_ids.mem_iff,ar,←v.sub id]
   split
   ·rename_i hm
    exact⟨.inr,fun h=>h.elim (fun e=>e▸hm) fun h=>h⟩
   ·rw[bL,aQ,Or.comm]
end
end Go.Proofs
namespace Go.Proofs
open Go Go.Lift
abbrev ZL:List Value:= [.string (⟨#[]⟩:ByteArray),.string (⟨#[]⟩:ByteArray)]
theorem Y8{h:ad}{t:TypeId}{p:Pr}{k:ad→Prop}(e:∀h',h'[h.size]? =some (.cells #[.string p.1,.string p.2] t (0,0))→Upd No h h'→k h'):
  At (hnew h [.string (⟨#[]⟩:ByteArray),.string (⟨#[]⟩:ByteArray)] t) fun b=>sN b (some (aH h)) 0 [.string p.1,.string p.2]∧At (ib b (aH h) 0 [.string p.1,.string p.2]) k:=by
 refine cH fun f b1 k1=>?_
 exact dd (c:=ZL) (vs:= [.string p.1,.string p.2]) b1 rfl fun d b2 a=>e d b2 (k1.own a (au _))
theorem JO(p:Pr):∀{l:List Pr},(j8 p l).length≤l.length+1
 | []=>au _
 |q::l=>by
  rw[mS];split
  ·have:=JO p (l:=l);simp only[ay];omega
  ·split<;>simp
theorem SN{W W':Nat→Prop}{h h':ad}{kind:Int}{x:Hs}{t u:Tr}{l a:List Pr}(i:TreeIs W h kind x t l)(c:TreeIs W' h' kind x u a):Nr t u=true:=by
 rcases i with⟨rfl,b,rfl,_⟩|⟨rfl,b,rfl,_⟩<;>rcases c with⟨e,b',rfl,_⟩|⟨e,b',rfl,_⟩
 ·simp[Nr]
 ·cases e
 ·cases e
 ·simp[Nr]
abbrev hsL(x:Hs):List Value:= [.int .u64 x.k0,.int .u64 x.k1,.int .u64 x.mask]
end Go.Proofs
namespace Go.Proofs
open Go Go.Lift
section
variable {W:Nat→Prop} {h:ad} {vp:Nat} {s:VS}
theorem O2(v:VaultAt W h vp s)(n:ByteArray){hd:Int}(g:dK s.B n=some hd){d:TD}(i:TreeIs W h s.kind s.x d.1 d.2)(m:eY d.2)(j:Fit d.2)
  {K:Int×Int→ad→Prop}(o:∀h',Upd s.M h h'→VaultAt W h' vp (AV s n d (nz [hd])).2→K (AV s n d (nz [hd])).1 h'):
  HC PG mz [pV vp,.string n,RU d.1] [.c (.int .u32),.c (.int .i64)] K h:=by
 refine ze (some ⟨vp,0,none⟩) n d.1 ?_;unfold rq aj vW nN iE ae ao mP hG xU;refine cH fun q b1 k1=>Mi (v.upd0 k1) n ?_
 rw[g];refine af.2 ⟨_,vc b1 0,_,vc b1 1,_,vc b1 2,_,vc b1 3,_,vc b1 4,_,vc b1 5,_,rfl,?_⟩;have c1:=k1.get0 v.blk;refine⟨_,Aa c1 0 0,_,Aa c1 0 1,_,Aa c1 0 2,_,Aa c1 0 3,_,Aa c1 0 4,_,Aa c1 0 5,?_⟩;refine Ug (t:=d.1) (u:=s.e) fun b c=>?_
 rw[SN i v.em];have b2:=c.get0 b1;refine af.2 ⟨_,vc b2 0,_,vc b2 1,_,vc b2 2,_,vc b2 3,_,vc b2 4,_,vc b2 5,cH fun w b3 e=>?_⟩
 have a:=k1.tr c;have f:=a.size;refine Mh v (a.tr e) n i m j (pb:=b.size) f (bB b3) (sl:=⟨some (aH b),1,1⟩) (ps:= [hd]) ⟨rfl,AX,au _,.inr ⟨b.size,[],rfl,rfl,b3,rfl⟩⟩ (by simp) fun h' k p=>o h' k p
end
end Go.Proofs
namespace Go.Proofs
open Go Go.Lift
end Go.Proofs
namespace Go.Proofs
open Go Go.Lift
theorem MH{W:Nat→Prop}{h:ad}{b:Nat}{sl:ByteArray}{w:Option ByteArray}{F:Fo}(r:RxN W h b sl w F){K:ByteArray×Bool→ad→Prop}(c:K (w.getD ⟨#[]⟩,w.isSome) h):HC PG oD [.pointer (some ⟨b,0,none⟩)] [.c .str,.c .bool] K h:=by
 refine BC _ ?_;unfold tQ bP cJ;obtain⟨val,s,ow,ks,a,rfl,_⟩:=r;exact af.2 ⟨_,rfl,_,gq (i:=2) a,_,rfl,w.isSome,gq (i:=1) a,c⟩
end Go.Proofs
namespace Go.Proofs
open Go Go.Lift
end Go.Proofs
namespace Go.Proofs
open Go Go.Lift
end Go.Proofs
namespace Go.Proofs
structure WO{α:Type}(lt:α→α→Bool):Prop where
 irr:∀a,lt a a=false
 asy:∀a b,lt a b=true→lt b a=false
 ntr:∀a b c,lt a b=false→lt b c=false→lt a c=false
section
variable {α:Type} {lt:α→α→Bool}
def Tc(lt:α→α→Bool)(x a:α):Bool:= !lt a x&& !lt x a
def Srt(lt:α→α→Bool)(l:List α):Prop:=l.Pairwise fun a b=>lt b a=false
structure Eqf(lt:α→α→Bool)(l l':List α):Prop where
 len:l'.length=l.length
 flt:∀x,l'.filter (Tc lt x)=l.filter (Tc lt x)
structure St(lt:α→α→Bool)(l l':List α):Prop where
 eqf:Eqf lt l l'
 srt:Srt lt l'
theorem Eqf.rfl(l:List α):Eqf lt l l:=⟨_root_.rfl,fun _=>_root_.rfl⟩
theorem Eqf.tr{a b c:List α}(h:Eqf lt a b)(k:Eqf lt b c):Eqf lt a c:=⟨k.len.trans h.len,fun x=>(k.flt x).trans (h.flt x)⟩
theorem Eqf.app{a b a' b':List α}(h:Eqf lt a a')(k:Eqf lt b b'):Eqf lt (a++b) (a'++b'):=
 ⟨by rw[ai,ai,h.len,k.len],fun x=>by rw[fR,fR,h.flt,k.flt]⟩
theorem NY(w:WO lt)(a:α):Tc lt a a=true:=by unfold Tc;rw[w.irr];rfl
theorem Eqf.mem(w:WO lt){l b:List α}(h:Eqf lt l b){a:α}:a∈b↔a∈l:=by
 have e:=h.flt a;constructor
 ·intro hm
  have:a∈b.filter (Tc lt a):=dP.2 ⟨hm,NY w a⟩;rw[e]at this;exact(dP.1 this).1
 ·intro hm
  have:a∈l.filter (Tc lt a):=dP.2 ⟨hm,NY w a⟩;rw[←e]at this;exact(dP.1 this).1
theorem Xg(w:WO lt){x u v:α}(a:Tc lt x u=true)(b:Tc lt x v=true):lt v u=false:=by
 unfold Tc at a b;simp only[aJ,Bool.not_eq_true']at a b;exact w.ntr v x u b.1 a.2
theorem Eqf.swap(w:WO lt){U V:List α}(h:∀u∈U,∀v∈V,lt v u=true):Eqf lt (U++V) (V++U):=by
 refine⟨by rw[ai,ai,Nat.add_comm],fun x=>?_⟩
 rw[fR,fR];cases hU:U.filter (Tc lt x)with
 |nil=>rw[cE,jE]
 |cons u us=>
  cases hV:V.filter (Tc lt x)with
  |nil=>rw[cE,jE]
  |cons v vs=>
   have d:u∈U.filter (Tc lt x):=by rw[hU];exact aN ..
   have e:v∈V.filter (Tc lt x):=by rw[hV];exact aN ..
   have a:=dP.1 d;have b:=dP.1 e;have c:=h u a.1 v b.1;rw[Xg w a.2 b.2]at c;cases c
theorem Srt.app{a b:List α}(h:Srt lt a)(k:Srt lt b)(c:∀x∈a,∀y∈b,lt y x=false):Srt lt (a++b):=eZ.2 ⟨h,k,c⟩
theorem Srt.left{a b:List α}(h:Srt lt (a++b)):Srt lt a:=(eZ.1 h).1
theorem Srt.right{a b:List α}(h:Srt lt (a++b)):Srt lt b:=(eZ.1 h).2.1
theorem Srt.nil:Srt lt ([]:List α):=jZ
theorem Srt.one(a:α):Srt lt [a]:=eR ..
end
end Go.Proofs
namespace Go.Proofs
open Go Go.Lift
section
variable {α:Type} {f:α→List Value} {sz:Nat} {t:TypeId} {M:Nat→Prop} {h:ad} {s:SliceV} {P Q:List α} {x:α}
end
structure Cmp{α:Type}(lt:α→α→Bool)(f:α→List Value)(M:Nat→Prop)(Iv:ad→Prop)(V:Value):Prop where
 call:∀(a b:α) {h:ad} {K:Int→ad→Prop},Iv h→(∀h' e,Upd No h h'→decide (e<0)=lt a b→K e h')→HV PG V [.agg (f a).toArray,.agg (f b).toArray] [.c (.int .i64)] K h
 step:∀{h h':ad},Upd M h h'→Iv h→Iv h'
end Go.Proofs
namespace Go.Proofs
open Go Go.Lift
end Go.Proofs
namespace Go.Proofs
open Go Go.Lift
variable {z0:Hs}
end Go.Proofs
namespace Go.Proofs
open Go Go.Lift
end Go.Proofs
namespace Go.Proofs
open Go Go.Lift
end Go.Proofs
namespace Go.Proofs
open Go Go.Lift
def wl(x:Hs):Nat→List Pr→List Pr
 |0,l=>l
 |m+1,l=>B6 x (12-m) l++(XC x (12-m) l).flatMap (wl x m)
def cw(x:Hs):Nat→List Pr→Nat
 |0,_=>2
 |m+1,l=>2+((XC x (12-m) l).map (cw x m)).sum
structure Fr where
 sp:SliceV
 sk:SliceV
 n:Nat
 ps:List Pr
 ks:List (Nat×List Pr)
def Fr.raw(f:Fr):SliceV×SliceV:=(f.sp,f.sk)
def Fr.rem(x:Hs)(f:Fr):List Pr:=f.ps++f.ks.flatMap fun k=>wl x (f.n-1) k.2
theorem setCell{α:Type}{f:α→List Value}{c:Nat}{t:TypeId}{M:Nat→Prop}{h:ad}{s:SliceV}{P Q:List α}{x y:α}{j:Nat}{v:Value}(m:OwnS f c t M h s (P++x::Q))(J:j<c)(E:f y=(f x).set j v){a:Addr}(A:s.a=some a){i:Nat}(hi:i=P.length){G:ad→Prop}(C:∀h',OwnS f c t M h' s (P++y::Q)→Upd M h h'→G h'):
  Wr h (adr (adr a (i*c)) j)∧At (hset h (adr (adr a (i*c)) j) v) G:=by
 subst hi;have n:=m.ne;have e:=m.len;have k:=m.cap;rcases m.blk with I|⟨b,d,g,w,hc,D⟩
 ·rw[ai,ay]at e;omega
 rw[A]at g;cases g;have H:(P.flatMap f).length=P.length*c:=jU n P;rw[bW,bH]at hc;have F:=(n x).1;have B:adr (adr ⟨b,0,none⟩ (P.length*c)) j=⟨b,P.length*c+j,none⟩:=by rw[ce,ce,Nat.zero_add]
 rw[B];have u:P.length*c+j<(P.flatMap f++(f x++Q.flatMap f)++d).toArray.size:=by
  simp only[List.size_toArray,ai];omega
 refine⟨iM hc u,vC hc fun h' q o=>C h' ⟨by rw[e];simp,n,k,.inr ⟨b,d,A,w,?_,D⟩⟩ (o.mono fun z p=>.inl (by have p:z=b:=p;rw[p];exact w))⟩
 rw[q];congr 3
 rw[bW,bH,E];apply Array.toList_inj.1;rw[Array.toList_setIfInBounds];simp only[List.append_assoc];rw[List.set_append_right _ _ (by omega),show P.length*c+j-(P.flatMap f).length=j by omega,List.set_append_left _ _ (by omega)]
end Go.Proofs
namespace Go.Proofs
open Go Go.Lift
end Go.Proofs
namespace Go.Proofs
open Go Go.Lift
def Below(W:Nat→Prop)(x:Hs)(h:ad)(m:Nat)(r:Option Addr)(l:List Pr):Prop:=(r=none∧l= [])∨∃b,r=some ⟨b,0,none⟩∧TrieAt W x h m b l
theorem Below.upd0{W:Nat→Prop}{x:Hs}{h h':ad}{m:Nat}{r:Option Addr}{l:List Pr}(k:Upd No h h')(t:Below W x h m r l):Below W x h' m r l:=t.imp id fun⟨b,e,t⟩=>⟨b,e,TrieAt.upd0 k t⟩
theorem Below.less{W W':Nat→Prop}{x:Hs}{h:ad}{m:Nat}{r:Option Addr}{l:List Pr}(hm:∀b,W' b→W b∨h.size≤b)(t:Below W x h m r l):Below W' x h m r l:=t.imp id fun⟨b,e,t⟩=>⟨b,e,TrieAt.less hm t⟩
theorem Below.updM{W M:Nat→Prop}{x:Hs}{h h':ad}{m:Nat}{r:Option Addr}{l:List Pr}(k:Upd M h h')(hm:∀b,M b→W b∨h.size≤b)(t:Below W x h m r l):Below W x h' m r l:=t.imp id fun⟨b,e,t⟩=>⟨b,e,TrieAt.updM k hm t⟩
end Go.Proofs
namespace Go.Proofs
open Go.Lift
abbrev Ch:=ByteArray×ByteArray×ByteArray×Bool×Bool
abbrev sg(c:Ch):List Value:= [.string c.1,.string c.2.1,.string c.2.2.1,.bool c.2.2.2.1,.bool c.2.2.2.2]
end Go.Proofs
namespace Go.Proofs
open Go Go.Lift
theorem mC(x:Ch):(sg x).length=5∧0<5:=⟨rfl,by omega⟩
end Go.Proofs
namespace Go.Proofs
open Go Go.Lift
end Go.Proofs
namespace Go.Proofs
open Go Go.Lift
end Go.Proofs
namespace Go.Proofs
open Go Go.Lift
def hx(kind v:Int):Int:=if kind=0 then v else 0
end Go.Proofs
namespace Go.Proofs
open Go Go.Lift
structure Few(n:Nat)(L:List Pr):Prop where
 up:eY L
 len:L.length≤n
 fit:∀p∈L,p.1.size≤30∧p.2.size≤30
theorem Few.ins{n:Nat}{L:List Pr}(f:Few n L)(p:Pr)(c:p.1.size≤30)(a:p.2.size≤30):Few (n+1) (j8 p L):=
 ⟨Jm p f.up,bv (JO p) (by have:=f.len;omega),fun q b=>(Cl b).elim (fun e=>by rw[e];exact⟨c,a⟩) fun h=>f.fit q h⟩
theorem Few.fits{n:Nat}{L:List Pr}(f:Few n L):Fit L:=fun p a=>by have:=f.fit p a;omega
end Go.Proofs
namespace Go.Proofs
open Go Go.Lift
end Go.Proofs
namespace Go.Proofs
open Go Go.Lift
theorem PC{h:ad}{b:Nat}{c:Array Value}{t:TypeId}(a:h[b]? =some (.cells c t (0,0))) (hc:0<c.size):hT h ⟨b,0,none⟩:=⟨c,t,a,hc⟩
theorem TrieAt.plain{W:Nat→Prop}{x:Hs}{h:ad}:∀{m b:Nat} {l:List Pr},TrieAt W x h m b l→hT h ⟨b,0,none⟩
 |0,_,_,t=>by obtain⟨_,_,_,a,_⟩:=BuckAt.ex t;exact PC a (by simp[fZ])
 |m+1,_,_,⟨s,nd,_⟩=>by obtain⟨_,_,_,_,_,a,_⟩:=nd.ex;exact PC a (by simp[fZ])
end Go.Proofs
namespace Go.Proofs
open Go Go.Lift
end Go.Proofs
namespace Go.Proofs
open Go Go.Lift
theorem RxN.plain{W:Nat→Prop}{h:ad}{b:Nat}{sl:ByteArray}{w:Option ByteArray}{F:Fo}(r:RxN W h b sl w F):hT h ⟨b,0,none⟩:=by
 obtain⟨val,s,ow,ks,a,_⟩:=r;exact PC a (by simp[GA])
end Go.Proofs
namespace Go.Proofs
open Go Go.Lift
end Go.Proofs
namespace Go.Proofs
open Go Go.Lift
def aac(a b:Ch):Bool:=decide (kl a.1 b.1)
theorem Zu(M:Nat→Prop):Cmp aac sg M (fun _=>True) (.func (.func yQ) #[] #[]):=by
 refine⟨fun a b h K _ e=>HV.mk' (Oq a b ?_),fun _ h=>h⟩
 unfold Fb ah ez PE;refine cH fun f b1 k1=>cH fun d b2 c=>?_
 refine⟨a.1,vc (c.get0 b1) 0,b.1,vc b2 0,Ht (e d _ (k1.tr c) ?_)⟩;unfold Lz aac;split
 ·rename_i h;rw[decide_eq_true h];rfl
 ·rename_i h
  rw[decide_eq_false h];split<;>rfl
end Go.Proofs
namespace Go.Proofs
open Go Go.Lift
end Go.Proofs
namespace Go.Proofs
open Go Go.Lift
end Go.Proofs
namespace Go.Proofs
open Go Go.Lift
end Go.Proofs
namespace Go.Proofs
open Go Go.Lift
theorem WZ{a b:ByteArray}:kl a b↔cW a.data.toList b.data.toList=true:=by unfold kl;rw[ByteArray.toList_eq,ByteArray.toList_eq]
theorem RG{a b:UInt8}{x y:List UInt8}:cW (a::x) (b::y)=true↔a.toNat<b.toNat∨(a=b∧cW x y=true):=by
 simp only[cW,Bool.or_eq_true,decide_eq_true_iff,aJ,beq_iff_eq,UInt8.lt_iff_toNat_lt]
theorem VK{x y:List UInt8}:∀pre:List UInt8,cW (pre++x) (pre++y)=true↔cW x y=true
 | []=>zY
 |a::pre=>by rw[fw,fw,RG,VK pre];simp
theorem Zx{x y:List UInt8}(h:cW x y=true)(hx:x≠[])(c:y≠[]):hd x≤hd y:=by
 match x,y,hx,c with
 |a::x,b::y,_,_=>
  show a.toNat≤b.toNat
  rcases RG.1 h with h|⟨rfl,_⟩<;>omega
abbrev ky(p:Pr):List UInt8:=p.1.data.toList
def aaR(l:List Pr)(a k:List UInt8)(v:ByteArray):Prop:=∃p∈l,ky p=a++k∧p.2=v
structure Beg(l:List Pr)(pre:List UInt8):Prop where
 up:eY l
 at_:∀p∈l,(ky p).take pre.length=pre∧pre.length<(ky p).length
theorem Beg.sub{l c:List Pr}{a:List UInt8}(b:Beg l a)(h:c.Sublist l):Beg c a:=⟨b.up.sublist h,fun p d=>b.at_ p (h.subset d)⟩
theorem Beg.split{l:List Pr}{a:List UInt8}(b:Beg l a){p:Pr}(c:p∈l):ky p=a++(ky p).drop a.length∧(ky p).drop a.length≠[]:=by
 obtain⟨d,f⟩:=b.at_ p c;refine⟨?_,fun e=>?_⟩
 ·conv=>lhs;rw[←List.take_append_drop a.length (ky p),d]
 ·have:=congrArg List.length e
  rw[aS,bN]at this;omega
def bt(n:Nat)(p:Pr):Nat:=hd ((ky p).drop n)
theorem Beg.mono{A B:List Pr}{a:List UInt8}(b:Beg (A++B) a){x y:Pr}(hx:x∈A)(c:y∈B):bt a.length x≤bt a.length y:=by
 have h:=(eZ.1 b.up).2.2 x hx y c;rw[WZ]at h;obtain⟨e1,e⟩:=b.split (ij B hx);obtain⟨e2,d⟩:=b.split (js A c);change cW (ky x) (ky y)=true at h;rw[e1,e2,VK]at h;exact Zx h e d
structure Row(L:List Bn)(D T:List Pr)(pre:List UInt8):Prop where
 can:∀n∈L,Tu n
 up:L.Pairwise fun m n=>hd m.1<hd n.1
 lo:∀n∈L,∀p∈T,hd n.1<bt pre.length p
 got:∀k v,(∃n∈L,yd n k v)↔aaR D pre k v
theorem Row.nil(T:List Pr)(a:List UInt8):Row [] [] T a:=⟨fun n h=>(by cases h),jZ,fun n h=>(by cases h),fun k v=>⟨fun⟨n,h,_⟩=>(by cases h),fun⟨p,h,_⟩=>(by cases h)⟩⟩
theorem Row.more{L:List Bn}{D A B:List Pr}{c:List UInt8}{n:Bn}{p:Pr}(r:Row L D (A++B) c)(o:Beg (A++B) c)(t:p∈A)(C:∀a∈A,bt c.length a=bt c.length p)(x:∀b f,B=b::f→bt c.length b≠bt c.length p)(hc:Tu n)(j:hd n.1=bt c.length p)(s:∀k v,yd n k v↔aaR A c k v):Row (L++ [n]) (D++A) B c:=by
 refine⟨fun m hm=>?_,eZ.2 ⟨r.up,eR ..,fun a w b u=>?_⟩,fun m hm q d=>?_,fun k v=>?_⟩
 ·rcases bL.1 hm with hm|hm
  ·exact r.can m hm
  ·rw[aQ.1 hm];exact hc
 ·rw[aQ.1 u,j]
  exact r.lo a w p (ij _ t)
 ·rcases bL.1 hm with hm|hm
  ·exact r.lo m hm q (js _ d)
  ·rw[aQ.1 hm,j]
   rcases B with _|⟨i,f⟩
   ·cases d
   have y:=x i f rfl;have z:=o.mono t (aN (a:=i) (l:=f));rcases ar.1 d with rfl|d
   ·omega
   ·have g:Beg ([i]++f) c:=o.sub (List.sublist_append_right A _)
    have:=g.mono (aQ.2 rfl) d;omega
 ·constructor
  ·rintro⟨m,hm,hi⟩
   rcases bL.1 hm with hm|hm
   ·obtain⟨q,d,e⟩:=(r.got k v).1 ⟨m,hm,hi⟩
    exact⟨q,ij _ d,e⟩
   ·rw[aQ.1 hm]at hi
    obtain⟨q,d,e⟩:=(s k v).1 hi;exact⟨q,js _ d,e⟩
  ·rintro⟨q,d,e⟩
   rcases bL.1 d with d|d
   ·obtain⟨m,hm,hi⟩:=(r.got k v).2 ⟨q,d,e⟩
    exact⟨m,ij _ hm,hi⟩
   ·exact⟨n,js _ (aQ.2 rfl),(s k v).2 ⟨q,d,e⟩⟩
theorem Row.done{L:List Bn}{D:List Pr}{a:List UInt8}(r:Row L D [] a):jV (.ofL L)∧∀k v,uD (.ofL L) k v↔aaR D a k v:=by
 refine⟨eX.2 ?_,fun k v=>?_⟩
 ·rw[Fo.to_of];exact⟨r.up,r.can⟩
 ·rw[iR,Fo.to_of];exact r.got k v
end Go.Proofs
namespace Go.Proofs
open Go Go.Lift
theorem Kid.less{W W':Nat→Prop}{h:ad}(hm:∀b,W' b→W b∨h.size≤b){a:Option Addr}{n:Bn}:Kid W h a n→Kid W' h a n
 |⟨b,sl,e1,e2,e3⟩=>⟨b,sl,e1,e2,e3.less hm⟩
theorem Kid.updM{W M:Nat→Prop}{h h':ad}(k:Upd M h h')(hm:∀b,M b→W b∨h.size≤b){a:Option Addr}{n:Bn}:Kid W h a n→Kid W h' a n
 |⟨b,sl,e1,e2,e3⟩=>⟨b,sl,e1,e2,e3.updM k hm⟩
theorem RxL.less{W W':Nat→Prop}{h:ad}(hm:∀b,W' b→W b∨h.size≤b){ks:List (Option Addr)}{L:List Bn}(r:RxL W h ks L):RxL W' h ks L:=⟨r.1,fun p a=>(r.2 p a).less hm⟩
theorem RxL.updM{W M:Nat→Prop}{h h':ad}(k:Upd M h h')(hm:∀b,M b→W b∨h.size≤b){ks:List (Option Addr)}{L:List Bn}(r:RxL W h ks L):RxL W h' ks L:=⟨r.1,fun p a=>(r.2 p a).updM k hm⟩
end Go.Proofs
namespace Go.Proofs
open Go Go.Lift
end Go.Proofs
namespace Go.Proofs
open Go Go.Lift
end Go.Proofs
namespace Go.Proofs
open Go Go.Lift
abbrev XK:List Value:= [.string (⟨#[]⟩:ByteArray),.string (⟨#[]⟩:ByteArray),.string (⟨#[]⟩:ByteArray),.bool false,.bool false]
theorem Y9{h:ad}{t:TypeId}{c:Ch}{k:ad→Prop}(e:∀h',h'[h.size]? =some (.cells (sg c).toArray t (0,0))→Upd No h h'→k h'):
  At (hnew h XK t) fun b=>sN b (some (aH h)) 0 (sg c)∧At (ib b (aH h) 0 (sg c)) k:=
 cH fun f b1 k1=>dd (c:=XK) (vs:=sg c) b1 rfl fun d b2 a=>e d b2 (k1.own a (au _))
theorem VN{t:TypeId}{M:Nat→Prop}{h:ad}{d:SliceV}{out:List Ch}{c:Ch}{K:SliceV→ad→Prop}(f:OwnS sg 5 t M h d out)(hM:∀b,h.size≤b→M b)(m:out.length+1≤100000000)
  (j:∀s' h',OwnS sg 5 t M h' s' (out++ [c])→Upd M h h'→K s' h'):
  At (hnew h (sg c) t) fun a=>∃xs,SRow a (some (aH h)) (1*5) xs∧AppP (some XK) 5 56 t d.a d.len d.cap 1 xs a K:=by
 refine cH fun a b1 k1=>?_
 have k:=bB b1;have i:OwnS sg 5 t (fun _=>True) a ⟨some (aH h),1,1⟩ [c]:=⟨rfl,mC,au _,.inr ⟨h.size,[],rfl,trivial,b1,rfl⟩⟩
 refine⟨_,(i.sl (W:=No) fun _ _ _ h=>h).srow,?_⟩
 refine AppP.own (ys:= [c]) (f.upd k1 fun _ _ h=>h) rfl rfl rfl rfl (by omega) (by simp only[ct];omega) (hM _ k1.size) fun s' h' e g=>?_
 exact j s' h' e (k1.wide.tr g)
end Go.Proofs
namespace Go.Proofs
open Go Go.Lift
end Go.Proofs
namespace Go.Proofs
open Go Go.Lift
abbrev b1:ByteArray:=⟨#[49]⟩
abbrev b2:ByteArray:=⟨#[50]⟩
abbrev b3:ByteArray:=⟨#[51]⟩
end Go.Proofs
namespace Go.Proofs
open Go Go.Lift
def look(l:List Pr)(k:ByteArray):Option ByteArray:=(l.find? fun p=>decide (p.1=k)).map (·.2)
theorem SL{l:List Pr}{k:ByteArray}(h:cG l k=false):look l k=none:=by
 unfold look;rw[Option.map_eq_none_iff,List.find?_eq_none];intro p a;unfold cG at h;rw[List.any_eq_false]at h;exact h p a
theorem DX:∀{l:List Pr} {k v:ByteArray},eY l→(k,v)∈l→look l k=some v
 |p::l,k,v,a,h=>by
  have a:=cc.1 a;unfold look;rw[rP];rcases ar.1 h with e|h
  ·subst e;simp
  ·have b:p.1≠k:=fun e=>by
    have:=a.1 _ h;simp only at this;rw[e]at this;exact fo _ this
   rw[decide_eq_false b];exact DX a.2 h
theorem WW{l:List Pr}(b:eY l){k v:ByteArray}(c:cG l k=true→(k,v)∈l)(a:cG l k=false→v=⟨#[]⟩):((look l k).getD ⟨#[]⟩,(look l k).isSome)=(v,cG l k):=by
 cases ht:cG l k with
 |true=>rw[DX b (c ht)];rfl
 |false=>rw[SL ht,a ht];rfl
theorem SK{x:Hs}{lev:Nat}{l:List Pr}{k:ByteArray}:look (part x lev (ck x lev k) l) k=look l k:=by
 unfold look part;congr 1
 rw[List.find?_filter];congr 1
 funext p;by_cases e:p.1=k
 ·rw[e];simp
 ·simp[e]
theorem N2{W:Nat→Prop}{x:Hs}{h:ad}{b:Nat}{l:List Pr}(t:TrieAt W x h 13 b l)(T:∀y,W y→y<h.size)(X:eY l)(V:l.length≤1000000)(k:ByteArray){K:ByteArray×Bool→ad→Prop}
  (L:∀h',Upd No h h'→K ((look l k).getD ⟨#[]⟩,(look l k).isSome) h'):HC PG yU [.agg #[.int .u64 x.k0,.int .u64 x.k1,.int .u64 x.mask],.pointer (some ⟨b,0,none⟩),.string k] [.c .str,.c .bool] K h:=by
 refine Ox (x.k0,x.k1,x.mask) (some ⟨b,0,none⟩) k ?_;unfold Fh ah nv Av iA nN rD ae Ac pW pf;refine cH fun h1 b1 k1=>⟨_,vc b1 0,_,vc b1 1,_,vc b1 2,?_⟩
 refine Cu fun h2 k2=>?_
 have u:=k1.tr k2;refine KC (.inr ⟨b,rfl,TrieAt.upd0 u t⟩) (fun y hy=>aO (T y hy) u.size) fun h3 b3 S k3 _=>?_
 have J:=u.tr k3;refine LoopP.ghost (fun(g:Nat×Nat×List Pr) (t:Option Addr×Int) h'=>t=(some ⟨g.2.1,0,none⟩,((13-g.1:Nat):Int))∧g.1≤13∧TrieAt W x h' g.1 g.2.1 g.2.2∧eY g.2.2∧g.2.2.length≤1000000∧look g.2.2 k=look l k∧Upd No h h') (fun g=>g.1) (13,b3,l)
  ⟨rfl,au _,S,X,V,rfl,J⟩ ?_
 rintro I ⟨m,c,B⟩ t Z ⟨rfl,hm,tm,j,A,o,D⟩ Y;simp only at hm tm j A o;rcases m with _|m
 ·obtain⟨sp,sk,ow,E,_⟩:=BuckAt.ex tm
  refine kM E (aA.2 (U1 tm j (by omega) k fun Q v F e1 e2=>?_))
  have:=L Q (D.tr F);rw[←o,WW j e1 e2]at this;exact this
 ·obtain⟨s,nd,N⟩:=tm
  have N:∀c,c<32→SlotIs W x Z m s c (part x (12-m) c B):=N;obtain⟨d,n,sp,sk,ow,E,_⟩:=nd.ex;refine kM E (af.2 ?_);refine Vz (by omega) ?_;rw[show 13-(m+1)=12-m by omega]
  have hi:=Hv x (12-m) k;have q:=N _ hi;have f:look (part x (12-m) (ck x (12-m) k) B) k=look l k:=by rw[SK,o]
  have z:eY (part x (12-m) (ck x (12-m) k) B):=A7 j;have w:(part x (12-m) (ck x (12-m) k) B).length≤1000000:=bv yr A;generalize part x (12-m) (ck x (12-m) k) B=lp at q f z w;generalize ck x (12-m) k=i at hi q;refine GQ nd hi fun Q F=>?_
  refine Y8 fun C H U=>?_
  have a:=F.tr U;rcases q with⟨G,e1,e2⟩|⟨p,G,e1,e2⟩|⟨_,e1,R,e2,tk⟩
  ·rw[e1]
   refine af.2 (FT (nd.upd a fun _ h=>h.elim) hi ?_)
   rw[e2];refine aA.2 ?_;have:=L C (D.tr a);rw[←f,G]at this;exact this
  ·rw[e1]at H⊢
   refine aA.2 ⟨p.1,vc H 0,?_⟩;rw[di];have:=L C (D.tr a);rw[←f,G]at this;by_cases e:p.1=k
   ·rw[decide_eq_true e]
    refine af.2 ⟨p.2,vc H 1,?_⟩;have O:look [p] k=some p.2:=by unfold look;rw[rP,decide_eq_true e];rfl
    rw[O]at this;exact this
   ·rw[decide_eq_false e]
    have O:look [p] k=none:=by unfold look;rw[rP,decide_eq_false e];rfl
    rw[O]at this;exact aA.2 this
  ·rw[e1]
   refine af.2 (FT (nd.upd a fun _ h=>h.elim) hi ?_)
   rw[e2];refine af.2 ?_;have P:ac .i64 (((13-(m+1):Nat):Int)+1)=((13-m:Nat):Int):=by rw[kD (by omega)];omega
   rw[show 13-(m+1)=12-m by omega]at P
   show I (some ⟨R,0,none⟩,ac .i64 (((12-m:Nat):Int)+1)) C
   rw[P];exact Y (m,R,lp) _ C ⟨rfl,by simp only;omega,TrieAt.upd0 a tk,z,w,f,D.tr a⟩ (by simp only;omega)
abbrev Sd:=ByteArray×Bool
end Go.Proofs
namespace Go.Proofs
open Go Go.Lift
section
variable {W:Nat→Prop} {h:ad} {vp:Nat} {s:VS}
end
end Go.Proofs
namespace Go.Proofs
open Go Go.Lift
structure NSt(h8:ad)(b:Nat)(t:Tr)(h:ad)(ps ms:List Nat):Prop where
 k:Upd No h8 h
 blk:h[b]? =some (.cells (pU t).toArray cg (0,0))
 gs:∀p∈ps,GraphAt (HK (p+1) p) h (p+1) p [] 1∧h8.size≤p
 mp:∀m∈ms,h[m]? =some (.map #[] 0)∧h8.size≤m
section
variable {h8 h h':ad} {b:Nat} {t:Tr} {ps ms:List Nat}
theorem NSt.upd(n:NSt h8 b t h ps ms)(k:Upd No h h'):NSt h8 b t h' ps ms:=
 ⟨n.k.tr k,k.get0 n.blk,fun p a=>⟨(n.gs p a).1.upd0 k,(n.gs p a).2⟩,fun m hm=>⟨k.get0 (n.mp m hm).1,(n.mp m hm).2⟩⟩
theorem NSt.rds(n:NSt h8 b t h ps ms):aD h (adr ⟨b,0,none⟩ 0)=some (.int .i64 t.1)∧aD h (adr ⟨b,0,none⟩ 1)=some (.int .u64 t.2.1)∧aD h (adr ⟨b,0,none⟩ 2)=some (.int .u64 t.2.2.1)∧aD h (adr ⟨b,0,none⟩ 3)=some (.int .u64 t.2.2.2.1)∧aD h (adr ⟨b,0,none⟩ 4)=some (.pointer t.2.2.2.2.1)∧aD h (adr ⟨b,0,none⟩ 5)=some (.pointer t.2.2.2.2.2):=
 ⟨vc n.blk 0,vc n.blk 1,vc n.blk 2,vc n.blk 3,vc n.blk 4,vc n.blk 5⟩
theorem NSt.map(n:NSt h8 b t h ps ms){k:ad→Prop}(d:∀h',NSt h8 b t h' ps (h.size::ms)→h.size<h'.size→k h'):At (Array.push h (.map #[] 0)) k:=by
 have c:=Upd.push No h (.map #[] 0);have a:=n.upd c;refine bi (d _ ⟨a.k,a.blk,a.gs,fun m hm=>?_⟩ (by simp))
 rcases ar.1 hm with rfl|hm
 ·exact⟨mo h _,n.k.size⟩
 ·exact a.mp m hm
theorem NSt.graph(n:NSt h8 b t h ps ms){K:Option Addr→ad→Prop}(e:∀h',NSt h8 b t h' (h.size::ps) ms→h.size+1<h'.size→K (some ⟨h.size+1,0,none⟩) h'):HC PG dH [] [.c .ptr] K h:=by
 refine W7 fun h' d g=>?_
 have a:=n.upd d;refine e h' ⟨a.k,a.blk,fun p c=>?_,a.mp⟩ (g.lt _ (.inl rfl))
 rcases ar.1 c with rfl|c
 ·exact⟨g,n.k.size⟩
 ·exact a.gs p c
theorem NSt.put(n:NSt h8 b t h ps ms){cs:List Value}{ty:TypeId}{k:ad→Prop}(a:∀h',NSt h8 b t h' ps ms→h'[h.size]? =some (.cells cs.toArray ty (0,0))→h8.size≤h.size→k h'):At (hnew h cs ty) k:=
 cH fun h' b' k'=>a h' (n.upd k') b' n.k.size
theorem NSt.done{W:Nat→Prop}{kind:Int}{x:Hs}(n:NSt h8 b t h ps ms)(z:∀y,W y→y<h8.size)(i:TreeIs W h8 kind x t [])(v:kind=0∨kind=1){c p k o f:Nat}{K:Option Addr×Int→ad→Prop}
  (D:∀h' vp gp gm tm bm nm,VaultAt (fun y=>W y∨VS.M ⟨gp,gm,tm,bm,nm,kind,x,t,[],1,[],[],[]⟩ y) h' vp ⟨gp,gm,tm,bm,nm,kind,x,t,[],1,[],[],[]⟩→h8.size≤vp→(∀y,VS.M ⟨gp,gm,tm,bm,nm,kind,x,t,[],1,[],[],[]⟩ y→h8.size≤y)→Upd No h8 h'→K (some ⟨vp,0,none⟩,0) h')
  (A:h[c]? =some (.cells (pU t++ [Value.pointer (some ⟨p+1,0,none⟩),Value.map (some k),Value.map (some o),Value.map (some f)]).toArray cf (0,0)))
  (B:h8.size≤c) (j:∀m∈(p+1)::p::ms,c≠m) (C:p∈ps) (q:k∈ms) (s:o∈ms) (u:f∈ms) (ne: [p+1,p,k,o,f].Nodup):K (some ⟨c,0,none⟩,0) h:=by
 obtain⟨g,F⟩:=n.gs p C;have hM:∀y,VS.M ⟨p+1,p,k,o,f,kind,x,t,[],1,[],[],[]⟩ y→h8.size≤y∧y<h.size∧c≠y:=fun y a=>by
  rcases a with e|e|e|e|e<;>(simp only at e;subst e)
  ·exact⟨by omega,g.lt _ (.inl rfl),j _ (by simp)⟩
  ·exact⟨F,g.lt _ (.inr rfl),j _ (by simp)⟩
  ·exact⟨(n.mp _ q).2,bB (n.mp _ q).1,j _ (by simp[q])⟩
  ·exact⟨(n.mp _ s).2,bB (n.mp _ s).1,j _ (by simp[s])⟩
  ·exact⟨(n.mp _ u).2,bB (n.mp _ u).1,j _ (by simp[u])⟩
 obtain⟨m,hm,w⟩:=g.map;have em:∀{κ β:Type} {E:KeyE κ} {g:β→Value} {r:Nat},h[r]? =some (.map #[] 0)→MapAt E g h r []:=fun w=>⟨[],0,⟨w,pN,pN,fun _ h=>by cases h⟩,rfl⟩
 refine D h c (p+1) p k o f ⟨A,⟨g.blk,⟨m,hm,fun id=>(w id).elim (fun⟨_,_,_,e,_⟩=>by cases e) .inr⟩,.inr (.inl rfl),.inr (.inr (.inl rfl)),fun y a=>a.elim (fun e=>aO (z y e) n.k.size) fun e=>(hM y e).2.1,g.nd⟩,em (n.mp _ q).1,em (n.mp _ s).1,em (n.mp _ u).1,fun y a=>.inr a,fun a=>a.elim (fun e=>by have:=z _ e;omega) fun e=>(hM _ e).2.2 rfl,ne,?_,fun d hd=>(by cases hd),fun id=>zY,Inv.nil,v⟩ B (fun y a=>(hM y a).1) n.k
 exact(i.less fun y a=>a.imp id fun e=>(hM y e).1).upd0 n.k
end
theorem Wj{W:Nat→Prop}{h:ad}(p:∀y,W y→y<h.size){kind:Int}(m:kind=0∨kind=1){x:Hs}{K:Option Addr×Int→ad→Prop}
  (w:∀h' d gp gm tm bm nm t,VaultAt (fun y=>W y∨VS.M ⟨gp,gm,tm,bm,nm,kind,x,t,[],1,[],[],[]⟩ y) h' d ⟨gp,gm,tm,bm,nm,kind,x,t,[],1,[],[],[]⟩→h.size≤d→(∀y,VS.M ⟨gp,gm,tm,bm,nm,kind,x,t,[],1,[],[],[]⟩ y→h.size≤y)→Upd No h h'→K (some ⟨d,0,none⟩,0) h'):
  HC PG yG [.int .i64 kind,.agg #[.int .u64 x.k0,.int .u64 x.k1,.int .u64 x.mask]] [.c .ptr,.c (.int .i64)] K h:=by
 refine N8 kind (x.k0,x.k1,x.mask) ?_;unfold EU aj nv rD ae Ac ao qc mP;refine cH fun H b1 k1=>⟨_,vc b1 0,_,vc b1 1,_,vc b1 2,?_⟩
 refine Ws (W:=W) (x:=x) (fun y b=>aO (p y b) k1.size) m fun u t i A=>?_
 have k:=k1.tr A;refine cH fun I B q=>dd (c:=pU Dx) (vs:=pU t) B rfl fun f g j=>af.2 ?_
 have a:Upd No h f:=(k.tr q).own j k.size;have G:TreeIs W f kind x t []:=((i.less (W':=fun y=>W y∨y=u.size) fun y b=>b.imp id fun e=>Nat.le_of_eq e.symm).updM (q.wide.tr (j.mono fun _ e=>.inl (.inr e))) fun y b=>.inl b).less fun y b=>.inl (.inl b)
 have o:∀y,W y→y<f.size:=fun y b=>aO (p y b) a.size
 have s:∀h' d gp gm tm bm nm,VaultAt (fun y=>W y∨VS.M ⟨gp,gm,tm,bm,nm,kind,x,t,[],1,[],[],[]⟩ y) h' d ⟨gp,gm,tm,bm,nm,kind,x,t,[],1,[],[],[]⟩→f.size≤d→(∀y,VS.M ⟨gp,gm,tm,bm,nm,kind,x,t,[],1,[],[],[]⟩ y→f.size≤y)→Upd No f h'→K (some ⟨d,0,none⟩,0) h':=
  fun h' d gp gm tm bm nm v D hM E=>w h' d gp gm tm bm nm t v (bv a.size D) (fun y b=>bv a.size (hM y b)) (a.tr E)
 have n:NSt f u.size t f [] []:=⟨Upd.refl _ _,g,fun _ h=>(by cases h),fun _ h=>(by cases h)⟩
 refine⟨_,vc g 0,_,vc g 1,_,vc g 2,_,vc g 3,_,vc g 4,_,vc g 5,?_⟩;clear w a p g j k i A q B b1 k1;repeat' first
  |refine⟨n.rds,?_⟩
  |refine n.graph fun _ n z=>?_
  |refine n.map fun _ n z=>?_
  |refine n.put fun _ n C F=>?_
  |exact n.done o G m s C F (by simp;omega) (by simp) (by simp) (by simp) (by simp) (by simp;omega)
  |refine And.intro ?_ ?_
end Go.Proofs
namespace Go.Proofs
open Go Go.Lift
end Go.Proofs
namespace Go.Proofs
open Go Go.Lift
end Go.Proofs
namespace Go.Proofs
open Go Go.Lift
theorem WT{α:Type}{l:List α}{i:Nat}{a b:α}(h:b∈l.set i a):b=a∨∃j,j≠i∧l[j]? =some b:=by
 obtain⟨j,c⟩:=List.getElem?_of_mem h;rw[List.getElem?_set]at c;split at c
 ·split at c
  ·cases c;exact .inl rfl
  ·cases c
 ·exact .inr ⟨j,by omega,c⟩
def sb(s:SliceV)(y:Nat):Prop:=s.cap≠0∧∃a,s.a=some a∧y=a.block
section
variable {α:Type} {f:α→List Value} {sz:Nat} {ty:TypeId} {M:Nat→Prop} {h:ad} {s so:SliceV} {xs out:List α}
theorem _root_.Go.Lift.OwnS.sub(o:OwnS f sz ty M h s xs):∀y,sb s y→M y∧y<h.size:=fun y ⟨hc,a,j,e⟩=>by
 rcases o.blk with g|⟨b,c,d,hm,i,_⟩
 ·exact absurd g hc
 ·rw[j]at d
  cases d;exact⟨e▸hm,e▸bB i⟩
theorem _root_.Go.Lift.OwnS.its(o:OwnS f sz ty M h s xs):OwnS f sz ty (sb s) h s xs:=by
 refine⟨o.len,o.ne,o.cap,?_⟩;by_cases hc:s.cap=0
 ·exact .inl hc
 ·rcases o.blk with d|⟨b,a,c,hm,e,g⟩
  ·exact absurd d hc
  ·exact .inr ⟨b,a,c,⟨hc,_,c,rfl⟩,e,g⟩
theorem KG{a:Option Addr}{n:Nat}:∀y,¬sb ⟨a,n,0⟩ y:=fun _ h=>h.1 rfl
theorem _root_.Go.Lift.OwnS.one{x:α}{b:Nat}(a:∀x,(f x).length=sz∧0<sz)(c:h[b]? =some (.cells (f x).toArray ty (0,0))):OwnS f sz ty (sb ⟨some ⟨b,0,none⟩,1,1⟩) h ⟨some ⟨b,0,none⟩,1,1⟩ [x]:=
 ⟨rfl,a,au _,.inr ⟨b,[],rfl,⟨by simp,_,rfl,rfl⟩,by simpa using c,by simp⟩⟩
theorem Yu{a:Nat}{z:List Value}{t:α}{b:Nat}{K:SliceV→ad→Prop}(i:OwnS f sz ty (sb so) h so out)(k:h[b]? =some (.cells (f t).toArray ty (0,0))) (d:cu (f t)=true) (m:z.length=sz) (c:0<a∧a≤64) (j:out.length+1≤1000000)
  (o:∀s' h',OwnS f sz ty (sb s') h' s' (out++ [t])→Upd (sb so) h h'→(∀y,sb s' y→(sb so y∨h.size≤y)∧y<h'.size)→K s' h'):
  ∃xs,SRow h (some ⟨b,0,none⟩) (1*sz) xs∧AppP (some z) sz a ty so.a so.len so.cap 1 xs h K:=by
 refine⟨_,((OwnS.one i.ne k).sl (W:=No) fun _ _ _ h=>h).srow,?_⟩
 refine AppP.own (M:=fun y=>sb so y∨h.size≤y) (ys:= [t]) (i.more fun y g=>.inl g) rfl rfl (by simpa using d) m c.1 ?_ (.inr (au _)) fun s' h' e n=>o s' h' e.its (n.mono fun y g=>g) e.sub
 simp only[ct];calc (out.length+1)*a≤1000000*64:=Nat.mul_le_mul j c.2
  _≤140737488355328:=by omega
end
structure Sp where
 T:Nat→Prop
 Q:ad→Prop
 loc:∀{M:Nat→Prop} {h h':ad},Q h→Upd M h h'→(∀y,T y→¬M y)→Q h'
def VD(b:Nat)(cs:List Value)(t:TypeId):Sp:=⟨(· =b),fun h=>h[b]? =some (.cells cs.toArray t (0,0)),fun q k a=>k.get q (a _ rfl)⟩
def A2{α:Type}(f:α→List Value)(a:Nat)(ty:TypeId)(s:SliceV)(xs:List α):Sp:=⟨sb s,fun h=>OwnS f a ty (sb s) h s xs,fun q k b=>q.upd k b⟩
def AL(Ss:List Sp)(y:Nat):Prop:=∃s∈Ss,s.T y
structure Own(Ss:List Sp)(h:ad):Prop where
 q:∀s∈Ss,s.Q h
 lt:∀s∈Ss,∀y,s.T y→y<h.size
 pd:∀(i j:Nat) (a b:Sp),Ss[i]? =some a→Ss[j]? =some b→i≠j→∀y,a.T y→¬b.T y
section
variable {Ss:List Sp} {h h':ad} {M:Nat→Prop} {s s':Sp} {i:Nat}
theorem Own.get(o:Own Ss h)(hi:Ss[i]? =some s):s.Q h:=o.q s (be hi)
theorem Own.away(o:Own Ss h)(k:Upd M h h')(hm:∀y,AL Ss y→¬M y):Own Ss h':=
 ⟨fun s a=>s.loc (o.q s a) k fun y b=>hm y ⟨s,a,b⟩,fun s a y b=>aO (o.lt s a y b) k.size,o.pd⟩
theorem Own.nil:Own [] h:=⟨(fun _ h=>by cases h),(fun _ h=>by cases h),(fun i j a b h=>by simp at h)⟩
theorem Own.set(o:Own Ss h)(hi:Ss[i]? =some s) (k:Upd M h h') (hm:∀y,M y→s.T y∨h.size≤y) (q:s'.Q h') (w:∀y,s'.T y→(s.T y∨h.size≤y)∧y<h'.size):Own (Ss.set i s') h':=by
 have A:i<Ss.length:=(bd.1 hi).1;have val:∀{j:Nat} {a:Sp},(Ss.set i s')[j]? =some a→(j=i∧a=s')∨(j≠i∧Ss[j]? =some a):=fun{j a} c=>by
  by_cases e:j=i
  ·subst e;rw[List.getElem?_set_self A]at c;cases c;exact .inl ⟨rfl,rfl⟩
  ·rw[List.getElem?_set_ne (Ne.symm e)]at c;exact .inr ⟨e,c⟩
 have one:∀{j:Nat} {a:Sp},j≠i→Ss[j]? =some a→∀y,a.T y→¬s'.T y:=fun{j a} f c y d h'=>
  (w y h').1.elim (o.pd j i a s c hi f y d) fun h=>by have:=o.lt a (be c) y d;omega
 refine⟨fun a c=>?_,fun a c y d=>?_,fun p j a b c z m y d g=>?_⟩
 ·obtain⟨j,f⟩:=List.getElem?_of_mem c
  rcases val f with⟨_,rfl⟩|⟨u,f⟩
  ·exact q
  ·refine a.loc (o.get f) k fun y d hM=>?_
   rcases hm y hM with h|h
   ·exact o.pd j i a s f hi u y d h
   ·have:=o.lt a (be f) y d;omega
 ·obtain⟨j,f⟩:=List.getElem?_of_mem c
  rcases val f with⟨_,rfl⟩|⟨u,f⟩
  ·exact(w y d).2
  ·exact aO (o.lt a (be f) y d) k.size
 ·rcases val c with⟨n,rfl⟩|⟨n,x⟩<;>rcases val z with⟨t,rfl⟩|⟨t,v⟩
  ·exact m (n.trans t.symm)
  ·exact one t v y g d
  ·exact one n x y d g
  ·exact o.pd p j a b x v m y d g
theorem Own.push(o:Own Ss h)(k:Upd No h h')(q:s'.Q h')(g:∀y,s'.T y→h.size≤y∧y<h'.size):Own (Ss++ [s']) h':=by
 have val:∀{j:Nat} {a:Sp},(Ss++ [s'])[j]? =some a→(j=Ss.length∧a=s')∨Ss[j]? =some a:=fun{j a} c=>by
  rw[List.getElem?_append]at c;split at c
  ·exact .inr c
  ·have:j-Ss.length=0:=by have:=(bd.1 c).1;simp only[ct]at this;omega
   rw[this]at c;cases c;exact .inl ⟨by omega,rfl⟩
 have mem:∀{a},a∈Ss++ [s']→a∈Ss∨a=s':=fun h=>(bL.1 h).imp id aQ.1
 refine⟨fun a c=>?_,fun a c y e=>?_,fun p j a b c n f y e d=>?_⟩
 ·rcases mem c with c|rfl
  ·exact a.loc (o.q a c) k fun _ _ h=>h
  ·exact q
 ·rcases mem c with c|rfl
  ·exact aO (o.lt a c y e) k.size
  ·exact(g y e).2
 ·rcases val c with⟨s,rfl⟩|m<;>rcases val n with⟨t,rfl⟩|i
  ·omega
  ·have:=o.lt b (be i) y d;have:=(g y e).1;omega
  ·have:=o.lt a (be m) y e;have:=(g y d).1;omega
  ·exact o.pd p j a b m i f y e d
theorem Yy(hi:Ss[i]? =some s) {z:Nat} (d:∀y,s'.T y→s.T y∨z≤y):∀y,AL (Ss.set i s') y→AL Ss y∨z≤y:=fun y ⟨a,c,b⟩=>by
 rcases WT c with rfl|⟨j,_,e⟩
 ·exact(d y b).imp (fun h=>⟨s,be hi,h⟩) id
 ·exact .inl ⟨a,be e,b⟩
end
theorem GraphAt.re{W W' M:Nat→Prop}{h h':ad}{gp gm:Nat}{L:gQ}{nx:Int}(g:GraphAt W h gp gm L nx)(k:Upd M h h')(hm:∀b,M b→(W b∧b≠gp∧b≠gm)∨h.size≤b)(i:∀b,W' b→(W b∨h.size≤b)∧b<h'.size)(d:W' gp)(f:W' gm):GraphAt W' h' gp gm L nx:=by
 have n:=g.upd k hm;obtain⟨m,c,p⟩:=g.map;refine⟨n.blk,⟨m,c.upd k fun e=>(hm _ e).elim (fun e=>e.2.2 rfl) fun e=>absurd (g.lt _ g.wm) (jh.2 e),fun j=>?_⟩,d,f,fun b a=>(i b a).2,g.nd⟩
 rcases p j with⟨s,ps,d,f,q⟩|o
 ·exact .inl ⟨s,ps,d,f,((q.less (W':=fun b=>W b∨h.size≤b) fun b a=>a).upd k fun b a=>.inl ((hm b a).imp (·.1) id)).less fun b a=>.inl (i b a).1⟩
 ·exact .inr o
theorem TreeIs.re{W W' M:Nat→Prop}{h h':ad}{kind:Int}{x:Hs}{t:Tr}{l:List Pr}(i:TreeIs W h kind x t l)(k:Upd M h h')(hm:∀b,M b→W b∨h.size≤b)(c:∀b,W' b→W b∨h.size≤b):TreeIs W' h' kind x t l:=
 ((i.less (W':=fun b=>W b∨h.size≤b) fun b a=>a).updM k fun b a=>.inl (hm b a)).less fun b a=>.inl (c b a)
theorem VaultAt.re{W W' M:Nat→Prop}{h h':ad}{m:Nat}{s:VS}(v:VaultAt W h m s)(k:Upd M h h')(hm:∀b,M b→(W b∧¬s.M b)∨h.size≤b)(j:∀b,W' b→(W b∨h.size≤b)∧b<h'.size)(hM:∀y,s.M y→W' y):VaultAt W' h' m s:=by
 have g:=v.upd k hm;have c:∀b,M b→W b∨h.size≤b:=fun b f=>(hm b f).imp (·.1) id
 have a:∀b,W' b→W b∨h.size≤b:=fun b f=>(j b f).1
 exact⟨g.blk,v.g.re k (fun b f=>(hm b f).imp (fun e=>⟨e.1,fun i=>e.2 (.inl i),fun i=>e.2 (.inr (.inl i))⟩) id) j (hM _ (.inl rfl)) (hM _ (.inr (.inl rfl))),g.t,g.b,g.n,hM,fun n=>(a _ n).elim v.wv fun e=>absurd (bB v.blk) (by omega),v.ne,v.em.re k c a,fun d hd=>⟨(v.ts d hd).1.re k c a,(v.ts d hd).2⟩,v.sub,v.inv,v.kd⟩
structure Vw(Ss:List Sp)(h:ad)(vp:Nat)(s:VS):Prop where
 own:Own Ss h
 v:VaultAt (fun y=>s.M y∨AL Ss y) h vp s
 ap:∀y,AL Ss y→¬s.M y
section
variable {Ss:List Sp} {h h':ad} {vp:Nat} {s:VS} {p p':Sp} {i:Nat} {M:Nat→Prop}
theorem Vw.up0(w:Vw Ss h vp s)(k:Upd No h h'):Vw Ss h' vp s:=⟨w.own.away k fun _ _ h=>h,w.v.upd0 k,w.ap⟩
theorem Vw.lt(w:Vw Ss h vp s):∀y,(s.M y∨AL Ss y)→y<h.size:=w.v.g.lt
theorem Vw.set(w:Vw Ss h vp s)(hi:Ss[i]? =some p) (k:Upd M h h') (hm:∀y,M y→p.T y∨h.size≤y) (q:p'.Q h') (c:∀y,p'.T y→(p.T y∨h.size≤y)∧y<h'.size):Vw (Ss.set i p') h' vp s:=by
 have o:=w.own.set hi k hm q c;have f:=Yy hi (z:=h.size) fun y b=>(c y b).1
 have d:∀y,p.T y→AL Ss y:=fun y b=>⟨p,be hi,b⟩
 refine⟨o,w.v.re k (fun y b=>(hm y b).imp (fun e=>⟨.inr (d y e),w.ap y (d y e)⟩) id) (fun y b=>?_) fun y b=>.inl b,fun y b hM=>(f y b).elim (fun e=>w.ap y e hM) fun e=>absurd (w.lt y (.inl hM)) (jh.2 e)⟩
 rcases b with b|b
 ·exact⟨.inl (.inl b),aO (w.lt y (.inl b)) k.size⟩
 ·exact⟨(f y b).imp .inr id,let⟨a,g,b⟩:=b;o.lt a g y b⟩
theorem Vw.push(w:Vw Ss h vp s)(k:Upd No h h')(q:p'.Q h')(f:∀y,p'.T y→h.size≤y∧y<h'.size):Vw (Ss++ [p']) h' vp s:=by
 have o:=w.own.push k q f;have d:∀y,AL (Ss++ [p']) y→AL Ss y∨h.size≤y:=fun y ⟨a,c,b⟩=>by
  rcases bL.1 c with c|c
  ·exact .inl ⟨a,c,b⟩
  ·rw[aQ.1 c]at b;exact .inr (f y b).1
 refine⟨o,w.v.re k (fun _ h=>h.elim) (fun y b=>?_) fun y b=>.inl b,fun y b hM=>(d y b).elim (fun e=>w.ap y e hM) fun e=>absurd (w.lt y (.inl hM)) (jh.2 e)⟩
 rcases b with b|b
 ·exact⟨.inl (.inl b),aO (w.lt y (.inl b)) k.size⟩
 ·exact⟨(d y b).imp .inr id,let⟨a,c,b⟩:=b;o.lt a c y b⟩
theorem Vw.cell(w:Vw Ss h vp s){b:Nat}{cs a:List Value}{t c:TypeId}(hi:Ss[i]? =some (VD b cs t)) (k:Upd (· =b) h h') (q:h'[b]? =some (.cells a.toArray c (0,0))):Vw (Ss.set i (VD b a c)) h' vp s:=
 w.set (p':=VD b a c) hi k (fun _ h=>.inl h) q fun y d=>⟨.inl d,(show y=b from d)▸bB q⟩
theorem Vw.slice(w:Vw Ss h vp s){α:Type}{f:α→List Value}{b:Nat}{ty:TypeId}{c a:SliceV}{xs ys:List α}(hi:Ss[i]? =some (A2 f b ty c xs)) (k:Upd (sb c) h h') (q:OwnS f b ty (sb a) h' a ys) (d:∀y,sb a y→(sb c y∨h.size≤y)∧y<h'.size):Vw (Ss.set i (A2 f b ty a ys)) h' vp s:=
 w.set (p':=A2 f b ty a ys) hi k (fun _ h=>.inl h) q d
theorem Vw.ed(w:Vw Ss h vp s){s':VS}(k:Upd s.M h h')(v:VaultAt (fun y=>s.M y∨AL Ss y) h' vp s')(e:s'.M=s.M):Vw Ss h' vp s':=
 ⟨w.own.away k fun y a=>w.ap y a,by rw[e];exact v,fun y a=>by rw[e];exact w.ap y a⟩
end
end Go.Proofs
namespace Go.Proofs
open Go Go.Lift
def oZ(k:ByteArray)(l:List Pr):List Pr:=l.filter fun q=>decide (q.1≠k)
theorem zR(k:ByteArray)(q:Pr)(l:List Pr):oZ k (q::l)=if q.1=k then oZ k l else q::oZ k l:=by
 unfold oZ;rw[List.filter_cons];by_cases h:q.1=k
 ·rw[if_pos h,if_neg (by simpa using h)]
 ·rw[if_neg h,if_pos (by simpa using h)]
theorem Bq{k:ByteArray}{l:List Pr}(h:∀q∈l,q.1≠k):oZ k l=l:=kc.2 fun q a=>decide_eq_true (h q a)
theorem Gm{k:ByteArray}{l:List Pr}(h:cG l k=false):∀q∈l,q.1≠k:=fun q a e=>by
 have:cG l k=true:=cj.2 ⟨q,a,decide_eq_true e⟩;rw[h]at this;cases this
theorem Ng{k:ByteArray}{l:List Pr}(h:∀q∈l,q.1≠k):cG l k=false:=by
 rcases ht:cG l k with _|_
 ·rfl
 ·obtain⟨q,a,e⟩:=cj.1 ht
  exact absurd (of_decide_eq_true e) (h q a)
theorem Rm{k:ByteArray}{l:List Pr}{p:Pr}:p∈oZ k l↔p∈l∧p.1≠k:=by unfold oZ;rw[dP,decide_eq_true_iff]
theorem Yp{k:ByteArray}{l:List Pr}:(oZ k l).length≤l.length:=gH ..
theorem Ru{k:ByteArray}:∀{l:List Pr},eY l→l.length≤(oZ k l).length+1
 | [],_=>bc _
 |q::l,a=>by
  have a:=cc.1 a;rw[zR];by_cases h:q.1=k
  ·rw[if_pos h,Bq fun r hm e=>by have:=a.1 r hm;rw[h,e]at this;exact fo _ this];exact au _
  ·rw[if_neg h]
   have:=Ru (k:=k) a.2;simp only[ay];omega
theorem Rv(k:ByteArray):∀{l:List Pr},eY l→S5 l k=oZ k l
 | [],_=>by simp[S5,oZ,cG]
 |q::l,c=>by
  have j:=c;have c:=cc.1 c;have b:pos (q::l) k=if kl q.1 k then pos l k+1 else 0:=by
   unfold pos;rw[List.takeWhile_cons];by_cases h:kl q.1 k
   ·rw[if_pos (by simpa using h),if_pos h];rfl
   ·rw[if_neg (by simpa using h),if_neg h];rfl
  have d:cG (q::l) k=(decide (q.1=k)||cG l k):=by unfold cG;rw[qJ]
  by_cases h:kl q.1 k
  ·have f:q.1≠k:=fun e=>by rw[e]at h;exact fo _ h
   rw[zR,if_neg f,←Rv k c.2];unfold S5;rw[d,b,if_pos h,decide_eq_false f,Bool.false_or];by_cases g:cG l k=true
   ·rw[if_pos g,if_pos g];rfl
   ·rw[if_neg g,if_neg g]
  ·by_cases e:q.1=k
   ·have a:∀r∈l,r.1≠k:=fun r hm e2=>by have:=c.1 r hm;rw[e,e2]at this;exact fo _ this
    rw[zR,if_pos e,Bq a];unfold S5;rw[d,b,if_neg h,decide_eq_true e,Bool.true_or,if_pos rfl];rfl
   ·have i:=GY h e
    have a:∀r∈q::l,r.1≠k:=fun r hm e2=>by
     rcases ar.1 hm with rfl|hm
     ·exact e e2
     ·have:=c.1 r hm
      rw[e2]at this;exact fo _ (qT i this)
    rw[Bq a];unfold S5;rw[Ng a];rfl
theorem M4{x:Hs}{lev c:Nat}{k:ByteArray}{l:List Pr}:part x lev c (oZ k l)=oZ k (part x lev c l):=by
 unfold part oZ;rw[List.filter_filter,List.filter_filter];exact List.filter_congr fun p _=>Bool.and_comm ..
theorem Sz{x:Hs}{lev c:Nat}{k:ByteArray}{l:List Pr}(h:c≠ck x lev k):part x lev c (oZ k l)=part x lev c l:=by
 rw[M4];exact Bq fun q a e=>h (by rw[←e];exact(tc.1 a).2.symm)
theorem O5{W:Nat→Prop}{x:Hs}{h h':ad}{m b':Nat}{s s':Slots}{l:List Pr}{k:ByteArray}(d:Upd No h h')(nd:NodeAt W h' b' s')(b:∀c,c<32→SlotIs W x h m s c (part x (12-m) c l))
  (a:∀c,c≠ck x (12-m) k→s'.p c=s.p c∧s'.k c=s.k c)(hi:SlotIs W x h' m s' (ck x (12-m) k) (oZ k (part x (12-m) (ck x (12-m) k) l))):TrieAt W x h' (m+1) b' (oZ k l):=by
 refine⟨s',nd,fun c hc=>?_⟩
 by_cases e:ck x (12-m) k=c
 ·rw[M4];subst e;exact hi
 ·rw[Sz fun h=>e h.symm]
  have t:=SlotIs.upd0 d (b c hc);obtain⟨e1,e2⟩:=a c fun h=>e h.symm
  unfold SlotIs at t;rw[←e1,←e2]at t;exact t
theorem Rr{β:Type}(g:Nat→Option β):∀n,(fm g n).length=((List.range n).map fun c=>(g c).toList.length).sum
 |0=>rfl
 |n+1=>by
  rw[Xb,ai,Rr g n,List.range_succ,List.map_append,List.sum_append];simp
theorem MB{x:Hs}{lev:Nat}{l:List Pr}(h:∀c,c<32→(part x lev c l).length≤1):(B6 x lev l).length=l.length:=by
 unfold B6;rw[Rr];have e:=DS x lev l 32;have e2:(l.filter fun p=>decide (ck x lev p.1<32))=l:=kc.2 fun p _=>decide_eq_true (Hv x lev p.1)
 rw[e2]at e;rw[←e];refine congrArg List.sum (List.map_congr_left fun c hc=>?_)
 have:=h c (ji.1 hc);match hp:part x lev c l with
 | []=>rfl
 | [p]=>rfl
 |a::b::r=>rw[hp]at this;simp at this
theorem O6{W:Nat→Prop}{x:Hs}{h:ad}{m b:Nat}{l:List Pr}(t:TrieAt W x h m b l)(D:l.length≤1000000):
  ∃d n sp sk bu ow lp lk,h[b]? =some (.cells (fZ d n sp sk bu ow) bE (0,0))∧Sl jz 2 W h sp lp∧Sl uk 1 W h sk lk∧lp.length≤1000000∧lk.length≤32∧(lp.length+lk.length=1∧n=0↔l.length=1)∧∀p,l= [p]→lp= [p]:=by
 cases m with
 |zero=>
  obtain⟨sp,sk,ow,w,i,j,_⟩:=BuckAt.ex t;exact⟨0,0,sp,sk,true,ow,l,[],w,i,j,D,by simp,by simp,fun p e=>e⟩
 |succ m=>
  obtain⟨s,nd,o⟩:=t;have o:∀c,c<32→SlotIs W x h m s c (part x (12-m) c l):=o;obtain⟨d,n,sp,sk,ow,w,bits,i,j,_⟩:=nd.ex;have k:=Wy o;have C:=EL (g:=s.p);refine⟨d,n,sp,sk,false,ow,_,_,w,i,j,by omega,EL,?_,?_⟩
  ·by_cases u:∀c,c<32→s.k c=none
   ·have v:n=0:=Nat.eq_of_testBit_eq fun c=>by
     rw[ni];by_cases hc:c<32
     ·rw[bits.nk c hc,u c hc];rfl
     ·exact Nat.testBit_lt_two_pow (aO bits.n32 (Nat.pow_le_pow_right (n:=2) (by omega) (by omega:32≤c)))
    have ek:fm s.k 32= []:=by
     unfold fm;rw[List.filterMap_eq_nil_iff];exact fun c hc=>u c (ji.1 hc)
    have z:(fm s.p 32).length=l.length:=by
     rw[k];refine MB fun c hc=>?_
     rcases o c hc with⟨f,_⟩|⟨p,f,_⟩|⟨_,_,E,A,_⟩
     ·rw[f];simp
     ·rw[f];simp
     ·rw[u c hc]at A;cases A
    rw[ek,z,v];simp
   ·obtain⟨c,hc⟩:=Classical.not_forall.1 u
    obtain⟨hc,a⟩:=Classical.not_imp.1 hc;have B:n≠0:=fun v=>by
     have:=bits.nk c hc;rw[v,ni]at this;cases hkk:s.k c with
     |none=>exact a hkk
     |some y=>rw[hkk]at this;cases this
    rcases o c hc with⟨_,_,f⟩|⟨p,_,_,f⟩|⟨A,_⟩
    ·exact absurd f a
    ·exact absurd f a
    ·have:=yr (x:=x) (lev:=12-m) (c:=c) (l:=l)
     constructor
     ·rintro⟨_,e⟩;exact absurd e B
     ·intro e;omega
  ·rintro p rfl
   rw[k];have hc:=Hv x (12-m) p.1;have z:(B6 x (12-m) [p]).length=1:=MB fun c _=>bv yr (by simp)
   match hq:B6 x (12-m) [p],z with
   | [q],_=>
    have:q∈B6 x (12-m) [p]:=by rw[hq];exact aQ.2 rfl
    rw[aQ.1 (SI this)]
theorem WR{h:ad}{b d n:Nat}{sp sk:SliceV}{c:Bool}{ow:Option Addr}(a:h[b]? =some (.cells (fZ d n sp sk c ow) bE (0,0))) (g:sp.len+sk.len≤1000000000) {K:Int→ad→Prop} (f:K ((sp.len+sk.len:Nat):Int) h):HC PG rJ [.pointer (some ⟨b,0,none⟩)] [.c (.int .i64)] K h:=by
 refine FF _ ?_;unfold xP bT;refine af.2 ⟨_,rfl,sp,eM (i:=2) a,_,rfl,sk,eM (i:=3) a,?_⟩;have e:ac .i64 ((sp.len:Int)+(sk.len:Int))=((sp.len+sk.len:Nat):Int):=by rw[kD (by omega)];omega
 rw[e];exact f
theorem VU{W:Nat→Prop}{x:Hs}{h:ad}{m b:Nat}{l:List Pr}(t:TrieAt W x h m b l)(I:l.length≤1000000){K:Pr×Bool→ad→Prop}
  (u:∀h' p,Upd No h h'→(l.length=1→l= [p])→K (p,decide (l.length=1)) h'):HC PG vB [.pointer (some ⟨b,0,none⟩)] [.agg [.str,.str],.c .bool] K h:=by
 refine IU _ ?_;unfold AS cU ah fx bP iA ez;refine cH fun D b1 k1=>?_
 have F:=TrieAt.upd0 k1 t;obtain⟨d,n,sp,sk,J,ow,L,lk,v,o,A,H,G,c,f⟩:=O6 F I;have Q:=o.len;have O:=A.len;refine Join.intro (fun t h'=>t= !decide (l.length=1)∧h'=D) (fun R C=>?_) ?_
 ·refine WR v (by omega) ?_
  by_cases e:sp.len+sk.len=1
  ·have e2:((sp.len+sk.len:Nat):Int)=1:=by omega
   rw[e2];refine af.2 (Nf v (C _ _ ⟨?_,rfl⟩));by_cases y:n=0
   ·rw[decide_eq_true (c.1 ⟨by omega,y⟩),y];rfl
   ·rw[decide_eq_false fun h=>y (c.2 h).2]
    exact bne_iff_ne.2 (by omega)
  ·have e2:(((sp.len+sk.len:Nat):Int) !=(1:Int))=true:=bne_iff_ne.2 (by omega)
   rw[e2];refine aA.2 (C _ _ ⟨?_,rfl⟩);rw[decide_eq_false fun h=>e (by have:=(c.2 h).1;omega)];rfl
 ·rintro _ h' ⟨rfl,rfl⟩
  have q:h'[h.size]? =some (.cells #[.string QV.1,.string QV.2] az (0,0)):=b1;by_cases e:l.length=1
  ·rw[decide_eq_true e]
   refine af.2 ?_;refine M8 v o (by omega) fun N P k j=>?_
   match l,e,f with
   | [p],e,f=>
    have w:=f p rfl;subst w;have s:=k.len;obtain⟨a,E,_,B⟩:=(k.sl (W:=No) fun _ _ _ h=>h).at (i:=0) (x:=p) rfl
    refine⟨⟨by omega,by simp at s;omega⟩,a,E,p.1,B 0 _ rfl,p.2,B 1 _ rfl,?_⟩
    refine GK (p:=p) (j.get0 q) fun z b3 g=>⟨_,vc b3 0,_,vc b3 1,?_⟩
    have:=u z p ((k1.tr j).own g (au _)) fun _=>rfl
    exact this
  ·have:=u
   rw[decide_eq_false e];rw[decide_eq_false e]at u;refine aA.2 (GK (p:=QV) q fun z b3 g=>⟨_,vc b3 0,_,vc b3 1,?_⟩)
   exact u z _ (k1.own g (au _)) fun h=>absurd h e
end Go.Proofs
namespace Go.Proofs
open Go Go.Lift
theorem M9{h:ad}{s:SliceV}{l:List Pr}(f:Sl jz 2 No h s l)(hc:s.len≤s.cap)(w:eY l)(H:l.length≤1000000000)(k:ByteArray)
  {K:SliceV→ad→Prop}(p:∀s' h',OwnS jz 2 az (fun b=>h.size≤b) h' s' (oZ k l)→Upd No h h'→K s' h'):HC PG yN [.slice s.a s.len s.cap,.string k] [.c .slice] K h:=by
 refine Ol s k ?_;unfold E7 Fl;have e:=f.len;refine Lo f w H k fun u a=>?_
 have C:=UG l k;cases ht:cG l k with
 |false=>
  refine aA.2 (zS (f.upd a fun _ h=>h.elim) (by omega) fun I L y o=>?_)
  rw[Bq (Gm ht)]at p;exact p _ _ (y.more fun b g=>bv a.size g) (a.tr o)
 |true=>
  obtain⟨G,_⟩:=KY w ht;have E:ac .i64 ((pos l k:Int)+1)=((pos l k+1:Nat):Int):=by rw[kD (by omega)];omega
  refine af.2 ?_;simp only;rw[E];refine⟨by omega,by omega,?_⟩
  simp only[Bd,Int.toNat_natCast];refine bi ?_;have d:=f.upd a fun _ h=>h.elim
  have n:=Upd.hnew No u [.slice (aV s.a 0 s.cap 2) (pos l k-0) (s.cap-0),.slice (aV s.a (pos l k+1) s.cap 2) (s.len-(pos l k+1)) (s.cap-(pos l k+1))] gV;have D:=bF u [.slice (aV s.a 0 s.cap 2) (pos l k-0) (s.cap-0),.slice (aV s.a (pos l k+1) s.cap 2) (s.len-(pos l k+1)) (s.cap-(pos l k+1))] gV;have z:=KD d (i:=0) (j:=pos l k) (m:=s.cap) (bc _) C (by omega) (s.cap-0)
  have t:=KD d (i:=pos l k+1) (j:=l.length) (m:=s.cap) (by omega) (au _) (by omega) (s.cap-(pos l k+1));rw[←e]at t;rw[List.drop_zero]at z;rw[List.take_of_length_le (by rw[aS];omega)]at t;have F:oZ k l= [l.take (pos l k-0),l.drop (pos l k+1)].flatten:=by rw[←Rv k w];unfold S5;rw[if_pos ht];simp
  refine Kf (s:=⟨some (aH u),2,2⟩) (vs:= [⟨aV s.a 0 s.cap 2,pos l k-0,s.cap-0⟩,⟨aV s.a (pos l k+1) s.cap 2,s.len-(pos l k+1),s.cap-(pos l k+1)⟩]) (ls:= [l.take (pos l k-0),l.drop (pos l k+1)])
   ⟨rfl,fun x=>⟨rfl,Nat.one_pos⟩,fun _=>⟨_,rfl,fun h=>h.elim,pj D fun i v B=>by simpa[ZZ]using B⟩⟩ ⟨z.upd n fun _ h=>h.elim,t.upd n fun _ h=>h.elim,trivial⟩ ?_ (by simp) fun N J c q=>?_
  ·simp only[List.flatten_cons,List.flatten_nil,ai,aY,aS,bN];omega
  ·rw[←F]at c
   have A:=a.tr n;exact p _ _ (c.more fun b g=>bv A.size g) (A.tr q)
theorem VL{W:Nat→Prop}{h:ad}{b:Nat}{l:List Pr}(q:BuckAt W h b l)(m:∀x,W x→x<h.size)(C:eY l)(u:l.length≤1000000000)(k:ByteArray){K:Option Addr→ad→Prop}
  (z:∀h' b',BuckAt W h' b' (oZ k l)→Upd No h h'→K (some ⟨b',0,none⟩) h'):
  HC PG qn [.pointer (some ⟨b,0,none⟩),.pointer none,.string k] [.c .ptr] K h:=by
 refine Ej _ none k ?_;unfold wH Fl bM bT iY;obtain⟨sp,sk,ow,v,y,D,B,F⟩:=q.ex;refine kM v (af.2 ?_);refine Rg q u fun H A o b2 p t d=>?_
 refine⟨_,rfl,A,eM (i:=2) b2,?_⟩;refine M9 (p.sl fun _ _ _ h=>h) p.cap C u k fun s I g a=>?_
 have b3:=a.get0 b2;refine⟨_,rfl,Wa (i:=2) b3 (show 2<6 by decide),Ij (i:=2) (c':=fZ 0 0 s o true none) b3 rfl fun E w c=>?_⟩
 have G:=bB b2;have j:=g.upd c fun x hx e=>by have e:x=h.size:=e;omega
 have n:=(t.upd a fun _ _ h=>h).upd c fun x hx e=>by have e:x=h.size:=e;omega
 refine z E h.size ⟨⟨s,o,none,w,j.sl fun x hx _ f=>?_,n.sl fun x hx _ f=>?_,g.cap,t.cap⟩,fun f=>?_⟩ ((d.tr a).trans c fun x hx=>.inr ?_)
 ·have:=m x f;have:=d.size;omega
 ·have:=m x f;omega
 ·have:=m _ f;omega
 ·have hx:x=h.size:=hx
  omega
theorem N3{W:Nat→Prop}{x:Hs}:∀(m:Nat),m≤13→∀{b:Nat} {l:List Pr} (k:ByteArray) {h:ad},TrieAt W x h m b l→(∀y,W y→y<h.size)→eY l→l.length≤1000000→∀{K:(Option Addr)×Bool→ad→Prop},
  (∀h' b',Upd No h h'→TrieAt W x h' m b' (oZ k l)→(cG l k=false→b'=b)→K (some ⟨b',0,none⟩,cG l k) h')→
  HC PG l6 [TN x k,.pointer (some ⟨b,0,none⟩),.int .i64 ((13-m:Nat):Int)] [.c .ptr,.c .bool] K h:=by
 intro m;induction m with
 |zero=>
  intro _ b l k h t hW hr hn K C;have Q:∀{h'},Upd No h h'→∀y,W y→y<h'.size:=fun k y S=>aO (hW y S) k.size
  refine uF (x.k0,x.k1,x.mask,none,k,jL x k) (some ⟨b,0,none⟩) ((13-0:Nat):Int) ?_;unfold pH ah nv Av iA nN ae ao mL pW Fj AU pf Kw KZ Gi;refine cH fun w b1 k1=>?_
  have bk:BuckAt W w b l:=BuckAt.upd t k1 fun _ h=>h.elim
  obtain⟨sp,sk,ow,hb,_⟩:=bk.ex;refine kM hb (aA.2 ⟨_,vc b1 4,XD bk hr (by omega) k fun N v j hv=>?_⟩)
  have b3:=j.get0 b1;cases z:cG l k with
  |false=>
   rw[z]at C;exact aA.2 (C N b (k1.tr j) (by rw[Bq (Gm z)];exact bk.upd j fun _ h=>h.elim) fun _=>rfl)
  |true=>
   rw[z]at C;refine af.2 ⟨none,vc b3 3,_,vc b3 4,?_⟩;refine VL (bk.upd j fun _ h=>h.elim) (Q (k1.tr j)) hr (by omega) k fun h5 b5 bk5 L=>?_
   exact C h5 b5 ((k1.tr j).tr L) bk5 fun h=>by cases h
 |succ m ih=>
  intro hm b l k h t hW hr hn K C;have Q:∀{h'},Upd No h h'→∀y,W y→y<h'.size:=fun k y S=>aO (hW y S) k.size
  have hl:13-(m+1)<13:=by omega
  have V:13-(m+1)=12-m:=by omega
  refine uF (x.k0,x.k1,x.mask,none,k,jL x k) (some ⟨b,0,none⟩) ((13-(m+1):Nat):Int) ?_;unfold pH ah nv Av iA nN ae ao mL pW Fj AU pf Kw KZ Gi;refine cH fun w b1 k1=>?_
  have t1:=TrieAt.upd0 k1 t;obtain⟨s,F,hs⟩:=t1;have hs:∀c,c<32→SlotIs W x w m s c (part x (12-m) c l):=hs;obtain⟨d,n,sp,sk,ow,hb,_⟩:=F.ex;refine kM hb (af.2 ⟨_,vc b1 5,Vz hl ?_⟩);rw[V];have hi:=Hv x (12-m) k;have J:=hs _ hi;have H:cG (part x (12-m) (ck x (12-m) k) l) k=cG l k:=Gl;have hrp:eY (part x (12-m) (ck x (12-m) k) l):=A7 hr;have X:(part x (12-m) (ck x (12-m) k) l).length≤1000000:=bv yr hn
  have u:∀{h':ad} {b':Nat} {s':Slots},Upd No w h'→NodeAt W h' b' s'→(∀c,c≠ck x (12-m) k→s'.p c=s.p c∧s'.k c=s.k c)→SlotIs W x h' m s' (ck x (12-m) k) (oZ k (part x (12-m) (ck x (12-m) k) l))→TrieAt W x h' (m+1) b' (oZ k l):=fun P nd hp hi=>O5 P nd hs hp hi
  have tt:∀{h':ad},Upd No w h'→TrieAt W x h' (m+1) b l:=fun P=>TrieAt.upd0 (k1.tr P) t
  generalize hc:ck x (12-m) k=c at*;generalize hlc:part x (12-m) c l=lc at*;refine GQ F hi fun N j=>?_
  refine cH fun h4 b4 k4=>?_
  have b4':h4[N.size]? =some (.cells #[.string QV.1,.string QV.2] az (0,0)):=b4;refine GK (p:=U4 (s.p c)) b4' fun h5 b5 L=>?_
  have a:Upd No w h5:=(j.tr k4).own L j.size;have c1:=a.get0 b1;have T:=F.upd a fun _ h=>h.elim
  have same:∀{h':ad},Upd No w h'→cG l k=false→K (some ⟨b,0,none⟩,false) h':=fun P z=>by
   have:=C _ b (k1.tr P) (by rw[Bq (Gm z)];exact tt P) fun _=>rfl
   rw[z]at this;exact this
  cases hsp:s.p c with
  |some y=>
   rw[hsp]at b5;obtain⟨D,hk0⟩:lc= [y]∧s.k c=none:=by
    rcases J with⟨_,g,_⟩|⟨q,w,g,N⟩|⟨_,g,_⟩
    ·rw[hsp]at g;cases g
    ·rw[hsp]at g;cases g;exact⟨w,N⟩
    ·rw[hsp]at g;cases g
   refine aA.2 ⟨y.1,vc b5 0,k,vc c1 4,?_⟩;rw[di];by_cases e1:y.1=k
   ·have z:cG l k=true:=by rw[←H,D];exact cj.2 ⟨y,aQ.2 rfl,decide_eq_true e1⟩
    rw[decide_eq_true e1];rw[z]at C;refine af.2 ⟨none,vc c1 3,Vy T (Q (k1.tr a)) hi fun h6 b6 nd6 E=>?_⟩
    refine C h6 b6 ((k1.tr a).tr E) (u (a.tr E) nd6 (fun c' o=>⟨gI o,gI o⟩) ?_) fun h=>by cases h
    refine .inl ⟨?_,gZ,gZ⟩;rw[D,zR,if_pos e1];rfl
   ·rw[decide_eq_false e1]
    have z:cG l k=false:=by
     rw[←H,D];unfold cG;rw[qJ,decide_eq_false e1];rfl
    exact aA.2 (same a z)
  |none=>
   refine af.2 (FT T hi ?_);cases hsk:s.k c with
   |none=>
    have Y:lc= []:=by
     rcases J with⟨w,_⟩|⟨q,_,g,_⟩|⟨_,_,R,g,_⟩
     ·exact w
     ·rw[hsp]at g;cases g
     ·rw[hsk]at g;cases g
    exact aA.2 (same a (by rw[←H,Y];rfl))
   |some kp=>
    obtain⟨h2l,R,rfl,tk⟩:2≤lc.length∧∃R,kp=some ⟨R,0,none⟩∧TrieAt W x w m R lc:=by
     rcases J with⟨_,_,g⟩|⟨q,_,g,_⟩|⟨w,_,R,g,N⟩
     ·rw[hsk]at g;cases g
     ·rw[hsp]at g;cases g
     ·rw[hsk]at g;cases g;exact⟨w,R,rfl,N⟩
    refine af.2 ⟨_,vc c1 0,_,vc c1 1,_,vc c1 2,_,vc c1 3,_,vc c1 4,_,vc c1 5,?_⟩;have ew:ac .i64 (((12-m:Nat):Int)+1)=((13-m:Nat):Int):=by rw[kD (by omega)];omega
    rw[ew];refine ih (by omega) k (TrieAt.upd0 a tk) (Q (k1.tr a)) hrp X fun h6 b6 E t6 hsame=>?_
    have A:=a.tr E;rw[H];cases z:cG l k with
    |false=>exact aA.2 (same A z)
    |true=>
     rw[z]at C;have hdl:=Ru (k:=k) hrp;have hdn:(oZ k lc).length≤1000000:=bv Yp X;refine af.2 (VU t6 hdn fun h7 p G hp=>?_)
     refine cH fun h8 b8 k8=>?_
     have b8':h8[h7.size]? =some (.cells #[.string QV.1,.string QV.2] az (0,0)):=b8;refine GK (p:=p) b8' fun h9 b9 Z=>?_
     have f:Upd No w h9:=((A.tr G).tr k8).own Z (A.tr G).size;have c9:=f.get0 b1;have U:=F.upd f fun _ h=>h.elim
     refine aF (fun e=>?_) fun e=>?_
     ·refine⟨none,vc c9 3,p.1,vc b9 0,p.2,vc b9 1,sW U (Q (k1.tr f)) hi (fun y S=>by rw[hsp]at S;cases S) p fun I O B i=>?_⟩
      refine C I O ((k1.tr f).tr i) (u (f.tr i) B (fun c' o=>⟨gI o,gI o⟩) ?_) fun h=>by cases h
      exact .inr (.inl ⟨p,hp e,gZ,gZ⟩)
     ·refine⟨none,vc c9 3,zH U (Q (k1.tr f)) hi (fun _ _=>hsp) ⟨b6,0,none⟩ fun I O B i=>?_⟩
      refine C I O ((k1.tr f).tr i) (u (f.tr i) B (fun c' o=>⟨gI o,gI o⟩) ?_) fun h=>by cases h
      exact .inr (.inr ⟨by omega,gZ,b6,gZ,TrieAt.upd0 ((G.tr k8).own Z G.size|>.tr i) t6⟩)
theorem LA{W:Nat→Prop}{x:Hs}{h:ad}{b:Nat}{l:List Pr}(t:TrieAt W x h 13 b l)(o:∀y,W y→y<h.size)(w:eY l)(v:l.length≤1000000)(k:ByteArray){K:Option Addr×Bool→ad→Prop}
  (u:∀h' b',Upd No h h'→TrieAt W x h' 13 b' (oZ k l)→(cG l k=false→b'=b)→K (some ⟨b',0,none⟩,cG l k) h'):
  HC PG xg [.agg #[.int .u64 x.k0,.int .u64 x.k1,.int .u64 x.mask],.pointer none,.pointer (some ⟨b,0,none⟩),.string k] [.c .ptr,.c .bool] K h:=by
 refine L1 (x.k0,x.k1,x.mask) none (some ⟨b,0,none⟩) k ?_;unfold Dq rD ae Ac AU;refine cH fun B b1 k1=>?_
 refine KC (.inr ⟨b,rfl,TrieAt.upd0 k1 t⟩) (fun y n=>aO (o y n) k1.size) fun C b2 p f m=>?_
 have d:=f.get0 b1;refine⟨_,vc d 0,_,vc d 1,_,vc d 2,_,vc d 0,_,vc d 1,_,vc d 2,?_⟩;refine Cu fun D c=>?_
 have g:=c.get0 d;refine⟨⟨vc g 0,vc g 1,vc g 2⟩,?_⟩;have a:=(k1.tr f).tr c;refine N3 13 (au _) k (TrieAt.upd0 c p) (fun y n=>aO (o y n) a.size) w v fun z q i A j=>?_
 refine u z q (a.tr i) A fun s=>?_
 rw[j s];rcases m with e|e
 ·cases e;rfl
 ·cases e
end Go.Proofs
namespace Go.Proofs
def vg(P a:List UInt8→ByteArray→Prop)(k:List UInt8):Prop:=∀k' v',a k' v'↔k'≠k∧P k' v'
theorem Qe{P:List UInt8→ByteArray→Prop}{k:List UInt8}(h:∀v,¬P k v):vg P P k:=fun k' b=>⟨fun a=>⟨fun e=>h b (e▸a),a⟩,fun h=>h.2⟩
theorem Qd{w:Option ByteArray}{F:Fo}(h:jV F):vg (ww w F) (ww none F) []:=by
 intro k' a;unfold ww;constructor
 ·rintro(⟨_,f⟩|hi)
  ·cases f
  ·exact⟨DZ h hi,.inr hi⟩
 ·rintro⟨e,⟨f,_⟩|hi⟩
  ·exact absurd f e
  ·exact .inr hi
theorem Hn{w:Option ByteArray}{F a:Fo}{k:List UInt8}(d:k≠[])(h:vg (uD F) (uD a) k):vg (ww w F) (ww w a) k:=by
 intro k' b;unfold ww;rw[h k' b];constructor
 ·rintro(⟨e,f⟩|hi)
  ·exact⟨fun c=>d (c.symm.trans e),.inl ⟨e,f⟩⟩
  ·exact⟨hi.1,.inr hi.2⟩
 ·rintro⟨e,hi|hi⟩
  ·exact .inl hi
  ·exact .inr ⟨e,hi⟩
theorem Qf{lab r:List UInt8}{w w':Option ByteArray}{F f:Fo}(h:vg (ww w F) (ww w' f) r):vg (yd (lab,w,F)) (yd (lab,w',f)) (lab++r):=by
 intro k' d;constructor
 ·rintro⟨s,e,c⟩
  obtain⟨a,g⟩:=(h s d).1 c;exact⟨fun b=>a (List.append_cancel_left (e.symm.trans b)),s,e,g⟩
 ·rintro⟨a,s,e,c⟩
  exact⟨s,e,(h s d).2 ⟨fun b=>a (by rw[e,b]),c⟩⟩
theorem S0{F:Fo}{i:Nat}{m:Bn}{k:List UInt8}(h:jV F)(hi:i<F.toL.length)(ek:hd F.toL[i].1=hd k)(f:vg (yd F.toL[i]) (yd m) k):vg (uD F) (uD (.ofL (F.toL.set i m))) k:=by
 intro k' g;have hc:=eX.1 h;rw[iR,iR,Fo.to_of];constructor
 ·rintro⟨n,a,b⟩
  rcases(mu hi (wV h hi)).1 a with rfl|⟨a,d⟩
  ·obtain⟨c,j⟩:=(f k' g).1 b
   exact⟨c,_,bV hi,j⟩
  ·refine⟨fun e=>d ?_,n,a,b⟩
   obtain⟨r,o,_⟩:=b;refine zT h a (bV hi) ?_;rw[ek,←e,o,vn (hc.2 n a).1]
 ·rintro⟨c,n,a,b⟩
  by_cases e:n=F.toL[i]
  ·exact⟨m,(mu hi (wV h hi)).2 (.inl rfl),(f k' g).2 ⟨c,by rw[←e];exact b⟩⟩
  ·exact⟨n,(mu hi (wV h hi)).2 (.inr ⟨a,e⟩),b⟩
theorem EG{α:Type}{l:List α}{i:Nat}(hi:i<l.length){x:α}(nd:∀j (a:j<l.length),j≠i→l[j]≠l[i]):x∈l.take i++l.drop (i+1)↔x∈l∧x≠l[i]:=by
 constructor
 ·intro h
  rcases bL.1 h with h|h
  ·obtain⟨j,a,e⟩:=dC h
   rw[aY]at a;rw[List.getElem_take]at e;exact⟨List.mem_of_mem_take h,by rw[←e];exact nd j (by omega) (by omega)⟩
  ·obtain⟨j,a,e⟩:=dC h
   rw[aS]at a;rw[List.getElem_drop]at e;exact⟨List.mem_of_mem_drop h,by rw[←e];exact nd (i+1+j) (by omega) (by omega)⟩
 ·rintro⟨h,b⟩
  obtain⟨j,a,e⟩:=dC h;rcases Nat.lt_trichotomy j i with c|c|c
  ·exact bL.2 (.inl (nI (i:=j) (h:=by rw[aY];omega) (by rw[List.getElem_take];exact e)))
  ·subst c;exact absurd e.symm b
  ·refine bL.2 (.inr (nI (i:=j-(i+1)) (h:=by rw[aS];omega) ?_))
   rw[List.getElem_drop];have:i+1+(j-(i+1))=j:=by omega
   simp only[this];exact e
theorem Xj{F:Fo}{i:Nat}(h:jV F):jV (.ofL (F.toL.take i++F.toL.drop (i+1))):=by
 have hc:=eX.1 h;rw[eX,Fo.to_of];have a:(F.toL.take i++F.toL.drop (i+1)).Sublist F.toL:=by rw[←List.eraseIdx_eq_take_drop_succ];exact List.eraseIdx_sublist ..
 exact⟨hc.1.sublist a,fun n b=>hc.2 n (a.subset b)⟩
theorem S3{F:Fo}{i:Nat}{k:List UInt8}(h:jV F)(hi:i<F.toL.length)(ek:hd F.toL[i].1=hd k)(g:∀k' d,yd F.toL[i] k' d→k'=k):vg (uD F) (uD (.ofL (F.toL.take i++F.toL.drop (i+1)))) k:=by
 intro k' d;have hc:=eX.1 h;rw[iR,iR,Fo.to_of];constructor
 ·rintro⟨n,a,b⟩
  obtain⟨a,c⟩:=(EG hi (wV h hi)).1 a;refine⟨fun e=>c ?_,n,a,b⟩
  obtain⟨r,j,_⟩:=b;refine zT h a (bV hi) ?_;rw[ek,←e,j,vn (hc.2 n a).1]
 ·rintro⟨f,n,a,b⟩
  by_cases e:n=F.toL[i]
  ·exact absurd (g k' d (by rw[←e];exact b)) f
  ·exact⟨n,(EG hi (wV h hi)).2 ⟨a,e⟩,b⟩
def Xs(n:Bn)(o:Option Bn):Prop:=(o=none∧∀k v,¬yd n k v)∨∃m,o=some m∧Tu m∧hd m.1=hd n.1∧∀k v,yd m k v↔yd n k v
theorem SG{lab:List UInt8}{w:Option ByteArray}{F:Fo}(a:lab≠[])(hc:jV F)(h:w.isSome∨2≤F.toL.length):Xs (lab,w,F) (some (lab,w,F)):=.inr ⟨_,rfl,⟨a,h,hc⟩,rfl,fun _ _=>zY⟩
theorem SH{lab:List UInt8}{F:Fo}(h:F.toL= []):Xs (lab,none,F) none:=by
 refine .inl ⟨rfl,fun k v hi=>?_⟩
 obtain⟨r,_,⟨_,h'⟩|h'⟩:=hi
 ·cases h'
 ·obtain⟨n,a,_⟩:=iR.1 h'
  simp only at a;rw[h]at a;cases a
theorem US{lab lk:List UInt8}{a:Option ByteArray}{F Fk:Fo}(c:lab≠[])(hc:jV F)(h:F.toL= [(lk,a,Fk)]):Xs (lab,none,F) (some (lab++lk,a,Fk)):=by
 have d:F=.cons lk a Fk .nil:=by
  rw[←Fo.of_to F,h];rfl
 have b:=(eX.1 hc).2 (lk,a,Fk) (by rw[h];exact aQ.2 rfl);refine .inr ⟨_,rfl,⟨fun e=>c (List.append_eq_nil_iff.1 e).1,b.2.1,b.2.2⟩,vn c,fun k v=>?_⟩
 have:=JQ (lab:=lab++lk) (w:=a) (F:=Fk) lab.length k v;rw[List.take_left,List.drop_left]at this;rw[d];exact this.symm
end Go.Proofs
