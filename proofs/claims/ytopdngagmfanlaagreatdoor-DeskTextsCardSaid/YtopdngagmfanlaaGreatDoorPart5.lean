/- A part of the proof that the named laws of this program answer true, whatever the input. -/
import Derived.Test.YtopdngagmfanlaaGreatDoorPart4
import Derived.Test.YtopdngagmfanlaaGreatDoorLift3
import Derived.Test.YtopdngagmfanlaaGreatDoorPart2
import Derived.Test.YtopdngagmfanlaaGreatDoorPart3
open Bool renaming and_eq_true→aJ
open Go.IntKind renaming wrap→ac
open Go.Op renaming bytesLess→cX
open Iff renaming rfl→AE
open List renaming mem_cons→ar,mem_cons_of_mem→aK,mem_cons_self→aP,length_filter_le→gR,mem_append→bD,mem_singleton→aO,length_cons→ay,length_append→aj,filter_append→fU,mem_filter→dR,append_nil→cE,nil_append→jM,pairwise_append→ff,pairwise_singleton→eW,flatMap_append→cc,flatMap_cons→bK,cons_append→fA,length_drop→aS,length_nil→bN,mem_append_left→iy,mem_append_right→jB,length_singleton→bO,pairwise_cons→cf,find?_cons→sh,nodup_nil→p5,mem_of_getElem?→bf,getElem?_eq_some_iff→aZ,filter_eq_self→kr,any_eq_true→cp,any_cons→qV,mem_range→js,length_take→be,getElem_mem→bZ,getElem_of_mem→dC,mem_of_getElem→nV
open List.Pairwise renaming nil→j9
open Nat renaming le_refl→av,le_trans→aU,lt_of_lt_of_le→aQ,not_lt→jr,zero_le→aV,zero_testBit→nD
namespace Go.Proofs
open Go Go.Lift
def Bq(s:VS)(n:ByteArray)(d:TD)(ps:List Int):(Int×Int)×VS:=
 if(mr s.L s.nx ps).1.2≠0 then((0,(mr s.L s.nx ps).1.2),s)
 else(((mr s.L s.nx ps).1.1,0),{s with L:=(mr s.L s.nx ps).2.1,nx:=(mr s.L s.nx ps).2.2,D:=pP s.D (mr s.L s.nx ps).1.1 d,B:=pP s.B n (mr s.L s.nx ps).1.1})
theorem WI{L:hG}{nx:Int}{ps:List Int}(h:(mr L nx ps).1.2≠0):(mr L nx ps).2=(L,nx):=by
 unfold mr at h⊢;split
 ·rfl
 ·split
  ·rfl
  ·split
   ·rfl
   ·rename_i h1 h2 h3
    rw[if_neg h1,if_neg h2,if_neg h3]at h;exact absurd rfl h
theorem T7{L:hG}{nx:Int}{ps:List Int}(h:(mr L nx ps).1.2=0):mr L nx ps=((nx,0),CR L nx ps,nx+1):=by
 unfold mr at h⊢;split at h
 ·rename_i h1;exact absurd h h1
 ·split at h
  ·rename_i h1;exact absurd h h1
  ·split at h
   ·have h:(6:Int)=0:=h
    omega
   ·rename_i h1 h2 h3;rw[if_neg h1,if_neg h2,if_neg h3]
theorem QZ{h:ad}{k:ad→Prop}(a:∀h',h'=h→k h'):At h k:=bj (a h rfl)
theorem OI{κ β:Type}[DecidableEq κ]{k:κ}{v:β}:∀{l:List (κ×β)} {p:κ×β},p∈pP l k v→p=(k,v)∨p∈l
 | [],p,h=>.inl (by simpa[pP]using h)
 |(k',u)::l,p,h=>by
  unfold pP at h;split at h
  ·exact(ar.1 h).imp id (aK _)
  ·rcases ar.1 h with h|h
   ·exact .inr (h▸aP)
   ·exact(OI h).imp id (aK _)
theorem OK{β:Type}{k:Int}{v:β}:∀{l:List (Int×β)},dM l k=some v→(k,v)∈l
 |(k',u)::l,h=>by
  unfold dM at h;split at h
  ·rename_i e;cases h;rw[e];exact aP
  ·exact aK _ (OK h)
section
variable {W:Nat→Prop} {h0 h:ad} {vp:Nat} {s:VS}
theorem VaultAt.size(v:VaultAt W h vp s){y:Nat}(a:s.M y):y<h.size:=v.g.lt y (v.w y a)
theorem VS.mG{s:VS}{y:Nat}(h:Il s.gp s.gm y):s.M y:=h.imp id .inl
theorem MX(v:VaultAt W h0 vp s)(k0:Upd No h0 h)(n:ByteArray){d:TD}(i:TreeIs W h0 s.kind s.x d.1 d.2)(hr:fe d.2)(hf:Fit d.2){pb:Nat}(Z:h0.size≤pb)(hpb2:pb<h.size){sl:SliceV}{ps:List Int}(ho:OwnS u32 1 oa (· =pb) h sl ps)(hn:ps.length≤1000000)
  {K:Int×Int→ad→Prop}(F:∀h',Upd s.M h0 h'→VaultAt W h' vp (Bq s n d (nz ps)).2→K (Bq s n d (nz ps)).1 h'):
  HC PG lW [pV vp,.string n,SM d.1,.slice sl.a sl.len sl.cap] [.c (.int .u32),.c (.int .i64)] K h:=by
 refine yM (some ⟨vp,0,none⟩) n d.1 sl ?_;unfold qk bi ao iQ WP ae aq m6 yF;refine cH fun h1 b1 k1=>⟨_,rfl,_,vc (v.upd0 (k0.tr k1)).blk 6,?_⟩
 have s0:=k0.size;refine UJ (ho.upd k1 fun _ _ h=>h) hn fun s5 h5 o5 u5=>?_
 have J:Upd No h0 h5:=(k0.tr k1).own u5 Z;have o:=v.upd0 J;have b5:=u5.oth b1 (show h.size≠pb by omega)
 have hl5:(nz ps).length≤ps.length:=gR ..;have R:∀y,W y→y<h0.size:=v.g.lt;refine⟨vc o.blk 6,XW o.g (by have:=v.inv.nx1;omega) (fun hm=>by have:=(v.inv.pos _ hm).2;omega) (o5.sl (W:=W) fun b u _ hw=>by have:=R b hw;omega) (by omega) fun H t I=>?_⟩
 have X:∀y,Il s.gp s.gm y→W y∨h5.size≤y:=fun y a=>.inl (v.w y (VS.mG a))
 obtain⟨n1,n2,n3,n4,n5,n6,n7,n8,n9,S⟩:=VS.neB v.ne;have w:∀y,y≠s.gp→y≠s.gm→¬Il s.gp s.gm y:=fun y h1 h2 h=>h.elim h1 h2
 have U:=o.t.upd t (w _ n2.symm n5.symm);have m7:=o.b.upd t (w _ n3.symm n6.symm);have A:=o.n.upd t (w _ n4.symm n7.symm);refine CondP.intro (fun e=>?_) fun e=>?_
 ·have e:(mr s.L s.nx (nz ps)).1.2≠0:=by simpa using e
  have e2:=WI e;have T:Bq s n d (nz ps)=((0,(mr s.L s.nx (nz ps)).1.2),s):=by unfold Bq;rw[if_pos e]
  rw[T]at F;rw[e2]at I;exact F H (J.wide.tr (t.mono fun y a=>.inl (VS.mG a))) (o.turn t X I U m7 A (fun d hd=>.inl hd) v.sub v.inv)
 ·have e:(mr s.L s.nx (nz ps)).1.2=0:=by simpa using e
  have e2:=T7 e;have q:=v.inv.add (nz ps);have T:Bq s n d (nz ps)=(((mr s.L s.nx (nz ps)).1.1,0),{s with L:=(mr s.L s.nx (nz ps)).2.1,nx:=(mr s.L s.nx (nz ps)).2.2,D:=pP s.D (mr s.L s.nx (nz ps)).1.1 d,B:=pP s.B n (mr s.L s.nx (nz ps)).1.1}):=by unfold Bq;rw[if_neg (by rw[e];simp)]
  rw[T]at F;rw[e2]at I F q⊢;have E:∀y,s.M y→vp≠y:=fun y a e=>v.wv (e▸v.w y a)
  have c7:=t.get o.blk fun hm=>E _ (VS.mG hm) rfl
  have x:=t.get b5 fun hm=>by have:=v.size (VS.mG hm);omega
  refine⟨_,rfl,_,vc c7 7,_,vc x 0,_,vc x 1,_,vc x 2,_,vc x 3,_,vc x 4,_,vc x 5,_,rfl,U.isMap,QZ fun c j=>?_⟩
  have j:c=m9 H s.tm (KE.enc s.nx) (aas d):=j;have g:Upd (· =s.tm) H c:=by rw[j];exact ww H _ _ rfl
  have O:MapAt KE aas c s.tm (pP s.D s.nx d):=by rw[j];exact U.put s.nx d
  have z:=m7.upd g (fun e=>n8 e.symm)
  have C:=A.upd g (fun e=>n9 e.symm)
  have N:=I.upd g fun b u=>.inl ⟨v.w b (.inr (.inr (.inl u))),fun e=>n2 (e.symm.trans u),fun e=>n5 (e.symm.trans u)⟩
  have V:=g.get c7 fun e=>E _ (.inr (.inr (.inl rfl))) e
  refine⟨_,rfl,_,vc V 8,_,rfl,z.isMap,QZ fun f m=>?_⟩
  have m:f=m9 c s.bm (kStr.enc n) (XQ s.nx):=m;have k:Upd (· =s.bm) c f:=by rw[m];exact ww c _ _ rfl
  have m21:MapAt kStr XQ f s.bm (pP s.B n s.nx):=by rw[m];exact z.put n s.nx
  have Y:=O.upd k n8;have G:=C.upd k (fun e=>S e.symm)
  have Q:=N.upd k fun b u=>.inl ⟨v.w b (.inr (.inr (.inr (.inl u)))),fun e=>n3 (e.symm.trans u),fun e=>n6 (e.symm.trans u)⟩
  have P:Upd s.M h5 f:=((t.mono fun y a=>.inl (VS.mG a)).tr (g.mono fun y a=>.inl (.inr (.inr (.inl a))))).tr (k.mono fun y a=>.inl (.inr (.inr (.inr (.inl a)))))
  refine F f (J.wide.tr P) (o.turn P (fun y a=>.inl (v.w y a)) Q Y m21 G (fun p hp=>(OI hp).elim (fun e=>.inr ?_) .inl) (fun id=>?_) q)
  ·subst e
   have ku:Upd s.M h0 f:=J.wide.tr P;exact⟨i.updM ku fun y a=>.inl (v.w y a),hr,hf⟩
  ·rw[KY,insV_ids.mem_iff,ar,←v.sub id]
   split
   ·rename_i hm
    exact⟨.inr,fun h=>h.elim (fun e=>e▸hm) fun h=>h⟩
   ·rw[bD,aO,Or.comm]
end
end Go.Proofs
namespace Go.Proofs
open Go Go.Lift
abbrev aaD:List Value:= [.string (⟨#[]⟩:ByteArray),.string (⟨#[]⟩:ByteArray)]
theorem ZX{h:ad}{t:TypeId}{p:Pr}{k:ad→Prop}(d:∀h',h'[h.size]? =some (.cells #[.string p.1,.string p.2] t (0,0))→Upd No h h'→k h'):
  At (hnew h [.string (⟨#[]⟩:ByteArray),.string (⟨#[]⟩:ByteArray)] t) fun b=>tc b (some (aH h)) 0 [.string p.1,.string p.2]∧At (ir b (aH h) 0 [.string p.1,.string p.2]) k:=by
 refine cH fun f b1 k1=>?_
 exact cS (c:=aaD) (vs:= [.string p.1,.string p.2]) b1 rfl fun e b2 a=>d e b2 (k1.own a (av _))
theorem xn{i n:Nat}(h:i<n)(a:n≤9223372036854775807):ac .i64 ((i:Int)+1)=((i+1:Nat):Int):=by rw[Go.IntWalk.i64_in _ (by omega)];omega
theorem Ky(p:Pr):∀{l:List Pr},(km p l).length≤l.length+1
 | []=>av _
 |q::l=>by
  rw[na];split
  ·have:=Ky p (l:=l);simp only[ay];omega
  ·split<;>simp
theorem Tx{W W':Nat→Prop}{h h':ad}{kind:Int}{x:Hs}{t u:Tr}{l a:List Pr}(i:TreeIs W h kind x t l)(c:TreeIs W' h' kind x u a):N4 t u=true:=by
 rcases i with⟨rfl,b,rfl,_⟩|⟨rfl,b,rfl,_⟩<;>rcases c with⟨e,b',rfl,_⟩|⟨e,b',rfl,_⟩
 ·simp[N4]
 ·cases e
 ·cases e
 ·simp[N4]
abbrev hsL(x:Hs):List Value:= [.int .u64 x.k0,.int .u64 x.k1,.int .u64 x.mask]
end Go.Proofs
namespace Go.Proofs
open Go Go.Lift
section
variable {W:Nat→Prop} {h:ad} {vp:Nat} {s:VS}
theorem PE(v:VaultAt W h vp s)(n:ByteArray){hd:Int}(p:dM s.B n=some hd){d:TD}(i:TreeIs W h s.kind s.x d.1 d.2)(o:fe d.2)(k:Fit d.2)
  {K:Int×Int→ad→Prop}(e:∀h',Upd s.M h h'→VaultAt W h' vp (Bq s n d (nz [hd])).2→K (Bq s n d (nz [hd])).1 h'):
  HC PG mL [pV vp,.string n,SM d.1] [.c (.int .u32),.c (.int .i64)] K h:=by
 refine zT (some ⟨vp,0,none⟩) n d.1 ?_;unfold rG ao wz nZ iQ ae aq m6 im yF;refine cH fun q b1 k1=>MY (v.upd0 k1) n ?_
 rw[p];refine af.2 ⟨_,vc b1 0,_,vc b1 1,_,vc b1 2,_,vc b1 3,_,vc b1 4,_,vc b1 5,_,rfl,?_⟩;have c1:=k1.get0 v.blk;refine⟨_,xg c1 0 0,_,xg c1 0 1,_,xg c1 0 2,_,xg c1 0 3,_,xg c1 0 4,_,xg c1 0 5,?_⟩;refine UZ (t:=d.1) (u:=s.e) fun b c=>?_
 rw[Tx i v.em];have b2:=c.get0 b1;refine af.2 ⟨_,vc b2 0,_,vc b2 1,_,vc b2 2,_,vc b2 3,_,vc b2 4,_,vc b2 5,cH fun w b3 f=>?_⟩
 have a:=k1.tr c;have m:=a.size;refine MX v (a.tr f) n i o k (pb:=b.size) m (bB b3) (sl:=⟨some (aH b),1,1⟩) (ps:= [hd]) ⟨rfl,Bt,av _,.inr ⟨b.size,[],rfl,rfl,b3,rfl⟩⟩ (by simp) fun h' j g=>e h' j g
end
end Go.Proofs
namespace Go.Proofs
open Go Go.Lift
end Go.Proofs
namespace Go.Proofs
open Go Go.Lift
theorem Nl{W:Nat→Prop}{h:ad}{b:Nat}{sl:ByteArray}{w:Option ByteArray}{F:Fo}(r:RxN W h b sl w F){K:ByteArray×Bool→ad→Prop}(c:K (w.getD ⟨#[]⟩,w.isSome) h):HC PG oT [.pointer (some ⟨b,0,none⟩)] [.c .str,.c .bool] K h:=by
 refine B5 _ ?_;unfold uf bL cI;obtain⟨val,s,ow,ks,a,rfl,_⟩:=r;exact af.2 ⟨_,rfl,_,gF (i:=2) a,_,rfl,w.isSome,gF (i:=1) a,c⟩
end Go.Proofs
namespace Go.Proofs
open Go Go.Lift
end Go.Proofs
namespace Go.Proofs
open Go Go.Lift
end Go.Proofs
namespace Go.Proofs
structure WO{α:Type}(lt:α→α→Bool):Prop where
 irr:∀a,lt a a=false
 asy:∀a b,lt a b=true→lt b a=false
 ntr:∀a b c,lt a b=false→lt b c=false→lt a c=false
section
variable {α:Type} {lt:α→α→Bool}
def TU(lt:α→α→Bool)(x a:α):Bool:= !lt a x&& !lt x a
def Srt(lt:α→α→Bool)(l:List α):Prop:=l.Pairwise fun a b=>lt b a=false
structure Eqf(lt:α→α→Bool)(l l':List α):Prop where
 len:l'.length=l.length
 flt:∀x,l'.filter (TU lt x)=l.filter (TU lt x)
structure St(lt:α→α→Bool)(l l':List α):Prop where
 eqf:Eqf lt l l'
 srt:Srt lt l'
theorem Eqf.rfl(l:List α):Eqf lt l l:=⟨_root_.rfl,fun _=>_root_.rfl⟩
theorem Eqf.tr{a b c:List α}(h:Eqf lt a b)(k:Eqf lt b c):Eqf lt a c:=⟨k.len.trans h.len,fun x=>(k.flt x).trans (h.flt x)⟩
theorem Eqf.app{a b a' b':List α}(h:Eqf lt a a')(k:Eqf lt b b'):Eqf lt (a++b) (a'++b'):=
 ⟨by rw[aj,aj,h.len,k.len],fun x=>by rw[fU,fU,h.flt,k.flt]⟩
theorem OC(w:WO lt)(a:α):TU lt a a=true:=by unfold TU;rw[w.irr];rfl
theorem Eqf.mem(w:WO lt){l b:List α}(h:Eqf lt l b){a:α}:a∈b↔a∈l:=by
 have e:=h.flt a;constructor
 ·intro hm
  have:a∈b.filter (TU lt a):=dR.2 ⟨hm,OC w a⟩;rw[e]at this;exact(dR.1 this).1
 ·intro hm
  have:a∈l.filter (TU lt a):=dR.2 ⟨hm,OC w a⟩;rw[←e]at this;exact(dR.1 this).1
theorem X3(w:WO lt){x u v:α}(b:TU lt x u=true)(a:TU lt x v=true):lt v u=false:=by
 unfold TU at b a;simp only[aJ,Bool.not_eq_true']at b a;exact w.ntr v x u a.1 b.2
theorem Eqf.swap(w:WO lt){U V:List α}(h:∀u∈U,∀v∈V,lt v u=true):Eqf lt (U++V) (V++U):=by
 refine⟨by rw[aj,aj,Nat.add_comm],fun x=>?_⟩
 rw[fU,fU];cases hU:U.filter (TU lt x)with
 |nil=>rw[cE,jM]
 |cons u us=>
  cases hV:V.filter (TU lt x)with
  |nil=>rw[cE,jM]
  |cons v vs=>
   have e:u∈U.filter (TU lt x):=by rw[hU];exact aP ..
   have d:v∈V.filter (TU lt x):=by rw[hV];exact aP ..
   have b:=dR.1 e;have a:=dR.1 d;have c:=h u b.1 v a.1;rw[X3 w b.2 a.2]at c;cases c
theorem Srt.app{a b:List α}(h:Srt lt a)(k:Srt lt b)(c:∀x∈a,∀y∈b,lt y x=false):Srt lt (a++b):=ff.2 ⟨h,k,c⟩
theorem Srt.left{a b:List α}(h:Srt lt (a++b)):Srt lt a:=(ff.1 h).1
theorem Srt.right{a b:List α}(h:Srt lt (a++b)):Srt lt b:=(ff.1 h).2.1
theorem Srt.nil:Srt lt ([]:List α):=j9
theorem Srt.one(a:α):Srt lt [a]:=eW ..
end
end Go.Proofs
namespace Go.Proofs
open Go Go.Lift
section
variable {α:Type} {f:α→List Value} {sz:Nat} {t:TypeId} {M:Nat→Prop} {h:ad} {s:SliceV} {P Q:List α} {x:α}
end
structure Cmp{α:Type}(lt:α→α→Bool)(f:α→List Value)(M:Nat→Prop)(Iv:ad→Prop)(V:Value):Prop where
 call:∀(a b:α) {h:ad} {K:Int→ad→Prop},Iv h→(∀h' e,Upd No h h'→decide (e<0)=lt a b→K e h')→HV PG V [.agg (f a).toArray,.agg (f b).toArray] [.c (.int .i64)] K h
 step:∀{h h':ad},Upd M h h'→Iv h→Iv h'
end Go.Proofs
namespace Go.Proofs
open Go Go.Lift
end Go.Proofs
namespace Go.Proofs
open Go Go.Lift
variable {z0:Hs}
end Go.Proofs
namespace Go.Proofs
open Go Go.Lift
end Go.Proofs
namespace Go.Proofs
open Go Go.Lift
end Go.Proofs
namespace Go.Proofs
open Go Go.Lift
def wl(x:Hs):Nat→List Pr→List Pr
 |0,l=>l
 |m+1,l=>Cy x (12-m) l++(Yo x (12-m) l).flatMap (wl x m)
def cw(x:Hs):Nat→List Pr→Nat
 |0,_=>2
 |m+1,l=>2+((Yo x (12-m) l).map (cw x m)).sum
structure Fr where
 sp:SliceV
 sk:SliceV
 n:Nat
 ps:List Pr
 ks:List (Nat×List Pr)
def Fr.raw(f:Fr):SliceV×SliceV:=(f.sp,f.sk)
def Fr.rem(x:Hs)(f:Fr):List Pr:=f.ps++f.ks.flatMap fun k=>wl x (f.n-1) k.2
theorem setCell{α:Type}{f:α→List Value}{c:Nat}{t:TypeId}{M:Nat→Prop}{h:ad}{s:SliceV}{P Q:List α}{x y:α}{j:Nat}{v:Value}(m:OwnS f c t M h s (P++x::Q))(J:j<c)(E:f y=(f x).set j v){a:Addr}(A:s.a=some a){i:Nat}(hi:i=P.length){G:ad→Prop}(D:∀h',OwnS f c t M h' s (P++y::Q)→Upd M h h'→G h'):
  Wr h (adr (adr a (i*c)) j)∧At (hset h (adr (adr a (i*c)) j) v) G:=by
 subst hi;have u:=m.ne;have d:=m.len;have g:=m.cap;rcases m.blk with F|⟨b,e,k,w,hc,B⟩
 ·rw[aj,ay]at d;omega
 rw[A]at k;cases k;have I:(P.flatMap f).length=P.length*c:=j4 u P;rw[cc,bK]at hc;have H:=(u x).1;have C:adr (adr ⟨b,0,none⟩ (P.length*c)) j=⟨b,P.length*c+j,none⟩:=by rw[ci,ci,Nat.zero_add]
 rw[C];have o:P.length*c+j<(P.flatMap f++(f x++Q.flatMap f)++e).toArray.size:=by
  simp only[List.size_toArray,aj];omega
 refine⟨i5 hc o,vS hc fun h' q n=>D h' ⟨by rw[d];simp,u,g,.inr ⟨b,e,A,w,?_,B⟩⟩ (n.mono fun z p=>.inl (by have p:z=b:=p;rw[p];exact w))⟩
 rw[q];congr 3
 rw[cc,bK,E];apply Array.toList_inj.1;rw[Array.toList_setIfInBounds];simp only[List.append_assoc];rw[List.set_append_right _ _ (by omega),show P.length*c+j-(P.flatMap f).length=j by omega,List.set_append_left _ _ (by omega)]
end Go.Proofs
namespace Go.Proofs
open Go Go.Lift
end Go.Proofs
namespace Go.Proofs
open Go Go.Lift
def Below(W:Nat→Prop)(x:Hs)(h:ad)(m:Nat)(r:Option Addr)(l:List Pr):Prop:=(r=none∧l= [])∨∃b,r=some ⟨b,0,none⟩∧TrieAt W x h m b l
theorem Below.upd0{W:Nat→Prop}{x:Hs}{h h':ad}{m:Nat}{r:Option Addr}{l:List Pr}(k:Upd No h h')(t:Below W x h m r l):Below W x h' m r l:=t.imp id fun⟨b,e,t⟩=>⟨b,e,TrieAt.upd0 k t⟩
theorem Below.less{W W':Nat→Prop}{x:Hs}{h:ad}{m:Nat}{r:Option Addr}{l:List Pr}(hm:∀b,W' b→W b∨h.size≤b)(t:Below W x h m r l):Below W' x h m r l:=t.imp id fun⟨b,e,t⟩=>⟨b,e,TrieAt.less hm t⟩
theorem Below.updM{W M:Nat→Prop}{x:Hs}{h h':ad}{m:Nat}{r:Option Addr}{l:List Pr}(k:Upd M h h')(hm:∀b,M b→W b∨h.size≤b)(t:Below W x h m r l):Below W x h' m r l:=t.imp id fun⟨b,e,t⟩=>⟨b,e,TrieAt.updM k hm t⟩
end Go.Proofs
namespace Go.Proofs
open Go.Lift
abbrev Ch:=ByteArray×ByteArray×ByteArray×Bool×Bool
abbrev oX(c:Ch):List Value:= [.string c.1,.string c.2.1,.string c.2.2.1,.bool c.2.2.2.1,.bool c.2.2.2.2]
end Go.Proofs
namespace Go.Proofs
open Go Go.Lift
theorem kH(x:Ch):(oX x).length=5∧0<5:=⟨rfl,by omega⟩
end Go.Proofs
namespace Go.Proofs
open Go Go.Lift
end Go.Proofs
namespace Go.Proofs
open Go Go.Lift
end Go.Proofs
namespace Go.Proofs
open Go Go.Lift
def hx(kind v:Int):Int:=if kind=0 then v else 0
end Go.Proofs
namespace Go.Proofs
open Go Go.Lift
structure Few(n:Nat)(L:List Pr):Prop where
 up:fe L
 len:L.length≤n
 fit:∀p∈L,p.1.size≤30∧p.2.size≤30
theorem Few.ins{n:Nat}{L:List Pr}(f:Few n L)(p:Pr)(c:p.1.size≤30)(b:p.2.size≤30):Few (n+1) (km p L):=
 ⟨JU p f.up,aU (Ky p) (by have:=f.len;omega),fun q a=>(CM a).elim (fun e=>by rw[e];exact⟨c,b⟩) fun h=>f.fit q h⟩
theorem Few.fits{n:Nat}{L:List Pr}(f:Few n L):Fit L:=fun p a=>by have:=f.fit p a;omega
end Go.Proofs
namespace Go.Proofs
open Go Go.Lift
end Go.Proofs
namespace Go.Proofs
open Go Go.Lift
theorem Qf{h:ad}{b:Nat}{c:Array Value}{t:TypeId}(a:h[b]? =some (.cells c t (0,0))) (hc:0<c.size):ip h ⟨b,0,none⟩:=⟨c,t,a,hc⟩
theorem TrieAt.plain{W:Nat→Prop}{x:Hs}{h:ad}:∀{m b:Nat} {l:List Pr},TrieAt W x h m b l→ip h ⟨b,0,none⟩
 |0,_,_,t=>by obtain⟨_,_,_,a,_⟩:=BuckAt.ex t;exact Qf a (by simp[ge])
 |m+1,_,_,⟨s,nd,_⟩=>by obtain⟨_,_,_,_,_,a,_⟩:=nd.ex;exact Qf a (by simp[ge])
end Go.Proofs
namespace Go.Proofs
open Go Go.Lift
end Go.Proofs
namespace Go.Proofs
open Go Go.Lift
theorem RxN.plain{W:Nat→Prop}{h:ad}{b:Nat}{sl:ByteArray}{w:Option ByteArray}{F:Fo}(r:RxN W h b sl w F):ip h ⟨b,0,none⟩:=by
 obtain⟨val,s,ow,ks,a,_⟩:=r;exact Qf a (by simp[G4])
end Go.Proofs
namespace Go.Proofs
open Go Go.Lift
end Go.Proofs
namespace Go.Proofs
open Go Go.Lift
def aa5(a b:Ch):Bool:=decide (kl a.1 b.1)
theorem aam(M:Nat→Prop):Cmp aa5 oX M (fun _=>True) (.func (.func zF) #[] #[]):=by
 refine⟨fun a b h K _ d=>HV.mk' (O6 a b ?_),fun _ h=>h⟩
 unfold FO ag eu Qh;refine cH fun f b1 k1=>cH fun e b2 c=>?_
 refine⟨a.1,vc (c.get0 b1) 0,b.1,vc b2 0,H5 (d e _ (k1.tr c) ?_)⟩;unfold Mb aa5;split
 ·rename_i h;rw[decide_eq_true h];rfl
 ·rename_i h
  rw[decide_eq_false h];split<;>rfl
end Go.Proofs
namespace Go.Proofs
open Go Go.Lift
end Go.Proofs
namespace Go.Proofs
open Go Go.Lift
end Go.Proofs
namespace Go.Proofs
open Go Go.Lift
end Go.Proofs
namespace Go.Proofs
open Go Go.Lift
theorem XN{a b:ByteArray}:kl a b↔cX a.data.toList b.data.toList=true:=by unfold kl;rw[ByteArray.toList_eq,ByteArray.toList_eq]
theorem Sy{a b:UInt8}{x y:List UInt8}:cX (a::x) (b::y)=true↔a.toNat<b.toNat∨(a=b∧cX x y=true):=by
 simp only[cX,Bool.or_eq_true,decide_eq_true_iff,aJ,beq_iff_eq,UInt8.lt_iff_toNat_lt]
theorem Wy{x y:List UInt8}:∀pre:List UInt8,cX (pre++x) (pre++y)=true↔cX x y=true
 | []=>AE
 |a::pre=>by rw[fA,fA,Sy,Wy pre];simp
theorem aap{x y:List UInt8}(h:cX x y=true)(hx:x≠[])(c:y≠[]):hd x≤hd y:=by
 match x,y,hx,c with
 |a::x,b::y,_,_=>
  show a.toNat≤b.toNat
  rcases Sy.1 h with h|⟨rfl,_⟩<;>omega
abbrev ky(p:Pr):List UInt8:=p.1.data.toList
def abN(l:List Pr)(a k:List UInt8)(v:ByteArray):Prop:=∃p∈l,ky p=a++k∧p.2=v
structure Beg(l:List Pr)(pre:List UInt8):Prop where
 up:fe l
 at_:∀p∈l,(ky p).take pre.length=pre∧pre.length<(ky p).length
theorem Beg.sub{l c:List Pr}{a:List UInt8}(b:Beg l a)(h:c.Sublist l):Beg c a:=⟨b.up.sublist h,fun p d=>b.at_ p (h.subset d)⟩
theorem Beg.split{l:List Pr}{a:List UInt8}(b:Beg l a){p:Pr}(d:p∈l):ky p=a++(ky p).drop a.length∧(ky p).drop a.length≠[]:=by
 obtain⟨c,f⟩:=b.at_ p d;refine⟨?_,fun e=>?_⟩
 ·conv=>lhs;rw[←List.take_append_drop a.length (ky p),c]
 ·have:=congrArg List.length e
  rw[aS,bN]at this;omega
def bt(n:Nat)(p:Pr):Nat:=hd ((ky p).drop n)
theorem Beg.mono{A B:List Pr}{a:List UInt8}(b:Beg (A++B) a){x y:Pr}(hx:x∈A)(c:y∈B):bt a.length x≤bt a.length y:=by
 have h:=(ff.1 b.up).2.2 x hx y c;rw[XN]at h;obtain⟨e1,d⟩:=b.split (iy B hx);obtain⟨e2,e⟩:=b.split (jB A c);change cX (ky x) (ky y)=true at h;rw[e1,e2,Wy]at h;exact aap h d e
structure Row(L:List Bn)(D T:List Pr)(pre:List UInt8):Prop where
 can:∀n∈L,Ue n
 up:L.Pairwise fun m n=>hd m.1<hd n.1
 lo:∀n∈L,∀p∈T,hd n.1<bt pre.length p
 got:∀k v,(∃n∈L,yL n k v)↔abN D pre k v
theorem Row.nil(T:List Pr)(a:List UInt8):Row [] [] T a:=⟨fun n h=>(by cases h),j9,fun n h=>(by cases h),fun k v=>⟨fun⟨n,h,_⟩=>(by cases h),fun⟨p,h,_⟩=>(by cases h)⟩⟩
theorem Row.more{L:List Bn}{D A B:List Pr}{c:List UInt8}{n:Bn}{p:Pr}(r:Row L D (A++B) c)(t:Beg (A++B) c)(j:p∈A)(_:∀a∈A,bt c.length a=bt c.length p)(x:∀b f,B=b::f→bt c.length b≠bt c.length p)(hc:Ue n)(s:hd n.1=bt c.length p)(o:∀k v,yL n k v↔abN A c k v):Row (L++ [n]) (D++A) B c:=by
 refine⟨fun m hm=>?_,ff.2 ⟨r.up,eW ..,fun a u b w=>?_⟩,fun m hm q d=>?_,fun k v=>?_⟩
 ·rcases bD.1 hm with hm|hm
  ·exact r.can m hm
  ·rw[aO.1 hm];exact hc
 ·rw[aO.1 w,s]
  exact r.lo a u p (iy _ j)
 ·rcases bD.1 hm with hm|hm
  ·exact r.lo m hm q (jB _ d)
  ·rw[aO.1 hm,s]
   rcases B with _|⟨g,f⟩
   ·cases d
   have z:=x g f rfl;have y:=t.mono j (aP (a:=g) (l:=f));rcases ar.1 d with rfl|d
   ·omega
   ·have i:Beg ([g]++f) c:=t.sub (List.sublist_append_right A _)
    have:=i.mono (aO.2 rfl) d;omega
 ·constructor
  ·rintro⟨m,hm,hi⟩
   rcases bD.1 hm with hm|hm
   ·obtain⟨q,d,e⟩:=(r.got k v).1 ⟨m,hm,hi⟩
    exact⟨q,iy _ d,e⟩
   ·rw[aO.1 hm]at hi
    obtain⟨q,d,e⟩:=(o k v).1 hi;exact⟨q,jB _ d,e⟩
  ·rintro⟨q,d,e⟩
   rcases bD.1 d with d|d
   ·obtain⟨m,hm,hi⟩:=(r.got k v).2 ⟨q,d,e⟩
    exact⟨m,iy _ hm,hi⟩
   ·exact⟨n,jB _ (aO.2 rfl),(o k v).2 ⟨q,d,e⟩⟩
theorem Row.done{L:List Bn}{D:List Pr}{a:List UInt8}(r:Row L D [] a):j5 (.ofL L)∧∀k v,uT (.ofL L) k v↔abN D a k v:=by
 refine⟨fc.2 ?_,fun k v=>?_⟩
 ·rw[Fo.to_of];exact⟨r.up,r.can⟩
 ·rw[ja,Fo.to_of];exact r.got k v
end Go.Proofs
namespace Go.Proofs
open Go Go.Lift
theorem Kid.less{W W':Nat→Prop}{h:ad}(hm:∀b,W' b→W b∨h.size≤b){a:Option Addr}{n:Bn}:Kid W h a n→Kid W' h a n
 |⟨b,sl,e1,e2,e3⟩=>⟨b,sl,e1,e2,e3.less hm⟩
theorem Kid.updM{W M:Nat→Prop}{h h':ad}(k:Upd M h h')(hm:∀b,M b→W b∨h.size≤b){a:Option Addr}{n:Bn}:Kid W h a n→Kid W h' a n
 |⟨b,sl,e1,e2,e3⟩=>⟨b,sl,e1,e2,e3.updM k hm⟩
theorem RxL.less{W W':Nat→Prop}{h:ad}(hm:∀b,W' b→W b∨h.size≤b){ks:List (Option Addr)}{L:List Bn}(r:RxL W h ks L):RxL W' h ks L:=⟨r.1,fun p a=>(r.2 p a).less hm⟩
theorem RxL.updM{W M:Nat→Prop}{h h':ad}(k:Upd M h h')(hm:∀b,M b→W b∨h.size≤b){ks:List (Option Addr)}{L:List Bn}(r:RxL W h ks L):RxL W h' ks L:=⟨r.1,fun p a=>(r.2 p a).updM k hm⟩
end Go.Proofs
namespace Go.Proofs
open Go Go.Lift
end Go.Proofs
namespace Go.Proofs
open Go Go.Lift
end Go.Proofs
namespace Go.Proofs
open Go Go.Lift
abbrev Yy:List Value:= [.string (⟨#[]⟩:ByteArray),.string (⟨#[]⟩:ByteArray),.string (⟨#[]⟩:ByteArray),.bool false,.bool false]
theorem ZY{h:ad}{t:TypeId}{c:Ch}{k:ad→Prop}(d:∀h',h'[h.size]? =some (.cells (oX c).toArray t (0,0))→Upd No h h'→k h'):
  At (hnew h Yy t) fun b=>tc b (some (aH h)) 0 (oX c)∧At (ir b (aH h) 0 (oX c)) k:=
 cH fun _ b1 k1=>cS (c:=Yy) (vs:=oX c) b1 rfl fun e b2 a=>d e b2 (k1.own a (av _))
theorem WB{t:TypeId}{M:Nat→Prop}{h:ad}{d:SliceV}{out:List Ch}{c:Ch}{K:SliceV→ad→Prop}(g:OwnS oX 5 t M h d out)(hM:∀b,h.size≤b→M b)(k:out.length+1≤100000000)
  (f:∀s' h',OwnS oX 5 t M h' s' (out++ [c])→Upd M h h'→K s' h'):
  At (hnew h (oX c) t) fun a=>∃xs,SRow a (some (aH h)) (1*5) xs∧AppP (some Yy) 5 56 t d.a d.len d.cap 1 xs a K:=by
 refine cH fun a b1 k1=>?_
 have m:=bB b1;have i:OwnS oX 5 t (fun _=>True) a ⟨some (aH h),1,1⟩ [c]:=⟨rfl,kH,av _,.inr ⟨h.size,[],rfl,trivial,b1,rfl⟩⟩
 refine⟨_,(i.sl (W:=No) fun _ _ _ h=>h).srow,?_⟩
 refine AppP.own (ys:= [c]) (g.upd k1 fun _ _ h=>h) rfl rfl rfl rfl (by omega) (by simp only[bO];omega) (hM _ k1.size) fun s' h' e j=>?_
 exact f s' h' e (k1.wide.tr j)
end Go.Proofs
namespace Go.Proofs
open Go Go.Lift
end Go.Proofs
namespace Go.Proofs
open Go Go.Lift
abbrev b1:ByteArray:=⟨#[49]⟩
abbrev b2:ByteArray:=⟨#[50]⟩
abbrev b3:ByteArray:=⟨#[51]⟩
end Go.Proofs
namespace Go.Proofs
open Go Go.Lift
def look(l:List Pr)(k:ByteArray):Option ByteArray:=(l.find? fun p=>decide (p.1=k)).map (·.2)
theorem Tv{l:List Pr}{k:ByteArray}(h:cG l k=false):look l k=none:=by
 unfold look;rw[Option.map_eq_none_iff,List.find?_eq_none];intro p a;unfold cG at h;rw[List.any_eq_false]at h;exact h p a
theorem Ep:∀{l:List Pr} {k v:ByteArray},fe l→(k,v)∈l→look l k=some v
 |p::l,k,v,a,h=>by
  have a:=cf.1 a;unfold look;rw[sh];rcases ar.1 h with e|h
  ·subst e;simp
  ·have b:p.1≠k:=fun e=>by
    have:=a.1 _ h;simp only at this;rw[e]at this;exact fw _ this
   rw[decide_eq_false b];exact Ep a.2 h
theorem XK{l:List Pr}(c:fe l){k v:ByteArray}(a:cG l k=true→(k,v)∈l)(b:cG l k=false→v=⟨#[]⟩):((look l k).getD ⟨#[]⟩,(look l k).isSome)=(v,cG l k):=by
 cases ht:cG l k with
 |true=>rw[Ep c (a ht)];rfl
 |false=>rw[Tv ht,b ht];rfl
theorem Tu{x:Hs}{lev:Nat}{l:List Pr}{k:ByteArray}:look (part x lev (ck x lev k) l) k=look l k:=by
 unfold look part;congr 1
 rw[List.find?_filter];congr 1
 funext p;by_cases e:p.1=k
 ·rw[e];simp
 ·simp[e]
theorem OG{W:Nat→Prop}{x:Hs}{h:ad}{b:Nat}{l:List Pr}(t:TrieAt W x h 13 b l)(Y:∀y,W y→y<h.size)(V:fe l)(hn:l.length≤1000000)(k:ByteArray){K:ByteArray×Bool→ad→Prop}
  (L:∀h',Upd No h h'→K ((look l k).getD ⟨#[]⟩,(look l k).isSome) h'):HC PG zI [.agg #[.int .u64 x.k0,.int .u64 x.k1,.int .u64 x.mask],.pointer (some ⟨b,0,none⟩),.string k] [.c .str,.c .bool] K h:=by
 refine Pb (x.k0,x.k1,x.mask) (some ⟨b,0,none⟩) k ?_;unfold FT ag nv AZ ic nZ rQ ae AG qg pu;refine cH fun h1 b1 k1=>⟨_,vc b1 0,_,vc b1 1,_,vc b1 2,?_⟩
 refine CV fun h2 U=>?_
 have u:=k1.tr U;refine Lg (.inr ⟨b,rfl,TrieAt.upd0 u t⟩) (fun y Z=>aQ (Y y Z) u.size) fun h3 b3 t3 X _=>?_
 have O:=u.tr X;refine LoopP.ghost (fun(g:Nat×Nat×List Pr) (t:Option Addr×Int) h'=>t=(some ⟨g.2.1,0,none⟩,((13-g.1:Nat):Int))∧g.1≤13∧TrieAt W x h' g.1 g.2.1 g.2.2∧fe g.2.2∧g.2.2.length≤1000000∧look g.2.2 k=look l k∧Upd No h h') (fun g=>g.1) (13,b3,l)
  ⟨rfl,av _,t3,V,hn,rfl,O⟩ ?_
 rintro I ⟨m,c,A⟩ t h4 ⟨rfl,hm,tm,f,z,o,D⟩ S;simp only at hm tm f z o;rcases m with _|m
 ·obtain⟨sp,sk,ow,G,_⟩:=BuckAt.ex tm
  refine kX G (aA.2 (VK tm f (by omega) k fun R v J e1 e2=>?_))
  have:=L R (D.tr J);rw[←o,XK f e1 e2]at this;exact this
 ·obtain⟨s,nd,N⟩:=tm
  have N:∀c,c<32→SlotIs W x h4 m s c (part x (12-m) c A):=N;obtain⟨d,n,sp,sk,ow,G,_⟩:=nd.ex;refine kX G (af.2 ?_);refine Wj (by omega) ?_;rw[show 13-(m+1)=12-m by omega]
  have hi:=H7 x (12-m) k;have q:=N _ hi;have j:look (part x (12-m) (ck x (12-m) k) A) k=look l k:=by rw[Tu,o]
  have w:fe (part x (12-m) (ck x (12-m) k) A):=BD f;have B:(part x (12-m) (ck x (12-m) k) A).length≤1000000:=aU yW z;generalize part x (12-m) (ck x (12-m) k) A=lp at q j w B;generalize ck x (12-m) k=i at hi q;refine Hm nd hi fun R J=>?_
  refine ZX fun C F T=>?_
  have a:=J.tr T;rcases q with⟨H,e1,e2⟩|⟨p,H,e1,e2⟩|⟨_,e1,Q,e2,tk⟩
  ·rw[e1]
   refine af.2 (Gs (nd.upd a fun _ h=>h.elim) hi ?_)
   rw[e2];refine aA.2 ?_;have:=L C (D.tr a);rw[←j,H]at this;exact this
  ·rw[e1]at F⊢
   refine aA.2 ⟨p.1,vc F 0,?_⟩;rw[di];have:=L C (D.tr a);rw[←j,H]at this;by_cases e:p.1=k
   ·rw[decide_eq_true e]
    refine af.2 ⟨p.2,vc F 1,?_⟩;have E:look [p] k=some p.2:=by unfold look;rw[sh,decide_eq_true e];rfl
    rw[E]at this;exact this
   ·rw[decide_eq_false e]
    have E:look [p] k=none:=by unfold look;rw[sh,decide_eq_false e];rfl
    rw[E]at this;exact aA.2 this
  ·rw[e1]
   refine af.2 (Gs (nd.upd a fun _ h=>h.elim) hi ?_)
   rw[e2];refine af.2 ?_;have P:ac .i64 (((13-(m+1):Nat):Int)+1)=((13-m:Nat):Int):=by rw[kO (by omega)];omega
   rw[show 13-(m+1)=12-m by omega]at P
   show I (some ⟨Q,0,none⟩,ac .i64 (((12-m:Nat):Int)+1)) C
   rw[P];exact S (m,Q,lp) _ C ⟨rfl,by simp only;omega,TrieAt.upd0 a tk,w,B,j,D.tr a⟩ (by simp only;omega)
abbrev Sd:=ByteArray×Bool
end Go.Proofs
namespace Go.Proofs
open Go Go.Lift
section
variable {W:Nat→Prop} {h:ad} {vp:Nat} {s:VS}
end
end Go.Proofs
namespace Go.Proofs
open Go Go.Lift
structure NSt(h8:ad)(b:Nat)(t:Tr)(h:ad)(ps ms:List Nat):Prop where
 k:Upd No h8 h
 blk:h[b]? =some (.cells (qf t).toArray cn (0,0))
 gs:∀p∈ps,GraphAt (Il (p+1) p) h (p+1) p [] 1∧h8.size≤p
 mp:∀m∈ms,h[m]? =some (.map #[] 0)∧h8.size≤m
section
variable {h8 h h':ad} {b:Nat} {t:Tr} {ps ms:List Nat}
theorem NSt.upd(n:NSt h8 b t h ps ms)(k:Upd No h h'):NSt h8 b t h' ps ms:=
 ⟨n.k.tr k,k.get0 n.blk,fun p a=>⟨(n.gs p a).1.upd0 k,(n.gs p a).2⟩,fun m hm=>⟨k.get0 (n.mp m hm).1,(n.mp m hm).2⟩⟩
theorem NSt.rds(n:NSt h8 b t h ps ms):aD h (adr ⟨b,0,none⟩ 0)=some (.int .i64 t.1)∧aD h (adr ⟨b,0,none⟩ 1)=some (.int .u64 t.2.1)∧aD h (adr ⟨b,0,none⟩ 2)=some (.int .u64 t.2.2.1)∧aD h (adr ⟨b,0,none⟩ 3)=some (.int .u64 t.2.2.2.1)∧aD h (adr ⟨b,0,none⟩ 4)=some (.pointer t.2.2.2.2.1)∧aD h (adr ⟨b,0,none⟩ 5)=some (.pointer t.2.2.2.2.2):=
 ⟨vc n.blk 0,vc n.blk 1,vc n.blk 2,vc n.blk 3,vc n.blk 4,vc n.blk 5⟩
theorem NSt.map(n:NSt h8 b t h ps ms){k:ad→Prop}(d:∀h',NSt h8 b t h' ps (h.size::ms)→h.size<h'.size→k h'):At (Array.push h (.map #[] 0)) k:=by
 have c:=Upd.push No h (.map #[] 0);have a:=n.upd c;refine bj (d _ ⟨a.k,a.blk,a.gs,fun m hm=>?_⟩ (by simp))
 rcases ar.1 hm with rfl|hm
 ·exact⟨mF h _,n.k.size⟩
 ·exact a.mp m hm
theorem NSt.graph(n:NSt h8 b t h ps ms){K:Option Addr→ad→Prop}(e:∀h',NSt h8 b t h' (h.size::ps) ms→h.size+1<h'.size→K (some ⟨h.size+1,0,none⟩) h'):HC PG dI [] [.c .ptr] K h:=by
 refine XU fun h' d g=>?_
 have a:=n.upd d;refine e h' ⟨a.k,a.blk,fun p c=>?_,a.mp⟩ (g.lt _ (.inl rfl))
 rcases ar.1 c with rfl|c
 ·exact⟨g,n.k.size⟩
 ·exact a.gs p c
theorem NSt.put(n:NSt h8 b t h ps ms){cs:List Value}{ty:TypeId}{k:ad→Prop}(a:∀h',NSt h8 b t h' ps ms→h'[h.size]? =some (.cells cs.toArray ty (0,0))→h8.size≤h.size→k h'):At (hnew h cs ty) k:=
 cH fun h' b' k'=>a h' (n.upd k') b' n.k.size
theorem NSt.done{W:Nat→Prop}{kind:Int}{x:Hs}(n:NSt h8 b t h ps ms)(z:∀y,W y→y<h8.size)(i:TreeIs W h8 kind x t [])(v:kind=0∨kind=1){c p k j f:Nat}{K:Option Addr×Int→ad→Prop}
  (B:∀h' vp gp gm tm bm nm,VaultAt (fun y=>W y∨VS.M ⟨gp,gm,tm,bm,nm,kind,x,t,[],1,[],[],[]⟩ y) h' vp ⟨gp,gm,tm,bm,nm,kind,x,t,[],1,[],[],[]⟩→h8.size≤vp→(∀y,VS.M ⟨gp,gm,tm,bm,nm,kind,x,t,[],1,[],[],[]⟩ y→h8.size≤y)→Upd No h8 h'→K (some ⟨vp,0,none⟩,0) h')
  (F:h[c]? =some (.cells (qf t++ [Value.pointer (some ⟨p+1,0,none⟩),Value.map (some k),Value.map (some j),Value.map (some f)]).toArray cj (0,0)))
  (A:h8.size≤c) (o:∀m∈(p+1)::p::ms,c≠m) (C:p∈ps) (s:k∈ms) (q:j∈ms) (u:f∈ms) (ne: [p+1,p,k,j,f].Nodup):K (some ⟨c,0,none⟩,0) h:=by
 obtain⟨g,D⟩:=n.gs p C;have hM:∀y,VS.M ⟨p+1,p,k,j,f,kind,x,t,[],1,[],[],[]⟩ y→h8.size≤y∧y<h.size∧c≠y:=fun y a=>by
  rcases a with e|e|e|e|e<;>(simp only at e;subst e)
  ·exact⟨by omega,g.lt _ (.inl rfl),o _ (by simp)⟩
  ·exact⟨D,g.lt _ (.inr rfl),o _ (by simp)⟩
  ·exact⟨(n.mp _ s).2,bB (n.mp _ s).1,o _ (by simp[s])⟩
  ·exact⟨(n.mp _ q).2,bB (n.mp _ q).1,o _ (by simp[q])⟩
  ·exact⟨(n.mp _ u).2,bB (n.mp _ u).1,o _ (by simp[u])⟩
 obtain⟨m,hm,w⟩:=g.map;have em:∀{κ β:Type} {E:KeyE κ} {g:β→Value} {r:Nat},h[r]? =some (.map #[] 0)→MapAt E g h r []:=fun w=>⟨[],0,⟨w,p5,p5,fun _ h=>by cases h⟩,rfl⟩
 refine B h c (p+1) p k j f ⟨F,⟨g.blk,⟨m,hm,fun id=>(w id).elim (fun⟨_,_,_,e,_⟩=>by cases e) .inr⟩,.inr (.inl rfl),.inr (.inr (.inl rfl)),fun y a=>a.elim (fun e=>aQ (z y e) n.k.size) fun e=>(hM y e).2.1,g.nd⟩,em (n.mp _ s).1,em (n.mp _ q).1,em (n.mp _ u).1,fun y a=>.inr a,fun a=>a.elim (fun e=>by have:=z _ e;omega) fun e=>(hM _ e).2.2 rfl,ne,?_,fun d hd=>(by cases hd),fun id=>AE,Inv.nil,v⟩ A (fun y a=>(hM y a).1) n.k
 exact(i.less fun y a=>a.imp id fun e=>(hM y e).1).upd0 n.k
end
theorem Xa{W:Nat→Prop}{h:ad}(s:∀y,W y→y<h.size){kind:Int}(m:kind=0∨kind=1){x:Hs}{K:Option Addr×Int→ad→Prop}
  (w:∀h' d gp gm tm bm nm t,VaultAt (fun y=>W y∨VS.M ⟨gp,gm,tm,bm,nm,kind,x,t,[],1,[],[],[]⟩ y) h' d ⟨gp,gm,tm,bm,nm,kind,x,t,[],1,[],[],[]⟩→h.size≤d→(∀y,VS.M ⟨gp,gm,tm,bm,nm,kind,x,t,[],1,[],[],[]⟩ y→h.size≤y)→Upd No h h'→K (some ⟨d,0,none⟩,0) h'):
  HC PG zq [.int .i64 kind,.agg #[.int .u64 x.k0,.int .u64 x.k1,.int .u64 x.mask]] [.c .ptr,.c (.int .i64)] K h:=by
 refine OM kind (x.k0,x.k1,x.mask) ?_;unfold Fv ao nv rQ ae AG aq qo m6;refine cH fun H b1 k1=>⟨_,vc b1 0,_,vc b1 1,_,vc b1 2,?_⟩
 refine Xi (W:=W) (x:=x) (fun y b=>aQ (s y b) k1.size) m fun B t i u=>?_
 have j:=k1.tr u;refine cH fun I A o=>cS (c:=qf D4) (vs:=qf t) A rfl fun g f k=>af.2 ?_
 have a:Upd No h g:=(j.tr o).own k j.size;have E:TreeIs W g kind x t []:=((i.less (W':=fun y=>W y∨y=B.size) fun y b=>b.imp id fun e=>Nat.le_of_eq e.symm).updM (o.wide.tr (k.mono fun _ e=>.inl (.inr e))) fun y b=>.inl b).less fun y b=>.inl (.inl b)
 have p:∀y,W y→y<g.size:=fun y b=>aQ (s y b) a.size
 have q:∀h' d gp gm tm bm nm,VaultAt (fun y=>W y∨VS.M ⟨gp,gm,tm,bm,nm,kind,x,t,[],1,[],[],[]⟩ y) h' d ⟨gp,gm,tm,bm,nm,kind,x,t,[],1,[],[],[]⟩→g.size≤d→(∀y,VS.M ⟨gp,gm,tm,bm,nm,kind,x,t,[],1,[],[],[]⟩ y→g.size≤y)→Upd No g h'→K (some ⟨d,0,none⟩,0) h':=
  fun h' d gp gm tm bm nm v F hM G=>w h' d gp gm tm bm nm t v (aU a.size F) (fun y b=>aU a.size (hM y b)) (a.tr G)
 have n:NSt g B.size t g [] []:=⟨Upd.refl _ _,f,fun _ h=>(by cases h),fun _ h=>(by cases h)⟩
 refine⟨_,vc f 0,_,vc f 1,_,vc f 2,_,vc f 3,_,vc f 4,_,vc f 5,?_⟩;clear w a s f k j i u o A b1 k1;repeat' first
  |refine⟨n.rds,?_⟩
  |refine n.graph fun _ n z=>?_
  |refine n.map fun _ n z=>?_
  |refine n.put fun _ n D C=>?_
  |exact n.done p E m q D C (by simp;omega) (by simp) (by simp) (by simp) (by simp) (by simp;omega)
  |refine And.intro ?_ ?_
end Go.Proofs
namespace Go.Proofs
open Go Go.Lift
end Go.Proofs
namespace Go.Proofs
open Go Go.Lift
end Go.Proofs
namespace Go.Proofs
open Go Go.Lift
theorem XH{α:Type}{l:List α}{i:Nat}{a b:α}(h:b∈l.set i a):b=a∨∃j,j≠i∧l[j]? =some b:=by
 obtain⟨j,c⟩:=List.getElem?_of_mem h;rw[List.getElem?_set]at c;split at c
 ·split at c
  ·cases c;exact .inl rfl
  ·cases c
 ·exact .inr ⟨j,by omega,c⟩
def sb(s:SliceV)(y:Nat):Prop:=s.cap≠0∧∃a,s.a=some a∧y=a.block
section
variable {α:Type} {f:α→List Value} {sz:Nat} {ty:TypeId} {M:Nat→Prop} {h:ad} {s so:SliceV} {xs out:List α}
theorem _root_.Go.Lift.OwnS.sub(o:OwnS f sz ty M h s xs):∀y,sb s y→M y∧y<h.size:=fun y ⟨hc,a,g,c⟩=>by
 rcases o.blk with j|⟨b,d,e,hm,i,_⟩
 ·exact absurd j hc
 ·rw[g]at e
  cases e;exact⟨c▸hm,c▸bB i⟩
theorem _root_.Go.Lift.OwnS.its(o:OwnS f sz ty M h s xs):OwnS f sz ty (sb s) h s xs:=by
 refine⟨o.len,o.ne,o.cap,?_⟩;by_cases hc:s.cap=0
 ·exact .inl hc
 ·rcases o.blk with e|⟨b,a,c,hm,d,g⟩
  ·exact absurd e hc
  ·exact .inr ⟨b,a,c,⟨hc,_,c,rfl⟩,d,g⟩
theorem Lj{a:Option Addr}{n:Nat}:∀y,¬sb ⟨a,n,0⟩ y:=fun _ h=>h.1 rfl
theorem _root_.Go.Lift.OwnS.one{x:α}{b:Nat}(a:∀x,(f x).length=sz∧0<sz)(c:h[b]? =some (.cells (f x).toArray ty (0,0))):OwnS f sz ty (sb ⟨some ⟨b,0,none⟩,1,1⟩) h ⟨some ⟨b,0,none⟩,1,1⟩ [x]:=
 ⟨rfl,a,av _,.inr ⟨b,[],rfl,⟨by simp,_,rfl,rfl⟩,by simpa using c,by simp⟩⟩
theorem Zm{a:Nat}{z:List Value}{t:α}{b:Nat}{K:SliceV→ad→Prop}(i:OwnS f sz ty (sb so) h so out)(o:h[b]? =some (.cells (f t).toArray ty (0,0))) (e:cx (f t)=true) (k:z.length=sz) (c:0<a∧a≤64) (m:out.length+1≤1000000)
  (j:∀s' h',OwnS f sz ty (sb s') h' s' (out++ [t])→Upd (sb so) h h'→(∀y,sb s' y→(sb so y∨h.size≤y)∧y<h'.size)→K s' h'):
  ∃xs,SRow h (some ⟨b,0,none⟩) (1*sz) xs∧AppP (some z) sz a ty so.a so.len so.cap 1 xs h K:=by
 refine⟨_,((OwnS.one i.ne o).sl (W:=No) fun _ _ _ h=>h).srow,?_⟩
 refine AppP.own (M:=fun y=>sb so y∨h.size≤y) (ys:= [t]) (i.more fun y g=>.inl g) rfl rfl (by simpa using e) k c.1 ?_ (.inr (av _)) fun s' h' d n=>j s' h' d.its (n.mono fun y g=>g) d.sub
 simp only[bO];calc (out.length+1)*a≤1000000*64:=Nat.mul_le_mul m c.2
  _≤140737488355328:=by omega
end
structure Sp where
 T:Nat→Prop
 Q:ad→Prop
 loc:∀{M:Nat→Prop} {h h':ad},Q h→Upd M h h'→(∀y,T y→¬M y)→Q h'
def Wn(b:Nat)(cs:List Value)(t:TypeId):Sp:=⟨(· =b),fun h=>h[b]? =some (.cells cs.toArray t (0,0)),fun q k a=>k.get q (a _ rfl)⟩
def Bz{α:Type}(f:α→List Value)(b:Nat)(ty:TypeId)(s:SliceV)(xs:List α):Sp:=⟨sb s,fun h=>OwnS f b ty (sb s) h s xs,fun q k a=>q.upd k a⟩
def AL(Ss:List Sp)(y:Nat):Prop:=∃s∈Ss,s.T y
structure Own(Ss:List Sp)(h:ad):Prop where
 q:∀s∈Ss,s.Q h
 lt:∀s∈Ss,∀y,s.T y→y<h.size
 pd:∀(i j:Nat) (a b:Sp),Ss[i]? =some a→Ss[j]? =some b→i≠j→∀y,a.T y→¬b.T y
section
variable {Ss:List Sp} {h h':ad} {M:Nat→Prop} {s s':Sp} {i:Nat}
theorem Own.get(o:Own Ss h)(hi:Ss[i]? =some s):s.Q h:=o.q s (bf hi)
theorem Own.away(o:Own Ss h)(k:Upd M h h')(hm:∀y,AL Ss y→¬M y):Own Ss h':=
 ⟨fun s a=>s.loc (o.q s a) k fun y b=>hm y ⟨s,a,b⟩,fun s a y b=>aQ (o.lt s a y b) k.size,o.pd⟩
theorem Own.nil:Own [] h:=⟨(fun _ h=>by cases h),(fun _ h=>by cases h),(fun i j a b h=>by simp at h)⟩
theorem Own.set(o:Own Ss h)(hi:Ss[i]? =some s) (k:Upd M h h') (hm:∀y,M y→s.T y∨h.size≤y) (q:s'.Q h') (w:∀y,s'.T y→(s.T y∨h.size≤y)∧y<h'.size):Own (Ss.set i s') h':=by
 have z:i<Ss.length:=(aZ.1 hi).1;have val:∀{j:Nat} {a:Sp},(Ss.set i s')[j]? =some a→(j=i∧a=s')∨(j≠i∧Ss[j]? =some a):=fun{j a} c=>by
  by_cases e:j=i
  ·subst e;rw[List.getElem?_set_self z]at c;cases c;exact .inl ⟨rfl,rfl⟩
  ·rw[List.getElem?_set_ne (Ne.symm e)]at c;exact .inr ⟨e,c⟩
 have one:∀{j:Nat} {a:Sp},j≠i→Ss[j]? =some a→∀y,a.T y→¬s'.T y:=fun{j a} f c y d h'=>
  (w y h').1.elim (o.pd j i a s c hi f y d) fun h=>by have:=o.lt a (bf c) y d;omega
 refine⟨fun a c=>?_,fun a c y d=>?_,fun p j a b c A m y d g=>?_⟩
 ·obtain⟨j,f⟩:=List.getElem?_of_mem c
  rcases val f with⟨_,rfl⟩|⟨x,f⟩
  ·exact q
  ·refine a.loc (o.get f) k fun y d hM=>?_
   rcases hm y hM with h|h
   ·exact o.pd j i a s f hi x y d h
   ·have:=o.lt a (bf f) y d;omega
 ·obtain⟨j,f⟩:=List.getElem?_of_mem c
  rcases val f with⟨_,rfl⟩|⟨x,f⟩
  ·exact(w y d).2
  ·exact aQ (o.lt a (bf f) y d) k.size
 ·rcases val c with⟨t,rfl⟩|⟨t,u⟩<;>rcases val A with⟨n,rfl⟩|⟨n,v⟩
  ·exact m (t.trans n.symm)
  ·exact one n v y g d
  ·exact one t u y d g
  ·exact o.pd p j a b u v m y d g
theorem Own.push(o:Own Ss h)(k:Upd No h h')(q:s'.Q h')(g:∀y,s'.T y→h.size≤y∧y<h'.size):Own (Ss++ [s']) h':=by
 have val:∀{j:Nat} {a:Sp},(Ss++ [s'])[j]? =some a→(j=Ss.length∧a=s')∨Ss[j]? =some a:=fun{j a} c=>by
  rw[List.getElem?_append]at c;split at c
  ·exact .inr c
  ·have:j-Ss.length=0:=by have:=(aZ.1 c).1;simp only[bO]at this;omega
   rw[this]at c;cases c;exact .inl ⟨by omega,rfl⟩
 have mem:∀{a},a∈Ss++ [s']→a∈Ss∨a=s':=fun h=>(bD.1 h).imp id aO.1
 refine⟨fun a c=>?_,fun a c y e=>?_,fun p j a b c n f y e d=>?_⟩
 ·rcases mem c with c|rfl
  ·exact a.loc (o.q a c) k fun _ _ h=>h
  ·exact q
 ·rcases mem c with c|rfl
  ·exact aQ (o.lt a c y e) k.size
  ·exact(g y e).2
 ·rcases val c with⟨t,rfl⟩|i<;>rcases val n with⟨s,rfl⟩|m
  ·omega
  ·have:=o.lt b (bf m) y d;have:=(g y e).1;omega
  ·have:=o.lt a (bf i) y e;have:=(g y d).1;omega
  ·exact o.pd p j a b i m f y e d
theorem Zp(hi:Ss[i]? =some s) {z:Nat} (e:∀y,s'.T y→s.T y∨z≤y):∀y,AL (Ss.set i s') y→AL Ss y∨z≤y:=fun y ⟨a,c,b⟩=>by
 rcases XH c with rfl|⟨j,_,d⟩
 ·exact(e y b).imp (fun h=>⟨s,bf hi,h⟩) id
 ·exact .inl ⟨a,bf d,b⟩
end
theorem GraphAt.re{W W' M:Nat→Prop}{h h':ad}{gp gm:Nat}{L:hG}{nx:Int}(g:GraphAt W h gp gm L nx)(k:Upd M h h')(hm:∀b,M b→(W b∧b≠gp∧b≠gm)∨h.size≤b)(i:∀b,W' b→(W b∨h.size≤b)∧b<h'.size)(d:W' gp)(c:W' gm):GraphAt W' h' gp gm L nx:=by
 have n:=g.upd k hm;obtain⟨m,f,q⟩:=g.map;refine⟨n.blk,⟨m,f.upd k fun e=>(hm _ e).elim (fun e=>e.2.2 rfl) fun e=>absurd (g.lt _ g.wm) (jr.2 e),fun j=>?_⟩,d,c,fun b a=>(i b a).2,g.nd⟩
 rcases q j with⟨s,ps,d,c,p⟩|o
 ·exact .inl ⟨s,ps,d,c,((p.less (W':=fun b=>W b∨h.size≤b) fun b a=>a).upd k fun b a=>.inl ((hm b a).imp (·.1) id)).less fun b a=>.inl (i b a).1⟩
 ·exact .inr o
theorem TreeIs.re{W W' M:Nat→Prop}{h h':ad}{kind:Int}{x:Hs}{t:Tr}{l:List Pr}(i:TreeIs W h kind x t l)(k:Upd M h h')(hm:∀b,M b→W b∨h.size≤b)(c:∀b,W' b→W b∨h.size≤b):TreeIs W' h' kind x t l:=
 ((i.less (W':=fun b=>W b∨h.size≤b) fun _ a=>a).updM k fun b a=>.inl (hm b a)).less fun b a=>.inl (c b a)
theorem VaultAt.re{W W' M:Nat→Prop}{h h':ad}{j:Nat}{s:VS}(v:VaultAt W h j s)(k:Upd M h h')(hm:∀b,M b→(W b∧¬s.M b)∨h.size≤b)(m:∀b,W' b→(W b∨h.size≤b)∧b<h'.size)(hM:∀y,s.M y→W' y):VaultAt W' h' j s:=by
 have g:=v.upd k hm;have c:∀b,M b→W b∨h.size≤b:=fun b f=>(hm b f).imp (·.1) id
 have a:∀b,W' b→W b∨h.size≤b:=fun b f=>(m b f).1
 exact⟨g.blk,v.g.re k (fun b f=>(hm b f).imp (fun e=>⟨e.1,fun i=>e.2 (.inl i),fun i=>e.2 (.inr (.inl i))⟩) id) m (hM _ (.inl rfl)) (hM _ (.inr (.inl rfl))),g.t,g.b,g.n,hM,fun n=>(a _ n).elim v.wv fun e=>absurd (bB v.blk) (by omega),v.ne,v.em.re k c a,fun d hd=>⟨(v.ts d hd).1.re k c a,(v.ts d hd).2⟩,v.sub,v.inv,v.kd⟩
structure Vw(Ss:List Sp)(h:ad)(vp:Nat)(s:VS):Prop where
 own:Own Ss h
 v:VaultAt (fun y=>s.M y∨AL Ss y) h vp s
 ap:∀y,AL Ss y→¬s.M y
section
variable {Ss:List Sp} {h h':ad} {vp:Nat} {s:VS} {p p':Sp} {i:Nat} {M:Nat→Prop}
theorem Vw.up0(w:Vw Ss h vp s)(k:Upd No h h'):Vw Ss h' vp s:=⟨w.own.away k fun _ _ h=>h,w.v.upd0 k,w.ap⟩
theorem Vw.lt(w:Vw Ss h vp s):∀y,(s.M y∨AL Ss y)→y<h.size:=w.v.g.lt
theorem Vw.set(w:Vw Ss h vp s)(hi:Ss[i]? =some p) (k:Upd M h h') (hm:∀y,M y→p.T y∨h.size≤y) (q:p'.Q h') (d:∀y,p'.T y→(p.T y∨h.size≤y)∧y<h'.size):Vw (Ss.set i p') h' vp s:=by
 have o:=w.own.set hi k hm q d;have f:=Zp hi (z:=h.size) fun y b=>(d y b).1
 have c:∀y,p.T y→AL Ss y:=fun y b=>⟨p,bf hi,b⟩
 refine⟨o,w.v.re k (fun y b=>(hm y b).imp (fun e=>⟨.inr (c y e),w.ap y (c y e)⟩) id) (fun y b=>?_) fun y b=>.inl b,fun y b hM=>(f y b).elim (fun e=>w.ap y e hM) fun e=>absurd (w.lt y (.inl hM)) (jr.2 e)⟩
 rcases b with b|b
 ·exact⟨.inl (.inl b),aQ (w.lt y (.inl b)) k.size⟩
 ·exact⟨(f y b).imp .inr id,let⟨a,g,b⟩:=b;o.lt a g y b⟩
theorem Vw.push(w:Vw Ss h vp s)(k:Upd No h h')(q:p'.Q h')(f:∀y,p'.T y→h.size≤y∧y<h'.size):Vw (Ss++ [p']) h' vp s:=by
 have o:=w.own.push k q f;have d:∀y,AL (Ss++ [p']) y→AL Ss y∨h.size≤y:=fun y ⟨a,c,b⟩=>by
  rcases bD.1 c with c|c
  ·exact .inl ⟨a,c,b⟩
  ·rw[aO.1 c]at b;exact .inr (f y b).1
 refine⟨o,w.v.re k (fun _ h=>h.elim) (fun y b=>?_) fun y b=>.inl b,fun y b hM=>(d y b).elim (fun e=>w.ap y e hM) fun e=>absurd (w.lt y (.inl hM)) (jr.2 e)⟩
 rcases b with b|b
 ·exact⟨.inl (.inl b),aQ (w.lt y (.inl b)) k.size⟩
 ·exact⟨(d y b).imp .inr id,let⟨a,c,b⟩:=b;o.lt a c y b⟩
theorem Vw.cell(w:Vw Ss h vp s){b:Nat}{cs a:List Value}{t c:TypeId}(hi:Ss[i]? =some (Wn b cs t)) (k:Upd (· =b) h h') (q:h'[b]? =some (.cells a.toArray c (0,0))):Vw (Ss.set i (Wn b a c)) h' vp s:=
 w.set (p':=Wn b a c) hi k (fun _ h=>.inl h) q fun y d=>⟨.inl d,(show y=b from d)▸bB q⟩
theorem Vw.slice(w:Vw Ss h vp s){α:Type}{f:α→List Value}{b:Nat}{ty:TypeId}{c a:SliceV}{xs ys:List α}(hi:Ss[i]? =some (Bz f b ty c xs)) (k:Upd (sb c) h h') (q:OwnS f b ty (sb a) h' a ys) (d:∀y,sb a y→(sb c y∨h.size≤y)∧y<h'.size):Vw (Ss.set i (Bz f b ty a ys)) h' vp s:=
 w.set (p':=Bz f b ty a ys) hi k (fun _ h=>.inl h) q d
theorem Vw.ed(w:Vw Ss h vp s){s':VS}(k:Upd s.M h h')(v:VaultAt (fun y=>s.M y∨AL Ss y) h' vp s')(e:s'.M=s.M):Vw Ss h' vp s':=
 ⟨w.own.away k fun y a=>w.ap y a,by rw[e];exact v,fun y a=>by rw[e];exact w.ap y a⟩
end
end Go.Proofs
namespace Go.Proofs
open Go Go.Lift
def pq(k:ByteArray)(l:List Pr):List Pr:=l.filter fun q=>decide (q.1≠k)
theorem Ax(k:ByteArray)(q:Pr)(l:List Pr):pq k (q::l)=if q.1=k then pq k l else q::pq k l:=by
 unfold pq;rw[List.filter_cons];by_cases h:q.1=k
 ·rw[if_pos h,if_neg (by simpa using h)]
 ·rw[if_neg h,if_pos (by simpa using h)]
theorem BT{k:ByteArray}{l:List Pr}(h:∀q∈l,q.1≠k):pq k l=l:=kr.2 fun q a=>decide_eq_true (h q a)
theorem GR{k:ByteArray}{l:List Pr}(h:cG l k=false):∀q∈l,q.1≠k:=fun q a e=>by
 have:cG l k=true:=cp.2 ⟨q,a,decide_eq_true e⟩;rw[h]at this;cases this
theorem NU{k:ByteArray}{l:List Pr}(h:∀q∈l,q.1≠k):cG l k=false:=by
 rcases ht:cG l k with _|_
 ·rfl
 ·obtain⟨q,a,e⟩:=cp.1 ht
  exact absurd (of_decide_eq_true e) (h q a)
theorem R9{k:ByteArray}{l:List Pr}{p:Pr}:p∈pq k l↔p∈l∧p.1≠k:=by unfold pq;rw[dR,decide_eq_true_iff]
theorem Ze{k:ByteArray}{l:List Pr}:(pq k l).length≤l.length:=gR ..
theorem Si{k:ByteArray}:∀{l:List Pr},fe l→l.length≤(pq k l).length+1
 | [],_=>aV _
 |q::l,a=>by
  have a:=cf.1 a;rw[Ax];by_cases h:q.1=k
  ·rw[if_pos h,BT fun r hm e=>by have:=a.1 r hm;rw[h,e]at this;exact fw _ this];exact av _
  ·rw[if_neg h]
   have:=Si (k:=k) a.2;simp only[ay];omega
theorem Sj(k:ByteArray):∀{l:List Pr},fe l→TN l k=pq k l
 | [],_=>by simp[TN,pq,cG]
 |q::l,c=>by
  have j:=c;have c:=cf.1 c;have b:pos (q::l) k=if kl q.1 k then pos l k+1 else 0:=by
   unfold pos;rw[List.takeWhile_cons];by_cases h:kl q.1 k
   ·rw[if_pos (by simpa using h),if_pos h];rfl
   ·rw[if_neg (by simpa using h),if_neg h];rfl
  have f:cG (q::l) k=(decide (q.1=k)||cG l k):=by unfold cG;rw[qV]
  by_cases h:kl q.1 k
  ·have d:q.1≠k:=fun e=>by rw[e]at h;exact fw _ h
   rw[Ax,if_neg d,←Sj k c.2];unfold TN;rw[f,b,if_pos h,decide_eq_false d,Bool.false_or];by_cases g:cG l k=true
   ·rw[if_pos g,if_pos g];rfl
   ·rw[if_neg g,if_neg g]
  ·by_cases e:q.1=k
   ·have a:∀r∈l,r.1≠k:=fun r hm e2=>by have:=c.1 r hm;rw[e,e2]at this;exact fw _ this
    rw[Ax,if_pos e,BT a];unfold TN;rw[f,b,if_neg h,decide_eq_true e,Bool.true_or,if_pos rfl];rfl
   ·have i:=Hv h e
    have a:∀r∈q::l,r.1≠k:=fun r hm e2=>by
     rcases ar.1 hm with rfl|hm
     ·exact e e2
     ·have:=c.1 r hm
      rw[e2]at this;exact fw _ (rk i this)
    rw[BT a];unfold TN;rw[NU a];rfl
theorem NJ{x:Hs}{lev c:Nat}{k:ByteArray}{l:List Pr}:part x lev c (pq k l)=pq k (part x lev c l):=by
 unfold part pq;rw[List.filter_filter,List.filter_filter];exact List.filter_congr fun p _=>Bool.and_comm ..
theorem Th{x:Hs}{lev c:Nat}{k:ByteArray}{l:List Pr}(h:c≠ck x lev k):part x lev c (pq k l)=part x lev c l:=by
 rw[NJ];exact BT fun q a e=>h (by rw[←e];exact(tD.1 a).2.symm)
theorem PJ{W:Nat→Prop}{x:Hs}{h h':ad}{m b':Nat}{s s':Slots}{l:List Pr}{k:ByteArray}(d:Upd No h h')(nd:NodeAt W h' b' s')(b:∀c,c<32→SlotIs W x h m s c (part x (12-m) c l))
  (a:∀c,c≠ck x (12-m) k→s'.p c=s.p c∧s'.k c=s.k c)(hi:SlotIs W x h' m s' (ck x (12-m) k) (pq k (part x (12-m) (ck x (12-m) k) l))):TrieAt W x h' (m+1) b' (pq k l):=by
 refine⟨s',nd,fun c hc=>?_⟩
 by_cases e:ck x (12-m) k=c
 ·rw[NJ];subst e;exact hi
 ·rw[Th fun h=>e h.symm]
  have t:=SlotIs.upd0 d (b c hc);obtain⟨e1,e2⟩:=a c fun h=>e h.symm
  unfold SlotIs at t;rw[←e1,←e2]at t;exact t
theorem Sf{β:Type}(g:Nat→Option β):∀n,(fm g n).length=((List.range n).map fun c=>(g c).toList.length).sum
 |0=>rfl
 |n+1=>by
  rw[XY,aj,Sf g n,List.range_succ,List.map_append,List.sum_append];simp
theorem Nf{x:Hs}{lev:Nat}{l:List Pr}(h:∀c,c<32→(part x lev c l).length≤1):(Cy x lev l).length=l.length:=by
 unfold Cy;rw[Sf];have e:=El x lev l 32;have e2:(l.filter fun p=>decide (ck x lev p.1<32))=l:=kr.2 fun p _=>decide_eq_true (H7 x lev p.1)
 rw[e2]at e;rw[←e];refine congrArg List.sum (List.map_congr_left fun c hc=>?_)
 have:=h c (js.1 hc);match hp:part x lev c l with
 | []=>rfl
 | [p]=>rfl
 |a::b::r=>rw[hp]at this;simp at this
theorem PK{W:Nat→Prop}{x:Hs}{h:ad}{m b:Nat}{l:List Pr}(t:TrieAt W x h m b l)(D:l.length≤1000000):
  ∃d n sp sk bu ow lp lk,h[b]? =some (.cells (ge d n sp sk bu ow) bH (0,0))∧Sl iZ 2 W h sp lp∧Sl uB 1 W h sk lk∧lp.length≤1000000∧lk.length≤32∧(lp.length+lk.length=1∧n=0↔l.length=1)∧∀p,l= [p]→lp= [p]:=by
 cases m with
 |zero=>
  obtain⟨sp,sk,ow,B,a,j,_⟩:=BuckAt.ex t;exact⟨0,0,sp,sk,true,ow,l,[],B,a,j,D,by simp,by simp,fun p e=>e⟩
 |succ m=>
  obtain⟨s,nd,k⟩:=t;have k:∀c,c<32→SlotIs W x h m s c (part x (12-m) c l):=k;obtain⟨d,n,sp,sk,ow,B,bits,a,j,_⟩:=nd.ex;have o:=Xm k;have C:=Fh (g:=s.p);refine⟨d,n,sp,sk,false,ow,_,_,B,a,j,by omega,Fh,?_,?_⟩
  ·by_cases u:∀c,c<32→s.k c=none
   ·have A:n=0:=Nat.eq_of_testBit_eq fun c=>by
     rw[nD];by_cases hc:c<32
     ·rw[bits.nk c hc,u c hc];rfl
     ·exact Nat.testBit_lt_two_pow (aQ bits.n32 (Nat.pow_le_pow_right (n:=2) (by omega) (by omega:32≤c)))
    have ek:fm s.k 32= []:=by
     unfold fm;rw[List.filterMap_eq_nil_iff];exact fun c hc=>u c (js.1 hc)
    have w:(fm s.p 32).length=l.length:=by
     rw[o];refine Nf fun c hc=>?_
     rcases k c hc with⟨i,_⟩|⟨p,i,_⟩|⟨_,_,E,v,_⟩
     ·rw[i];simp
     ·rw[i];simp
     ·rw[u c hc]at v;cases v
    rw[ek,w,A];simp
   ·obtain⟨c,hc⟩:=Classical.not_forall.1 u
    obtain⟨hc,f⟩:=Classical.not_imp.1 hc;have z:n≠0:=fun A=>by
     have:=bits.nk c hc;rw[A,nD]at this;cases hkk:s.k c with
     |none=>exact f hkk
     |some y=>rw[hkk]at this;cases this
    rcases k c hc with⟨_,_,i⟩|⟨p,_,_,i⟩|⟨v,_⟩
    ·exact absurd i f
    ·exact absurd i f
    ·have:=yW (x:=x) (lev:=12-m) (c:=c) (l:=l)
     constructor
     ·rintro⟨_,e⟩;exact absurd e z
     ·intro e;omega
  ·rintro p rfl
   rw[o];have hc:=H7 x (12-m) p.1;have w:(Cy x (12-m) [p]).length=1:=Nf fun c _=>aU yW (by simp)
   match hq:Cy x (12-m) [p],w with
   | [q],_=>
    have:q∈Cy x (12-m) [p]:=by rw[hq];exact aO.2 rfl
    rw[aO.1 (Ts this)]
theorem XF{h:ad}{b d n:Nat}{sp sk:SliceV}{f:Bool}{ow:Option Addr}(a:h[b]? =some (.cells (ge d n sp sk f ow) bH (0,0))) (g:sp.len+sk.len≤1000000000) {K:Int→ad→Prop} (c:K ((sp.len+sk.len:Nat):Int) h):HC PG rX [.pointer (some ⟨b,0,none⟩)] [.c (.int .i64)] K h:=by
 refine Gd _ ?_;unfold yz bW;refine af.2 ⟨_,rfl,sp,eR (i:=2) a,_,rfl,sk,eR (i:=3) a,?_⟩;have e:ac .i64 ((sp.len:Int)+(sk.len:Int))=((sp.len+sk.len:Nat):Int):=by rw[kO (by omega)];omega
 rw[e];exact c
theorem WH{W:Nat→Prop}{x:Hs}{h:ad}{m b:Nat}{l:List Pr}(t:TrieAt W x h m b l)(I:l.length≤1000000){K:Pr×Bool→ad→Prop}
  (u:∀h' p,Upd No h h'→(l.length=1→l= [p])→K (p,decide (l.length=1)) h'):HC PG vR [.pointer (some ⟨b,0,none⟩)] [.agg [.str,.str],.c .bool] K h:=by
 refine Jz _ ?_;unfold Bo cU ag eX bL ic eu;refine cH fun E b1 k1=>?_
 have H:=TrieAt.upd0 k1 t;obtain⟨d,n,sp,sk,L,ow,Q,lk,v,k,z,D,F,c,f⟩:=PK H I;have O:=k.len;have N:=z.len;refine Join.intro (fun t h'=>t= !decide (l.length=1)∧h'=E) (fun R B=>?_) ?_
 ·refine XF v (by omega) ?_
  by_cases e:sp.len+sk.len=1
  ·have e2:((sp.len+sk.len:Nat):Int)=1:=by omega
   rw[e2];refine af.2 (NT v (B _ _ ⟨?_,rfl⟩));by_cases A:n=0
   ·rw[decide_eq_true (c.1 ⟨by omega,A⟩),A];rfl
   ·rw[decide_eq_false fun h=>A (c.2 h).2]
    exact bne_iff_ne.2 (by omega)
  ·have e2:(((sp.len+sk.len:Nat):Int) !=(1:Int))=true:=bne_iff_ne.2 (by omega)
   rw[e2];refine aA.2 (B _ _ ⟨?_,rfl⟩);rw[decide_eq_false fun h=>e (by have:=(c.2 h).1;omega)];rfl
 ·rintro _ h' ⟨rfl,rfl⟩
  have o:h'[h.size]? =some (.cells #[.string Rz.1,.string Rz.2] ax (0,0)):=b1;by_cases e:l.length=1
  ·rw[decide_eq_true e]
   refine af.2 ?_;refine NN v k (by omega) fun P J q s=>?_
   match l,e,f with
   | [p],e,f=>
    have w:=f p rfl;subst w;have j:=q.len;obtain⟨a,G,_,C⟩:=(q.sl (W:=No) fun _ _ _ h=>h).at (i:=0) (x:=p) rfl
    refine⟨⟨by omega,by simp at j;omega⟩,a,G,p.1,C 0 _ rfl,p.2,C 1 _ rfl,?_⟩
    refine Hf (p:=p) (s.get0 o) fun y b3 g=>⟨_,vc b3 0,_,vc b3 1,?_⟩
    have:=u y p ((k1.tr s).own g (av _)) fun _=>rfl
    exact this
  ·have:=u
   rw[decide_eq_false e];rw[decide_eq_false e]at u;refine aA.2 (Hf (p:=Rz) o fun y b3 g=>⟨_,vc b3 0,_,vc b3 1,?_⟩)
   exact u y _ (k1.own g (av _)) fun h=>absurd h e
end Go.Proofs
namespace Go.Proofs
open Go Go.Lift
theorem NO{h:ad}{s:SliceV}{l:List Pr}(f:Sl iZ 2 No h s l)(hc:s.len≤s.cap)(n:fe l)(H:l.length≤1000000000)(k:ByteArray)
  {K:SliceV→ad→Prop}(u:∀s' h',OwnS iZ 2 ax (fun b=>h.size≤b) h' s' (pq k l)→Upd No h h'→K s' h'):HC PG zC [.slice s.a s.len s.cap,.string k] [.c .slice] K h:=by
 refine O2 s k ?_;unfold FJ FX;have c:=f.len;refine L0 f n H k fun g a=>?_
 have F:=Vp l k;cases ht:cG l k with
 |false=>
  refine aA.2 (Ay (f.upd a fun _ h=>h.elim) (by omega) fun I L w t=>?_)
  rw[BT (GR ht)]at u;exact u _ _ (w.more fun b q=>aU a.size q) (a.tr t)
 |true=>
  obtain⟨C,_⟩:=Ly n ht;have B:ac .i64 ((pos l k:Int)+1)=((pos l k+1:Nat):Int):=by rw[kO (by omega)];omega
  refine af.2 ?_;simp only;rw[B];refine⟨by omega,by omega,?_⟩
  simp only[Bd,Int.toNat_natCast];refine bj ?_;have d:=f.upd a fun _ h=>h.elim
  have p:=Upd.hnew No g [.slice (aY s.a 0 s.cap 2) (pos l k-0) (s.cap-0),.slice (aY s.a (pos l k+1) s.cap 2) (s.len-(pos l k+1)) (s.cap-(pos l k+1))] eG;have D:=bI g [.slice (aY s.a 0 s.cap 2) (pos l k-0) (s.cap-0),.slice (aY s.a (pos l k+1) s.cap 2) (s.len-(pos l k+1)) (s.cap-(pos l k+1))] eG;have z:=Lh d (i:=0) (j:=pos l k) (m:=s.cap) (aV _) F (by omega) (s.cap-0)
  have y:=Lh d (i:=pos l k+1) (j:=l.length) (m:=s.cap) (by omega) (av _) (by omega) (s.cap-(pos l k+1));rw[←c]at y;rw[List.drop_zero]at z;rw[List.take_of_length_le (by rw[aS];omega)]at y;have G:pq k l= [l.take (pos l k-0),l.drop (pos l k+1)].flatten:=by rw[←Sj k n];unfold TN;rw[if_pos ht];simp
  refine KT (s:=⟨some (aH g),2,2⟩) (vs:= [⟨aY s.a 0 s.cap 2,pos l k-0,s.cap-0⟩,⟨aY s.a (pos l k+1) s.cap 2,s.len-(pos l k+1),s.cap-(pos l k+1)⟩]) (ls:= [l.take (pos l k-0),l.drop (pos l k+1)])
   ⟨rfl,fun x=>⟨rfl,Nat.one_pos⟩,fun _=>⟨_,rfl,fun h=>h.elim,py D fun i v E=>by simpa[aaU]using E⟩⟩ ⟨z.upd p fun _ h=>h.elim,y.upd p fun _ h=>h.elim,trivial⟩ ?_ (by simp) fun J N e o=>?_
  ·simp only[List.flatten_cons,List.flatten_nil,aj,be,aS,bN];omega
  ·rw[←G]at e
   have A:=a.tr p;exact u _ _ (e.more fun b q=>aU A.size q) (A.tr o)
theorem Wz{W:Nat→Prop}{h:ad}{b:Nat}{l:List Pr}(p:BuckAt W h b l)(n:∀x,W x→x<h.size)(y:fe l)(u:l.length≤1000000000)(k:ByteArray){K:Option Addr→ad→Prop}
  (E:∀h' b',BuckAt W h' b' (pq k l)→Upd No h h'→K (some ⟨b',0,none⟩) h'):
  HC PG qz [.pointer (some ⟨b,0,none⟩),.pointer none,.string k] [.c .ptr] K h:=by
 refine EP _ none k ?_;unfold wX bM FX bW jf;obtain⟨sp,sk,ow,B,v,D,C,w⟩:=p.ex;refine kX B (af.2 ?_);refine RW p u fun G z o b2 t s g=>?_
 refine⟨_,rfl,z,eR (i:=2) b2,?_⟩;refine NO (t.sl fun _ _ _ h=>h) t.cap y u k fun q H f c=>?_
 have b3:=c.get0 b2;refine⟨_,rfl,WZ (i:=2) b3 (show 2<6 by decide),IY (i:=2) (c':=ge 0 0 q o true none) b3 rfl fun F A a=>?_⟩
 have I:=bB b2;have m:=f.upd a fun x hx e=>by have e:x=h.size:=e;omega
 have j:=(s.upd c fun _ _ h=>h).upd a fun x hx e=>by have e:x=h.size:=e;omega
 refine E F h.size ⟨⟨q,o,none,A,m.sl fun x hx _ d=>?_,j.sl fun x hx _ d=>?_,f.cap,s.cap⟩,fun d=>?_⟩ ((g.tr c).trans a fun x hx=>.inr ?_)
 ·have:=n x d;have:=g.size;omega
 ·have:=n x d;omega
 ·have:=n _ d;omega
 ·have hx:x=h.size:=hx
  omega
theorem OH{W:Nat→Prop}{x:Hs}:∀(m:Nat),m≤13→∀{b:Nat} {l:List Pr} (k:ByteArray) {h:ad},TrieAt W x h m b l→(∀y,W y→y<h.size)→fe l→l.length≤1000000→∀{K:(Option Addr)×Bool→ad→Prop},
  (∀h' b',Upd No h h'→TrieAt W x h' m b' (pq k l)→(cG l k=false→b'=b)→K (some ⟨b',0,none⟩,cG l k) h')→
  HC PG mh [Uw x k,.pointer (some ⟨b,0,none⟩),.int .i64 ((13-m:Nat):Int)] [.c .ptr,.c .bool] K h:=by
 intro m;induction m with
 |zero=>
  intro _ b l k h t hW hr hn K D;have R:∀{h'},Upd No h h'→∀y,W y→y<h'.size:=fun k y Q=>aQ (hW y Q) k.size
  refine uV (x.k0,x.k1,x.mask,none,k,jU x k) (some ⟨b,0,none⟩) ((13-0:Nat):Int) ?_;unfold pT ag nv AZ ic nZ ae aq mW qg FV Bp pu La Lz GM;refine cH fun u b1 k1=>?_
  have bk:BuckAt W u b l:=BuckAt.upd t k1 fun _ h=>h.elim
  obtain⟨sp,sk,ow,hb,_⟩:=bk.ex;refine kX hb (aA.2 ⟨_,vc b1 4,Yp bk hr (by omega) k fun L v j hv=>?_⟩)
  have b3:=j.get0 b1;cases z:cG l k with
  |false=>
   rw[z]at D;exact aA.2 (D L b (k1.tr j) (by rw[BT (GR z)];exact bk.upd j fun _ h=>h.elim) fun _=>rfl)
  |true=>
   rw[z]at D;refine af.2 ⟨none,vc b3 3,_,vc b3 4,?_⟩;refine Wz (bk.upd j fun _ h=>h.elim) (R (k1.tr j)) hr (by omega) k fun h5 b5 bk5 J=>?_
   exact D h5 b5 ((k1.tr j).tr J) bk5 fun h=>by cases h
 |succ m ih=>
  intro hm b l k h t hW hr hn K D;have R:∀{h'},Upd No h h'→∀y,W y→y<h'.size:=fun k y Q=>aQ (hW y Q) k.size
  have hl:13-(m+1)<13:=by omega
  have X:13-(m+1)=12-m:=by omega
  refine uV (x.k0,x.k1,x.mask,none,k,jU x k) (some ⟨b,0,none⟩) ((13-(m+1):Nat):Int) ?_;unfold pT ag nv AZ ic nZ ae aq mW qg FV Bp pu La Lz GM;refine cH fun u b1 k1=>?_
  have t1:=TrieAt.upd0 k1 t;obtain⟨s,F,hs⟩:=t1;have hs:∀c,c<32→SlotIs W x u m s c (part x (12-m) c l):=hs;obtain⟨d,n,sp,sk,ow,hb,_⟩:=F.ex;refine kX hb (af.2 ⟨_,vc b1 5,Wj hl ?_⟩);rw[X];have hi:=H7 x (12-m) k;have I:=hs _ hi;have G:cG (part x (12-m) (ck x (12-m) k) l) k=cG l k:=GQ;have U:fe (part x (12-m) (ck x (12-m) k) l):=BD hr;have hnp:(part x (12-m) (ck x (12-m) k) l).length≤1000000:=aU yW hn
  have w:∀{h':ad} {b':Nat} {s':Slots},Upd No u h'→NodeAt W h' b' s'→(∀c,c≠ck x (12-m) k→s'.p c=s.p c∧s'.k c=s.k c)→SlotIs W x h' m s' (ck x (12-m) k) (pq k (part x (12-m) (ck x (12-m) k) l))→TrieAt W x h' (m+1) b' (pq k l):=fun S nd hp hi=>PJ S nd hs hp hi
  have tt:∀{h':ad},Upd No u h'→TrieAt W x h' (m+1) b l:=fun S=>TrieAt.upd0 (k1.tr S) t
  generalize hc:ck x (12-m) k=c at*;generalize hlc:part x (12-m) c l=lc at*;refine Hm F hi fun L j=>?_
  refine cH fun h4 b4 k4=>?_
  have b4':h4[L.size]? =some (.cells #[.string Rz.1,.string Rz.2] ax (0,0)):=b4;refine Hf (p:=VN (s.p c)) b4' fun h5 b5 J=>?_
  have a:Upd No u h5:=(j.tr k4).own J j.size;have c1:=a.get0 b1;have V:=F.upd a fun _ h=>h.elim
  have same:∀{h':ad},Upd No u h'→cG l k=false→K (some ⟨b,0,none⟩,false) h':=fun S z=>by
   have:=D _ b (k1.tr S) (by rw[BT (GR z)];exact tt S) fun _=>rfl
   rw[z]at this;exact this
  cases hsp:s.p c with
  |some y=>
   rw[hsp]at b5;obtain⟨B,hk0⟩:lc= [y]∧s.k c=none:=by
    rcases I with⟨_,g,_⟩|⟨q,u,g,L⟩|⟨_,g,_⟩
    ·rw[hsp]at g;cases g
    ·rw[hsp]at g;cases g;exact⟨u,L⟩
    ·rw[hsp]at g;cases g
   refine aA.2 ⟨y.1,vc b5 0,k,vc c1 4,?_⟩;rw[di];by_cases e1:y.1=k
   ·have z:cG l k=true:=by rw[←G,B];exact cp.2 ⟨y,aO.2 rfl,decide_eq_true e1⟩
    rw[decide_eq_true e1];rw[z]at D;refine af.2 ⟨none,vc c1 3,Wi V (R (k1.tr a)) hi fun h6 b6 nd6 H=>?_⟩
    refine D h6 b6 ((k1.tr a).tr H) (w (a.tr H) nd6 (fun c' o=>⟨gS o,gS o⟩) ?_) fun h=>by cases h
    refine .inl ⟨?_,ij,ij⟩;rw[B,Ax,if_pos e1];rfl
   ·rw[decide_eq_false e1]
    have z:cG l k=false:=by
     rw[←G,B];unfold cG;rw[qV,decide_eq_false e1];rfl
    exact aA.2 (same a z)
  |none=>
   refine af.2 (Gs V hi ?_);cases hsk:s.k c with
   |none=>
    have T:lc= []:=by
     rcases I with⟨u,_⟩|⟨q,_,g,_⟩|⟨_,_,P,g,_⟩
     ·exact u
     ·rw[hsp]at g;cases g
     ·rw[hsk]at g;cases g
    exact aA.2 (same a (by rw[←G,T];rfl))
   |some kp=>
    obtain⟨h2l,P,rfl,tk⟩:2≤lc.length∧∃P,kp=some ⟨P,0,none⟩∧TrieAt W x u m P lc:=by
     rcases I with⟨_,_,g⟩|⟨q,_,g,_⟩|⟨u,_,P,g,L⟩
     ·rw[hsk]at g;cases g
     ·rw[hsp]at g;cases g
     ·rw[hsk]at g;cases g;exact⟨u,P,rfl,L⟩
    refine af.2 ⟨_,vc c1 0,_,vc c1 1,_,vc c1 2,_,vc c1 3,_,vc c1 4,_,vc c1 5,?_⟩;have ew:ac .i64 (((12-m:Nat):Int)+1)=((13-m:Nat):Int):=by rw[kO (by omega)];omega
    rw[ew];refine ih (by omega) k (TrieAt.upd0 a tk) (R (k1.tr a)) U hnp fun h6 b6 H t6 hsame=>?_
    have A:=a.tr H;rw[G];cases z:cG l k with
    |false=>exact aA.2 (same A z)
    |true=>
     rw[z]at D;have hdl:=Si (k:=k) U;have hdn:(pq k lc).length≤1000000:=aU Ze hnp;refine af.2 (WH t6 hdn fun h7 p E hp=>?_)
     refine cH fun h8 b8 k8=>?_
     have b8':h8[h7.size]? =some (.cells #[.string Rz.1,.string Rz.2] ax (0,0)):=b8;refine Hf (p:=p) b8' fun h9 b9 Z=>?_
     have f:Upd No u h9:=((A.tr E).tr k8).own Z (A.tr E).size;have c9:=f.get0 b1;have Y:=F.upd f fun _ h=>h.elim
     refine aF (fun e=>?_) fun e=>?_
     ·refine⟨none,vc c9 3,p.1,vc b9 0,p.2,vc b9 1,tq Y (R (k1.tr f)) hi (fun y Q=>by rw[hsp]at Q;cases Q) p fun O N C i=>?_⟩
      refine D O N ((k1.tr f).tr i) (w (f.tr i) C (fun c' o=>⟨gS o,gS o⟩) ?_) fun h=>by cases h
      exact .inr (.inl ⟨p,hp e,ij,ij⟩)
     ·refine⟨none,vc c9 3,Al Y (R (k1.tr f)) hi (fun _ _=>hsp) ⟨b6,0,none⟩ fun O N C i=>?_⟩
      refine D O N ((k1.tr f).tr i) (w (f.tr i) C (fun c' o=>⟨gS o,gS o⟩) ?_) fun h=>by cases h
      exact .inr (.inr ⟨by omega,ij,b6,ij,TrieAt.upd0 ((E.tr k8).own Z E.size|>.tr i) t6⟩)
theorem Mc{W:Nat→Prop}{x:Hs}{h:ad}{b:Nat}{l:List Pr}(t:TrieAt W x h 13 b l)(o:∀y,W y→y<h.size)(s:fe l)(z:l.length≤1000000)(k:ByteArray){K:Option Addr×Bool→ad→Prop}
  (v:∀h' b',Upd No h h'→TrieAt W x h' 13 b' (pq k l)→(cG l k=false→b'=b)→K (some ⟨b',0,none⟩,cG l k) h'):
  HC PG xN [.agg #[.int .u64 x.k0,.int .u64 x.k1,.int .u64 x.mask],.pointer none,.pointer (some ⟨b,0,none⟩),.string k] [.c .ptr,.c .bool] K h:=by
 refine ME (x.k0,x.k1,x.mask) none (some ⟨b,0,none⟩) k ?_;unfold DX rQ ae AG Bp;refine cH fun C b1 k1=>?_
 refine Lg (.inr ⟨b,rfl,TrieAt.upd0 k1 t⟩) (fun y m=>aQ (o y m) k1.size) fun B b2 p f n=>?_
 have c:=f.get0 b1;refine⟨_,vc c 0,_,vc c 1,_,vc c 2,_,vc c 0,_,vc c 1,_,vc c 2,?_⟩;refine CV fun D d=>?_
 have i:=d.get0 c;refine⟨⟨vc i 0,vc i 1,vc i 2⟩,?_⟩;have a:=(k1.tr f).tr d;refine OH 13 (av _) k (TrieAt.upd0 d p) (fun y m=>aQ (o y m) a.size) s z fun A u g q j=>?_
 refine v A u (a.tr g) q fun w=>?_
 rw[j w];rcases n with e|e
 ·cases e;rfl
 ·cases e
end Go.Proofs
namespace Go.Proofs
def vA(P a:List UInt8→ByteArray→Prop)(k:List UInt8):Prop:=∀k' v',a k' v'↔k'≠k∧P k' v'
theorem QO{P:List UInt8→ByteArray→Prop}{k:List UInt8}(h:∀v,¬P k v):vA P P k:=fun _ b=>⟨fun a=>⟨fun e=>h b (e▸a),a⟩,fun h=>h.2⟩
theorem QN{w:Option ByteArray}{F:Fo}(h:j5 F):vA (wM w F) (wM none F) []:=by
 intro k' a;unfold wM;constructor
 ·rintro(⟨_,f⟩|hi)
  ·cases f
  ·exact⟨Et h hi,.inr hi⟩
 ·rintro⟨e,⟨f,_⟩|hi⟩
  ·exact absurd f e
  ·exact .inr hi
theorem H0{w:Option ByteArray}{F a:Fo}{k:List UInt8}(b:k≠[])(h:vA (uT F) (uT a) k):vA (wM w F) (wM w a) k:=by
 intro k' c;unfold wM;rw[h k' c];constructor
 ·rintro(⟨e,f⟩|hi)
  ·exact⟨fun d=>b (d.symm.trans e),.inl ⟨e,f⟩⟩
  ·exact⟨hi.1,.inr hi.2⟩
 ·rintro⟨e,hi|hi⟩
  ·exact .inl hi
  ·exact .inr ⟨e,hi⟩
theorem QP{lab r:List UInt8}{w w':Option ByteArray}{F d:Fo}(h:vA (wM w F) (wM w' d) r):vA (yL (lab,w,F)) (yL (lab,w',d)) (lab++r):=by
 intro k' f;constructor
 ·rintro⟨s,e,a⟩
  obtain⟨b,g⟩:=(h s f).1 a;exact⟨fun c=>b (List.append_cancel_left (e.symm.trans c)),s,e,g⟩
 ·rintro⟨b,s,e,a⟩
  exact⟨s,e,(h s f).2 ⟨fun c=>b (by rw[e,c]),a⟩⟩
theorem TK{F:Fo}{i:Nat}{m:Bn}{k:List UInt8}(h:j5 F)(hi:i<F.toL.length)(ek:hd F.toL[i].1=hd k)(f:vA (yL F.toL[i]) (yL m) k):vA (uT F) (uT (.ofL (F.toL.set i m))) k:=by
 intro k' g;have hc:=fc.1 h;rw[ja,ja,Fo.to_of];constructor
 ·rintro⟨n,a,b⟩
  rcases(mJ hi (xz h hi)).1 a with rfl|⟨a,d⟩
  ·obtain⟨c,j⟩:=(f k' g).1 b
   exact⟨c,_,bZ hi,j⟩
  ·refine⟨fun e=>d ?_,n,a,b⟩
   obtain⟨r,o,_⟩:=b;refine Az h a (bZ hi) ?_;rw[ek,←e,o,vG (hc.2 n a).1]
 ·rintro⟨c,n,a,b⟩
  by_cases e:n=F.toL[i]
  ·exact⟨m,(mJ hi (xz h hi)).2 (.inl rfl),(f k' g).2 ⟨c,by rw[←e];exact b⟩⟩
  ·exact⟨n,(mJ hi (xz h hi)).2 (.inr ⟨a,e⟩),b⟩
theorem Fb{α:Type}{l:List α}{i:Nat}(hi:i<l.length){x:α}(nd:∀j (a:j<l.length),j≠i→l[j]≠l[i]):x∈l.take i++l.drop (i+1)↔x∈l∧x≠l[i]:=by
 constructor
 ·intro h
  rcases bD.1 h with h|h
  ·obtain⟨j,a,e⟩:=dC h
   rw[be]at a;rw[List.getElem_take]at e;exact⟨List.mem_of_mem_take h,by rw[←e];exact nd j (by omega) (by omega)⟩
  ·obtain⟨j,a,e⟩:=dC h
   rw[aS]at a;rw[List.getElem_drop]at e;exact⟨List.mem_of_mem_drop h,by rw[←e];exact nd (i+1+j) (by omega) (by omega)⟩
 ·rintro⟨h,c⟩
  obtain⟨j,a,e⟩:=dC h;rcases Nat.lt_trichotomy j i with b|b|b
  ·exact bD.2 (.inl (nV (i:=j) (h:=by rw[be];omega) (by rw[List.getElem_take];exact e)))
  ·subst b;exact absurd e.symm c
  ·refine bD.2 (.inr (nV (i:=j-(i+1)) (h:=by rw[aS];omega) ?_))
   rw[List.getElem_drop];have:i+1+(j-(i+1))=j:=by omega
   simp only[this];exact e
theorem X6{F:Fo}{i:Nat}(h:j5 F):j5 (.ofL (F.toL.take i++F.toL.drop (i+1))):=by
 have hc:=fc.1 h;rw[fc,Fo.to_of];have a:(F.toL.take i++F.toL.drop (i+1)).Sublist F.toL:=by rw[←List.eraseIdx_eq_take_drop_succ];exact List.eraseIdx_sublist ..
 exact⟨hc.1.sublist a,fun n b=>hc.2 n (a.subset b)⟩
theorem TL{F:Fo}{i:Nat}{k:List UInt8}(h:j5 F)(hi:i<F.toL.length)(ek:hd F.toL[i].1=hd k)(j:∀k' c,yL F.toL[i] k' c→k'=k):vA (uT F) (uT (.ofL (F.toL.take i++F.toL.drop (i+1)))) k:=by
 intro k' c;have hc:=fc.1 h;rw[ja,ja,Fo.to_of];constructor
 ·rintro⟨n,a,b⟩
  obtain⟨a,d⟩:=(Fb hi (xz h hi)).1 a;refine⟨fun e=>d ?_,n,a,b⟩
  obtain⟨r,g,_⟩:=b;refine Az h a (bZ hi) ?_;rw[ek,←e,g,vG (hc.2 n a).1]
 ·rintro⟨f,n,a,b⟩
  by_cases e:n=F.toL[i]
  ·exact absurd (j k' c (by rw[←e];exact b)) f
  ·exact⟨n,(Fb hi (xz h hi)).2 ⟨a,e⟩,b⟩
def Yf(n:Bn)(o:Option Bn):Prop:=(o=none∧∀k v,¬yL n k v)∨∃m,o=some m∧Ue m∧hd m.1=hd n.1∧∀k v,yL m k v↔yL n k v
theorem Tp{lab:List UInt8}{w:Option ByteArray}{F:Fo}(a:lab≠[])(hc:j5 F)(h:w.isSome∨2≤F.toL.length):Yf (lab,w,F) (some (lab,w,F)):=.inr ⟨_,rfl,⟨a,h,hc⟩,rfl,fun _ _=>AE⟩
theorem Tq{lab:List UInt8}{F:Fo}(h:F.toL= []):Yf (lab,none,F) none:=by
 refine .inl ⟨rfl,fun k v hi=>?_⟩
 obtain⟨r,_,⟨_,h'⟩|h'⟩:=hi
 ·cases h'
 ·obtain⟨n,a,_⟩:=ja.1 h'
  simp only at a;rw[h]at a;cases a
theorem VC{lab lk:List UInt8}{a:Option ByteArray}{F Fk:Fo}(c:lab≠[])(hc:j5 F)(h:F.toL= [(lk,a,Fk)]):Yf (lab,none,F) (some (lab++lk,a,Fk)):=by
 have d:F=.cons lk a Fk .nil:=by
  rw[←Fo.of_to F,h];rfl
 have b:=(fc.1 hc).2 (lk,a,Fk) (by rw[h];exact aO.2 rfl);refine .inr ⟨_,rfl,⟨fun e=>c (List.append_eq_nil_iff.1 e).1,b.2.1,b.2.2⟩,vG c,fun k v=>?_⟩
 have:=KA (lab:=lab++lk) (w:=a) (F:=Fk) lab.length k v;rw[List.take_left,List.drop_left]at this;rw[d];exact this.symm
end Go.Proofs
