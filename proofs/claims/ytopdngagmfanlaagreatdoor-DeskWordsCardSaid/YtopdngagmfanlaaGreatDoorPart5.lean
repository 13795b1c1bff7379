/- A part of the proof that the named laws of this program answer true, whatever the input. -/
import Derived.Test.YtopdngagmfanlaaGreatDoorPart4
import Derived.Test.YtopdngagmfanlaaGreatDoorLift3
import Derived.Test.YtopdngagmfanlaaGreatDoorPart2
import Derived.Test.YtopdngagmfanlaaGreatDoorPart3
open Bool renaming and_eq_true→aQ
open Go.IntKind renaming wrap→ac
open Go.Op renaming bytesLess→cA
open Iff renaming rfl→wa
open List renaming mem_cons→au,mem_cons_of_mem→bj,mem_cons_self→aW,length_filter_le→fE,mem_append→bS,mem_singleton→aN,length_cons→aV,length_append→ai,filter_append→eG,mem_filter→c5,append_nil→dx,nil_append→lZ,pairwise_append→dP,pairwise_singleton→dH,flatMap_append→bV,flatMap_cons→be,cons_append→ld,length_drop→aK,length_nil→dT,mem_append_left→f9,mem_append_right→gV,pairwise_cons→bE,find?_cons→pA,nodup_nil→np,length_singleton→bZ,mem_of_getElem?→bD,getElem?_eq_some_iff→bi,filter_eq_self→iJ,any_eq_true→bI,any_cons→oA,mem_range→gP,length_take→aP,getElem_mem→ce,getElem_of_mem→cP,mem_of_getElem→lx
open List.Pairwise renaming nil→ix
open Nat renaming le_refl→az,le_trans→bR,lt_of_lt_of_le→aC,not_lt→gO,zero_le→cu,zero_testBit→kY
namespace Go.Proofs
open Go Go.Lift
def wY(s:VS)(n:ByteArray)(d:TD)(ps:List Int):(Int×Int)×VS:=
 if(j3 s.L s.nx ps).1.2≠0 then((0,(j3 s.L s.nx ps).1.2),s)
 else(((j3 s.L s.nx ps).1.1,0),{s with L:=(j3 s.L s.nx ps).2.1,nx:=(j3 s.L s.nx ps).2.2,D:=m5 s.D (j3 s.L s.nx ps).1.1 d,B:=m5 s.B n (j3 s.L s.nx ps).1.1})
theorem Pz{L:fL}{nx:Int}{ps:List Int}(h:(j3 L nx ps).1.2≠0):(j3 L nx ps).2=(L,nx):=by
 unfold j3 at h⊢;split
 ·rfl
 ·split
  ·rfl
  ·split
   ·rfl
   ·rename_i h1 h2 h3
    rw[if_neg h1,if_neg h2,if_neg h3]at h;exact absurd rfl h
theorem Nb{L:fL}{nx:Int}{ps:List Int}(h:(j3 L nx ps).1.2=0):j3 L nx ps=((nx,0),yv L nx ps,nx+1):=by
 unfold j3 at h⊢;split at h
 ·rename_i h1;exact absurd h h1
 ·split at h
  ·rename_i h1;exact absurd h h1
  ·split at h
   ·have h:(6:Int)=0:=h
    omega
   ·rename_i h1 h2 h3;rw[if_neg h1,if_neg h2,if_neg h3]
theorem KL{h:ad}{k:ad→Prop}(a:∀h',h'=h→k h'):At h k:=aU (a h rfl)
theorem IE{κ β:Type}[DecidableEq κ]{k:κ}{v:β}:∀{l:List (κ×β)} {p:κ×β},p∈m5 l k v→p=(k,v)∨p∈l
 | [],p,h=>.inl (by simpa[m5]using h)
 |(k',u)::l,p,h=>by
  unfold m5 at h;split at h
  ·exact(au.1 h).imp id (bj _)
  ·rcases au.1 h with h|h
   ·exact .inr (h▸aW)
   ·exact(IE h).imp id (bj _)
theorem IH{β:Type}{k:Int}{v:β}:∀{l:List (Int×β)},cV l k=some v→(k,v)∈l
 |(k',u)::l,h=>by
  unfold cV at h;split at h
  ·rename_i e;cases h;rw[e];exact aW
  ·exact bj _ (IH h)
section
variable {W:Nat→Prop} {h0 h:ad} {vp:Nat} {s:VS}
theorem VaultAt.size(v:VaultAt W h vp s){y:Nat}(a:s.M y):y<h.size:=v.g.lt y (v.w y a)
theorem VS.mG{s:VS}{y:Nat}(h:DG s.gp s.gm y):s.M y:=h.imp id .inl
theorem Hj(v:VaultAt W h0 vp s)(k0:Upd No h0 h)(n:ByteArray){d:TD}(i:TreeIs W h0 s.kind s.x d.1 d.2)(hr:dM d.2)(hf:Fit d.2){pb:Nat}(N:h0.size≤pb)(hpb2:pb<h.size){sl:SliceV}{ps:List Int}(ho:OwnS u32 1 qf (· =pb) h sl ps)(hn:ps.length≤1000000)
  {K:Int×Int→ad→Prop}(A:∀h',Upd s.M h0 h'→VaultAt W h' vp (wY s n d (nz ps)).2→K (wY s n d (nz ps)).1 h'):
  HC PG jN [pV vp,.string n,L4 d.1,.slice sl.a sl.len sl.cap] [.c (.int .u32),.c (.int .i64)] K h:=by
 refine uB (some ⟨vp,0,none⟩) n d.1 sl ?_;unfold nD bA ao gi PC ae ah kH uw;refine cf fun h1 b1 k1=>⟨_,rfl,_,vc (v.upd0 (k0.tr k1)).blk 6,?_⟩
 have s0:=k0.size;refine NI (ho.upd k1 fun _ _ h=>h) hn fun s5 S o5 u5=>?_
 have I:Upd No h0 S:=(k0.tr k1).own u5 N;have u:=v.upd0 I;have b5:=u5.oth b1 (show h.size≠pb by omega)
 have hl5:(nz ps).length≤ps.length:=fE ..;have Y:∀y,W y→y<h0.size:=v.g.lt;refine⟨vc u.blk 6,Qu u.g (by have:=v.inv.nx1;omega) (fun hm=>by have:=(v.inv.pos _ hm).2;omega) (o5.sl (W:=W) fun b q _ hw=>by have:=Y b hw;omega) (by omega) fun J t H=>?_⟩
 have P:∀y,DG s.gp s.gm y→W y∨S.size≤y:=fun y a=>.inl (v.w y (VS.mG a))
 obtain⟨n1,n2,n3,n4,n5,n6,n7,n8,n9,R⟩:=VS.neB v.ne;have w:∀y,y≠s.gp→y≠s.gm→¬DG s.gp s.gm y:=fun y h1 h2 h=>h.elim h1 h2
 have Z:=u.t.upd t (w _ n2.symm n5.symm);have m7:=u.b.upd t (w _ n3.symm n6.symm);have F:=u.n.upd t (w _ n4.symm n7.symm);refine CondP.intro (fun e=>?_) fun e=>?_
 ·have e:(j3 s.L s.nx (nz ps)).1.2≠0:=by simpa using e
  have e2:=Pz e;have hv:wY s n d (nz ps)=((0,(j3 s.L s.nx (nz ps)).1.2),s):=by unfold wY;rw[if_pos e]
  rw[hv]at A;rw[e2]at H;exact A J (I.wide.tr (t.mono fun y a=>.inl (VS.mG a))) (u.turn t P H Z m7 F (fun d hd=>.inl hd) v.sub v.inv)
 ·have e:(j3 s.L s.nx (nz ps)).1.2=0:=by simpa using e
  have e2:=Nb e;have o:=v.inv.add (nz ps);have hv:wY s n d (nz ps)=(((j3 s.L s.nx (nz ps)).1.1,0),{s with L:=(j3 s.L s.nx (nz ps)).2.1,nx:=(j3 s.L s.nx (nz ps)).2.2,D:=m5 s.D (j3 s.L s.nx (nz ps)).1.1 d,B:=m5 s.B n (j3 s.L s.nx (nz ps)).1.1}):=by unfold wY;rw[if_neg (by rw[e];simp)]
  rw[hv]at A;rw[e2]at H A o⊢;have C:∀y,s.M y→vp≠y:=fun y a e=>v.wv (e▸v.w y a)
  have c7:=t.get u.blk fun hm=>C _ (VS.mG hm) rfl
  have x:=t.get b5 fun hm=>by have:=v.size (VS.mG hm);omega
  refine⟨_,rfl,_,vc c7 7,_,vc x 0,_,vc x 1,_,vc x 2,_,vc x 3,_,vc x 4,_,vc x 5,_,rfl,Z.isMap,KL fun f k=>?_⟩
  have k:f=kJ J s.tm (KE.enc s.nx) (SY d):=k;have g:Upd (· =s.tm) J f:=by rw[k];exact sI J _ _ rfl
  have Q:MapAt KE SY f s.tm (m5 s.D s.nx d):=by rw[k];exact Z.put s.nx d
  have G:=m7.upd g (fun e=>n8 e.symm)
  have z:=F.upd g (fun e=>n9 e.symm)
  have T:=H.upd g fun b q=>.inl ⟨v.w b (.inr (.inr (.inl q))),fun e=>n2 (e.symm.trans q),fun e=>n5 (e.symm.trans q)⟩
  have V:=g.get c7 fun e=>C _ (.inr (.inr (.inl rfl))) e
  refine⟨_,rfl,_,vc V 8,_,rfl,G.isMap,KL fun c m=>?_⟩
  have m:c=kJ f s.bm (kStr.enc n) (Qn s.nx):=m;have j:Upd (· =s.bm) f c:=by rw[m];exact sI f _ _ rfl
  have O:MapAt kStr Qn c s.bm (m5 s.B n s.nx):=by rw[m];exact G.put n s.nx
  have t21:=Q.upd j n8;have E:=z.upd j (fun e=>R e.symm)
  have X:=T.upd j fun b q=>.inl ⟨v.w b (.inr (.inr (.inr (.inl q)))),fun e=>n3 (e.symm.trans q),fun e=>n6 (e.symm.trans q)⟩
  have U:Upd s.M S c:=((t.mono fun y a=>.inl (VS.mG a)).tr (g.mono fun y a=>.inl (.inr (.inr (.inl a))))).tr (j.mono fun y a=>.inl (.inr (.inr (.inr (.inl a)))))
  refine A c (I.wide.tr U) (u.turn U (fun y a=>.inl (v.w y a)) X t21 O E (fun p hp=>(IE hp).elim (fun e=>.inr ?_) .inl) (fun id=>?_) o)
  ·subst e
   have ku:Upd s.M h0 c:=I.wide.tr U;exact⟨i.updM ku fun y a=>.inl (v.w y a),hr,hf⟩
  ·rw[FC,insV_ids.mem_iff,au,←v.sub id]
   split
   ·rename_i hm
    exact⟨.inr,fun h=>h.elim (fun e=>e▸hm) fun h=>h⟩
   ·rw[bS,aN,Or.comm]
end
end Go.Proofs
namespace Go.Proofs
open Go Go.Lift
abbrev S9:List Value:= [.string (⟨#[]⟩:ByteArray),.string (⟨#[]⟩:ByteArray)]
theorem Sz{h:ad}{t:TypeId}{p:Pr}{k:ad→Prop}(d:∀h',h'[h.size]? =some (.cells #[.string p.1,.string p.2] t (0,0))→Upd No h h'→k h'):
  At (hnew h [.string (⟨#[]⟩:ByteArray),.string (⟨#[]⟩:ByteArray)] t) fun b=>sq b (some (aR h)) 0 [.string p.1,.string p.2]∧At (ia b (aR h) 0 [.string p.1,.string p.2]) k:=by
 refine cf fun f b1 k1=>?_
 exact eN (c:=S9) (vs:= [.string p.1,.string p.2]) b1 rfl fun e b2 a=>d e b2 (k1.own a (az _))
theorem Fe(p:Pr):∀{l:List Pr},(iG p l).length≤l.length+1
 | []=>az _
 |q::l=>by
  rw[kK];split
  ·have:=Fe p (l:=l);simp only[aV];omega
  ·split<;>simp
theorem MD{W W':Nat→Prop}{h h':ad}{kind:Int}{x:Hs}{t u:Tr}{l a:List Pr}(i:TreeIs W h kind x t l)(c:TreeIs W' h' kind x u a):H6 t u=true:=by
 rcases i with⟨rfl,b,rfl,_⟩|⟨rfl,b,rfl,_⟩<;>rcases c with⟨e,b',rfl,_⟩|⟨e,b',rfl,_⟩
 ·simp[H6]
 ·cases e
 ·cases e
 ·simp[H6]
abbrev hsL(x:Hs):List Value:= [.int .u64 x.k0,.int .u64 x.k1,.int .u64 x.mask]
end Go.Proofs
namespace Go.Proofs
open Go Go.Lift
section
variable {W:Nat→Prop} {h:ad} {vp:Nat} {s:VS}
theorem Jq(v:VaultAt W h vp s)(n:ByteArray){hd:Int}(f:cV s.B n=some hd){d:TD}(i:TreeIs W h s.kind s.x d.1 d.2)(g:dM d.2)(k:Fit d.2)
  {K:Int×Int→ad→Prop}(e:∀h',Upd s.M h h'→VaultAt W h' vp (wY s n d (nz [hd])).2→K (wY s n d (nz [hd])).1 h'):
  HC PG kg [pV vp,.string n,L4 d.1] [.c (.int .u32),.c (.int .i64)] K h:=by
 refine vu (some ⟨vp,0,none⟩) n d.1 ?_;unfold o6 ao EY lA gi ae ah kH fZ uw;refine cf fun w b1 k1=>Hk (v.upd0 k1) n ?_
 rw[f];refine ag.2 ⟨_,vc b1 0,_,vc b1 1,_,vc b1 2,_,vc b1 3,_,vc b1 4,_,vc b1 5,_,rfl,?_⟩;have c1:=k1.get0 v.blk;refine⟨_,zX c1 0 0,_,zX c1 0 1,_,zX c1 0 2,_,zX c1 0 3,_,zX c1 0 4,_,zX c1 0 5,?_⟩;refine N0 (t:=d.1) (u:=s.e) fun b c=>?_
 rw[MD i v.em];have b2:=c.get0 b1;refine ag.2 ⟨_,vc b2 0,_,vc b2 1,_,vc b2 2,_,vc b2 3,_,vc b2 4,_,vc b2 5,cf fun q b3 p=>?_⟩
 have a:=k1.tr c;have m:=a.size;refine Hj v (a.tr p) n i g k (pb:=b.size) m (bp b3) (sl:=⟨some (aR b),1,1⟩) (ps:= [hd]) ⟨rfl,w6,az _,.inr ⟨b.size,[],rfl,rfl,b3,rfl⟩⟩ (by simp) fun h' o j=>e h' o j
end
end Go.Proofs
namespace Go.Proofs
open Go Go.Lift
end Go.Proofs
namespace Go.Proofs
open Go Go.Lift
theorem Hx{W:Nat→Prop}{h:ad}{b:Nat}{sl:ByteArray}{w:Option ByteArray}{F:Fo}(r:RxN W h b sl w F){K:ByteArray×Bool→ad→Prop}(c:K (w.getD ⟨#[]⟩,w.isSome) h):HC PG mc [.pointer (some ⟨b,0,none⟩)] [.c .str,.c .bool] K h:=by
 refine xJ _ ?_;unfold qM cC cX;obtain⟨val,s,ow,ks,a,rfl,_⟩:=r;exact ag.2 ⟨_,rfl,_,fh (i:=2) a,_,rfl,w.isSome,fh (i:=1) a,c⟩
end Go.Proofs
namespace Go.Proofs
open Go Go.Lift
end Go.Proofs
namespace Go.Proofs
open Go Go.Lift
end Go.Proofs
namespace Go.Proofs
structure WO{α:Type}(lt:α→α→Bool):Prop where
 irr:∀a,lt a a=false
 asy:∀a b,lt a b=true→lt b a=false
 ntr:∀a b c,lt a b=false→lt b c=false→lt a c=false
section
variable {α:Type} {lt:α→α→Bool}
def MZ(lt:α→α→Bool)(x a:α):Bool:= !lt a x&& !lt x a
def Srt(lt:α→α→Bool)(l:List α):Prop:=l.Pairwise fun a b=>lt b a=false
structure Eqf(lt:α→α→Bool)(l l':List α):Prop where
 len:l'.length=l.length
 flt:∀x,l'.filter (MZ lt x)=l.filter (MZ lt x)
structure St(lt:α→α→Bool)(l l':List α):Prop where
 eqf:Eqf lt l l'
 srt:Srt lt l'
theorem Eqf.rfl(l:List α):Eqf lt l l:=⟨_root_.rfl,fun _=>_root_.rfl⟩
theorem Eqf.tr{a b c:List α}(h:Eqf lt a b)(k:Eqf lt b c):Eqf lt a c:=⟨k.len.trans h.len,fun x=>(k.flt x).trans (h.flt x)⟩
theorem Eqf.app{a b a' b':List α}(h:Eqf lt a a')(k:Eqf lt b b'):Eqf lt (a++b) (a'++b'):=
 ⟨by rw[ai,ai,h.len,k.len],fun x=>by rw[eG,eG,h.flt,k.flt]⟩
theorem Iy(w:WO lt)(a:α):MZ lt a a=true:=by unfold MZ;rw[w.irr];rfl
theorem Eqf.mem(w:WO lt){l b:List α}(h:Eqf lt l b){a:α}:a∈b↔a∈l:=by
 have e:=h.flt a;constructor
 ·intro hm
  have:a∈b.filter (MZ lt a):=c5.2 ⟨hm,Iy w a⟩;rw[e]at this;exact(c5.1 this).1
 ·intro hm
  have:a∈l.filter (MZ lt a):=c5.2 ⟨hm,Iy w a⟩;rw[←e]at this;exact(c5.1 this).1
theorem QB(w:WO lt){x u v:α}(b:MZ lt x u=true)(a:MZ lt x v=true):lt v u=false:=by
 unfold MZ at b a;simp only[aQ,Bool.not_eq_true']at b a;exact w.ntr v x u a.1 b.2
theorem Eqf.swap(w:WO lt){U V:List α}(h:∀u∈U,∀v∈V,lt v u=true):Eqf lt (U++V) (V++U):=by
 refine⟨by rw[ai,ai,Nat.add_comm],fun x=>?_⟩
 rw[eG,eG];cases hU:U.filter (MZ lt x)with
 |nil=>rw[dx,lZ]
 |cons u us=>
  cases hV:V.filter (MZ lt x)with
  |nil=>rw[dx,lZ]
  |cons v vs=>
   have e:u∈U.filter (MZ lt x):=by rw[hU];exact aW ..
   have d:v∈V.filter (MZ lt x):=by rw[hV];exact aW ..
   have b:=c5.1 e;have c:=c5.1 d;have a:=h u b.1 v c.1;rw[QB w b.2 c.2]at a;cases a
theorem Srt.app{a b:List α}(h:Srt lt a)(k:Srt lt b)(c:∀x∈a,∀y∈b,lt y x=false):Srt lt (a++b):=dP.2 ⟨h,k,c⟩
theorem Srt.left{a b:List α}(h:Srt lt (a++b)):Srt lt a:=(dP.1 h).1
theorem Srt.right{a b:List α}(h:Srt lt (a++b)):Srt lt b:=(dP.1 h).2.1
theorem Srt.nil:Srt lt ([]:List α):=ix
theorem Srt.one(a:α):Srt lt [a]:=dH ..
end
end Go.Proofs
namespace Go.Proofs
open Go Go.Lift
section
variable {α:Type} {f:α→List Value} {sz:Nat} {t:TypeId} {M:Nat→Prop} {h:ad} {s:SliceV} {P Q:List α} {x:α}
end
structure Cmp{α:Type}(lt:α→α→Bool)(f:α→List Value)(M:Nat→Prop)(Iv:ad→Prop)(V:Value):Prop where
 call:∀(a b:α) {h:ad} {K:Int→ad→Prop},Iv h→(∀h' e,Upd No h h'→decide (e<0)=lt a b→K e h')→HV PG V [.agg (f a).toArray,.agg (f b).toArray] [.c (.int .i64)] K h
 step:∀{h h':ad},Upd M h h'→Iv h→Iv h'
end Go.Proofs
namespace Go.Proofs
open Go Go.Lift
end Go.Proofs
namespace Go.Proofs
open Go Go.Lift
variable {z0:Hs}
end Go.Proofs
namespace Go.Proofs
open Go Go.Lift
end Go.Proofs
namespace Go.Proofs
open Go Go.Lift
end Go.Proofs
namespace Go.Proofs
open Go Go.Lift
def wl(x:Hs):Nat→List Pr→List Pr
 |0,l=>l
 |m+1,l=>ye x (12-m) l++(QV x (12-m) l).flatMap (wl x m)
def cw(x:Hs):Nat→List Pr→Nat
 |0,_=>2
 |m+1,l=>2+((QV x (12-m) l).map (cw x m)).sum
structure Fr where
 sp:SliceV
 sk:SliceV
 n:Nat
 ps:List Pr
 ks:List (Nat×List Pr)
def Fr.raw(f:Fr):SliceV×SliceV:=(f.sp,f.sk)
def Fr.rem(x:Hs)(f:Fr):List Pr:=f.ps++f.ks.flatMap fun k=>wl x (f.n-1) k.2
theorem setCell{α:Type}{f:α→List Value}{c:Nat}{t:TypeId}{M:Nat→Prop}{h:ad}{s:SliceV}{P Q:List α}{x y:α}{j:Nat}{v:Value}(m:OwnS f c t M h s (P++x::Q))(J:j<c)(B:f y=(f x).set j v){a:Addr}(A:s.a=some a){i:Nat}(hi:i=P.length){G:ad→Prop}(C:∀h',OwnS f c t M h' s (P++y::Q)→Upd M h h'→G h'):
  Wr h (adr (adr a (i*c)) j)∧At (hset h (adr (adr a (i*c)) j) v) G:=by
 subst hi;have o:=m.ne;have d:=m.len;have g:=m.cap;rcases m.blk with F|⟨b,e,k,w,hc,E⟩
 ·rw[ai,aV]at d;omega
 rw[A]at k;cases k;have H:(P.flatMap f).length=P.length*c:=iq o P;rw[bV,be]at hc;have I:=(o x).1;have D:adr (adr ⟨b,0,none⟩ (P.length*c)) j=⟨b,P.length*c+j,none⟩:=by rw[bJ,bJ,Nat.zero_add]
 rw[D];have u:P.length*c+j<(P.flatMap f++(f x++Q.flatMap f)++e).toArray.size:=by
  simp only[List.size_toArray,ai];omega
 refine⟨gI hc u,tO hc fun h' n p=>C h' ⟨by rw[d];simp,o,g,.inr ⟨b,e,A,w,?_,E⟩⟩ (p.mono fun z q=>.inl (by have q:z=b:=q;rw[q];exact w))⟩
 rw[n];congr 3
 rw[bV,be,B];apply Array.toList_inj.1;rw[Array.toList_setIfInBounds];simp only[List.append_assoc];rw[List.set_append_right _ _ (by omega),show P.length*c+j-(P.flatMap f).length=j by omega,List.set_append_left _ _ (by omega)]
end Go.Proofs
namespace Go.Proofs
open Go Go.Lift
end Go.Proofs
namespace Go.Proofs
open Go Go.Lift
def Below(W:Nat→Prop)(x:Hs)(h:ad)(m:Nat)(r:Option Addr)(l:List Pr):Prop:=(r=none∧l= [])∨∃b,r=some ⟨b,0,none⟩∧TrieAt W x h m b l
theorem Below.upd0{W:Nat→Prop}{x:Hs}{h h':ad}{m:Nat}{r:Option Addr}{l:List Pr}(k:Upd No h h')(t:Below W x h m r l):Below W x h' m r l:=t.imp id fun⟨b,e,t⟩=>⟨b,e,TrieAt.upd0 k t⟩
theorem Below.less{W W':Nat→Prop}{x:Hs}{h:ad}{m:Nat}{r:Option Addr}{l:List Pr}(hm:∀b,W' b→W b∨h.size≤b)(t:Below W x h m r l):Below W' x h m r l:=t.imp id fun⟨b,e,t⟩=>⟨b,e,TrieAt.less hm t⟩
theorem Below.updM{W M:Nat→Prop}{x:Hs}{h h':ad}{m:Nat}{r:Option Addr}{l:List Pr}(k:Upd M h h')(hm:∀b,M b→W b∨h.size≤b)(t:Below W x h m r l):Below W x h' m r l:=t.imp id fun⟨b,e,t⟩=>⟨b,e,TrieAt.updM k hm t⟩
end Go.Proofs
namespace Go.Proofs
open Go.Lift
abbrev Ch:=ByteArray×ByteArray×ByteArray×Bool×Bool
abbrev TQ(c:Ch):List Value:= [.string c.1,.string c.2.1,.string c.2.2.1,.bool c.2.2.2.1,.bool c.2.2.2.2]
end Go.Proofs
namespace Go.Proofs
open Go Go.Lift
end Go.Proofs
namespace Go.Proofs
open Go Go.Lift
end Go.Proofs
namespace Go.Proofs
open Go Go.Lift
end Go.Proofs
namespace Go.Proofs
open Go Go.Lift
def hx(kind v:Int):Int:=if kind=0 then v else 0
end Go.Proofs
namespace Go.Proofs
open Go Go.Lift
structure Few(n:Nat)(L:List Pr):Prop where
 up:dM L
 len:L.length≤n
 fit:∀p∈L,p.1.size≤30∧p.2.size≤30
theorem Few.ins{n:Nat}{L:List Pr}(f:Few n L)(p:Pr)(a:p.1.size≤30)(b:p.2.size≤30):Few (n+1) (iG p L):=
 ⟨EU p f.up,bR (Fe p) (by have:=f.len;omega),fun q c=>(yo c).elim (fun e=>by rw[e];exact⟨a,b⟩) fun h=>f.fit q h⟩
theorem Few.fits{n:Nat}{L:List Pr}(f:Few n L):Fit L:=fun p a=>by have:=f.fit p a;omega
end Go.Proofs
namespace Go.Proofs
open Go Go.Lift
end Go.Proofs
namespace Go.Proofs
open Go Go.Lift
theorem JU{h:ad}{b:Nat}{c:Array Value}{t:TypeId}(a:h[b]? =some (.cells c t (0,0))) (hc:0<c.size):f0 h ⟨b,0,none⟩:=⟨c,t,a,hc⟩
theorem TrieAt.plain{W:Nat→Prop}{x:Hs}{h:ad}:∀{m b:Nat} {l:List Pr},TrieAt W x h m b l→f0 h ⟨b,0,none⟩
 |0,_,_,t=>by obtain⟨_,_,_,a,_⟩:=BuckAt.ex t;exact JU a (by simp[eO])
 |m+1,_,_,⟨s,nd,_⟩=>by obtain⟨_,_,_,_,_,a,_⟩:=nd.ex;exact JU a (by simp[eO])
end Go.Proofs
namespace Go.Proofs
open Go Go.Lift
end Go.Proofs
namespace Go.Proofs
open Go Go.Lift
theorem RxN.plain{W:Nat→Prop}{h:ad}{b:Nat}{sl:ByteArray}{w:Option ByteArray}{F:Fo}(r:RxN W h b sl w F):f0 h ⟨b,0,none⟩:=by
 obtain⟨val,s,ow,ks,a,_⟩:=r;exact JU a (by simp[CM])
end Go.Proofs
namespace Go.Proofs
open Go Go.Lift
end Go.Proofs
namespace Go.Proofs
open Go Go.Lift
def Tv(a b:Ch):Bool:=decide (kl a.1 b.1)
theorem SR(M:Nat→Prop):Cmp Tv TQ M (fun _=>True) (.func (.func vh) #[] #[]):=by
 refine⟨fun a b h K _ d=>HV.mk' (IX a b ?_),fun _ h=>h⟩
 unfold BC av eI Rt;refine cf fun f b1 k1=>cf fun e b2 c=>?_
 refine⟨a.1,vc (c.get0 b1) 0,b.1,vc b2 0,Du (d e _ (k1.tr c) ?_)⟩;unfold GJ Tv;split
 ·rename_i h;rw[decide_eq_true h];rfl
 ·rename_i h
  rw[decide_eq_false h];split<;>rfl
end Go.Proofs
namespace Go.Proofs
open Go Go.Lift
end Go.Proofs
namespace Go.Proofs
open Go Go.Lift
end Go.Proofs
namespace Go.Proofs
open Go Go.Lift
end Go.Proofs
namespace Go.Proofs
open Go Go.Lift
theorem Qk{a b:ByteArray}:kl a b↔cA a.data.toList b.data.toList=true:=by unfold kl;rw[ByteArray.toList_eq,ByteArray.toList_eq]
theorem LQ{a b:UInt8}{x y:List UInt8}:cA (a::x) (b::y)=true↔a.toNat<b.toNat∨(a=b∧cA x y=true):=by
 simp only[cA,Bool.or_eq_true,decide_eq_true_iff,aQ,beq_iff_eq,UInt8.lt_iff_toNat_lt]
theorem Po{x y:List UInt8}:∀pre:List UInt8,cA (pre++x) (pre++y)=true↔cA x y=true
 | []=>wa
 |a::pre=>by rw[ld,ld,LQ,Po pre];simp
theorem SV{x y:List UInt8}(h:cA x y=true)(hx:x≠[])(c:y≠[]):hd x≤hd y:=by
 match x,y,hx,c with
 |a::x,b::y,_,_=>
  show a.toNat≤b.toNat
  rcases LQ.1 h with h|⟨rfl,_⟩<;>omega
abbrev ky(p:Pr):List UInt8:=p.1.data.toList
def TU(l:List Pr)(a k:List UInt8)(v:ByteArray):Prop:=∃p∈l,ky p=a++k∧p.2=v
structure Beg(l:List Pr)(pre:List UInt8):Prop where
 up:dM l
 at_:∀p∈l,(ky p).take pre.length=pre∧pre.length<(ky p).length
theorem Beg.sub{l c:List Pr}{a:List UInt8}(b:Beg l a)(h:c.Sublist l):Beg c a:=⟨b.up.sublist h,fun p d=>b.at_ p (h.subset d)⟩
theorem Beg.split{l:List Pr}{a:List UInt8}(b:Beg l a){p:Pr}(d:p∈l):ky p=a++(ky p).drop a.length∧(ky p).drop a.length≠[]:=by
 obtain⟨c,f⟩:=b.at_ p d;refine⟨?_,fun e=>?_⟩
 ·conv=>lhs;rw[←List.take_append_drop a.length (ky p),c]
 ·have:=congrArg List.length e
  rw[aK,dT]at this;omega
def bt(n:Nat)(p:Pr):Nat:=hd ((ky p).drop n)
theorem Beg.mono{A B:List Pr}{a:List UInt8}(b:Beg (A++B) a){x y:Pr}(hx:x∈A)(c:y∈B):bt a.length x≤bt a.length y:=by
 have h:=(dP.1 b.up).2.2 x hx y c;rw[Qk]at h;obtain⟨e1,e⟩:=b.split (f9 B hx);obtain⟨e2,d⟩:=b.split (gV A c);change cA (ky x) (ky y)=true at h;rw[e1,e2,Po]at h;exact SV h e d
structure Row(L:List Bn)(D T:List Pr)(pre:List UInt8):Prop where
 can:∀n∈L,Nh n
 up:L.Pairwise fun m n=>hd m.1<hd n.1
 lo:∀n∈L,∀p∈T,hd n.1<bt pre.length p
 got:∀k v,(∃n∈L,uA n k v)↔TU D pre k v
theorem Row.nil(T:List Pr)(a:List UInt8):Row [] [] T a:=⟨fun n h=>(by cases h),ix,fun n h=>(by cases h),fun k v=>⟨fun⟨n,h,_⟩=>(by cases h),fun⟨p,h,_⟩=>(by cases h)⟩⟩
theorem Row.more{L:List Bn}{D A B:List Pr}{c:List UInt8}{n:Bn}{p:Pr}(r:Row L D (A++B) c)(j:Beg (A++B) c)(t:p∈A)(_:∀a∈A,bt c.length a=bt c.length p)(x:∀b f,B=b::f→bt c.length b≠bt c.length p)(hc:Nh n)(o:hd n.1=bt c.length p)(s:∀k v,uA n k v↔TU A c k v):Row (L++ [n]) (D++A) B c:=by
 refine⟨fun m hm=>?_,dP.2 ⟨r.up,dH ..,fun a w b u=>?_⟩,fun m hm q d=>?_,fun k v=>?_⟩
 ·rcases bS.1 hm with hm|hm
  ·exact r.can m hm
  ·rw[aN.1 hm];exact hc
 ·rw[aN.1 u,o]
  exact r.lo a w p (f9 _ t)
 ·rcases bS.1 hm with hm|hm
  ·exact r.lo m hm q (gV _ d)
  ·rw[aN.1 hm,o]
   rcases B with _|⟨i,f⟩
   ·cases d
   have y:=x i f rfl;have z:=j.mono t (aW (a:=i) (l:=f));rcases au.1 d with rfl|d
   ·omega
   ·have g:Beg ([i]++f) c:=j.sub (List.sublist_append_right A _)
    have:=g.mono (aN.2 rfl) d;omega
 ·constructor
  ·rintro⟨m,hm,hi⟩
   rcases bS.1 hm with hm|hm
   ·obtain⟨q,d,e⟩:=(r.got k v).1 ⟨m,hm,hi⟩
    exact⟨q,f9 _ d,e⟩
   ·rw[aN.1 hm]at hi
    obtain⟨q,d,e⟩:=(s k v).1 hi;exact⟨q,gV _ d,e⟩
  ·rintro⟨q,d,e⟩
   rcases bS.1 d with d|d
   ·obtain⟨m,hm,hi⟩:=(r.got k v).2 ⟨q,d,e⟩
    exact⟨m,f9 _ hm,hi⟩
   ·exact⟨n,gV _ (aN.2 rfl),(s k v).2 ⟨q,d,e⟩⟩
theorem Row.done{L:List Bn}{D:List Pr}{a:List UInt8}(r:Row L D [] a):ir (.ofL L)∧∀k v,rq (.ofL L) k v↔TU D a k v:=by
 refine⟨dL.2 ?_,fun k v=>?_⟩
 ·rw[Fo.to_of];exact⟨r.up,r.can⟩
 ·rw[gt,Fo.to_of];exact r.got k v
end Go.Proofs
namespace Go.Proofs
open Go Go.Lift
theorem Kid.less{W W':Nat→Prop}{h:ad}(hm:∀b,W' b→W b∨h.size≤b){a:Option Addr}{n:Bn}:Kid W h a n→Kid W' h a n
 |⟨b,sl,e1,e2,e3⟩=>⟨b,sl,e1,e2,e3.less hm⟩
theorem Kid.updM{W M:Nat→Prop}{h h':ad}(k:Upd M h h')(hm:∀b,M b→W b∨h.size≤b){a:Option Addr}{n:Bn}:Kid W h a n→Kid W h' a n
 |⟨b,sl,e1,e2,e3⟩=>⟨b,sl,e1,e2,e3.updM k hm⟩
theorem RxL.less{W W':Nat→Prop}{h:ad}(hm:∀b,W' b→W b∨h.size≤b){ks:List (Option Addr)}{L:List Bn}(r:RxL W h ks L):RxL W' h ks L:=⟨r.1,fun p a=>(r.2 p a).less hm⟩
theorem RxL.updM{W M:Nat→Prop}{h h':ad}(k:Upd M h h')(hm:∀b,M b→W b∨h.size≤b){ks:List (Option Addr)}{L:List Bn}(r:RxL W h ks L):RxL W h' ks L:=⟨r.1,fun p a=>(r.2 p a).updM k hm⟩
end Go.Proofs
namespace Go.Proofs
open Go Go.Lift
end Go.Proofs
namespace Go.Proofs
open Go Go.Lift
end Go.Proofs
namespace Go.Proofs
open Go Go.Lift
end Go.Proofs
namespace Go.Proofs
open Go Go.Lift
end Go.Proofs
namespace Go.Proofs
open Go Go.Lift
abbrev b1:ByteArray:=⟨#[49]⟩
abbrev b2:ByteArray:=⟨#[50]⟩
abbrev b3:ByteArray:=⟨#[51]⟩
end Go.Proofs
namespace Go.Proofs
open Go Go.Lift
def look(l:List Pr)(k:ByteArray):Option ByteArray:=(l.find? fun p=>decide (p.1=k)).map (·.2)
theorem MB{l:List Pr}{k:ByteArray}(h:bX l k=false):look l k=none:=by
 unfold look;rw[Option.map_eq_none_iff,List.find?_eq_none];intro p a;unfold bX at h;rw[List.any_eq_false]at h;exact h p a
theorem Ao:∀{l:List Pr} {k v:ByteArray},dM l→(k,v)∈l→look l k=some v
 |p::l,k,v,a,h=>by
  have a:=bE.1 a;unfold look;rw[pA];rcases au.1 h with e|h
  ·subst e;simp
  ·have b:p.1≠k:=fun e=>by
    have:=a.1 _ h;simp only at this;rw[e]at this;exact dV _ this
   rw[decide_eq_false b];exact Ao a.2 h
theorem Qi{l:List Pr}(c:dM l){k v:ByteArray}(a:bX l k=true→(k,v)∈l)(b:bX l k=false→v=⟨#[]⟩):((look l k).getD ⟨#[]⟩,(look l k).isSome)=(v,bX l k):=by
 cases ht:bX l k with
 |true=>rw[Ao c (a ht)];rfl
 |false=>rw[MB ht,b ht];rfl
theorem MA{x:Hs}{lev:Nat}{l:List Pr}{k:ByteArray}:look (part x lev (ck x lev k) l) k=look l k:=by
 unfold look part;congr 1
 rw[List.find?_filter];congr 1
 funext p;by_cases e:p.1=k
 ·rw[e];simp
 ·simp[e]
theorem IB{W:Nat→Prop}{x:Hs}{h:ad}{b:Nat}{l:List Pr}(t:TrieAt W x h 13 b l)(hW:∀y,W y→y<h.size)(Y:dM l)(hn:l.length≤1000000)(k:ByteArray){K:ByteArray×Bool→ad→Prop}
  (L:∀h',Upd No h h'→K ((look l k).getD ⟨#[]⟩,(look l k).isSome) h'):HC PG vl [.agg #[.int .u64 x.k0,.int .u64 x.k1,.int .u64 x.mask],.pointer (some ⟨b,0,none⟩),.string k] [.c .str,.c .bool] K h:=by
 refine I0 (x.k0,x.k1,x.mask) (some ⟨b,0,none⟩) k ?_;unfold BF av xX nv lA jl pj ae wc ny mE;refine cf fun h1 b1 k1=>⟨_,vc b1 0,_,vc b1 1,_,vc b1 2,?_⟩
 refine yz fun h2 X=>?_
 have q:=k1.tr X;refine FT (.inr ⟨b,rfl,TrieAt.upd0 q t⟩) (fun y T=>aC (hW y T) q.size) fun h3 b3 U V _=>?_
 have J:=q.tr V;refine LoopP.ghost (fun(g:Nat×Nat×List Pr) (t:Option Addr×Int) h'=>t=(some ⟨g.2.1,0,none⟩,((13-g.1:Nat):Int))∧g.1≤13∧TrieAt W x h' g.1 g.2.1 g.2.2∧dM g.2.2∧g.2.2.length≤1000000∧look g.2.2 k=look l k∧Upd No h h') (fun g=>g.1) (13,b3,l)
  ⟨rfl,az _,U,Y,hn,rfl,J⟩ ?_
 rintro I ⟨m,c,B⟩ t h4 ⟨rfl,hm,tm,f,w,u,D⟩ Z;simp only at hm tm f w u;rcases m with _|m
 ·obtain⟨sp,sk,ow,E,_⟩:=BuckAt.ex tm
  refine jd E (ay.2 (OH tm f (by omega) k fun R v O e1 e2=>?_))
  have:=L R (D.tr O);rw[←u,Qi f e1 e2]at this;exact this
 ·obtain⟨s,nd,H⟩:=tm
  have H:∀c,c<32→SlotIs W x h4 m s c (part x (12-m) c B):=H;obtain⟨d,n,sp,sk,ow,E,_⟩:=nd.ex;refine jd E (ag.2 ?_);refine Pf (by omega) ?_;rw[show 13-(m+1)=12-m by omega]
  have hi:=Dw x (12-m) k;have o:=H _ hi;have j:look (part x (12-m) (ck x (12-m) k) B) k=look l k:=by rw[MA,u]
  have z:dM (part x (12-m) (ck x (12-m) k) B):=xg f;have A:(part x (12-m) (ck x (12-m) k) B).length≤1000000:=bR uK w;generalize part x (12-m) (ck x (12-m) k) B=lp at o j z A;generalize ck x (12-m) k=i at hi o;refine CU nd hi fun R O=>?_
  refine Sz fun C N S=>?_
  have a:=O.tr S;rcases o with⟨G,e1,e2⟩|⟨p,G,e1,e2⟩|⟨_,e1,Q,e2,tk⟩
  ·rw[e1]
   refine ag.2 (Cb (nd.upd a fun _ h=>h.elim) hi ?_)
   rw[e2];refine ay.2 ?_;have:=L C (D.tr a);rw[←j,G]at this;exact this
  ·rw[e1]at N⊢
   refine ay.2 ⟨p.1,vc N 0,?_⟩;rw[f8];have:=L C (D.tr a);rw[←j,G]at this;by_cases e:p.1=k
   ·rw[decide_eq_true e]
    refine ag.2 ⟨p.2,vc N 1,?_⟩;have F:look [p] k=some p.2:=by unfold look;rw[pA,decide_eq_true e];rfl
    rw[F]at this;exact this
   ·rw[decide_eq_false e]
    have F:look [p] k=none:=by unfold look;rw[pA,decide_eq_false e];rfl
    rw[F]at this;exact ay.2 this
  ·rw[e1]
   refine ag.2 (Cb (nd.upd a fun _ h=>h.elim) hi ?_)
   rw[e2];refine ag.2 ?_;have P:ac .i64 (((13-(m+1):Nat):Int)+1)=((13-m:Nat):Int):=by rw[j2 (by omega)];omega
   rw[show 13-(m+1)=12-m by omega]at P
   show I (some ⟨Q,0,none⟩,ac .i64 (((12-m:Nat):Int)+1)) C
   rw[P];exact Z (m,Q,lp) _ C ⟨rfl,by simp only;omega,TrieAt.upd0 a tk,z,A,j,D.tr a⟩ (by simp only;omega)
abbrev Sd:=ByteArray×Bool
end Go.Proofs
namespace Go.Proofs
open Go Go.Lift
section
variable {W:Nat→Prop} {h:ad} {vp:Nat} {s:VS}
end
end Go.Proofs
namespace Go.Proofs
open Go Go.Lift
structure NSt(h8:ad)(b:Nat)(t:Tr)(h:ad)(ps ms:List Nat):Prop where
 k:Upd No h8 h
 blk:h[b]? =some (.cells (nu t).toArray bH (0,0))
 gs:∀p∈ps,GraphAt (DG (p+1) p) h (p+1) p [] 1∧h8.size≤p
 mp:∀m∈ms,h[m]? =some (.map #[] 0)∧h8.size≤m
section
variable {h8 h h':ad} {b:Nat} {t:Tr} {ps ms:List Nat}
theorem NSt.upd(n:NSt h8 b t h ps ms)(k:Upd No h h'):NSt h8 b t h' ps ms:=
 ⟨n.k.tr k,k.get0 n.blk,fun p a=>⟨(n.gs p a).1.upd0 k,(n.gs p a).2⟩,fun m hm=>⟨k.get0 (n.mp m hm).1,(n.mp m hm).2⟩⟩
theorem NSt.rds(n:NSt h8 b t h ps ms):aE h (adr ⟨b,0,none⟩ 0)=some (.int .i64 t.1)∧aE h (adr ⟨b,0,none⟩ 1)=some (.int .u64 t.2.1)∧aE h (adr ⟨b,0,none⟩ 2)=some (.int .u64 t.2.2.1)∧aE h (adr ⟨b,0,none⟩ 3)=some (.int .u64 t.2.2.2.1)∧aE h (adr ⟨b,0,none⟩ 4)=some (.pointer t.2.2.2.2.1)∧aE h (adr ⟨b,0,none⟩ 5)=some (.pointer t.2.2.2.2.2):=
 ⟨vc n.blk 0,vc n.blk 1,vc n.blk 2,vc n.blk 3,vc n.blk 4,vc n.blk 5⟩
theorem NSt.map(n:NSt h8 b t h ps ms){k:ad→Prop}(c:∀h',NSt h8 b t h' ps (h.size::ms)→h.size<h'.size→k h'):At (Array.push h (.map #[] 0)) k:=by
 have d:=Upd.push No h (.map #[] 0);have a:=n.upd d;refine aU (c _ ⟨a.k,a.blk,a.gs,fun m hm=>?_⟩ (by simp))
 rcases au.1 hm with rfl|hm
 ·exact⟨mL h _,n.k.size⟩
 ·exact a.mp m hm
theorem NSt.graph(n:NSt h8 b t h ps ms){K:Option Addr→ad→Prop}(d:∀h',NSt h8 b t h' (h.size::ps) ms→h.size+1<h'.size→K (some ⟨h.size+1,0,none⟩) h'):HC PG cT [] [.c .ptr] K h:=by
 refine Qs fun h' e g=>?_
 have a:=n.upd e;refine d h' ⟨a.k,a.blk,fun p c=>?_,a.mp⟩ (g.lt _ (.inl rfl))
 rcases au.1 c with rfl|c
 ·exact⟨g,n.k.size⟩
 ·exact a.gs p c
theorem NSt.put(n:NSt h8 b t h ps ms){cs:List Value}{ty:TypeId}{k:ad→Prop}(a:∀h',NSt h8 b t h' ps ms→h'[h.size]? =some (.cells cs.toArray ty (0,0))→h8.size≤h.size→k h'):At (hnew h cs ty) k:=
 cf fun h' b' k'=>a h' (n.upd k') b' n.k.size
theorem NSt.done{W:Nat→Prop}{kind:Int}{x:Hs}(n:NSt h8 b t h ps ms)(z:∀y,W y→y<h8.size)(i:TreeIs W h8 kind x t [])(w:kind=0∨kind=1){c p f j k:Nat}{K:Option Addr×Int→ad→Prop}
  (A:∀h' vp gp gm tm bm nm,VaultAt (fun y=>W y∨VS.M ⟨gp,gm,tm,bm,nm,kind,x,t,[],1,[],[],[]⟩ y) h' vp ⟨gp,gm,tm,bm,nm,kind,x,t,[],1,[],[],[]⟩→h8.size≤vp→(∀y,VS.M ⟨gp,gm,tm,bm,nm,kind,x,t,[],1,[],[],[]⟩ y→h8.size≤y)→Upd No h8 h'→K (some ⟨vp,0,none⟩,0) h')
  (F:h[c]? =some (.cells (nu t++ [Value.pointer (some ⟨p+1,0,none⟩),Value.map (some f),Value.map (some j),Value.map (some k)]).toArray bG (0,0)))
  (C:h8.size≤c) (o:∀m∈(p+1)::p::ms,c≠m) (D:p∈ps) (s:f∈ms) (u:j∈ms) (q:k∈ms) (ne: [p+1,p,f,j,k].Nodup):K (some ⟨c,0,none⟩,0) h:=by
 obtain⟨g,B⟩:=n.gs p D;have hM:∀y,VS.M ⟨p+1,p,f,j,k,kind,x,t,[],1,[],[],[]⟩ y→h8.size≤y∧y<h.size∧c≠y:=fun y a=>by
  rcases a with e|e|e|e|e<;>(simp only at e;subst e)
  ·exact⟨by omega,g.lt _ (.inl rfl),o _ (by simp)⟩
  ·exact⟨B,g.lt _ (.inr rfl),o _ (by simp)⟩
  ·exact⟨(n.mp _ s).2,bp (n.mp _ s).1,o _ (by simp[s])⟩
  ·exact⟨(n.mp _ u).2,bp (n.mp _ u).1,o _ (by simp[u])⟩
  ·exact⟨(n.mp _ q).2,bp (n.mp _ q).1,o _ (by simp[q])⟩
 obtain⟨m,hm,v⟩:=g.map;have em:∀{κ β:Type} {E:KeyE κ} {g:β→Value} {r:Nat},h[r]? =some (.map #[] 0)→MapAt E g h r []:=fun v=>⟨[],0,⟨v,np,np,fun _ h=>by cases h⟩,rfl⟩
 refine A h c (p+1) p f j k ⟨F,⟨g.blk,⟨m,hm,fun id=>(v id).elim (fun⟨_,_,_,e,_⟩=>by cases e) .inr⟩,.inr (.inl rfl),.inr (.inr (.inl rfl)),fun y a=>a.elim (fun e=>aC (z y e) n.k.size) fun e=>(hM y e).2.1,g.nd⟩,em (n.mp _ s).1,em (n.mp _ u).1,em (n.mp _ q).1,fun y a=>.inr a,fun a=>a.elim (fun e=>by have:=z _ e;omega) fun e=>(hM _ e).2.2 rfl,ne,?_,fun d hd=>(by cases hd),fun id=>wa,Inv.nil,w⟩ C (fun y a=>(hM y a).1) n.k
 exact(i.less fun y a=>a.imp id fun e=>(hM y e).1).upd0 n.k
end
theorem PS{W:Nat→Prop}{h:ad}(q:∀y,W y→y<h.size){kind:Int}(m:kind=0∨kind=1){x:Hs}{K:Option Addr×Int→ad→Prop}
  (B:∀h' d gp gm tm bm nm t,VaultAt (fun y=>W y∨VS.M ⟨gp,gm,tm,bm,nm,kind,x,t,[],1,[],[],[]⟩ y) h' d ⟨gp,gm,tm,bm,nm,kind,x,t,[],1,[],[],[]⟩→h.size≤d→(∀y,VS.M ⟨gp,gm,tm,bm,nm,kind,x,t,[],1,[],[],[]⟩ y→h.size≤y)→Upd No h h'→K (some ⟨d,0,none⟩,0) h'):
  HC PG uX [.int .i64 kind,.agg #[.int .u64 x.k0,.int .u64 x.k1,.int .u64 x.mask]] [.c .ptr,.c (.int .i64)] K h:=by
 refine IJ kind (x.k0,x.k1,x.mask) ?_;unfold Bo ao nv pj ae wc ah nI kH;refine cf fun H b1 k1=>⟨_,vc b1 0,_,vc b1 1,_,vc b1 2,?_⟩
 refine PZ (W:=W) (x:=x) (fun y a=>aC (q y a) k1.size) m fun u t i w=>?_
 have j:=k1.tr w;refine cf fun I A s=>eN (c:=nu zQ) (vs:=nu t) A rfl fun f g k=>ag.2 ?_
 have b:Upd No h f:=(j.tr s).own k j.size;have E:TreeIs W f kind x t []:=((i.less (W':=fun y=>W y∨y=u.size) fun y a=>a.imp id fun e=>Nat.le_of_eq e.symm).updM (s.wide.tr (k.mono fun _ e=>.inl (.inr e))) fun y a=>.inl a).less fun y a=>.inl (.inl a)
 have p:∀y,W y→y<f.size:=fun y a=>aC (q y a) b.size
 have o:∀h' d gp gm tm bm nm,VaultAt (fun y=>W y∨VS.M ⟨gp,gm,tm,bm,nm,kind,x,t,[],1,[],[],[]⟩ y) h' d ⟨gp,gm,tm,bm,nm,kind,x,t,[],1,[],[],[]⟩→f.size≤d→(∀y,VS.M ⟨gp,gm,tm,bm,nm,kind,x,t,[],1,[],[],[]⟩ y→f.size≤y)→Upd No f h'→K (some ⟨d,0,none⟩,0) h':=
  fun h' d gp gm tm bm nm v F hM G=>B h' d gp gm tm bm nm t v (bR b.size F) (fun y a=>bR b.size (hM y a)) (b.tr G)
 have n:NSt f u.size t f [] []:=⟨Upd.refl _ _,g,fun _ h=>(by cases h),fun _ h=>(by cases h)⟩
 refine⟨_,vc g 0,_,vc g 1,_,vc g 2,_,vc g 3,_,vc g 4,_,vc g 5,?_⟩;clear B b q g k j i w s A b1 k1;repeat' first
  |refine⟨n.rds,?_⟩
  |refine n.graph fun _ n z=>?_
  |refine n.map fun _ n z=>?_
  |refine n.put fun _ n C D=>?_
  |exact n.done p E m o C D (by simp;omega) (by simp) (by simp) (by simp) (by simp) (by simp;omega)
  |refine And.intro ?_ ?_
end Go.Proofs
namespace Go.Proofs
open Go Go.Lift
end Go.Proofs
namespace Go.Proofs
open Go Go.Lift
end Go.Proofs
namespace Go.Proofs
open Go Go.Lift
theorem Qg{α:Type}{l:List α}{i:Nat}{a b:α}(h:b∈l.set i a):b=a∨∃j,j≠i∧l[j]? =some b:=by
 obtain⟨j,c⟩:=List.getElem?_of_mem h;rw[List.getElem?_set]at c;split at c
 ·split at c
  ·cases c;exact .inl rfl
  ·cases c
 ·exact .inr ⟨j,by omega,c⟩
def sb(s:SliceV)(y:Nat):Prop:=s.cap≠0∧∃a,s.a=some a∧y=a.block
section
variable {α:Type} {f:α→List Value} {sz:Nat} {ty:TypeId} {M:Nat→Prop} {h:ad} {s so:SliceV} {xs out:List α}
theorem _root_.Go.Lift.OwnS.sub(o:OwnS f sz ty M h s xs):∀y,sb s y→M y∧y<h.size:=fun y ⟨hc,a,g,d⟩=>by
 rcases o.blk with i|⟨b,c,e,hm,j,_⟩
 ·exact absurd i hc
 ·rw[g]at e
  cases e;exact⟨d▸hm,d▸bp j⟩
theorem _root_.Go.Lift.OwnS.its(o:OwnS f sz ty M h s xs):OwnS f sz ty (sb s) h s xs:=by
 refine⟨o.len,o.ne,o.cap,?_⟩;by_cases hc:s.cap=0
 ·exact .inl hc
 ·rcases o.blk with e|⟨b,a,c,hm,g,d⟩
  ·exact absurd e hc
  ·exact .inr ⟨b,a,c,⟨hc,_,c,rfl⟩,g,d⟩
theorem FX{a:Option Addr}{n:Nat}:∀y,¬sb ⟨a,n,0⟩ y:=fun _ h=>h.1 rfl
theorem _root_.Go.Lift.OwnS.one{x:α}{b:Nat}(a:∀x,(f x).length=sz∧0<sz)(c:h[b]? =some (.cells (f x).toArray ty (0,0))):OwnS f sz ty (sb ⟨some ⟨b,0,none⟩,1,1⟩) h ⟨some ⟨b,0,none⟩,1,1⟩ [x]:=
 ⟨rfl,a,az _,.inr ⟨b,[],rfl,⟨by simp,_,rfl,rfl⟩,by simpa using c,by simp⟩⟩
theorem RO{a:Nat}{z:List Value}{t:α}{b:Nat}{K:SliceV→ad→Prop}(i:OwnS f sz ty (sb so) h so out)(m:h[b]? =some (.cells (f t).toArray ty (0,0))) (c:bM (f t)=true) (k:z.length=sz) (e:0<a∧a≤64) (n:out.length+1≤1000000)
  (j:∀s' h',OwnS f sz ty (sb s') h' s' (out++ [t])→Upd (sb so) h h'→(∀y,sb s' y→(sb so y∨h.size≤y)∧y<h'.size)→K s' h'):
  ∃xs,SRow h (some ⟨b,0,none⟩) (1*sz) xs∧AppP (some z) sz a ty so.a so.len so.cap 1 xs h K:=by
 refine⟨_,((OwnS.one i.ne m).sl (W:=No) fun _ _ _ h=>h).srow,?_⟩
 refine AppP.own (M:=fun y=>sb so y∨h.size≤y) (ys:= [t]) (i.more fun y g=>.inl g) rfl rfl (by simpa using c) k e.1 ?_ (.inr (az _)) fun s' h' d o=>j s' h' d.its (o.mono fun y g=>g) d.sub
 simp only[bZ];calc (out.length+1)*a≤1000000*64:=Nat.mul_le_mul n e.2
  _≤140737488355328:=by omega
end
structure Sp where
 T:Nat→Prop
 Q:ad→Prop
 loc:∀{M:Nat→Prop} {h h':ad},Q h→Upd M h h'→(∀y,T y→¬M y)→Q h'
def Pg(b:Nat)(cs:List Value)(t:TypeId):Sp:=⟨(· =b),fun h=>h[b]? =some (.cells cs.toArray t (0,0)),fun q k a=>k.get q (a _ rfl)⟩
def xb{α:Type}(f:α→List Value)(a:Nat)(ty:TypeId)(s:SliceV)(xs:List α):Sp:=⟨sb s,fun h=>OwnS f a ty (sb s) h s xs,fun q k b=>q.upd k b⟩
def AL(Ss:List Sp)(y:Nat):Prop:=∃s∈Ss,s.T y
structure Own(Ss:List Sp)(h:ad):Prop where
 q:∀s∈Ss,s.Q h
 lt:∀s∈Ss,∀y,s.T y→y<h.size
 pd:∀(i j:Nat) (a b:Sp),Ss[i]? =some a→Ss[j]? =some b→i≠j→∀y,a.T y→¬b.T y
section
variable {Ss:List Sp} {h h':ad} {M:Nat→Prop} {s s':Sp} {i:Nat}
theorem Own.get(o:Own Ss h)(hi:Ss[i]? =some s):s.Q h:=o.q s (bD hi)
theorem Own.away(o:Own Ss h)(k:Upd M h h')(hm:∀y,AL Ss y→¬M y):Own Ss h':=
 ⟨fun s a=>s.loc (o.q s a) k fun y b=>hm y ⟨s,a,b⟩,fun s a y b=>aC (o.lt s a y b) k.size,o.pd⟩
theorem Own.nil:Own [] h:=⟨(fun _ h=>by cases h),(fun _ h=>by cases h),(fun i j a b h=>by simp at h)⟩
theorem Own.set(o:Own Ss h)(hi:Ss[i]? =some s) (k:Upd M h h') (hm:∀y,M y→s.T y∨h.size≤y) (q:s'.Q h') (x:∀y,s'.T y→(s.T y∨h.size≤y)∧y<h'.size):Own (Ss.set i s') h':=by
 have A:i<Ss.length:=(bi.1 hi).1;have val:∀{j:Nat} {a:Sp},(Ss.set i s')[j]? =some a→(j=i∧a=s')∨(j≠i∧Ss[j]? =some a):=fun{j a} c=>by
  by_cases e:j=i
  ·subst e;rw[List.getElem?_set_self A]at c;cases c;exact .inl ⟨rfl,rfl⟩
  ·rw[List.getElem?_set_ne (Ne.symm e)]at c;exact .inr ⟨e,c⟩
 have one:∀{j:Nat} {a:Sp},j≠i→Ss[j]? =some a→∀y,a.T y→¬s'.T y:=fun{j a} f c y d h'=>
  (x y h').1.elim (o.pd j i a s c hi f y d) fun h=>by have:=o.lt a (bD c) y d;omega
 refine⟨fun a c=>?_,fun a c y d=>?_,fun p j a b c z m y d g=>?_⟩
 ·obtain⟨j,f⟩:=List.getElem?_of_mem c
  rcases val f with⟨_,rfl⟩|⟨v,f⟩
  ·exact q
  ·refine a.loc (o.get f) k fun y d hM=>?_
   rcases hm y hM with h|h
   ·exact o.pd j i a s f hi v y d h
   ·have:=o.lt a (bD f) y d;omega
 ·obtain⟨j,f⟩:=List.getElem?_of_mem c
  rcases val f with⟨_,rfl⟩|⟨v,f⟩
  ·exact(x y d).2
  ·exact aC (o.lt a (bD f) y d) k.size
 ·rcases val c with⟨n,rfl⟩|⟨n,w⟩<;>rcases val z with⟨t,rfl⟩|⟨t,u⟩
  ·exact m (n.trans t.symm)
  ·exact one t u y g d
  ·exact one n w y d g
  ·exact o.pd p j a b w u m y d g
theorem Own.push(o:Own Ss h)(k:Upd No h h')(q:s'.Q h')(g:∀y,s'.T y→h.size≤y∧y<h'.size):Own (Ss++ [s']) h':=by
 have val:∀{j:Nat} {a:Sp},(Ss++ [s'])[j]? =some a→(j=Ss.length∧a=s')∨Ss[j]? =some a:=fun{j a} c=>by
  rw[List.getElem?_append]at c;split at c
  ·exact .inr c
  ·have:j-Ss.length=0:=by have:=(bi.1 c).1;simp only[bZ]at this;omega
   rw[this]at c;cases c;exact .inl ⟨by omega,rfl⟩
 have mem:∀{a},a∈Ss++ [s']→a∈Ss∨a=s':=fun h=>(bS.1 h).imp id aN.1
 refine⟨fun a c=>?_,fun a c y e=>?_,fun p j a b c n f y e d=>?_⟩
 ·rcases mem c with c|rfl
  ·exact a.loc (o.q a c) k fun _ _ h=>h
  ·exact q
 ·rcases mem c with c|rfl
  ·exact aC (o.lt a c y e) k.size
  ·exact(g y e).2
 ·rcases val c with⟨s,rfl⟩|m<;>rcases val n with⟨t,rfl⟩|i
  ·omega
  ·have:=o.lt b (bD i) y d;have:=(g y e).1;omega
  ·have:=o.lt a (bD m) y e;have:=(g y d).1;omega
  ·exact o.pd p j a b m i f y e d
theorem RR(hi:Ss[i]? =some s) {z:Nat} (c:∀y,s'.T y→s.T y∨z≤y):∀y,AL (Ss.set i s') y→AL Ss y∨z≤y:=fun y ⟨a,e,b⟩=>by
 rcases Qg e with rfl|⟨j,_,d⟩
 ·exact(c y b).imp (fun h=>⟨s,bD hi,h⟩) id
 ·exact .inl ⟨a,bD d,b⟩
end
theorem GraphAt.re{W W' M:Nat→Prop}{h h':ad}{gp gm:Nat}{L:fL}{nx:Int}(g:GraphAt W h gp gm L nx)(k:Upd M h h')(hm:∀b,M b→(W b∧b≠gp∧b≠gm)∨h.size≤b)(i:∀b,W' b→(W b∨h.size≤b)∧b<h'.size)(d:W' gp)(f:W' gm):GraphAt W' h' gp gm L nx:=by
 have q:=g.upd k hm;obtain⟨m,c,o⟩:=g.map;refine⟨q.blk,⟨m,c.upd k fun e=>(hm _ e).elim (fun e=>e.2.2 rfl) fun e=>absurd (g.lt _ g.wm) (gO.2 e),fun j=>?_⟩,d,f,fun b a=>(i b a).2,g.nd⟩
 rcases o j with⟨s,ps,d,f,n⟩|p
 ·exact .inl ⟨s,ps,d,f,((n.less (W':=fun b=>W b∨h.size≤b) fun b a=>a).upd k fun b a=>.inl ((hm b a).imp (·.1) id)).less fun b a=>.inl (i b a).1⟩
 ·exact .inr p
theorem TreeIs.re{W W' M:Nat→Prop}{h h':ad}{kind:Int}{x:Hs}{t:Tr}{l:List Pr}(i:TreeIs W h kind x t l)(k:Upd M h h')(hm:∀b,M b→W b∨h.size≤b)(c:∀b,W' b→W b∨h.size≤b):TreeIs W' h' kind x t l:=
 ((i.less (W':=fun b=>W b∨h.size≤b) fun _ a=>a).updM k fun b a=>.inl (hm b a)).less fun b a=>.inl (c b a)
theorem VaultAt.re{W W' M:Nat→Prop}{h h':ad}{m:Nat}{s:VS}(v:VaultAt W h m s)(k:Upd M h h')(hm:∀b,M b→(W b∧¬s.M b)∨h.size≤b)(j:∀b,W' b→(W b∨h.size≤b)∧b<h'.size)(hM:∀y,s.M y→W' y):VaultAt W' h' m s:=by
 have g:=v.upd k hm;have c:∀b,M b→W b∨h.size≤b:=fun b f=>(hm b f).imp (·.1) id
 have a:∀b,W' b→W b∨h.size≤b:=fun b f=>(j b f).1
 exact⟨g.blk,v.g.re k (fun b f=>(hm b f).imp (fun e=>⟨e.1,fun i=>e.2 (.inl i),fun i=>e.2 (.inr (.inl i))⟩) id) j (hM _ (.inl rfl)) (hM _ (.inr (.inl rfl))),g.t,g.b,g.n,hM,fun n=>(a _ n).elim v.wv fun e=>absurd (bp v.blk) (by omega),v.ne,v.em.re k c a,fun d hd=>⟨(v.ts d hd).1.re k c a,(v.ts d hd).2⟩,v.sub,v.inv,v.kd⟩
structure Vw(Ss:List Sp)(h:ad)(vp:Nat)(s:VS):Prop where
 own:Own Ss h
 v:VaultAt (fun y=>s.M y∨AL Ss y) h vp s
 ap:∀y,AL Ss y→¬s.M y
section
variable {Ss:List Sp} {h h':ad} {vp:Nat} {s:VS} {p p':Sp} {i:Nat} {M:Nat→Prop}
theorem Vw.up0(w:Vw Ss h vp s)(k:Upd No h h'):Vw Ss h' vp s:=⟨w.own.away k fun _ _ h=>h,w.v.upd0 k,w.ap⟩
theorem Vw.lt(w:Vw Ss h vp s):∀y,(s.M y∨AL Ss y)→y<h.size:=w.v.g.lt
theorem Vw.set(w:Vw Ss h vp s)(hi:Ss[i]? =some p) (k:Upd M h h') (hm:∀y,M y→p.T y∨h.size≤y) (q:p'.Q h') (d:∀y,p'.T y→(p.T y∨h.size≤y)∧y<h'.size):Vw (Ss.set i p') h' vp s:=by
 have o:=w.own.set hi k hm q d;have f:=RR hi (z:=h.size) fun y b=>(d y b).1
 have c:∀y,p.T y→AL Ss y:=fun y b=>⟨p,bD hi,b⟩
 refine⟨o,w.v.re k (fun y b=>(hm y b).imp (fun e=>⟨.inr (c y e),w.ap y (c y e)⟩) id) (fun y b=>?_) fun y b=>.inl b,fun y b hM=>(f y b).elim (fun e=>w.ap y e hM) fun e=>absurd (w.lt y (.inl hM)) (gO.2 e)⟩
 rcases b with b|b
 ·exact⟨.inl (.inl b),aC (w.lt y (.inl b)) k.size⟩
 ·exact⟨(f y b).imp .inr id,let⟨a,g,b⟩:=b;o.lt a g y b⟩
theorem Vw.push(w:Vw Ss h vp s)(k:Upd No h h')(q:p'.Q h')(d:∀y,p'.T y→h.size≤y∧y<h'.size):Vw (Ss++ [p']) h' vp s:=by
 have o:=w.own.push k q d;have f:∀y,AL (Ss++ [p']) y→AL Ss y∨h.size≤y:=fun y ⟨a,c,b⟩=>by
  rcases bS.1 c with c|c
  ·exact .inl ⟨a,c,b⟩
  ·rw[aN.1 c]at b;exact .inr (d y b).1
 refine⟨o,w.v.re k (fun _ h=>h.elim) (fun y b=>?_) fun y b=>.inl b,fun y b hM=>(f y b).elim (fun e=>w.ap y e hM) fun e=>absurd (w.lt y (.inl hM)) (gO.2 e)⟩
 rcases b with b|b
 ·exact⟨.inl (.inl b),aC (w.lt y (.inl b)) k.size⟩
 ·exact⟨(f y b).imp .inr id,let⟨a,c,b⟩:=b;o.lt a c y b⟩
theorem Vw.cell(w:Vw Ss h vp s){b:Nat}{cs a:List Value}{t c:TypeId}(hi:Ss[i]? =some (Pg b cs t)) (k:Upd (· =b) h h') (q:h'[b]? =some (.cells a.toArray c (0,0))):Vw (Ss.set i (Pg b a c)) h' vp s:=
 w.set (p':=Pg b a c) hi k (fun _ h=>.inl h) q fun y d=>⟨.inl d,(show y=b from d)▸bp q⟩
theorem Vw.slice(w:Vw Ss h vp s){α:Type}{f:α→List Value}{b:Nat}{ty:TypeId}{c a:SliceV}{xs ys:List α}(hi:Ss[i]? =some (xb f b ty c xs)) (k:Upd (sb c) h h') (q:OwnS f b ty (sb a) h' a ys) (d:∀y,sb a y→(sb c y∨h.size≤y)∧y<h'.size):Vw (Ss.set i (xb f b ty a ys)) h' vp s:=
 w.set (p':=xb f b ty a ys) hi k (fun _ h=>.inl h) q d
theorem Vw.ed(w:Vw Ss h vp s){s':VS}(k:Upd s.M h h')(v:VaultAt (fun y=>s.M y∨AL Ss y) h' vp s')(e:s'.M=s.M):Vw Ss h' vp s':=
 ⟨w.own.away k fun y a=>w.ap y a,by rw[e];exact v,fun y a=>by rw[e];exact w.ap y a⟩
end
end Go.Proofs
namespace Go.Proofs
open Go Go.Lift
def mB(k:ByteArray)(l:List Pr):List Pr:=l.filter fun q=>decide (q.1≠k)
theorem vU(k:ByteArray)(q:Pr)(l:List Pr):mB k (q::l)=if q.1=k then mB k l else q::mB k l:=by
 unfold mB;rw[List.filter_cons];by_cases h:q.1=k
 ·rw[if_pos h,if_neg (by simpa using h)]
 ·rw[if_neg h,if_pos (by simpa using h)]
theorem xx{k:ByteArray}{l:List Pr}(h:∀q∈l,q.1≠k):mB k l=l:=iJ.2 fun q a=>decide_eq_true (h q a)
theorem Cy{k:ByteArray}{l:List Pr}(h:bX l k=false):∀q∈l,q.1≠k:=fun q a e=>by
 have:bX l k=true:=bI.2 ⟨q,a,decide_eq_true e⟩;rw[h]at this;cases this
theorem H0{k:ByteArray}{l:List Pr}(h:∀q∈l,q.1≠k):bX l k=false:=by
 rcases ht:bX l k with _|_
 ·rfl
 ·obtain⟨q,a,e⟩:=bI.1 ht
  exact absurd (of_decide_eq_true e) (h q a)
theorem Lz{k:ByteArray}{l:List Pr}{p:Pr}:p∈mB k l↔p∈l∧p.1≠k:=by unfold mB;rw[c5,decide_eq_true_iff]
theorem RI{k:ByteArray}{l:List Pr}:(mB k l).length≤l.length:=fE ..
theorem LH{k:ByteArray}:∀{l:List Pr},dM l→l.length≤(mB k l).length+1
 | [],_=>cu _
 |q::l,a=>by
  have a:=bE.1 a;rw[vU];by_cases h:q.1=k
  ·rw[if_pos h,xx fun r hm e=>by have:=a.1 r hm;rw[h,e]at this;exact dV _ this];exact az _
  ·rw[if_neg h]
   have:=LH (k:=k) a.2;simp only[aV];omega
theorem LI(k:ByteArray):∀{l:List Pr},dM l→MR l k=mB k l
 | [],_=>by simp[MR,mB,bX]
 |q::l,c=>by
  have j:=c;have c:=bE.1 c;have b:pos (q::l) k=if kl q.1 k then pos l k+1 else 0:=by
   unfold pos;rw[List.takeWhile_cons];by_cases h:kl q.1 k
   ·rw[if_pos (by simpa using h),if_pos h];rfl
   ·rw[if_neg (by simpa using h),if_neg h];rfl
  have f:bX (q::l) k=(decide (q.1=k)||bX l k):=by unfold bX;rw[oA]
  by_cases h:kl q.1 k
  ·have d:q.1≠k:=fun e=>by rw[e]at h;exact dV _ h
   rw[vU,if_neg d,←LI k c.2];unfold MR;rw[f,b,if_pos h,decide_eq_false d,Bool.false_or];by_cases g:bX l k=true
   ·rw[if_pos g,if_pos g];rfl
   ·rw[if_neg g,if_neg g]
  ·by_cases e:q.1=k
   ·have a:∀r∈l,r.1≠k:=fun r hm e2=>by have:=c.1 r hm;rw[e,e2]at this;exact dV _ this
    rw[vU,if_pos e,xx a];unfold MR;rw[f,b,if_neg h,decide_eq_true e,Bool.true_or,if_pos rfl];rfl
   ·have i:=C0 h e
    have a:∀r∈q::l,r.1≠k:=fun r hm e2=>by
     rcases au.1 hm with rfl|hm
     ·exact e e2
     ·have:=c.1 r hm
      rw[e2]at this;exact dV _ (oJ i this)
    rw[xx a];unfold MR;rw[H0 a];rfl
theorem HQ{x:Hs}{lev c:Nat}{k:ByteArray}{l:List Pr}:part x lev c (mB k l)=mB k (part x lev c l):=by
 unfold part mB;rw[List.filter_filter,List.filter_filter];exact List.filter_congr fun p _=>Bool.and_comm ..
theorem Mr{x:Hs}{lev c:Nat}{k:ByteArray}{l:List Pr}(h:c≠ck x lev k):part x lev c (mB k l)=part x lev c l:=by
 rw[HQ];exact xx fun q a e=>h (by rw[←e];exact(ql.1 a).2.symm)
theorem Jt{W:Nat→Prop}{x:Hs}{h h':ad}{m b':Nat}{s s':Slots}{l:List Pr}{k:ByteArray}(b:Upd No h h')(nd:NodeAt W h' b' s')(a:∀c,c<32→SlotIs W x h m s c (part x (12-m) c l))
  (d:∀c,c≠ck x (12-m) k→s'.p c=s.p c∧s'.k c=s.k c)(hi:SlotIs W x h' m s' (ck x (12-m) k) (mB k (part x (12-m) (ck x (12-m) k) l))):TrieAt W x h' (m+1) b' (mB k l):=by
 refine⟨s',nd,fun c hc=>?_⟩
 by_cases e:ck x (12-m) k=c
 ·rw[HQ];subst e;exact hi
 ·rw[Mr fun h=>e h.symm]
  have t:=SlotIs.upd0 b (a c hc);obtain⟨e1,e2⟩:=d c fun h=>e h.symm
  unfold SlotIs at t;rw[←e1,←e2]at t;exact t
theorem LF{β:Type}(g:Nat→Option β):∀n,(fm g n).length=((List.range n).map fun c=>(g c).toList.length).sum
 |0=>rfl
 |n+1=>by
  rw[Qw,ai,LF g n,List.range_succ,List.map_append,List.sum_append];simp
theorem Ht{x:Hs}{lev:Nat}{l:List Pr}(h:∀c,c<32→(part x lev c l).length≤1):(ye x lev l).length=l.length:=by
 unfold ye;rw[LF];have e:=Ak x lev l 32;have e2:(l.filter fun p=>decide (ck x lev p.1<32))=l:=iJ.2 fun p _=>decide_eq_true (Dw x lev p.1)
 rw[e2]at e;rw[←e];refine congrArg List.sum (List.map_congr_left fun c hc=>?_)
 have:=h c (gP.1 hc);match hp:part x lev c l with
 | []=>rfl
 | [p]=>rfl
 |a::b::r=>rw[hp]at this;simp at this
theorem Ju{W:Nat→Prop}{x:Hs}{h:ad}{m b:Nat}{l:List Pr}(t:TrieAt W x h m b l)(D:l.length≤1000000):
  ∃d n sp sk bu ow lp lk,h[b]? =some (.cells (eO d n sp sk bu ow) ba (0,0))∧Sl mn 2 W h sp lp∧Sl q9 1 W h sk lk∧lp.length≤1000000∧lk.length≤32∧(lp.length+lk.length=1∧n=0↔l.length=1)∧∀p,l= [p]→lp= [p]:=by
 cases m with
 |zero=>
  obtain⟨sp,sk,ow,A,a,j,_⟩:=BuckAt.ex t;exact⟨0,0,sp,sk,true,ow,l,[],A,a,j,D,by simp,by simp,fun p e=>e⟩
 |succ m=>
  obtain⟨s,nd,o⟩:=t;have o:∀c,c<32→SlotIs W x h m s c (part x (12-m) c l):=o;obtain⟨d,n,sp,sk,ow,A,bits,a,j,_⟩:=nd.ex;have k:=P3 o;have C:=Bf (g:=s.p);refine⟨d,n,sp,sk,false,ow,_,_,A,a,j,by omega,Bf,?_,?_⟩
  ·by_cases u:∀c,c<32→s.k c=none
   ·have z:n=0:=Nat.eq_of_testBit_eq fun c=>by
     rw[kY];by_cases hc:c<32
     ·rw[bits.nk c hc,u c hc];rfl
     ·exact Nat.testBit_lt_two_pow (aC bits.n32 (Nat.pow_le_pow_right (n:=2) (by omega) (by omega:32≤c)))
    have ek:fm s.k 32= []:=by
     unfold fm;rw[List.filterMap_eq_nil_iff];exact fun c hc=>u c (gP.1 hc)
    have w:(fm s.p 32).length=l.length:=by
     rw[k];refine Ht fun c hc=>?_
     rcases o c hc with⟨i,_⟩|⟨p,i,_⟩|⟨_,_,E,B,_⟩
     ·rw[i];simp
     ·rw[i];simp
     ·rw[u c hc]at B;cases B
    rw[ek,w,z];simp
   ·obtain⟨c,hc⟩:=Classical.not_forall.1 u
    obtain⟨hc,f⟩:=Classical.not_imp.1 hc;have v:n≠0:=fun z=>by
     have:=bits.nk c hc;rw[z,kY]at this;cases hkk:s.k c with
     |none=>exact f hkk
     |some y=>rw[hkk]at this;cases this
    rcases o c hc with⟨_,_,i⟩|⟨p,_,_,i⟩|⟨B,_⟩
    ·exact absurd i f
    ·exact absurd i f
    ·have:=uK (x:=x) (lev:=12-m) (c:=c) (l:=l)
     constructor
     ·rintro⟨_,e⟩;exact absurd e v
     ·intro e;omega
  ·rintro p rfl
   rw[k];have hc:=Dw x (12-m) p.1;have w:(ye x (12-m) [p]).length=1:=Ht fun c _=>bR uK (by simp)
   match hq:ye x (12-m) [p],w with
   | [q],_=>
    have:q∈ye x (12-m) [p]:=by rw[hq];exact aN.2 rfl
    rw[aN.1 (Mz this)]
theorem Qe{h:ad}{b d n:Nat}{sp sk:SliceV}{c:Bool}{ow:Option Addr}(a:h[b]? =some (.cells (eO d n sp sk c ow) ba (0,0))) (g:sp.len+sk.len≤1000000000) {K:Int→ad→Prop} (f:K ((sp.len+sk.len:Nat):Int) h):HC PG pr [.pointer (some ⟨b,0,none⟩)] [.c (.int .i64)] K h:=by
 refine BX _ ?_;unfold uo bL;refine ag.2 ⟨_,rfl,sp,dE (i:=2) a,_,rfl,sk,dE (i:=3) a,?_⟩;have e:ac .i64 ((sp.len:Int)+(sk.len:Int))=((sp.len+sk.len:Nat):Int):=by rw[j2 (by omega)];omega
 rw[e];exact f
theorem Py{W:Nat→Prop}{x:Hs}{h:ad}{m b:Nat}{l:List Pr}(t:TrieAt W x h m b l)(H:l.length≤1000000){K:Pr×Bool→ad→Prop}
  (u:∀h' p,Upd No h h'→(l.length=1→l= [p])→K (p,decide (l.length=1)) h'):HC PG sh [.pointer (some ⟨b,0,none⟩)] [.agg [.str,.str],.c .bool] K h:=by
 refine EC _ ?_;unfold wW dU av cC eH eI jl;refine cf fun I b1 k1=>?_
 have F:=TrieAt.upd0 k1 t;obtain⟨d,n,sp,sk,J,ow,L,lk,w,k,A,E,G,f,c⟩:=Ju F H;have Q:=k.len;have N:=A.len;refine Join.intro (fun t h'=>t= !decide (l.length=1)∧h'=I) (fun R B=>?_) ?_
 ·refine Qe w (by omega) ?_
  by_cases e:sp.len+sk.len=1
  ·have e2:((sp.len+sk.len:Nat):Int)=1:=by omega
   rw[e2];refine ag.2 (HZ w (B _ _ ⟨?_,rfl⟩));by_cases y:n=0
   ·rw[decide_eq_true (f.1 ⟨by omega,y⟩),y];rfl
   ·rw[decide_eq_false fun h=>y (f.2 h).2]
    exact bne_iff_ne.2 (by omega)
  ·have e2:(((sp.len+sk.len:Nat):Int) !=(1:Int))=true:=bne_iff_ne.2 (by omega)
   rw[e2];refine ay.2 (B _ _ ⟨?_,rfl⟩);rw[decide_eq_false fun h=>e (by have:=(f.2 h).1;omega)];rfl
 ·rintro _ h' ⟨rfl,rfl⟩
  have o:h'[h.size]? =some (.cells #[.string Lf.1,.string Lf.2] ak (0,0)):=b1;by_cases e:l.length=1
  ·rw[decide_eq_true e]
   refine ag.2 ?_;refine HT w k (by omega) fun O P j s=>?_
   match l,e,c with
   | [p],e,c=>
    have z:=c p rfl;subst z;have q:=j.len;obtain⟨a,D,_,C⟩:=(j.sl (W:=No) fun _ _ _ h=>h).at (i:=0) (x:=p) rfl
    refine⟨⟨by omega,by simp at q;omega⟩,a,D,p.1,C 0 _ rfl,p.2,C 1 _ rfl,?_⟩
    refine CP (p:=p) (s.get0 o) fun v b3 g=>⟨_,vc b3 0,_,vc b3 1,?_⟩
    have:=u v p ((k1.tr s).own g (az _)) fun _=>rfl
    exact this
  ·have:=u
   rw[decide_eq_false e];rw[decide_eq_false e]at u;refine ay.2 (CP (p:=Lf) o fun v b3 g=>⟨_,vc b3 0,_,vc b3 1,?_⟩)
   exact u v _ (k1.own g (az _)) fun h=>absurd h e
end Go.Proofs
namespace Go.Proofs
open Go Go.Lift
theorem HU{h:ad}{s:SliceV}{l:List Pr}(f:Sl mn 2 No h s l)(hc:s.len≤s.cap)(q:dM l)(G:l.length≤1000000000)(k:ByteArray)
  {K:SliceV→ad→Prop}(o:∀s' h',OwnS mn 2 ak (fun b=>h.size≤b) h' s' (mB k l)→Upd No h h'→K s' h'):HC PG vf [.slice s.a s.len s.cap,.string k] [.c .slice] K h:=by
 refine IT s k ?_;unfold Bx D4;have d:=f.len;refine Gy f q G k fun y a=>?_
 have E:=Om l k;cases ht:bX l k with
 |false=>
  refine ay.2 (vV (f.upd a fun _ h=>h.elim) (by omega) fun N I p w=>?_)
  rw[xx (Cy ht)]at o;exact o _ _ (p.more fun b g=>bR a.size g) (a.tr w)
 |true=>
  obtain⟨F,_⟩:=Gc q ht;have B:ac .i64 ((pos l k:Int)+1)=((pos l k+1:Nat):Int):=by rw[j2 (by omega)];omega
  refine ag.2 ?_;simp only;rw[B];refine⟨by omega,by omega,?_⟩
  simp only[Bd,Int.toNat_natCast];refine aU ?_;have e:=f.upd a fun _ h=>h.elim
  have t:=Upd.hnew No y [.slice (aM s.a 0 s.cap 2) (pos l k-0) (s.cap-0),.slice (aM s.a (pos l k+1) s.cap 2) (s.len-(pos l k+1)) (s.cap-(pos l k+1))] fR;have C:=bh y [.slice (aM s.a 0 s.cap 2) (pos l k-0) (s.cap-0),.slice (aM s.a (pos l k+1) s.cap 2) (s.len-(pos l k+1)) (s.cap-(pos l k+1))] fR;have z:=FU e (i:=0) (j:=pos l k) (m:=s.cap) (cu _) E (by omega) (s.cap-0)
  have u:=FU e (i:=pos l k+1) (j:=l.length) (m:=s.cap) (by omega) (az _) (by omega) (s.cap-(pos l k+1));rw[←d]at u;rw[List.drop_zero]at z;rw[List.take_of_length_le (by rw[aK];omega)]at u;have D:mB k l= [l.take (pos l k-0),l.drop (pos l k+1)].flatten:=by rw[←LI k q];unfold MR;rw[if_pos ht];simp
  refine Fy (s:=⟨some (aR y),2,2⟩) (vs:= [⟨aM s.a 0 s.cap 2,pos l k-0,s.cap-0⟩,⟨aM s.a (pos l k+1) s.cap 2,s.len-(pos l k+1),s.cap-(pos l k+1)⟩]) (ls:= [l.take (pos l k-0),l.drop (pos l k+1)])
   ⟨rfl,fun x=>⟨rfl,Nat.one_pos⟩,fun _=>⟨_,rfl,fun h=>h.elim,om C fun i v H=>by simpa[Tk]using H⟩⟩ ⟨z.upd t fun _ h=>h.elim,u.upd t fun _ h=>h.elim,trivial⟩ ?_ (by simp) fun J L c n=>?_
  ·simp only[List.flatten_cons,List.flatten_nil,ai,aP,aK,dT];omega
  ·rw[←D]at c
   have A:=a.tr t;exact o _ _ (c.more fun b g=>bR A.size g) (A.tr n)
theorem Pp{W:Nat→Prop}{h:ad}{b:Nat}{l:List Pr}(p:BuckAt W h b l)(n:∀x,W x→x<h.size)(C:dM l)(t:l.length≤1000000000)(k:ByteArray){K:Option Addr→ad→Prop}
  (B:∀h' b',BuckAt W h' b' (mB k l)→Upd No h h'→K (some ⟨b',0,none⟩) h'):
  HC PG nS [.pointer (some ⟨b,0,none⟩),.pointer none,.string k] [.c .ptr] K h:=by
 refine AP _ none k ?_;unfold td bL cg hO D4;obtain⟨sp,sk,ow,v,y,E,z,A⟩:=p.ex;refine jd v (ag.2 ?_);refine Lv p t fun I D o b2 q u g=>?_
 refine⟨_,rfl,D,dE (i:=2) b2,?_⟩;refine HU (q.sl fun _ _ _ h=>h) q.cap C t k fun s G f c=>?_
 have b3:=c.get0 b2;refine⟨_,rfl,PO (i:=2) b3 (show 2<6 by decide),Ec (i:=2) (c':=eO 0 0 s o true none) b3 rfl fun F w a=>?_⟩
 have H:=bp b2;have m:=f.upd a fun x hx e=>by have e:x=h.size:=e;omega
 have j:=(u.upd c fun _ _ h=>h).upd a fun x hx e=>by have e:x=h.size:=e;omega
 refine B F h.size ⟨⟨s,o,none,w,m.sl fun x hx _ d=>?_,j.sl fun x hx _ d=>?_,f.cap,u.cap⟩,fun d=>?_⟩ ((g.tr c).trans a fun x hx=>.inr ?_)
 ·have:=n x d;have:=g.size;omega
 ·have:=n x d;omega
 ·have:=n _ d;omega
 ·have hx:x=h.size:=hx
  omega
theorem IC{W:Nat→Prop}{x:Hs}:∀(m:Nat),m≤13→∀{b:Nat} {l:List Pr} (k:ByteArray) {h:ad},TrieAt W x h m b l→(∀y,W y→y<h.size)→dM l→l.length≤1000000→∀{K:(Option Addr)×Bool→ad→Prop},
  (∀h' b',Upd No h h'→TrieAt W x h' m b' (mB k l)→(bX l k=false→b'=b)→K (some ⟨b',0,none⟩,bX l k) h')→
  HC PG jZ [Ny x k,.pointer (some ⟨b,0,none⟩),.int .i64 ((13-m:Nat):Int)] [.c .ptr,.c .bool] K h:=by
 intro m;induction m with
 |zero=>
  intro _ b l k h t hW hr hn K B;have R:∀{h'},Upd No h h'→∀y,W y→y<h'.size:=fun k y P=>aC (hW y P) k.size
  refine ru (x.k0,x.k1,x.mask,none,k,ib x k) (some ⟨b,0,none⟩) ((13-0:Nat):Int) ?_;unfold na av xX nv lA jl ae ah kD ny BH wX mE FO Gd Cu;refine cf fun w b1 k1=>?_
  have bk:BuckAt W w b l:=BuckAt.upd t k1 fun _ h=>h.elim
  obtain⟨sp,sk,ow,hb,_⟩:=bk.ex;refine jd hb (ay.2 ⟨_,vc b1 4,QW bk hr (by omega) k fun I v j hv=>?_⟩)
  have b3:=j.get0 b1;cases z:bX l k with
  |false=>
   rw[z]at B;exact ay.2 (B I b (k1.tr j) (by rw[xx (Cy z)];exact bk.upd j fun _ h=>h.elim) fun _=>rfl)
  |true=>
   rw[z]at B;refine ag.2 ⟨none,vc b3 3,_,vc b3 4,?_⟩;refine Pp (bk.upd j fun _ h=>h.elim) (R (k1.tr j)) hr (by omega) k fun h5 b5 bk5 J=>?_
   exact B h5 b5 ((k1.tr j).tr J) bk5 fun h=>by cases h
 |succ m ih=>
  intro hm b l k h t hW hr hn K B;have R:∀{h'},Upd No h h'→∀y,W y→y<h'.size:=fun k y P=>aC (hW y P) k.size
  have hl:13-(m+1)<13:=by omega
  have V:13-(m+1)=12-m:=by omega
  refine ru (x.k0,x.k1,x.mask,none,k,ib x k) (some ⟨b,0,none⟩) ((13-(m+1):Nat):Int) ?_;unfold na av xX nv lA jl ae ah kD ny BH wX mE FO Gd Cu;refine cf fun w b1 k1=>?_
  have t1:=TrieAt.upd0 k1 t;obtain⟨s,H,hs⟩:=t1;have hs:∀c,c<32→SlotIs W x w m s c (part x (12-m) c l):=hs;obtain⟨d,n,sp,sk,ow,hb,_⟩:=H.ex;refine jd hb (ag.2 ⟨_,vc b1 5,Pf hl ?_⟩);rw[V];have hi:=Dw x (12-m) k;have N:=hs _ hi;have F:bX (part x (12-m) (ck x (12-m) k) l) k=bX l k:=Cx;have X:dM (part x (12-m) (ck x (12-m) k) l):=xg hr;have Z:(part x (12-m) (ck x (12-m) k) l).length≤1000000:=bR uK hn
  have u:∀{h':ad} {b':Nat} {s':Slots},Upd No w h'→NodeAt W h' b' s'→(∀c,c≠ck x (12-m) k→s'.p c=s.p c∧s'.k c=s.k c)→SlotIs W x h' m s' (ck x (12-m) k) (mB k (part x (12-m) (ck x (12-m) k) l))→TrieAt W x h' (m+1) b' (mB k l):=fun S nd hp hi=>Jt S nd hs hp hi
  have tt:∀{h':ad},Upd No w h'→TrieAt W x h' (m+1) b l:=fun S=>TrieAt.upd0 (k1.tr S) t
  generalize hc:ck x (12-m) k=c at*;generalize hlc:part x (12-m) c l=lc at*;refine CU H hi fun I j=>?_
  refine cf fun h4 b4 k4=>?_
  have b4':h4[I.size]? =some (.cells #[.string Lf.1,.string Lf.2] ak (0,0)):=b4;refine CP (p:=OK (s.p c)) b4' fun h5 b5 J=>?_
  have a:Upd No w h5:=(j.tr k4).own J j.size;have c1:=a.get0 b1;have Y:=H.upd a fun _ h=>h.elim
  have same:∀{h':ad},Upd No w h'→bX l k=false→K (some ⟨b,0,none⟩,false) h':=fun S z=>by
   have:=B _ b (k1.tr S) (by rw[xx (Cy z)];exact tt S) fun _=>rfl
   rw[z]at this;exact this
  cases hsp:s.p c with
  |some y=>
   rw[hsp]at b5;obtain⟨A,hk0⟩:lc= [y]∧s.k c=none:=by
    rcases N with⟨_,g,_⟩|⟨q,w,g,I⟩|⟨_,g,_⟩
    ·rw[hsp]at g;cases g
    ·rw[hsp]at g;cases g;exact⟨w,I⟩
    ·rw[hsp]at g;cases g
   refine ay.2 ⟨y.1,vc b5 0,k,vc c1 4,?_⟩;rw[f8];by_cases e1:y.1=k
   ·have z:bX l k=true:=by rw[←F,A];exact bI.2 ⟨y,aN.2 rfl,decide_eq_true e1⟩
    rw[decide_eq_true e1];rw[z]at B;refine ag.2 ⟨none,vc c1 3,Pe Y (R (k1.tr a)) hi fun h6 b6 nd6 E=>?_⟩
    refine B h6 b6 ((k1.tr a).tr E) (u (a.tr E) nd6 (fun c' o=>⟨fF o,fF o⟩) ?_) fun h=>by cases h
    refine .inl ⟨?_,fV,fV⟩;rw[A,vU,if_pos e1];rfl
   ·rw[decide_eq_false e1]
    have z:bX l k=false:=by
     rw[←F,A];unfold bX;rw[oA,decide_eq_false e1];rfl
    exact ay.2 (same a z)
  |none=>
   refine ag.2 (Cb Y hi ?_);cases hsk:s.k c with
   |none=>
    have U:lc= []:=by
     rcases N with⟨w,_⟩|⟨q,_,g,_⟩|⟨_,_,Q,g,_⟩
     ·exact w
     ·rw[hsp]at g;cases g
     ·rw[hsk]at g;cases g
    exact ay.2 (same a (by rw[←F,U];rfl))
   |some kp=>
    obtain⟨h2l,Q,rfl,tk⟩:2≤lc.length∧∃Q,kp=some ⟨Q,0,none⟩∧TrieAt W x w m Q lc:=by
     rcases N with⟨_,_,g⟩|⟨q,_,g,_⟩|⟨w,_,Q,g,I⟩
     ·rw[hsk]at g;cases g
     ·rw[hsp]at g;cases g
     ·rw[hsk]at g;cases g;exact⟨w,Q,rfl,I⟩
    refine ag.2 ⟨_,vc c1 0,_,vc c1 1,_,vc c1 2,_,vc c1 3,_,vc c1 4,_,vc c1 5,?_⟩;have ew:ac .i64 (((12-m:Nat):Int)+1)=((13-m:Nat):Int):=by rw[j2 (by omega)];omega
    rw[ew];refine ih (by omega) k (TrieAt.upd0 a tk) (R (k1.tr a)) X Z fun h6 b6 E t6 hsame=>?_
    have C:=a.tr E;rw[F];cases z:bX l k with
    |false=>exact ay.2 (same C z)
    |true=>
     rw[z]at B;have hdl:=LH (k:=k) X;have hdn:(mB k lc).length≤1000000:=bR RI Z;refine ag.2 (Py t6 hdn fun h7 p G hp=>?_)
     refine cf fun h8 b8 k8=>?_
     have b8':h8[h7.size]? =some (.cells #[.string Lf.1,.string Lf.2] ak (0,0)):=b8;refine CP (p:=p) b8' fun h9 b9 T=>?_
     have f:Upd No w h9:=((C.tr G).tr k8).own T (C.tr G).size;have c9:=f.get0 b1;have nd9:=H.upd f fun _ h=>h.elim
     refine aG (fun e=>?_) fun e=>?_
     ·refine⟨none,vc c9 3,p.1,vc b9 0,p.2,vc b9 1,qg nd9 (R (k1.tr f)) hi (fun y P=>by rw[hsp]at P;cases P) p fun L O D i=>?_⟩
      refine B L O ((k1.tr f).tr i) (u (f.tr i) D (fun c' o=>⟨fF o,fF o⟩) ?_) fun h=>by cases h
      exact .inr (.inl ⟨p,hp e,fV,fV⟩)
     ·refine⟨none,vc c9 3,vN nd9 (R (k1.tr f)) hi (fun _ _=>hsp) ⟨b6,0,none⟩ fun L O D i=>?_⟩
      refine B L O ((k1.tr f).tr i) (u (f.tr i) D (fun c' o=>⟨fF o,fF o⟩) ?_) fun h=>by cases h
      exact .inr (.inr ⟨by omega,fV,b6,fV,TrieAt.upd0 ((G.tr k8).own T G.size|>.tr i) t6⟩)
theorem GK{W:Nat→Prop}{x:Hs}{h:ad}{b:Nat}{l:List Pr}(t:TrieAt W x h 13 b l)(o:∀y,W y→y<h.size)(v:dM l)(z:l.length≤1000000)(k:ByteArray){K:Option Addr×Bool→ad→Prop}
  (u:∀h' b',Upd No h h'→TrieAt W x h' 13 b' (mB k l)→(bX l k=false→b'=b)→K (some ⟨b',0,none⟩,bX l k) h'):
  HC PG tM [.agg #[.int .u64 x.k0,.int .u64 x.k1,.int .u64 x.mask],.pointer none,.pointer (some ⟨b,0,none⟩),.string k] [.c .ptr,.c .bool] K h:=by
 refine G6 (x.k0,x.k1,x.mask) none (some ⟨b,0,none⟩) k ?_;unfold zI pj ae wc wX;refine cf fun C b1 k1=>?_
 refine FT (.inr ⟨b,rfl,TrieAt.upd0 k1 t⟩) (fun y g=>aC (o y g) k1.size) fun D b2 q f j=>?_
 have c:=f.get0 b1;refine⟨_,vc c 0,_,vc c 1,_,vc c 2,_,vc c 0,_,vc c 1,_,vc c 2,?_⟩;refine yz fun B d=>?_
 have m:=d.get0 c;refine⟨⟨vc m 0,vc m 1,vc m 2⟩,?_⟩;have a:=(k1.tr f).tr d;refine IC 13 (az _) k (TrieAt.upd0 d q) (fun y g=>aC (o y g) a.size) v z fun A p n s i=>?_
 refine u A p (a.tr n) s fun w=>?_
 rw[i w];rcases j with e|e
 ·cases e;rfl
 ·cases e
end Go.Proofs
namespace Go.Proofs
def rT(P a:List UInt8→ByteArray→Prop)(k:List UInt8):Prop:=∀k' v',a k' v'↔k'≠k∧P k' v'
theorem KD{P:List UInt8→ByteArray→Prop}{k:List UInt8}(h:∀v,¬P k v):rT P P k:=fun _ b=>⟨fun a=>⟨fun e=>h b (e▸a),a⟩,fun h=>h.2⟩
theorem KC{w:Option ByteArray}{F:Fo}(h:ir F):rT (sR w F) (sR none F) []:=by
 intro k' a;unfold sR;constructor
 ·rintro(⟨_,f⟩|hi)
  ·cases f
  ·exact⟨Aq h hi,.inr hi⟩
 ·rintro⟨e,⟨f,_⟩|hi⟩
  ·exact absurd f e
  ·exact .inr hi
theorem Dm{w:Option ByteArray}{F a:Fo}{k:List UInt8}(b:k≠[])(h:rT (rq F) (rq a) k):rT (sR w F) (sR w a) k:=by
 intro k' d;unfold sR;rw[h k' d];constructor
 ·rintro(⟨e,f⟩|hi)
  ·exact⟨fun c=>b (c.symm.trans e),.inl ⟨e,f⟩⟩
  ·exact⟨hi.1,.inr hi.2⟩
 ·rintro⟨e,hi|hi⟩
  ·exact .inl hi
  ·exact .inr ⟨e,hi⟩
theorem KF{lab r:List UInt8}{w w':Option ByteArray}{F d:Fo}(h:rT (sR w F) (sR w' d) r):rT (uA (lab,w,F)) (uA (lab,w',d)) (lab++r):=by
 intro k' f;constructor
 ·rintro⟨s,e,b⟩
  obtain⟨c,g⟩:=(h s f).1 b;exact⟨fun a=>c (List.append_cancel_left (e.symm.trans a)),s,e,g⟩
 ·rintro⟨c,s,e,b⟩
  exact⟨s,e,(h s f).2 ⟨fun a=>c (by rw[e,a]),b⟩⟩
theorem MO{F:Fo}{i:Nat}{m:Bn}{k:List UInt8}(h:ir F)(hi:i<F.toL.length)(ek:hd F.toL[i].1=hd k)(g:rT (uA F.toL[i]) (uA m) k):rT (rq F) (rq (.ofL (F.toL.set i m))) k:=by
 intro k' f;have hc:=dL.1 h;rw[gt,gt,Fo.to_of];constructor
 ·rintro⟨n,a,b⟩
  rcases(kc hi (tB h hi)).1 a with rfl|⟨a,c⟩
  ·obtain⟨d,o⟩:=(g k' f).1 b
   exact⟨d,_,ce hi,o⟩
  ·refine⟨fun e=>c ?_,n,a,b⟩
   obtain⟨r,j,_⟩:=b;refine vW h a (ce hi) ?_;rw[ek,←e,j,rZ (hc.2 n a).1]
 ·rintro⟨d,n,a,b⟩
  by_cases e:n=F.toL[i]
  ·exact⟨m,(kc hi (tB h hi)).2 (.inl rfl),(g k' f).2 ⟨d,by rw[←e];exact b⟩⟩
  ·exact⟨n,(kc hi (tB h hi)).2 (.inr ⟨a,e⟩),b⟩
theorem Bb{α:Type}{l:List α}{i:Nat}(hi:i<l.length){x:α}(nd:∀j (a:j<l.length),j≠i→l[j]≠l[i]):x∈l.take i++l.drop (i+1)↔x∈l∧x≠l[i]:=by
 constructor
 ·intro h
  rcases bS.1 h with h|h
  ·obtain⟨j,a,e⟩:=cP h
   rw[aP]at a;rw[List.getElem_take]at e;exact⟨List.mem_of_mem_take h,by rw[←e];exact nd j (by omega) (by omega)⟩
  ·obtain⟨j,a,e⟩:=cP h
   rw[aK]at a;rw[List.getElem_drop]at e;exact⟨List.mem_of_mem_drop h,by rw[←e];exact nd (i+1+j) (by omega) (by omega)⟩
 ·rintro⟨h,b⟩
  obtain⟨j,a,e⟩:=cP h;rcases Nat.lt_trichotomy j i with c|c|c
  ·exact bS.2 (.inl (lx (i:=j) (h:=by rw[aP];omega) (by rw[List.getElem_take];exact e)))
  ·subst c;exact absurd e.symm b
  ·refine bS.2 (.inr (lx (i:=j-(i+1)) (h:=by rw[aK];omega) ?_))
   rw[List.getElem_drop];have:i+1+(j-(i+1))=j:=by omega
   simp only[this];exact e
theorem QD{F:Fo}{i:Nat}(h:ir F):ir (.ofL (F.toL.take i++F.toL.drop (i+1))):=by
 have hc:=dL.1 h;rw[dL,Fo.to_of];have a:(F.toL.take i++F.toL.drop (i+1)).Sublist F.toL:=by rw[←List.eraseIdx_eq_take_drop_succ];exact List.eraseIdx_sublist ..
 exact⟨hc.1.sublist a,fun n b=>hc.2 n (a.subset b)⟩
theorem MP{F:Fo}{i:Nat}{k:List UInt8}(h:ir F)(hi:i<F.toL.length)(ek:hd F.toL[i].1=hd k)(j:∀k' d,uA F.toL[i] k' d→k'=k):rT (rq F) (rq (.ofL (F.toL.take i++F.toL.drop (i+1)))) k:=by
 intro k' d;have hc:=dL.1 h;rw[gt,gt,Fo.to_of];constructor
 ·rintro⟨n,a,b⟩
  obtain⟨a,c⟩:=(Bb hi (tB h hi)).1 a;refine⟨fun e=>c ?_,n,a,b⟩
  obtain⟨r,f,_⟩:=b;refine vW h a (ce hi) ?_;rw[ek,←e,f,rZ (hc.2 n a).1]
 ·rintro⟨g,n,a,b⟩
  by_cases e:n=F.toL[i]
  ·exact absurd (j k' d (by rw[←e];exact b)) g
  ·exact⟨n,(Bb hi (tB h hi)).2 ⟨a,e⟩,b⟩
def QM(n:Bn)(o:Option Bn):Prop:=(o=none∧∀k v,¬uA n k v)∨∃m,o=some m∧Nh m∧hd m.1=hd n.1∧∀k v,uA m k v↔uA n k v
theorem Mx{lab:List UInt8}{w:Option ByteArray}{F:Fo}(a:lab≠[])(hc:ir F)(h:w.isSome∨2≤F.toL.length):QM (lab,w,F) (some (lab,w,F)):=.inr ⟨_,rfl,⟨a,h,hc⟩,rfl,fun _ _=>wa⟩
theorem My{lab:List UInt8}{F:Fo}(h:F.toL= []):QM (lab,none,F) none:=by
 refine .inl ⟨rfl,fun k v hi=>?_⟩
 obtain⟨r,_,⟨_,h'⟩|h'⟩:=hi
 ·cases h'
 ·obtain⟨n,a,_⟩:=gt.1 h'
  simp only at a;rw[h]at a;cases a
theorem OA{lab lk:List UInt8}{a:Option ByteArray}{F Fk:Fo}(b:lab≠[])(hc:ir F)(h:F.toL= [(lk,a,Fk)]):QM (lab,none,F) (some (lab++lk,a,Fk)):=by
 have d:F=.cons lk a Fk .nil:=by
  rw[←Fo.of_to F,h];rfl
 have c:=(dL.1 hc).2 (lk,a,Fk) (by rw[h];exact aN.2 rfl);refine .inr ⟨_,rfl,⟨fun e=>b (List.append_eq_nil_iff.1 e).1,c.2.1,c.2.2⟩,rZ b,fun k v=>?_⟩
 have:=Fg (lab:=lab++lk) (w:=a) (F:=Fk) lab.length k v;rw[List.take_left,List.drop_left]at this;rw[d];exact this.symm
end Go.Proofs
